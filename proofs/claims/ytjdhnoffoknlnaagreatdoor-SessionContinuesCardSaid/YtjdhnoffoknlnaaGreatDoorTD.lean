/- The tree evaluator,22: rules for operations whose operands are told by variables;calls. No condition. -/
import Derived.Test.YtjdhnoffoknlnaaGreatDoorTC
import Derived.ProofKit
import Derived.OpenShut
import Derived.Deep.Slices
import Derived.SizedLaws
import Derived.ChangeSame
import Derived.Carry
import Derived.Deep.DeepHandedRow
import Derived.Lib.LaidTab
import Derived.LaidMore
import Derived.LaidSub
import Derived.Lib.SmallJoins
import Derived.Sort.OwnSortedInts
set_option linter.unusedSimpArgs false
set_option linter.unusedVariables false
set_option linter.unusedSectionVars false
namespace Go.Proofs.YtjdhnoffoknlnaaGreatDoor
open Go.RowKit
section
variable {ops:Array Oper} {env:Env} {j d:Nat} {W b:Bool}
end
section
variable {g:Cfg} {d:Option (List Nat)} {i:Nat} {env:Env} {fr:Fr}
theorem step_p {C:CallF} {op:Op} {x:SV} (hw:isW op=false) (hc:isCall op=false) (h:evP g.P fr env op=some x):step g C d i env fr op=some (x,fr,[]):=by
 unfold step
 cases d with
 | none=>simp only [evT,hw,h]
 | some effs=>
  simp only
  cases hasN effs i with
  | true=>simp only [evT,hw,h]
  | false=>simp only [evD,hc,h];rfl
theorem OpR.p {op:Op} {x:SV} (hw:isW op=false) (hc:isCall op=false) (h:evP g.P fr env op=some x):OpR g d i env fr op x fr []:=.r fun _=>step_p hw hc h
theorem OpR.or {c x y:Operand} {b z:Bool} (hc:rd env c=.t (.bool b)) (hx:rd env x=.t (.bool true)) (hy:evE env y=cndv (!b) (.t (.bool z))):OpR g d i env fr (.pick c x y) (.t (.bool (b || z))) fr []:=.p rfl rfl (by
 unfold evP
 cases b with
 | true=>simp only [hc];exact congrArg some hx
 | false=>simp only [hc];show some (un (evE env y))=_;rw [hy];rfl)
theorem OpR.and {c x y:Operand} {b z:Bool} (hc:rd env c=.t (.bool b)) (hx:evE env x=cndv b (.t (.bool z))) (hy:rd env y=.t (.bool false)):OpR g d i env fr (.pick c x y) (.t (.bool (b && z))) fr []:=.p rfl rfl (by
 unfold evP
 cases b with
 | false=>simp only [hc];exact congrArg some hy
 | true=>simp only [hc];show some (un (evE env x))=_;rw [hx];rfl)
theorem OpR.bin {b:BinOp} {xt yt:TypeId} {x y:Operand} {s s':SV} {r:AV} (hx:rd env x=s) (hy:rd env y=s') (h:binS g.P b xt (isK x || isK y) s s'=some r):OpR g d i env fr (.binOp b xt x y yt) (.t r) fr []:=.p rfl rfl (by unfold evP;simp only [hx,hy,h])
theorem OpR.add {xt yt:TypeId} {x y:Operand} {m n:Int} (hx:rd env x=.t (.int .i64 m)) (hy:rd env y=.t (.int .i64 n)) (h : -9223372036854775808≤m+n∧m+n≤9223372036854775807):OpR g d i env fr (.binOp .add xt x y yt) (.t (.int .i64 (m+n))) fr []:=
 .bin hx hy (by unfold binS;simp only [if_true,intS,IntWalk.i64_in _ h])
theorem OpR.sub {xt yt:TypeId} {x y:Operand} {m n:Int} (hx:rd env x=.t (.int .i64 m)) (hy:rd env y=.t (.int .i64 n)) (h : -9223372036854775808≤m - n∧m - n≤9223372036854775807):OpR g d i env fr (.binOp .sub xt x y yt) (.t (.int .i64 (m - n))) fr []:=
 .bin hx hy (by unfold binS;simp only [if_true,intS,IntWalk.i64_in _ h])
theorem OpR.mul {xt yt:TypeId} {x y:Operand} {m n:Int} (hx:rd env x=.t (.int .i64 m)) (hy:rd env y=.t (.int .i64 n)) (h : -9223372036854775808≤m * n∧m * n≤9223372036854775807):OpR g d i env fr (.binOp .mul xt x y yt) (.t (.int .i64 (m * n))) fr []:=
 .bin hx hy (by unfold binS;simp only [if_true,intS,IntWalk.i64_in _ h])
theorem OpR.inc {xt yt:TypeId} {x y:Operand} {k:Nat} (hx:rd env x=.t (.int .i64 (k:Int))) (hy:rd env y=.t (.int .i64 1)) (h:k≤9223372036854775806):OpR g d i env fr (.binOp .add xt x y yt) (.t (.int .i64 ((k+1:Nat):Int))) fr []:=by
 have:=OpR.add (g:=g) (d:=d) (i:=i) (env:=env) (fr:=fr) (xt:=xt) (yt:=yt) hx hy (by omega)
 exact this
theorem elemAt_of {sz:Nat} {es:List (List AV)} {m:Int} {c:AV} {cs:List AV} (h0:0≤m) (hc:es[m.toNat]?=some (c::cs)) (hz:Nat.beq sz (cs.length+1)=true):elemAt sz es m=some (.t (.tp (c::cs))):=by
 unfold elemAt
 rw [decide_eq_true h0]
 simp only [hc,hz]
theorem OpR.ixm {t e sz:Nat} {x y:Operand} {k:IntKind} {m:Int} {es:List (List AV)} {c:AV} {cs:List AV} (he:elemT g.P t=some (e,sz)) (hx:rd env x=.t (.arr es)) (hi:rd env y=.t (.int k m)) (h0:0≤m) (hc:es[m.toNat]?=some (c::cs)) (hz:Nat.beq sz (cs.length+1)=true) :
  OpR g d i env fr (.indexAddr t x y) (.t (.tp (c::cs))) fr []:=.p rfl rfl (by unfold evP indexAddrS;simp only [he,hx,hi,elemAt_of h0 hc hz])
theorem OpR.ix {t e sz:Nat} {x y:Operand} {k:IntKind} {q:Nat} {es:List (List AV)} {c:AV} {cs:List AV} (he:elemT g.P t=some (e,sz)) (hx:rd env x=.t (.arr es)) (hi:rd env y=.t (.int k (q:Int))) (hc:es[q]?=some (c::cs)) (hz:Nat.beq sz (cs.length+1)=true) :
  OpR g d i env fr (.indexAddr t x y) (.t (.tp (c::cs))) fr []:=.ixm he hx hi (by omega) (by rw [Int.toNat_natCast];exact hc) hz
theorem OpR.ixr {t e sz r:Nat} {x y:Operand} {k:IntKind} {q:Nat} {ro tch:Bool} {es:List (List AV)} (he:elemT g.P t=some (e,sz)) (hx:rd env x=.ls r) (hi:rd env y=.t (.int k (q:Int))) (hb:fr[r]?=some (.row ro tch sz es)) (hq:q < es.length) :
  OpR g d i env fr (.indexAddr t x y) (.le r sz q 0) fr []:=.p rfl rfl (by
 have h1:inB (q:Int) es.length=true:=by
  unfold inB
  rw [Int.toNat_natCast,Bool.and_eq_true,Nat.blt_eq]
  exact ⟨decide_eq_true (by omega),hq⟩
 have h2:Nat.beq sz sz=true:=by simp
 unfold evP indexAddrS
 simp only [he,hx,hi,hb,h1,h2,Int.toNat_natCast])
theorem OpR.ixrm {t e sz r:Nat} {x y:Operand} {k:IntKind} {m:Int} {ro tch:Bool} {es:List (List AV)} (he:elemT g.P t=some (e,sz)) (hx:rd env x=.ls r) (hi:rd env y=.t (.int k m)) (hb:fr[r]?=some (.row ro tch sz es)) (h0:0≤m) (hq:m.toNat < es.length) :
  OpR g d i env fr (.indexAddr t x y) (.le r sz m.toNat 0) fr []:=.p rfl rfl (by
 have h1:inB m es.length=true:=by
  unfold inB
  rw [Bool.and_eq_true,Nat.blt_eq]
  exact ⟨decide_eq_true h0,hq⟩
 have h2:Nat.beq sz sz=true:=by simp
 unfold evP indexAddrS
 simp only [he,hx,hi,hb,h1,h2])
theorem OpR.ldr {t n r sz q j:Nat} {y:Operand} {ro tch:Bool} {es:List (List AV)} {cs:List AV} {c:AV} (ht:sizeT g.P t=some (false,n)) (hy:rd env y=.le r sz q j) (hb:fr[r]?=some (.row ro tch sz es)) (hk:es[q]?=some cs) (hj:cs[j]?=some c):OpR g d i env fr (.load t y) (.t c) fr []:=.p rfl rfl (by
 have h2:Nat.beq sz sz=true:=by simp
 unfold evP loadS
 simp only [ht,hy,hb,h2,hk,hj])
theorem lenS_sl {P:Program} {t:Nat} {s:SV} {es:List (List AV)} (hs:isSlT P t=true) (hy:slOf fr s=some es):lenS P fr (some t) s=some (.t (.int .i64 es.length)):=by
 have hns:∀ q,s≠.t (.str q):=fun q h=>by subst h;unfold slOf at hy;simp at hy
 unfold lenS
 cases s with
 | t x=>cases x <;> first|(exact absurd rfl (hns _))|(simp only [hs,hy])
 | _=>simp only [hs,hy]
theorem OpR.len {y:Operand} {tys:Array TypeId} {t:Nat} {args:Array Operand} {es:List (List AV)} {n:Nat} (ha:args.toList=[y]) (hy:slOf fr (rd env y)=some es) (ht:tys[0]?=some t) (hs:isSlT g.P t=true) (hn:es.length=n):OpR g d i env fr (.call ⟨.builtin .len,args,tys⟩) (.t (.int .i64 (n:Int))) fr []:=.p rfl rfl (by
 subst hn
 unfold evP builtinP
 simp only [ha,ht]
 exact lenS_sl hs hy)
theorem OpR.str {t n r sz q j:Nat} {a y:Operand} {tch:Bool} {es:List (List AV)} {cs:List AV} {c:AV} {ag:Bool} {effOk:∀ C:CallF,step g C d i env fr (.store t a y)=evT g C env fr (.store t a y)} (ht:sizeT g.P t=some (ag,n)) (ha:rd env a=.le r sz q j) (hy:rd env y=.t c) (hone:oneS (.t c)=true) (hn:Nat.beq 1 n=true) (hb:fr[r]?=some (.row false tch sz es)) (hk:es[q]?=some cs) (hj:Nat.ble (j+1) cs.length=true):OpR g d i env fr (.store t a y) .dead (fr.set r (.row false tch sz (es.set q (cs.set j c)))) []:=.r fun C=>by
 obtain rfl:1=n:=by simpa using hn
 have h2:Nat.beq sz sz=true:=by simp
 have hcell:cellsS (.t c)=[.t c]:=by cases c <;> first|rfl|(simp [oneS] at hone)
 rw [effOk C]
 unfold evT
 simp only [isW]
 unfold evW
 simp only
 unfold storeE
 simp only [ht,ha,hy,hcell,List.all_cons,hone,List.all_nil,Bool.and_self,List.length_cons,List.length_nil,hb,h2,hk,hj,toAVs,toAV,deep,rchs,rch,hasN,List.any_nil,putA,freeze]
 rfl
def callRes (fr:Fr) (dr:Bool) (rs:List Nat) (r:SV) (ex:Fr):Option Res:=match flatS r with
 | true=>some (r,fr,[])
 | false=>match dr with
  | false=>some (r.sub (backσ [] fr.length),freeze fr rs++ex.map (fun b=>unTch (b.sub (backσ [] fr.length))),[])
  | true=>match rs with
   | []=>match r.refs with
    | []=>some (r,fr,[])
    | _=>match toAV ex deep r with
     | some x=>some (.t x,fr,[])
     | none=>none
   | _=>none
theorem callS_pure {C:CallF} {dr:Bool} {f:Nat} {args:List SV} {xs:List AV} {as':List SV} {r:SV} {ex:Fr} (hx:toAVs fr (treeArgs (handL g f 0 args) args)=some xs) (hh:dedup [] (handRefs (handL g f 0 args) args)=[]) (hm:mixArgs (idxσ []) (handL g f 0 args) args xs=as') (hc:C f as' []=some (r,ex)) :
  callS g C dr fr f args=callRes fr dr (rchs fr (treeArgs (handL g f 0 args) args)) r ex:=by
 subst hm
 unfold callS callRes
 simp only [hx,hh,hc]
 cases flatS r <;> rfl
def drOf:Option (List Nat)→Nat→Bool
 | none,_=>false
 | some e,i=>!hasN e i
theorem step_call {C:CallF} {c:Operand} {args:Array Operand} {tys:Array TypeId}:step g C d i env fr (.call ⟨.value c,args,tys⟩)=evW g C (drOf d i) env fr (.call ⟨.value c,args,tys⟩):=by
 cases d with
 | none=>rfl
 | some e=>
  unfold step drOf
  simp only
  cases hasN e i <;> rfl
theorem OpR.call {c:Operand} {args:Array Operand} {tys:Array TypeId} {f:Nat} {pa qa argv:List SV} {xs:List AV} {as':List SV} {r x:SV} {ex fr':Fr} (hcl:Cl g f as' [] r ex) (hcal:calleeS (rd env c)=some (f,pa,qa)) (hav:pa++args.toList.map (rd env)++qa=argv) (hx:toAVs fr (treeArgs (handL g f 0 argv) argv)=some xs) (hh:dedup [] (handRefs (handL g f 0 argv) argv)=[]) (hm:mixArgs (idxσ []) (handL g f 0 argv) argv xs=as')
  (hr:callRes fr (drOf d i) (rchs fr (treeArgs (handL g f 0 argv) argv)) r ex=some (x,fr',[])):OpR g d i env fr (.call ⟨.value c,args,tys⟩) x fr' []:=by
 obtain ⟨n,hn⟩:=hcl
 refine ⟨n,?_⟩
 subst hav
 rw [step_call]
 unfold evW
 simp only
 unfold callE
 simp only [hcal]
 rw [callS_pure hx hh hm hn]
 exact hr
end
end Go.Proofs.YtjdhnoffoknlnaaGreatDoor
namespace Go.Proofs.YtjdhnoffoknlnaaGreatDoor
open Go.RowKit
section
variable {g:Cfg} {f:Nat} {env:Env} {fr:Fr} {d:Option (List Nat)} {ops:Array Oper} {i i':Nat} {K':Env→Fr→Prop} {l:List Oper} {dst:Option Tmp} {op:Op} {ty:TypeId} {pos:String} {after:Array Edge} {fr':Fr}
theorem EvO.u0 {x:SV} (hx:OpR g d i env fr op x fr' []) (h:EvO g d ops (i+1) l (updO env dst x) fr' K'):EvO g d ops i (⟨dst,op,ty,pos,after,none⟩::l) env fr K':=EvO.u hx h
theorem EvO.gt0 {j:Nat} {want:Bool} {x:SV} (hW:gOf ops env j want=some true) (hx:OpR g d i env fr op x fr' []) (h:EvO g d ops (i+1) l (updO env dst (.yes x)) fr' K'):EvO g d ops i (⟨dst,op,ty,pos,after,some (j,want)⟩::l) env fr K':=EvO.gt hW hx h
theorem OpR.mv {y:Operand} {v:SV} (h:rd env y=v):OpR g d i env fr (.move y) v fr []:=.p rfl rfl (by unfold evP;simp only [h])
theorem OpR.asg {y:Operand} {v:SV} (h:rd env y=v):OpR g d i env fr (.assign y) v fr []:=.p rfl rfl (by unfold evP;simp only [h])
theorem OpR.pk_t {c x y:Operand} {v:SV} (hc:rd env c=.t (.bool true)) (h:rd env x=v):OpR g d i env fr (.pick c x y) v fr []:=.p rfl rfl (by unfold evP;simp only [hc,h])
theorem OpR.pk_f {c x y:Operand} {v:SV} (hc:rd env c=.t (.bool false)) (h:rd env y=v):OpR g d i env fr (.pick c x y) v fr []:=.p rfl rfl (by unfold evP;simp only [hc,h])
theorem OpR.fal {st fi i j off n:Nat} {y:Operand} (hy:rd env y=.lp i j) (ho:fieldOff g.P st fi=some off) (hn:j+off=n):OpR g d i' env fr (.fieldAddr st y fi) (.lp i n) fr []:=.p rfl rfl (by
 subst hn
 unfold evP fieldAddrS
 simp only [ho,hy])
theorem OpR.fae {st fi r sz k j off n:Nat} {y:Operand} (hy:rd env y=.le r sz k j) (ho:fieldOff g.P st fi=some off) (hn:j+off=n):OpR g d i' env fr (.fieldAddr st y fi) (.le r sz k n) fr []:=.p rfl rfl (by
 subst hn
 unfold evP fieldAddrS
 simp only [ho,hy])
theorem OpR.eqs {t:Nat} {x y:Operand} {yt:TypeId} {cs ds:List AV} {n:Nat} {r:Bool} (hx:rd env x=.t (.agg cs)) (hy:rd env y=.t (.agg ds)) (hg:g.P.eqGuardType g.P.depth t=false) (ht:sizeT g.P t=some (true,n)) (hr:eqC g.P 20 t cs ds=some r):OpR g d i' env fr (.binOp .eql t x y yt) (.t (.bool r)) fr []:=.bin hx hy (by unfold binS aggEq;simp only [hg,ht,hr,sameS])
theorem OpR.lk {t e:Nat} {dd:TypeDesc} {x k:Operand} {ok:Bool} {ka:AV} {ks:List AV} {vs:List SV} {z:SV} (hm:mapT g.P t=some (e,dd)) (hk:rd env k=.t ka) (ho:mapOf fr (rd env x)=some (ks,vs)) (hf:findA dd ka ks 0=some none) (hz:zeroS g.P e=some z):OpR g d i' env fr (.lookup t x k ok) (okS ok z false) fr []:=.p rfl rfl (by unfold evP lookupS;simp only [hm,hk,ho,hf,hz])
theorem OpR.lki {t e j:Nat} {dd:TypeDesc} {x k:Operand} {ok:Bool} {ka:AV} {ks:List AV} {vs:List SV} {z:SV} (hm:mapT g.P t=some (e,dd)) (hk:rd env k=.t ka) (ho:mapOf fr (rd env x)=some (ks,vs)) (hf:findA dd ka ks 0=some (some j)) (hz:vs[j]?=some z):OpR g d i' env fr (.lookup t x k ok) (okS ok z true) fr []:=.p rfl rfl (by unfold evP lookupS;simp only [hm,hk,ho,hf,hz])
theorem OpR.callH {c:Operand} {args:Array Operand} {tys:Array TypeId} {f h0:Nat} {ht hs:List Nat} {pa qa argv:List SV} {xs:List AV} {as':List SV} {r x:SV} {fr1 bs bs' fr' fr2:Fr} {ks:List Nat} (hcl:Cl g f as' bs' r fr') (hdr:drOf d i'=false) (hcal:calleeS (rd env c)=some (f,pa,qa)) (hav:pa++args.toList.map (rd env)++qa=argv) (hx:toAVs fr (treeArgs (handL g f 0 argv) argv)=some xs) (hh:dedup [] (handRefs (handL g f 0 argv) argv)=h0::ht)
  (hs0:close fr 4 (h0::ht)=hs) (hf:freeze fr (rchs fr (treeArgs (handL g f 0 argv) argv))=fr1) (hg:getAll fr1 hs=some bs) (hc:closedFr hs bs=true) (hm:mixArgs (idxσ hs) (handL g f 0 argv) argv xs=as') (hb:bs.map (fun b=>unTch (b.sub (idxσ hs)))=bs') (hk:kindOk hs fr' fr1=true) (hr:(r.sub (backσ hs fr.length),back hs fr1 fr',touched hs fr')=(x,fr2,ks)):OpR g d i' env fr (.call ⟨.value c,args,tys⟩) x fr2 ks:=by
 obtain ⟨n,hn⟩:=hcl
 refine ⟨n,?_⟩
 subst hav hs0 hf hm hb
 rw [step_call,hdr]
 unfold evW
 simp only
 unfold callE
 simp only [hcal]
 unfold callS
 simp only [hx,hh,hg,hc,hn,hk,hr]
theorem EvO.apc {o:Oper} {l1 l2:List Oper} (h:EvO g d ops i (o::List.append l1 l2) env fr K'):EvO g d ops i (List.append (o::l1) l2) env fr K':=h
theorem EvO.apn {l2:List Oper} (h:EvO g d ops i l2 env fr K'):EvO g d ops i (List.append [] l2) env fr K':=h
theorem EvO.apa {l1 l2 l3:List Oper} (h:EvO g d ops i (List.append l1 (List.append l2 l3)) env fr K'):EvO g d ops i (List.append (List.append l1 l2) l3) env fr K':=by
 have e:List.append (List.append l1 l2) l3=List.append l1 (List.append l2 l3):=List.append_assoc l1 l2 l3
 rw [e];exact h
theorem OpR.bld {t:Nat} {parts:Array (Nat×Operand)} {cs:List SV} {v:SV} (ho:(parts.toList.all fun p=>(cellsS (rd env p.2)).all oneS)=true) (h:builtS g.P t (parts.toList.map fun p=>(p.1,rd env p.2))=some cs) (hv:aggS cs=v):OpR g d i' env fr (.build t parts) v fr []:=.p rfl rfl (by unfold evP;simp only [ho,h,hv])
theorem OpR.callP {c:Operand} {args:Array Operand} {tys:Array TypeId} {f h0:Nat} {ht:List Nat} (hs:List Nat) {pa qa argv:List SV} {xs:List AV} {as':List SV} {r x:SV} {bs bs' fr' fr2:Fr} {ks:List Nat} (hcl:Cl g f as' bs' r fr') (hdr:drOf d i'=false) (hcal:calleeS (rd env c)=some (f,pa,qa)) (hav:pa++args.toList.map (rd env)++qa=argv) (hx:toAVs fr (treeArgs (handL g f 0 argv) argv)=some xs) (hh:dedup [] (handRefs (handL g f 0 argv) argv)=h0::ht)
  (hs0:close fr 4 (h0::ht)=hs) (hf:rchs fr (treeArgs (handL g f 0 argv) argv)=[]) (hg:getAll fr hs=some bs) (hc:closedFr hs bs=true) (hm:mixArgs (idxσ hs) (handL g f 0 argv) argv xs=as') (hb:bs.map (fun b=>unTch (b.sub (idxσ hs)))=bs') (hk:kindOk hs fr' fr=true) (hr:(r.sub (backσ hs fr.length),back hs fr fr',touched hs fr')=(x,fr2,ks)):OpR g d i' env fr (.call ⟨.value c,args,tys⟩) x fr2 ks:=OpR.callH hcl hdr hcal hav hx hh hs0 (by rw [hf];rfl) hg hc hm hb hk hr
theorem EvO.spb {j:Nat} {t:Tmp} {b:Bool} (ht:b=true→EvO g d ops j l (updO env (some t) (.t (.bool true))) fr K') (hf:b=false→EvO g d ops j l (updO env (some t) (.t (.bool false))) fr K'):EvO g d ops j l (updO env (some t) (.t (.bool b))) fr K':=by
 cases b with
 | true=>exact ht rfl
 | false=>exact hf rfl
theorem EvO.spb_y {j:Nat} {t:Tmp} {b:Bool} (ht:b=true→EvO g d ops j l (updO env (some t) (.yes (.t (.bool true)))) fr K') (hf:b=false→EvO g d ops j l (updO env (some t) (.yes (.t (.bool false)))) fr K'):EvO g d ops j l (updO env (some t) (.yes (.t (.bool b)))) fr K':=by
 cases b with
 | true=>exact ht rfl
 | false=>exact hf rfl
section
variable {j:Nat} {t:Tmp} {p:Prop} [Decidable p]
theorem EvO.spd_t (hp:p) (h:EvO g d ops j l (updO env (some t) (.t (.bool true))) fr K'):EvO g d ops j l (updO env (some t) (.t (.bool (decide p)))) fr K':=.spb (fun _=>h) (fun h=>absurd hp (of_decide_eq_false h))
theorem EvO.spd_f (hp:¬p) (h:EvO g d ops j l (updO env (some t) (.t (.bool false))) fr K'):EvO g d ops j l (updO env (some t) (.t (.bool (decide p)))) fr K':=.spb (fun h=>absurd (of_decide_eq_true h) hp) (fun _=>h)
theorem EvO.spd (ht:p→EvO g d ops j l (updO env (some t) (.t (.bool true))) fr K') (hf:¬p→EvO g d ops j l (updO env (some t) (.t (.bool false))) fr K'):EvO g d ops j l (updO env (some t) (.t (.bool (decide p)))) fr K':=.spb (fun h=>ht (of_decide_eq_true h)) (fun h=>hf (of_decide_eq_false h))
theorem EvO.spd_yt (hp:p) (h:EvO g d ops j l (updO env (some t) (.yes (.t (.bool true)))) fr K'):EvO g d ops j l (updO env (some t) (.yes (.t (.bool (decide p))))) fr K':=.spb_y (fun _=>h) (fun h=>absurd hp (of_decide_eq_false h))
theorem EvO.spd_yf (hp:¬p) (h:EvO g d ops j l (updO env (some t) (.yes (.t (.bool false)))) fr K'):EvO g d ops j l (updO env (some t) (.yes (.t (.bool (decide p))))) fr K':=.spb_y (fun h=>absurd (of_decide_eq_true h) hp) (fun _=>h)
theorem EvO.spd_y (ht:p→EvO g d ops j l (updO env (some t) (.yes (.t (.bool true)))) fr K') (hf:¬p→EvO g d ops j l (updO env (some t) (.yes (.t (.bool false)))) fr K'):EvO g d ops j l (updO env (some t) (.yes (.t (.bool (decide p))))) fr K':=.spb_y (fun h=>ht (of_decide_eq_true h)) (fun h=>hf (of_decide_eq_false h))
theorem EvO.spn_t (hp:¬p) (h:EvO g d ops j l (updO env (some t) (.t (.bool true))) fr K'):EvO g d ops j l (updO env (some t) (.t (.bool (!decide p)))) fr K':=by rw [decide_eq_false hp];exact h
theorem EvO.spn_f (hp:p) (h:EvO g d ops j l (updO env (some t) (.t (.bool false))) fr K'):EvO g d ops j l (updO env (some t) (.t (.bool (!decide p)))) fr K':=by rw [decide_eq_true hp];exact h
theorem EvO.spn (ht:¬p→EvO g d ops j l (updO env (some t) (.t (.bool true))) fr K') (hf:p→EvO g d ops j l (updO env (some t) (.t (.bool false))) fr K'):EvO g d ops j l (updO env (some t) (.t (.bool (!decide p)))) fr K':=if h:p then .spn_f h (hf h) else .spn_t h (ht h)
theorem EvO.spn_yt (hp:¬p) (h:EvO g d ops j l (updO env (some t) (.yes (.t (.bool true)))) fr K'):EvO g d ops j l (updO env (some t) (.yes (.t (.bool (!decide p))))) fr K':=by rw [decide_eq_false hp];exact h
theorem EvO.spn_yf (hp:p) (h:EvO g d ops j l (updO env (some t) (.yes (.t (.bool false)))) fr K'):EvO g d ops j l (updO env (some t) (.yes (.t (.bool (!decide p))))) fr K':=by rw [decide_eq_true hp];exact h
theorem EvO.spn_y (ht:¬p→EvO g d ops j l (updO env (some t) (.yes (.t (.bool true)))) fr K') (hf:p→EvO g d ops j l (updO env (some t) (.yes (.t (.bool false)))) fr K'):EvO g d ops j l (updO env (some t) (.yes (.t (.bool (!decide p))))) fr K':=if h:p then .spn_yf h (hf h) else .spn_yt h (ht h)
end
theorem EvO.nilT {P:Env→Fr→Prop} {K:Out→Env→Fr→Prop} (h:P env fr):EvO g d ops i [] env fr (fun e r=>thenK P K .normal e r):=EvO.nil h
theorem EvO.nilB {id:Nat} {K:Out→Env→Fr→Prop} (h:K .normal env fr):EvO g d ops i [] env fr (fun e r=>blockK id K .normal e r):=EvO.nil h
variable {effs:List Nat}
theorem EvOF.apc {o:Oper} {l1 l2:List Oper} (h:EvOF g effs ops i (o::List.append l1 l2) env fr K'):EvOF g effs ops i (List.append (o::l1) l2) env fr K':=h
theorem EvOF.apn {l2:List Oper} (h:EvOF g effs ops i l2 env fr K'):EvOF g effs ops i (List.append [] l2) env fr K':=h
theorem EvOF.apa {l1 l2 l3:List Oper} (h:EvOF g effs ops i (List.append l1 (List.append l2 l3)) env fr K'):EvOF g effs ops i (List.append (List.append l1 l2) l3) env fr K':=by
 have e:List.append (List.append l1 l2) l3=List.append l1 (List.append l2 l3):=List.append_assoc l1 l2 l3
 rw [e];exact h
theorem EvOF.spb {j:Nat} {t:Tmp} {b:Bool} (ht:b=true→EvOF g effs ops j l (updO env (some t) (.t (.bool true))) fr K') (hf:b=false→EvOF g effs ops j l (updO env (some t) (.t (.bool false))) fr K'):EvOF g effs ops j l (updO env (some t) (.t (.bool b))) fr K':=by
 cases b with
 | true=>exact ht rfl
 | false=>exact hf rfl
theorem EvOF.spb_y {j:Nat} {t:Tmp} {b:Bool} (ht:b=true→EvOF g effs ops j l (updO env (some t) (.yes (.t (.bool true)))) fr K') (hf:b=false→EvOF g effs ops j l (updO env (some t) (.yes (.t (.bool false)))) fr K'):EvOF g effs ops j l (updO env (some t) (.yes (.t (.bool b)))) fr K':=by
 cases b with
 | true=>exact ht rfl
 | false=>exact hf rfl
section
variable {j:Nat} {t:Tmp} {p:Prop} [Decidable p]
theorem EvOF.spd_t (hp:p) (h:EvOF g effs ops j l (updO env (some t) (.t (.bool true))) fr K'):EvOF g effs ops j l (updO env (some t) (.t (.bool (decide p)))) fr K':=.spb (fun _=>h) (fun h=>absurd hp (of_decide_eq_false h))
theorem EvOF.spd_f (hp:¬p) (h:EvOF g effs ops j l (updO env (some t) (.t (.bool false))) fr K'):EvOF g effs ops j l (updO env (some t) (.t (.bool (decide p)))) fr K':=.spb (fun h=>absurd (of_decide_eq_true h) hp) (fun _=>h)
theorem EvOF.spd (ht:p→EvOF g effs ops j l (updO env (some t) (.t (.bool true))) fr K') (hf:¬p→EvOF g effs ops j l (updO env (some t) (.t (.bool false))) fr K'):EvOF g effs ops j l (updO env (some t) (.t (.bool (decide p)))) fr K':=.spb (fun h=>ht (of_decide_eq_true h)) (fun h=>hf (of_decide_eq_false h))
theorem EvOF.spd_yt (hp:p) (h:EvOF g effs ops j l (updO env (some t) (.yes (.t (.bool true)))) fr K'):EvOF g effs ops j l (updO env (some t) (.yes (.t (.bool (decide p))))) fr K':=.spb_y (fun _=>h) (fun h=>absurd hp (of_decide_eq_false h))
theorem EvOF.spd_yf (hp:¬p) (h:EvOF g effs ops j l (updO env (some t) (.yes (.t (.bool false)))) fr K'):EvOF g effs ops j l (updO env (some t) (.yes (.t (.bool (decide p))))) fr K':=.spb_y (fun h=>absurd (of_decide_eq_true h) hp) (fun _=>h)
theorem EvOF.spd_y (ht:p→EvOF g effs ops j l (updO env (some t) (.yes (.t (.bool true)))) fr K') (hf:¬p→EvOF g effs ops j l (updO env (some t) (.yes (.t (.bool false)))) fr K'):EvOF g effs ops j l (updO env (some t) (.yes (.t (.bool (decide p))))) fr K':=.spb_y (fun h=>ht (of_decide_eq_true h)) (fun h=>hf (of_decide_eq_false h))
theorem EvOF.spn_t (hp:¬p) (h:EvOF g effs ops j l (updO env (some t) (.t (.bool true))) fr K'):EvOF g effs ops j l (updO env (some t) (.t (.bool (!decide p)))) fr K':=by rw [decide_eq_false hp];exact h
theorem EvOF.spn_f (hp:p) (h:EvOF g effs ops j l (updO env (some t) (.t (.bool false))) fr K'):EvOF g effs ops j l (updO env (some t) (.t (.bool (!decide p)))) fr K':=by rw [decide_eq_true hp];exact h
theorem EvOF.spn (ht:¬p→EvOF g effs ops j l (updO env (some t) (.t (.bool true))) fr K') (hf:p→EvOF g effs ops j l (updO env (some t) (.t (.bool false))) fr K'):EvOF g effs ops j l (updO env (some t) (.t (.bool (!decide p)))) fr K':=if h:p then .spn_f h (hf h) else .spn_t h (ht h)
theorem EvOF.spn_yt (hp:¬p) (h:EvOF g effs ops j l (updO env (some t) (.yes (.t (.bool true)))) fr K'):EvOF g effs ops j l (updO env (some t) (.yes (.t (.bool (!decide p))))) fr K':=by rw [decide_eq_false hp];exact h
theorem EvOF.spn_yf (hp:p) (h:EvOF g effs ops j l (updO env (some t) (.yes (.t (.bool false)))) fr K'):EvOF g effs ops j l (updO env (some t) (.yes (.t (.bool (!decide p))))) fr K':=by rw [decide_eq_true hp];exact h
theorem EvOF.spn_y (ht:¬p→EvOF g effs ops j l (updO env (some t) (.yes (.t (.bool true)))) fr K') (hf:p→EvOF g effs ops j l (updO env (some t) (.yes (.t (.bool false)))) fr K'):EvOF g effs ops j l (updO env (some t) (.yes (.t (.bool (!decide p))))) fr K':=if h:p then .spn_yf h (hf h) else .spn_yt h (ht h)
end
theorem EvOF.nilT {P:Env→Fr→Prop} {K:Out→Env→Fr→Prop} (h:P env fr):EvOF g effs ops i [] env fr (fun e r=>thenK P K .normal e r):=EvOF.nil h
theorem EvOF.nilB {id:Nat} {K:Out→Env→Fr→Prop} (h:K .normal env fr):EvOF g effs ops i [] env fr (fun e r=>blockK id K .normal e r):=EvOF.nil h
variable {K:Out→Env→Fr→Prop}
theorem EvK.cond_t {c:Operand} {a b:Code} (hc:rd env c=.t (.bool true)) (ha:EvK g f a env fr K):EvK g f (.cond c a b) env fr K:=EvK.cond hc (fun _=>ha) (fun h=>nomatch h)
theorem EvK.cond_f {c:Operand} {a b:Code} (hc:rd env c=.t (.bool false)) (ha:EvK g f b env fr K):EvK g f (.cond c a b) env fr K:=EvK.cond hc (fun h=>nomatch h) (fun _=>ha)
theorem thenK_n {P:Env→Fr→Prop} (h:P env fr):thenK P K .normal env fr:=h
theorem thenK_e {P:Env→Fr→Prop} {id:Nat} (h:K (.exit id) env fr):thenK P K (.exit id) env fr:=h
theorem thenK_r {P:Env→Fr→Prop} (h:K .ret env fr):thenK P K .ret env fr:=h
theorem blockK_n {id:Nat} (h:K .normal env fr):blockK id K .normal env fr:=h
theorem blockK_r {id:Nat} (h:K .ret env fr):blockK id K .ret env fr:=h
theorem blockK_h {id:Nat} (h:K .normal env fr):blockK id K (.exit id) env fr:=by
 unfold blockK
 have:Nat.beq id id=true:=by simp
 simp only [this]
 exact h
inductive Slots (env:Env) (fr:Fr) (h:Nat):List Nat→List (Nat×SV)→Prop where
 | nil:Slots env fr h [] []
 | cons {t:Nat} {v:SV} {sl:List Nat} {vs:List (Nat×SV)} (hv:cutV fr h (Go.Proofs.YtjdhnoffoknlnaaGreatDoor.un (env t))=v) (ht:Slots env fr h sl vs):Slots env fr h (t::sl) ((t,v)::vs)
theorem Slots.eq {h:Nat} {sl:List Nat} {vs:List (Nat×SV)} (hs:Slots env fr h sl vs):sl.map (fun t=>(t,cutV fr h (Go.Proofs.YtjdhnoffoknlnaaGreatDoor.un (env t))))=vs:=by
 induction hs with
 | nil=>rfl
 | cons hv _ ih=>rw [List.map_cons,hv,ih]
theorem trim_self:trim fr.length fr=fr:=by
 unfold trim
 have:Nat.ble fr.length fr.length=true:=by simp
 simp only [this]
theorem EvK.loopV {b:Code} {vs:List (Nat×SV)} {sl:List Nat} {own:List (Nat×Nat)} {env':Env} {fr':Fr} (ho:g.own f (blockId b)=own) (hp:ownE own env fr=(env',fr')) (hl:g.lv f (blockId b)=some sl) (hs:Slots env' fr' fr'.length sl vs) (h:EvL g f b (mkEnv vs) fr' K):EvK g f (.loop b) env fr K:=by
 refine EvK.loop (p:=(env',fr')) (by rw [ho];exact hp) (q:=(mkEnv vs,fr')) ?_ h
 rw [hl]
 show (mkEnv (sl.map fun t=>(t,cutV fr' (hOf sl fr'.length env' fr') (Go.Proofs.YtjdhnoffoknlnaaGreatDoor.un (env' t)))),trim (hOf sl fr'.length env' fr') fr')=_
 rw [hOf_self,hs.eq,trim_self]
theorem EvL.ind {b:Code} {base:List (Nat×SV)} {σ:Type} (V:σ→List (Nat×SV)) (I:σ→Prop) (μ:σ→Nat) (s0:σ) (he:env=mkEnv (V s0++base)) (h0:I s0)
  (hs:∀ s,I s→EvK g f b (mkEnv (V s++base)) fr (thenK (fun e r=>∃ s',(head (g.lv f (blockId b)) fr.length e r).1=mkEnv (V s'++base)∧(head (g.lv f (blockId b)) fr.length e r).2=fr∧I s'∧μ s' < μ s) K)):EvL g f b env fr K:=by
 subst he
 have key:∀ (n:Nat) (s:σ),μ s < n→I s→EvL g f b (mkEnv (V s++base)) fr K:=by
  intro n
  induction n with
  | zero=>intro s h;omega
  | succ n ih=>
   intro s hn hI
   refine EvL.step ?_
   refine (hs s hI).post ?_
   intro o e r h
   cases o with
   | normal=>
    obtain ⟨s',h1,h2,h3,h4⟩:=h
    show EvL g f b _ _ K
    rw [h1,h2]
    exact ih s' (by omega) h3
   | exit id=>exact h
   | ret=>exact h
 exact key _ s0 (Nat.lt_succ_self _) h0
theorem EvL.indF {b:Code} {base:List (Nat×SV)} {σ:Type} (V:σ→List (Nat×SV)) (F:σ→Fr) (I:σ→Prop) (μ:σ→Nat) (s0:σ) (he:env=mkEnv (V s0++base)) (hF:fr=F s0) (h0:I s0)
  (hs:∀ s,I s→EvK g f b (mkEnv (V s++base)) (F s) (thenK (fun e r=>∃ s',(head (g.lv f (blockId b)) (F s).length e r).1=mkEnv (V s'++base)∧(head (g.lv f (blockId b)) (F s).length e r).2=F s'∧I s'∧μ s' < μ s) K)):EvL g f b env fr K:=by
 subst he hF
 have key:∀ (n:Nat) (s:σ),μ s < n→I s→EvL g f b (mkEnv (V s++base)) (F s) K:=by
  intro n
  induction n with
  | zero=>intro s h;omega
  | succ n ih=>
   intro s hn hI
   refine EvL.step ?_
   refine (hs s hI).post ?_
   intro o e r h
   cases o with
   | normal=>
    obtain ⟨s',h1,h2,h3,h4⟩:=h
    show EvL g f b _ _ K
    rw [h1,h2]
    exact ih s' (by omega) h3
   | exit id=>exact h
   | ret=>exact h
 exact key _ s0 (Nat.lt_succ_self _) h0
theorem fin_b {o:Out} {m:Nat} {s:Option SV} {b b':Bool} {fr':Fr} (ho:o=.normal∨o=.ret) (h:finO m s fr=some (.t (.bool b),fr')) (e:b=b'):(o=.normal∨o=.ret)∧finO m s fr=some (.t (.bool b'),fr'):=⟨ho,by rw [h,e]⟩
theorem fin_ii {o:Out} {m:Nat} {s:Option SV} {k j:IntKind} {b b' c c':Int} {fr':Fr} (ho:o=.normal∨o=.ret) (h:finO m s fr=some (.tup [.t (.int k b),.t (.int j c)],fr')) (e:b=b'∧c=c'):(o=.normal∨o=.ret)∧finO m s fr=some (.tup [.t (.int k b'),.t (.int j c')],fr'):=⟨ho,by rw [h,e.1,e.2]⟩
end
end Go.Proofs.YtjdhnoffoknlnaaGreatDoor
namespace Go.Proofs.YtjdhnoffoknlnaaGreatDoor
open Go.RowKit
mutual
theorem SV.sub_no {σ:Nat→Option Nat}:∀ x:SV,x.refs=[]→SV.sub σ x=x
 | .t x,_=>by rw [SV.sub]
 | .nil,_=>by rw [SV.sub]
 | .tc es,_=>by rw [SV.sub]
 | .nn es,_=>by rw [SV.sub]
 | .lp i j,h=>by simp [SV.refs] at h
 | .ls i,h=>by simp [SV.refs] at h
 | .lv i sz a n,h=>by simp [SV.refs] at h
 | .le i sz k j,h=>by simp [SV.refs] at h
 | .lm i,h=>by simp [SV.refs] at h
 | .lo i p,h=>by simp [SV.refs] at h
 | .lr i p k,h=>by simp [SV.refs] at h
 | .agg cs,h=>by rw [SV.sub,SV.subL_no cs (by simpa [SV.refs] using h)]
 | .tup cs,h=>by rw [SV.sub,SV.subL_no cs (by simpa [SV.refs] using h)]
 | .fn f nf cs,h=>by rw [SV.sub,SV.subL_no cs (by simpa [SV.refs] using h)]
 | .yes s,h=>by rw [SV.sub,SV.sub_no s (by simpa [SV.refs] using h)]
 | .no,_=>by rw [SV.sub]
 | .dead,_=>by rw [SV.sub]
theorem SV.subL_no {σ:Nat→Option Nat}:∀ cs:List SV,SV.refsL cs=[]→SV.subL σ cs=cs
 | [],_=>by rw [SV.subL]
 | c::cs,h=>by
  rw [SV.refsL,List.append_eq_nil_iff] at h
  rw [SV.subL,SV.sub_no c h.1,SV.subL_no cs h.2]
end
section
variable {g:Cfg} {f:Nat} {env:Env} {fr:Fr} {K:Out→Env→Fr→Prop} {c:Operand} {a b:Code} {p:Prop} [Decidable p]
end
def StopAt (p:Prop):Prop:=p
theorem StopAt.go {p:Prop} (h:p):StopAt p:=h
section
variable {g:Cfg} {d:Option (List Nat)} {i:Nat} {env:Env} {fr:Fr}
theorem OpR.callF {c:Operand} {args:Array Operand} {tys:Array TypeId} {f:Nat} {pa qa argv:List SV} {xs:List AV} {us':List SV} {r:SV} {ex:Fr} (hcl:Cl g f us' [] r ex) (hcal:calleeS (rd env c)=some (f,pa,qa)) (hav:pa++args.toList.map (rd env)++qa=argv) (hx:toAVs fr (treeArgs (handL g f 0 argv) argv)=some xs) (hh:dedup [] (handRefs (handL g f 0 argv) argv)=[]) (hm:mixArgs (idxσ []) (handL g f 0 argv) argv xs=us')
  (hr:flatS r=true):OpR g d i env fr (.call ⟨.value c,args,tys⟩) r fr []:=.call hcl hcal hav hx hh hm (by unfold callRes;rw [hr])
theorem OpR.callN {c:Operand} {args:Array Operand} {tys:Array TypeId} {f:Nat} {pa qa argv:List SV} {xs:List AV} {us':List SV} {r:SV} (hcl:Cl g f us' [] r []) (hcal:calleeS (rd env c)=some (f,pa,qa)) (hav:pa++args.toList.map (rd env)++qa=argv) (hx:toAVs fr (treeArgs (handL g f 0 argv) argv)=some xs) (hh:dedup [] (handRefs (handL g f 0 argv) argv)=[]) (hm:mixArgs (idxσ []) (handL g f 0 argv) argv xs=us')
  (hn:r.refs=[]) (hr:rchs fr (treeArgs (handL g f 0 argv) argv)=[]):OpR g d i env fr (.call ⟨.value c,args,tys⟩) r fr []:=.call hcl hcal hav hx hh hm (by
 unfold callRes
 rw [hr]
 cases flatS r with
 | true=>rfl
 | false=>
  cases drOf d i with
  | false=>simp only [SV.sub_no r hn];simp [freeze]
  | true=>simp only [hn])
theorem OpR.ixt {t e sz:Nat} {x y:Operand} {k:IntKind} {q:Nat} {es:List (List AV)} {c:AV} {cs:List AV} (he:elemT g.P t=some (e,sz)) (hx:rd env x=.tc es) (hi:rd env y=.t (.int k (q:Int))) (hc:es[q]?=some (c::cs)) (hz:Nat.beq sz (cs.length+1)=true):OpR g d i env fr (.indexAddr t x y) (.t (.tp (c::cs))) fr []:=.p rfl rfl (by
 have h:=elemAt_of (sz:=sz) (es:=es) (m:=(q:Int)) (by omega) (by rw [Int.toNat_natCast];exact hc) hz
 unfold evP indexAddrS;simp only [he,hx,hi,h])
theorem OpR.sll {t e sz k:Nat} {x h:Operand} {kd:IntKind} {es vs:List (List AV)} (he:elemT g.P t=some (e,sz)) (hx:rd env x=.t (.arr es)) (hi:rd env h=.t (.int kd (k:Int))) (hn:k≤es.length) (hz:okSz sz es=true) (hv:es.drop k=vs):OpR g d i env fr (.slice t x (some h) none none) (.t (.arr vs)) fr []:=.p rfl rfl (by
 subst hv
 have h1:(decide (0≤(k:Int)) && Nat.ble (Int.toNat (k:Int)) es.length)=true:=by simp;omega
 unfold evP sliceS
 simp only [Option.map_none,Option.map_some,hx,hi,he,treeSl,hz]
 unfold cutS boundS
 simp only [boundS,h1]
 simp)
section
variable {α:Type} {x0 x1 x2 x3 x4 x5 x6 x7 x8 x9 x10 x11 x12 x13:α}
theorem ln0:([]:List α).length=0:=rfl
theorem ln1:[x0].length=1:=rfl
theorem ln2:[x0,x1].length=2:=rfl
theorem ln3:[x0,x1,x2].length=3:=rfl
theorem ln4:[x0,x1,x2,x3].length=4:=rfl
theorem ln5:[x0,x1,x2,x3,x4].length=5:=rfl
theorem ln6:[x0,x1,x2,x3,x4,x5].length=6:=rfl
theorem ln7:[x0,x1,x2,x3,x4,x5,x6].length=7:=rfl
theorem ln8:[x0,x1,x2,x3,x4,x5,x6,x7].length=8:=rfl
theorem ln9:[x0,x1,x2,x3,x4,x5,x6,x7,x8].length=9:=rfl
theorem ln10:[x0,x1,x2,x3,x4,x5,x6,x7,x8,x9].length=10:=rfl
theorem ln11:[x0,x1,x2,x3,x4,x5,x6,x7,x8,x9,x10].length=11:=rfl
theorem ln12:[x0,x1,x2,x3,x4,x5,x6,x7,x8,x9,x10,x11].length=12:=rfl
theorem ln13:[x0,x1,x2,x3,x4,x5,x6,x7,x8,x9,x10,x11,x12].length=13:=rfl
theorem ln14:[x0,x1,x2,x3,x4,x5,x6,x7,x8,x9,x10,x11,x12,x13].length=14:=rfl
end
inductive LEq {α:Type}:List α→List α→Prop where
 | nil:LEq [] []
 | cons {a b:α} {us bs:List α} (h:a=b) (ht:LEq us bs):LEq (a::us) (b::bs)
theorem LEq.eq {α:Type} {us bs:List α} (h:LEq us bs):us=bs:=by
 induction h with
 | nil=>rfl
 | cons h _ ih=>rw [h,ih]
inductive Prs:List SV→List AV→Prop where
 | nil:Prs [] []
 | cons {x:AV} {us:List SV} {bs:List AV} (ht:Prs us bs):Prs (.t x::us) (x::bs)
theorem Prs.eq {us:List SV} {bs:List AV} (h:Prs us bs):us=bs.map .t:=by
 induction h with
 | nil=>rfl
 | cons _ ih=>rw [ih];rfl
theorem pursN_map (xs:List AV):pursN (xs.map .t)=some xs:=by
 induction xs with
 | nil=>rfl
 | cons x xs ih=>rw [List.map_cons];unfold pursN;rw [ih]
theorem purs_map (xs:List AV):purs (xs.map .t)=some xs:=by
 induction xs with
 | nil=>rfl
 | cons x xs ih=>rw [List.map_cons];unfold purs;rw [ih]
theorem aggS_map (xs:List AV):aggS (xs.map .t)=.t (.agg xs):=by unfold aggS;rw [purs_map]
theorem putS_app (xs:List SV):∀ (pre old:List SV),old.length=xs.length→putS (pre++old) pre.length xs=pre++xs:=by
 induction xs with
 | nil=>intro pre old h;obtain rfl:=List.length_eq_zero_iff.1 h;rfl
 | cons x xs ih=>
  intro pre old h
  cases old with
  | nil=>simp at h
  | cons o old=>
   unfold putS
   have e:(pre++o::old).set pre.length x=(pre++[x])++old:=by simp
   have:=ih (pre++[x]) old (by simpa using h)
   rw [e]
   simpa using this
theorem putS_all {cs xs:List SV} (h:cs.length=xs.length):putS cs 0 xs=xs:=putS_app xs [] cs h
theorem OpR.al {T n:Nat} {zs cs:List SV} {fr':Fr} (hs:∀ C:CallF,step g C d i env fr (.alloc T)=evW g C (drOf d i) env fr (.alloc T)) (hz:zeroT g.P T=some zs) (hc:LEq zs cs) (hn:fr.length=n) (hf:LEq (fr++[.box false T cs]) fr'):OpR g d i env fr (.alloc T) (.lp n 0) fr' []:=.r fun C=>by
 rw [hs]
 subst hn
 obtain rfl:=hf.eq
 obtain rfl:=hc.eq
 unfold evW
 simp only [hz]
theorem OpR.bxn {T n:Nat} {y:Operand} {s:SV} {cs ds:List SV} {fr':Fr} (hs:∀ C:CallF,step g C d i env fr (.box T y)=evW g C (drOf d i) env fr (.box T y)) (hy:rd env y=s) (hc:cellsS s=cs) (ho:cs.all oneS=true) (hd:LEq cs ds) (hn:fr.length=n) (hf:LEq (fr++[.box false T ds]) fr'):OpR g d i env fr (.box T y) (.lp n 0) fr' []:=.r fun C=>by
 rw [hs]
 subst hn hc hy
 obtain rfl:=hf.eq
 obtain rfl:=hd.eq
 unfold evW
 simp only [ho]
theorem OpR.bxt {T n:Nat} {y:Operand} {xs:List AV} {fr':Fr} (hs:∀ C:CallF,step g C d i env fr (.box T y)=evW g C (drOf d i) env fr (.box T y)) (hy:rd env y=.t (.agg xs)) (ho:(xs.map SV.t).all oneS=true) (hn:fr.length=n) (hf:LEq (fr++[.box false T (xs.map .t)]) fr'):OpR g d i env fr (.box T y) (.lp n 0) fr' []:=.r fun C=>by
 rw [hs]
 subst hn
 obtain rfl:=hf.eq
 unfold evW
 simp only [hy]
 have e:cellsS (.t (.agg xs))=xs.map .t:=rfl
 simp only [e,ho]
theorem OpR.stw {t n r T:Nat} {a y:Operand} {ag:Bool} {xs:List AV} {cs:List SV} {fr':Fr} (hs:∀ C:CallF,step g C d i env fr (.store t a y)=evT g C env fr (.store t a y)) (ht:sizeT g.P t=some (ag,n)) (ha:rd env a=.lp r 0) (hy:rd env y=.t (.agg xs)) (ho:(xs.map SV.t).all oneS=true) (hl:xs.length=n) (hb:fr[r]?=some (.box false T cs)) (hc:cs.length=n) (hf:LEq (fr.set r (.box false T (xs.map .t))) fr'):OpR g d i env fr (.store t a y) .dead fr' []:=.r fun C=>by
 rw [hs]
 obtain rfl:=hf.eq
 subst hl
 have e:cellsS (.t (.agg xs))=xs.map .t:=rfl
 have h1:Nat.beq (xs.map SV.t).length xs.length=true:=by simp
 have h2:Nat.ble (0+xs.length) cs.length=true:=by simp;omega
 have h3:putS cs 0 (xs.map .t)=xs.map .t:=putS_all (by simpa using hc)
 unfold evT
 simp only [isW]
 unfold evW
 simp only
 unfold storeE
 simp only [ht,ha,hy,e,ho,h1,Bool.and_self,hb,h2,h3]
theorem OpR.sto {t n r j T:Nat} {a y:Operand} {ag:Bool} {s:SV} {cs ds vs:List SV} {fr':Fr} (hs:∀ C:CallF,step g C d i env fr (.store t a y)=evT g C env fr (.store t a y)) (ht:sizeT g.P t=some (ag,n)) (ha:rd env a=.lp r j) (hy:rd env y=s) (hv:cellsS s=vs) (ho:(vs.all oneS && Nat.beq vs.length n)=true) (hb:fr[r]?=some (.box false T cs)) (hc:Nat.ble (j+n) cs.length=true) (hd:LEq (putS cs j vs) ds) (hf:LEq (fr.set r (.box false T ds)) fr'):OpR g d i env fr (.store t a y) .dead fr' []:=.r fun C=>by
 rw [hs]
 obtain rfl:=hf.eq
 obtain rfl:=hd.eq
 subst hv hy
 unfold evT
 simp only [isW]
 unfold evW
 simp only
 unfold storeE
 simp only [ht,ha,ho,hb,hc]
theorem OpR.ldw {t n r T:Nat} {y:Operand} {ro:Bool} {xs:List AV} (ht:sizeT g.P t=some (true,n)) (hy:rd env y=.lp r 0) (hb:fr[r]?=some (.box ro T (List.map SV.t xs))) (hl:xs.length=n):OpR g d i env fr (.load t y) (.t (.agg xs)) fr []:=.p rfl rfl (by
 subst hl
 unfold evP loadS
 have h1:Nat.ble (0+xs.length) (xs.map SV.t).length=true:=by simp
 have h2:((xs.map SV.t).drop 0).take xs.length=xs.map .t:=by rw [List.drop_zero];exact List.take_of_length_le (by simp)
 simp only [ht,hy,hb,h1,h2,aggS_map])
theorem OpR.ldt {t n r j T:Nat} {y:Operand} {ro:Bool} {cs vs:List SV} {xs:List AV} (ht:sizeT g.P t=some (true,n)) (hy:rd env y=.lp r j) (hb:fr[r]?=some (.box ro T cs)) (hl:Nat.ble (j+n) cs.length=true) (hv:(cs.drop j).take n=vs) (hx:Prs vs xs):OpR g d i env fr (.load t y) (.t (.agg xs)) fr []:=.p rfl rfl (by
 unfold evP loadS
 simp only [ht,hy,hb,hl,hv,hx.eq,aggS_map])
theorem OpR.lda {t n r j T:Nat} {y:Operand} {ro:Bool} {cs vs:List SV} {v:SV} (ht:sizeT g.P t=some (true,n)) (hy:rd env y=.lp r j) (hb:fr[r]?=some (.box ro T cs)) (hl:Nat.ble (j+n) cs.length=true) (hv:LEq ((cs.drop j).take n) vs) (hx:aggS vs=v):OpR g d i env fr (.load t y) v fr []:=.p rfl rfl (by
 unfold evP loadS
 simp only [ht,hy,hb,hl,hv.eq,hx])
end
end Go.Proofs.YtjdhnoffoknlnaaGreatDoor
namespace Go.Proofs.YtjdhnoffoknlnaaGreatDoor
open Go.RowKit
inductive KFr (ks:List Nat):Fr→Fr→Prop where
 | nil:KFr ks [] []
 | own {ro:Bool} {x:AV} {fr fr':Fr} (h:KFr ks fr fr'):KFr ks (.own ro x::fr) (.own ro x::fr')
 | row {ro tch:Bool} {sz:Nat} {es:List (List AV)} {fr fr':Fr} (h:KFr ks fr fr'):KFr ks (.row ro tch sz es::fr) (.row ro tch sz es::fr')
 | boxt {ro:Bool} {T:TypeId} {xs:List AV} {fr fr':Fr} (h:KFr ks fr fr'):KFr ks (.box ro T (List.map SV.t xs)::fr) (.box ro T (List.map SV.t xs)::fr')
 | box {ro:Bool} {T:TypeId} {cs ds:List SV} {fr fr':Fr} (hd:LEq (SV.subL (killσ ks) cs) ds) (h:KFr ks fr fr'):KFr ks (.box ro T cs::fr) (.box ro T ds::fr')
theorem subL_trees {σ:Nat→Option Nat} (xs:List AV):SV.subL σ (xs.map .t)=xs.map .t:=by
 induction xs with
 | nil=>rfl
 | cons x xs ih=>rw [List.map_cons,SV.subL,SV.sub,ih]
theorem KFr.eq {ks:List Nat} {fr fr':Fr} (h:KFr ks fr fr'):fr.map (Lb.sub (killσ ks))=fr':=by
 induction h with
 | nil=>rfl
 | row _ ih=>rw [List.map_cons,ih];rfl
 | own _ ih=>rw [List.map_cons,ih];rfl
 | boxt _ ih=>rw [List.map_cons,ih,Lb.sub,subL_trees]
 | box hd _ ih=>rw [List.map_cons,ih,Lb.sub,hd.eq]
section
variable {g:Cfg} {d:Option (List Nat)} {i:Nat} {env:Env} {fr:Fr}
theorem OpR.bs0 {t T sz by_ n:Nat} {fr':Fr} (hs:∀ C:CallF,step g C d i env fr (.buildSlice t 0 #[])=evW g C (drOf d i) env fr (.buildSlice t 0 #[])) (hr:rowT g.P t=some (T,sz,by_)) (hn:fr.length=n) (hf:LEq (fr++[.row false false sz []]) fr'):OpR g d i env fr (.buildSlice t 0 #[]) (.ls n) fr' []:=.r fun C=>by
 rw [hs]
 subst hn
 obtain rfl:=hf.eq
 unfold evW
 simp only [hr]
theorem OpR.apr {t T r sz by_:Nat} {a y:Operand} {args:Array Operand} {tys:Array TypeId} {s:SV} {es news vs:List (List AV)} {tch:Bool} {fr1 fr':Fr} (hs:∀ C:CallF,step g C d i env fr (.call ⟨.builtin .append,args,tys⟩)=evW g C (drOf d i) env fr (.call ⟨.builtin .append,args,tys⟩)) (ha:args.toList=[a,y]) (ht:tys.toList=[t,t]) (hr:rowT g.P t=some (T,sz,by_)) (hx:rd env a=.ls r) (hy:rd env y=s) (hn:slOf fr s=some news) (hb:fr[r]?=some (.row false tch sz es))
  (hok:newsOk sz news=true) (hlen:lenOk (es.length+news.length) by_=true) (hv:es++news=vs) (hk:KFr [r] fr fr1) (hf:LEq (fr1.set r (.row false true sz vs)) fr'):OpR g d i env fr (.call ⟨.builtin .append,args,tys⟩) (.ls r) fr' [r]:=.r fun C=>by
 rw [hs]
 subst hv hy
 obtain rfl:=hf.eq
 obtain rfl:=hk.eq
 have h1:(Nat.beq sz sz && lenOk (es.length+news.length) by_)=true:=by rw [hlen];simp
 have h2:Nat.beq t t=true:=by simp
 unfold evW
 simp only [ha,ht,h2]
 unfold appendE
 simp only [hr,hn,hok,hx,hb,h1]
 rfl
theorem OpR.sti {t n r q:Nat} {a y:Operand} {tch:Bool} {es vs:List (List AV)} {cs:List AV} {c:AV} {ag:Bool} {fr':Fr} (hs:∀ C:CallF,step g C d i env fr (.store t a y)=evT g C env fr (.store t a y)) (ht:sizeT g.P t=some (ag,n)) (ha:rd env a=.le r 1 q 0) (hy:rd env y=.t c) (hone:oneS (.t c)=true) (hn:Nat.beq 1 n=true) (hb:fr[r]?=some (.row false tch 1 es)) (hk:es[q]?=some cs) (hj:cs.length=1) (hv:es.set q [c]=vs) (hf:LEq (fr.set r (.row false tch 1 vs)) fr'):OpR g d i env fr (.store t a y) .dead fr' []:=by
 obtain rfl:=hf.eq
 subst hv
 have e:cs.set 0 c=[c]:=by
  match cs,hj with
  | [x],_=>rfl
 have:=OpR.str (effOk:=hs) ht ha hy hone hn hb hk (by rw [hj];rfl)
 rw [e] at this
 exact this
theorem OpR.bsf {t len:Nat} {parts:Array (Nat×Operand)} {ts:List Nat} {xs:List AV} {x:SV} {fr1:Fr} (hs:∀ C:CallF,step g C d i env fr (.buildSlice t len parts)=evT g C env fr (.buildSlice t len parts)) (hw:isW (.buildSlice t len parts)=false) (h0:evP g.P fr env (.buildSlice t len parts)=none) (ht:tmpsL (parts.toList.map (·.2))=ts) (hx:toAVs fr (ts.map fun t=>un (env t))=some xs) (hf:LEq (freeze fr (rchs fr (ts.map fun t=>un (env t)))) fr1) (hp:evP g.P fr1 (treeEnv env ts xs) (.buildSlice t len parts)=some x):OpR g d i env fr (.buildSlice t len parts) x fr1 []:=.r fun C=>by
 rw [hs]
 subst ht
 obtain rfl:=hf.eq
 unfold evT
 simp only [hw,h0]
 unfold evF
 simp only [hx]
 rw [hp]
 rfl
theorem OpR.ads {xt yt:TypeId} {x y:Operand} {s u:ByteArray} (hx:rd env x=.t (.str s)) (hy:rd env y=.t (.str u)) (h:s.size+u.size≤9223372036854775807):OpR g d i env fr (.binOp .add xt x y yt) (.t (.str (s++u))) fr []:=
 .bin hx hy (by unfold binS;simp only [strS,if_pos h])
theorem OpR.remv {xt yt:TypeId} {x y:Operand} {m n r:Int} (hx:rd env x=.t (.int .i64 m)) (hy:rd env y=.t (.int .i64 n)) (hn:n≠0) (h:m.tmod n=r):OpR g d i env fr (.binOp .rem xt x y yt) (.t (.int .i64 r)) fr []:=
 .bin hx hy (by unfold binS;simp only [if_true,intS,if_neg hn,h])
theorem OpR.lds {t n r sz q j:Nat} {y:Operand} {ro tch:Bool} {es:List (List AV)} {cs vs:List AV} (ht:sizeT g.P t=some (true,n)) (hy:rd env y=.le r sz q j) (hb:fr[r]?=some (.row ro tch sz es)) (hk:es[q]?=some cs) (hl:Nat.ble (j+n) cs.length=true) (hv:LEq ((cs.drop j).take n) vs):OpR g d i env fr (.load t y) (.t (.agg vs)) fr []:=.p rfl rfl (by
 obtain rfl:=hv.eq
 have h2:Nat.beq sz sz=true:=by simp
 unfold evP loadS
 simp only [ht,hy,hb,h2,hk,hl])
theorem OpR.ldi {t n r sz q:Nat} {y:Operand} {ro tch:Bool} {es:List (List AV)} {c:AV} (ht:sizeT g.P t=some (false,n)) (hy:rd env y=.le r sz q 0) (hb:fr[r]?=some (.row ro tch sz es)) (hk:es[q]?=some [c]):OpR g d i env fr (.load t y) (.t c) fr []:=.ldr ht hy hb hk rfl
end
inductive XFr (σ:Nat→Option Nat):Fr→Fr→Prop where
 | nil:XFr σ [] []
 | own {ro:Bool} {x:AV} {fr fr':Fr} (h:XFr σ fr fr'):XFr σ (.own ro x::fr) (.own ro x::fr')
 | row {ro tch:Bool} {sz:Nat} {es:List (List AV)} {fr fr':Fr} (h:XFr σ fr fr'):XFr σ (.row ro tch sz es::fr) (.row ro false sz es::fr')
 | boxt {ro:Bool} {T:TypeId} {xs:List AV} {fr fr':Fr} (h:XFr σ fr fr'):XFr σ (.box ro T (List.map SV.t xs)::fr) (.box ro T (List.map SV.t xs)::fr')
 | box {ro:Bool} {T:TypeId} {cs ds:List SV} {fr fr':Fr} (hd:LEq (SV.subL σ cs) ds) (h:XFr σ fr fr'):XFr σ (.box ro T cs::fr) (.box ro T ds::fr')
theorem XFr.eq {σ:Nat→Option Nat} {fr fr':Fr} (h:XFr σ fr fr'):fr.map (fun b=>unTch (b.sub σ))=fr':=by
 induction h with
 | nil=>rfl
 | row _ ih=>rw [List.map_cons,ih];rfl
 | own _ ih=>rw [List.map_cons,ih];rfl
 | boxt _ ih=>rw [List.map_cons,ih,Lb.sub,subL_trees];rfl
 | box hd _ ih=>rw [List.map_cons,ih,Lb.sub,hd.eq];rfl
section
variable {g:Cfg} {d:Option (List Nat)} {i:Nat} {env:Env} {fr:Fr}
theorem OpR.callX {c:Operand} {args:Array Operand} {tys:Array TypeId} {f n:Nat} {pa qa argv:List SV} {xs:List AV} {us':List SV} {r v:SV} {ex ex' fr':Fr} (hcl:Cl g f us' [] r ex) (hcal:calleeS (rd env c)=some (f,pa,qa)) (hav:pa++args.toList.map (rd env)++qa=argv) (hx:toAVs fr (treeArgs (handL g f 0 argv) argv)=some xs) (hh:dedup [] (handRefs (handL g f 0 argv) argv)=[]) (hm:mixArgs (idxσ []) (handL g f 0 argv) argv xs=us')
  (hr:flatS r=false) (hd:drOf d i=false) (hq:rchs fr (treeArgs (handL g f 0 argv) argv)=[]) (hn:fr.length=n) (hv:r.sub (backσ [] n)=v) (he:XFr (backσ [] n) ex ex') (hf:LEq (fr++ex') fr'):OpR g d i env fr (.call ⟨.value c,args,tys⟩) v fr' []:=.call hcl hcal hav hx hh hm (by
 subst hv hn
 obtain rfl:=hf.eq
 obtain rfl:=he.eq
 unfold callRes
 rw [hr,hd,hq]
 rfl)
theorem OpR.callQ {c:Operand} {args:Array Operand} {tys:Array TypeId} {f h0:Nat} {ht:List Nat} (hs:List Nat) {pa qa argv:List SV} {xs:List AV} {us':List SV} {r x:SV} {bs bs' fr' fr2:Fr} {ks:List Nat} (hcl:Cl g f us' bs' r fr') (hdr:drOf d i=false) (hcal:calleeS (rd env c)=some (f,pa,qa)) (hav:pa++args.toList.map (rd env)++qa=argv) (hx:toAVs fr (treeArgs (handL g f 0 argv) argv)=some xs) (hh:dedup [] (handRefs (handL g f 0 argv) argv)=h0::ht)
  (hs0:close fr 4 (h0::ht)=hs) (hf:rchs fr (treeArgs (handL g f 0 argv) argv)=[]) (hg:getAll fr hs=some bs) (hc:closedFr hs bs=true) (hm:mixArgs (idxσ hs) (handL g f 0 argv) argv xs=us') (hb:bs.map (fun b=>unTch (b.sub (idxσ hs)))=bs') (hk:kindOk hs fr' fr=true) (hv:r.sub (backσ hs fr.length)=x) (hl:LEq (back hs fr fr') fr2) (hq:touched hs fr'=ks):OpR g d i env fr (.call ⟨.value c,args,tys⟩) x fr2 ks:=OpR.callP hs hcl hdr hcal hav hx hh hs0 hf hg hc hm hb hk (by rw [hv,hl.eq,hq])
end
section
variable {g:Cfg}
theorem Cl.ext {f:Nat} {xs:List AV} {args:List SV} {r:SV} {ex:Fr} (hok:g.ok f=false) (ha:args=xs.map .t) (he:g.ext f xs=some (r,ex)):Cl g f args [] r ex:=by
 subst ha
 refine ⟨1,?_⟩
 unfold callN
 have e:pursN (xs.map .t)=some xs:=pursN_map xs
 simp only [hok,e]
 exact he
end
end Go.Proofs.YtjdhnoffoknlnaaGreatDoor
namespace Go.Proofs.YtjdhnoffoknlnaaGreatDoor
open Go.RowKit
section
variable {g:Cfg} {d:Option (List Nat)} {i':Nat} {env:Env} {fr:Fr}
theorem OpR.cvi {src dst:Nat} {k:IntKind} {x:Operand} {m:Int} {ds:TypeDesc} (hx:rd env x=.t (.int k m)) (hs:g.P.underlying src=some ds) (hd:g.P.underlying dst=some (.int .i64)) (h : -9223372036854775808≤m∧m≤9223372036854775807):OpR g d i' env fr (.convert src dst x) (.t (.int .i64 m)) fr []:=.p rfl rfl (by
 unfold evP convS
 simp only [hx,hs,hd,IntWalk.i64_in _ h])
end
end Go.Proofs.YtjdhnoffoknlnaaGreatDoor
namespace Go.Proofs.YtjdhnoffoknlnaaGreatDoor
open Go.RowKit
section
variable {g:Cfg} {d:Option (List Nat)} {env:Env} {fr:Fr} {i':Nat}
theorem OpR.mks {t:Nat} {l c:Operand} {sl sc x:SV} {fr1 fr':Fr} (hs:∀ C:CallF,step g C d i' env fr (.makeSlice t l c)=evW g C (drOf d i') env fr (.makeSlice t l c)) (hl:rd env l=sl) (hc:rd env c=sc) (hd:drOf d i'=false) (hm:makeE g.P fr t sl sc=some (x,fr1,[])) (hf:LEq fr1 fr'):OpR g d i' env fr (.makeSlice t l c) x fr' []:=.r fun C=>by
 obtain rfl:=hf.eq
 subst hl hc
 rw [hs]
 unfold evW
 simp only [hm,hd]
end
end Go.Proofs.YtjdhnoffoknlnaaGreatDoor
namespace Go.Proofs.YtjdhnoffoknlnaaGreatDoor
open Go.RowKit
section
variable {g:Cfg} {d:Option (List Nat)} {env:Env} {fr:Fr} {i:Nat}
end
end Go.Proofs.YtjdhnoffoknlnaaGreatDoor
namespace Go.Proofs.YtjdhnoffoknlnaaGreatDoor
open Go.RowKit
theorem opq {g:Cfg} {d:Option (List Nat)} {i:Nat} {env:Env} {fr fr':Fr} {op:Op} {x:SV} {ks:List Nat} (h:OpR g d i env fr op x fr' ks:=by
 first
|((with_reducible apply OpR.mv);(conv=>lhs;whnf);try exact rfl)
|((with_reducible apply OpR.asg);(conv=>lhs;whnf);try exact rfl)
|((with_reducible apply OpR.pk_t);(case hc=>exact rfl);(case h=>(conv=>lhs;whnf);try exact rfl))
|((with_reducible apply OpR.pk_f);(case hc=>exact rfl);(case h=>(conv=>lhs;whnf);try exact rfl))
|((with_reducible apply OpR.inc);(case hx|hy=>exact rfl);(case h=>omega))
|((with_reducible apply OpR.add);(case hx|hy=>exact rfl);(case h=>omega))
|((with_reducible apply OpR.sub);(case hx|hy=>exact rfl);(case h=>omega))
|((with_reducible apply OpR.len);(case ha|hy|ht|hs=>exact rfl);(case hn=>first|exact List.length_map _|exact rfl))
|((with_reducible apply OpR.ix);(case he=>first|(with_reducible exact el0)|(with_reducible exact el1)|(with_reducible exact el2)|(with_reducible exact el3)|(with_reducible exact el4)|(with_reducible exact el5)|(with_reducible exact el6)|(with_reducible exact el7)|exact rfl);(case hx|hi=>exact rfl);(case hc=>assumption);(case hz=>exact rfl))
|((with_reducible apply OpR.ixt);(case he=>first|(with_reducible exact el0)|(with_reducible exact el1)|(with_reducible exact el2)|(with_reducible exact el3)|(with_reducible exact el4)|(with_reducible exact el5)|(with_reducible exact el6)|(with_reducible exact el7)|exact rfl);(case hx|hi=>exact rfl);(case hc=>assumption);(case hz=>exact rfl))
|((with_reducible apply OpR.ixm);(case he=>first|(with_reducible exact el0)|(with_reducible exact el1)|(with_reducible exact el2)|(with_reducible exact el3)|(with_reducible exact el4)|(with_reducible exact el5)|(with_reducible exact el6)|(with_reducible exact el7)|exact rfl);(case hx|hi=>exact rfl);(case h0=>omega);(case hc=>assumption);(case hz=>exact rfl))
|((with_reducible apply OpR.fal);(case hy|ho=>exact rfl);(case hn=>(conv=>lhs;whnf);try exact rfl))
|((with_reducible apply OpR.fae);(case hy|ho=>exact rfl);(case hn=>(conv=>lhs;whnf);try exact rfl))
|((with_reducible apply OpR.al);(case hs=>exact fun _=>rfl);(case hz=>exact rfl);(case hc=>(repeat' (first|exact LEq.nil|((first|with_reducible apply LEq.cons|apply LEq.cons);(case h=>(conv=>lhs;whnf);try exact rfl)))));(case hn=>(first|exact ln0|exact ln1|exact ln2|exact ln3|exact ln4|exact ln5|exact ln6|exact ln7|exact ln8|exact ln9|exact ln10|exact ln11|exact ln12|exact ln13|exact ln14));(case hf=>(repeat' (first|exact LEq.nil|((first|with_reducible apply LEq.cons|apply LEq.cons);(case h=>(conv=>lhs;whnf);try exact rfl))))))
|((with_reducible apply OpR.bxt);(case hs=>exact fun _=>rfl);(case hy=>exact rfl);(case ho=>kernel_rfl);(case hn=>(first|exact ln0|exact ln1|exact ln2|exact ln3|exact ln4|exact ln5|exact ln6|exact ln7|exact ln8|exact ln9|exact ln10|exact ln11|exact ln12|exact ln13|exact ln14));(case hf=>(repeat' (first|exact LEq.nil|((first|with_reducible apply LEq.cons|apply LEq.cons);(case h=>(conv=>lhs;whnf);try exact rfl))))))
|((with_reducible apply OpR.bxn);(case hs=>exact fun _=>rfl);(case hy|hc=>exact rfl);(case ho=>kernel_rfl);(case hd=>(repeat' (first|exact LEq.nil|((first|with_reducible apply LEq.cons|apply LEq.cons);(case h=>(conv=>lhs;whnf);try exact rfl)))));(case hn=>(first|exact ln0|exact ln1|exact ln2|exact ln3|exact ln4|exact ln5|exact ln6|exact ln7|exact ln8|exact ln9|exact ln10|exact ln11|exact ln12|exact ln13|exact ln14));(case hf=>(repeat' (first|exact LEq.nil|((first|with_reducible apply LEq.cons|apply LEq.cons);(case h=>(conv=>lhs;whnf);try exact rfl))))))
|((with_reducible apply OpR.stw);(case hs=>exact fun _=>rfl);(case ha|hy=>exact rfl);(case ht=>first|(with_reducible exact sz0)|(with_reducible exact sz1)|(with_reducible exact sz2)|(with_reducible exact sz3)|(with_reducible exact sz4)|(with_reducible exact sz5)|(with_reducible exact sz6)|(with_reducible exact sz7)|(with_reducible exact sz8)|(with_reducible exact sz9)|exact rfl);(case ho=>kernel_rfl);(case hl=>kernel_rfl);(case hb=>exact rfl);(case hc=>kernel_rfl);(case hf=>(repeat' (first|exact LEq.nil|((first|with_reducible apply LEq.cons|apply LEq.cons);(case h=>(conv=>lhs;whnf);try exact rfl))))))
|((with_reducible apply OpR.sto);(case hs=>exact fun _=>rfl);(case ha|hy=>exact rfl);(case ht=>first|(with_reducible exact sz0)|(with_reducible exact sz1)|(with_reducible exact sz2)|(with_reducible exact sz3)|(with_reducible exact sz4)|(with_reducible exact sz5)|(with_reducible exact sz6)|(with_reducible exact sz7)|(with_reducible exact sz8)|(with_reducible exact sz9)|exact rfl);(case hv=>exact rfl);(case ho=>kernel_rfl);(case hb=>exact rfl);(case hc=>kernel_rfl);(case hd=>(repeat' (first|exact LEq.nil|((first|with_reducible apply LEq.cons|apply LEq.cons);(case h=>(conv=>lhs;whnf);try exact rfl)))));(case hf=>(repeat' (first|exact LEq.nil|((first|with_reducible apply LEq.cons|apply LEq.cons);(case h=>(conv=>lhs;whnf);try exact rfl))))))
|((with_reducible apply OpR.ldw);(case hy=>exact rfl);(case ht=>first|(with_reducible exact sz0)|(with_reducible exact sz1)|(with_reducible exact sz2)|(with_reducible exact sz3)|(with_reducible exact sz4)|(with_reducible exact sz5)|(with_reducible exact sz6)|(with_reducible exact sz7)|(with_reducible exact sz8)|(with_reducible exact sz9));(case hb=>exact rfl);(case hl=>kernel_rfl))
|((with_reducible apply OpR.ldt);(case hy=>exact rfl);(case ht=>first|(with_reducible exact sz0)|(with_reducible exact sz1)|(with_reducible exact sz2)|(with_reducible exact sz3)|(with_reducible exact sz4)|(with_reducible exact sz5)|(with_reducible exact sz6)|(with_reducible exact sz7)|(with_reducible exact sz8)|(with_reducible exact sz9));(case hb=>exact rfl);(case hl=>kernel_rfl);(case hv=>exact rfl);(case hx=>(repeat' (first|exact Prs.nil|(apply Prs.cons)))))
|((with_reducible apply OpR.lda);(case hy=>exact rfl);(case ht=>first|(with_reducible exact sz0)|(with_reducible exact sz1)|(with_reducible exact sz2)|(with_reducible exact sz3)|(with_reducible exact sz4)|(with_reducible exact sz5)|(with_reducible exact sz6)|(with_reducible exact sz7)|(with_reducible exact sz8)|(with_reducible exact sz9));(case hb=>exact rfl);(case hl=>kernel_rfl);(case hv=>(repeat' (first|exact LEq.nil|((first|with_reducible apply LEq.cons|apply LEq.cons);(case h=>(conv=>lhs;whnf);try exact rfl)))));(case hx=>(conv=>lhs;whnf);try exact rfl))
|((with_reducible apply OpR.ads);(case hx|hy=>exact rfl);(case h=>first|assumption|omega))
|((with_reducible apply OpR.bs0);(case hs=>exact fun _=>rfl);(case hr=>first|(with_reducible exact rw0)|(with_reducible exact rw1)|(with_reducible exact rw2)|(with_reducible exact rw3)|(with_reducible exact rw4)|exact rfl);(case hn=>(first|exact ln0|exact ln1|exact ln2|exact ln3|exact ln4|exact ln5|exact ln6|exact ln7|exact ln8|exact ln9|exact ln10|exact ln11|exact ln12|exact ln13|exact ln14));(case hf=>(repeat' (first|exact LEq.nil|((first|with_reducible apply LEq.cons|apply LEq.cons);(case h=>(conv=>lhs;whnf);try exact rfl))))))
|((with_reducible apply OpR.ixr);(case he=>first|(with_reducible exact el0)|(with_reducible exact el1)|(with_reducible exact el2)|(with_reducible exact el3)|(with_reducible exact el4)|(with_reducible exact el5)|(with_reducible exact el6)|(with_reducible exact el7)|exact rfl);(case hx|hi|hb=>exact rfl);(case hq=>first|assumption|omega))
|((with_reducible apply OpR.ixrm);(case he=>first|(with_reducible exact el0)|(with_reducible exact el1)|(with_reducible exact el2)|(with_reducible exact el3)|(with_reducible exact el4)|(with_reducible exact el5)|(with_reducible exact el6)|(with_reducible exact el7)|exact rfl);(case hx|hi|hb=>exact rfl);(case h0=>first|assumption|omega);(case hq=>first|assumption|omega))
|((with_reducible apply OpR.ldi);(case hy|ht|hb=>exact rfl);(case hk=>assumption))
|((with_reducible apply OpR.lds);(case hy=>exact rfl);(case ht=>first|(with_reducible exact sz0)|(with_reducible exact sz1)|(with_reducible exact sz2)|(with_reducible exact sz3)|(with_reducible exact sz4)|(with_reducible exact sz5)|(with_reducible exact sz6)|(with_reducible exact sz7)|(with_reducible exact sz8)|(with_reducible exact sz9));(case hb=>exact rfl);(case hk=>assumption);(case hl=>kernel_rfl);(case hv=>(repeat' (first|exact LEq.nil|((first|with_reducible apply LEq.cons|apply LEq.cons);(case h=>(conv=>lhs;whnf);try exact rfl))))))
|((with_reducible apply OpR.ldw);(case hy=>exact rfl);(case ht=>first|(with_reducible exact sz10)|(with_reducible exact sz11)|(with_reducible exact sz12)|(with_reducible exact sz13)|(with_reducible exact sz14)|(with_reducible exact sz15)|(with_reducible exact sz16)|(with_reducible exact sz17)|(with_reducible exact sz18)|(with_reducible exact sz19)|(with_reducible exact sz20)|(with_reducible exact sz21)|(with_reducible exact sz22)|(with_reducible exact sz23)|(with_reducible exact sz24)|(with_reducible exact sz25)|(with_reducible exact sz26)|(with_reducible exact sz27)|(with_reducible exact sz28)|(with_reducible exact sz29)|(with_reducible exact sz30)|(with_reducible exact sz31)|(with_reducible exact sz32)|(with_reducible exact sz33)|(with_reducible exact sz34));(case hb=>exact rfl);(case hl=>kernel_rfl))
|((with_reducible apply OpR.ldt);(case hy=>exact rfl);(case ht=>first|(with_reducible exact sz10)|(with_reducible exact sz11)|(with_reducible exact sz12)|(with_reducible exact sz13)|(with_reducible exact sz14)|(with_reducible exact sz15)|(with_reducible exact sz16)|(with_reducible exact sz17)|(with_reducible exact sz18)|(with_reducible exact sz19)|(with_reducible exact sz20)|(with_reducible exact sz21)|(with_reducible exact sz22)|(with_reducible exact sz23)|(with_reducible exact sz24)|(with_reducible exact sz25)|(with_reducible exact sz26)|(with_reducible exact sz27)|(with_reducible exact sz28)|(with_reducible exact sz29)|(with_reducible exact sz30)|(with_reducible exact sz31)|(with_reducible exact sz32)|(with_reducible exact sz33)|(with_reducible exact sz34));(case hb=>exact rfl);(case hl=>kernel_rfl);(case hv=>exact rfl);(case hx=>(repeat' (first|exact Prs.nil|(apply Prs.cons)))))
|((with_reducible apply OpR.lda);(case hy=>exact rfl);(case ht=>first|(with_reducible exact sz10)|(with_reducible exact sz11)|(with_reducible exact sz12)|(with_reducible exact sz13)|(with_reducible exact sz14)|(with_reducible exact sz15)|(with_reducible exact sz16)|(with_reducible exact sz17)|(with_reducible exact sz18)|(with_reducible exact sz19)|(with_reducible exact sz20)|(with_reducible exact sz21)|(with_reducible exact sz22)|(with_reducible exact sz23)|(with_reducible exact sz24)|(with_reducible exact sz25)|(with_reducible exact sz26)|(with_reducible exact sz27)|(with_reducible exact sz28)|(with_reducible exact sz29)|(with_reducible exact sz30)|(with_reducible exact sz31)|(with_reducible exact sz32)|(with_reducible exact sz33)|(with_reducible exact sz34));(case hb=>exact rfl);(case hl=>kernel_rfl);(case hv=>(repeat' (first|exact LEq.nil|((first|with_reducible apply LEq.cons|apply LEq.cons);(case h=>(conv=>lhs;whnf);try exact rfl)))));(case hx=>(conv=>lhs;whnf);try exact rfl))
|((with_reducible apply OpR.lds);(case hy=>exact rfl);(case ht=>first|(with_reducible exact sz10)|(with_reducible exact sz11)|(with_reducible exact sz12)|(with_reducible exact sz13)|(with_reducible exact sz14)|(with_reducible exact sz15)|(with_reducible exact sz16)|(with_reducible exact sz17)|(with_reducible exact sz18)|(with_reducible exact sz19)|(with_reducible exact sz20)|(with_reducible exact sz21)|(with_reducible exact sz22)|(with_reducible exact sz23)|(with_reducible exact sz24)|(with_reducible exact sz25)|(with_reducible exact sz26)|(with_reducible exact sz27)|(with_reducible exact sz28)|(with_reducible exact sz29)|(with_reducible exact sz30)|(with_reducible exact sz31)|(with_reducible exact sz32)|(with_reducible exact sz33)|(with_reducible exact sz34));(case hb=>exact rfl);(case hk=>assumption);(case hl=>kernel_rfl);(case hv=>(repeat' (first|exact LEq.nil|((first|with_reducible apply LEq.cons|apply LEq.cons);(case h=>(conv=>lhs;whnf);try exact rfl))))))
|((with_reducible apply OpR.ldr);(case ht|hy|hb=>exact rfl);(case hk=>assumption);(case hj=>exact rfl))
|exact OpR.r fun _=>rfl
 ):OpR g d i env fr op x fr' ks:=h
end Go.Proofs.YtjdhnoffoknlnaaGreatDoor
namespace Go.Proofs.YtjdhnoffoknlnaaGreatDoor
open Go.RowKit
theorem leq {α:Type} {a b:List α} (h:LEq a b:=by repeat' (first|exact LEq.nil|((first|with_reducible apply LEq.cons|apply LEq.cons);(case h=>(conv=>lhs;whnf);try exact rfl)))):LEq a b:=h
theorem slt {e:Env} {fr:Fr} {n:Nat} {s:List Nat} {l:List (Nat×SV)} (h:Slots e fr n s l:=by repeat' (first|exact Slots.nil|(apply Slots.cons;(case hv=>(conv=>lhs;whnf);try exact rfl)))):Slots e fr n s l:=h
theorem lnx {fr:Fr} {n:Nat} (h:fr.length=n:=by first|exact ln0|exact ln1|exact ln2|exact ln3|exact ln4|exact ln5|exact ln6|exact ln7|exact ln8|exact ln9|exact ln10|exact ln11|exact ln12|exact ln13|exact ln14):fr.length=n:=h
theorem xfr {σ:Nat→Option Nat} {a b:Fr} (h:XFr σ a b:=by repeat' (first|exact XFr.nil|(with_reducible apply XFr.row)|(with_reducible apply XFr.boxt)|(with_reducible apply XFr.own)|((apply XFr.box);(case hd=>(repeat' (first|exact LEq.nil|((first|with_reducible apply LEq.cons|apply LEq.cons);(case h=>(conv=>lhs;whnf);try exact rfl)))))))):XFr σ a b:=h
theorem kfr {ks:List Nat} {a b:Fr} (h:KFr ks a b:=by repeat' (first|exact KFr.nil|(with_reducible apply KFr.row)|(with_reducible apply KFr.boxt)|(with_reducible apply KFr.own)|((apply KFr.box);(case hd=>(repeat' (first|exact LEq.nil|((first|with_reducible apply LEq.cons|apply LEq.cons);(case h=>(conv=>lhs;whnf);try exact rfl)))))))):KFr ks a b:=h
theorem fao {p:Prop} (h:p:=by first|assumption|omega):p:=h
theorem oqF {g:Cfg} {d:Option (List Nat)} {i:Nat} {env:Env} {fr:Fr} {c:Operand} {args:Array Operand} {tys:Array TypeId} {f:Nat} {pa qa argv:List SV} {xs:List AV} {us':List SV} {r:SV} {ex:Fr} (hcl:Cl g f us' [] r ex) (hcal:calleeS (rd env c)=some (f,pa,qa):=by exact rfl) (hav:pa++args.toList.map (rd env)++qa=argv:=by exact rfl) (hx:toAVs fr (treeArgs (handL g f 0 argv) argv)=some xs:=by exact rfl) (hh:dedup [] (handRefs (handL g f 0 argv) argv)=[]:=by exact rfl) (hm:mixArgs (idxσ []) (handL g f 0 argv) argv xs=us':=by exact rfl) (hr:flatS r=true:=by exact rfl):OpR g d i env fr (.call ⟨.value c,args,tys⟩) r fr []:=OpR.callF (hcl:=hcl) (hcal:=hcal) (hav:=hav) (hx:=hx) (hh:=hh) (hm:=hm) (hr:=hr)
theorem oqN {g:Cfg} {d:Option (List Nat)} {i:Nat} {env:Env} {fr:Fr} {c:Operand} {args:Array Operand} {tys:Array TypeId} {f:Nat} {pa qa argv:List SV} {xs:List AV} {us':List SV} {r:SV} (hcl:Cl g f us' [] r []) (hcal:calleeS (rd env c)=some (f,pa,qa):=by exact rfl) (hav:pa++args.toList.map (rd env)++qa=argv:=by exact rfl) (hx:toAVs fr (treeArgs (handL g f 0 argv) argv)=some xs:=by exact rfl) (hh:dedup [] (handRefs (handL g f 0 argv) argv)=[]:=by exact rfl) (hm:mixArgs (idxσ []) (handL g f 0 argv) argv xs=us':=by exact rfl) (hn:r.refs=[]:=by exact rfl) (hr:rchs fr (treeArgs (handL g f 0 argv) argv)=[]:=by exact rfl):OpR g d i env fr (.call ⟨.value c,args,tys⟩) r fr []:=OpR.callN (hcl:=hcl) (hcal:=hcal) (hav:=hav) (hx:=hx) (hh:=hh) (hm:=hm) (hn:=hn) (hr:=hr)
theorem oqC {g:Cfg} {d:Option (List Nat)} {i:Nat} {env:Env} {fr:Fr} {c:Operand} {args:Array Operand} {tys:Array TypeId} {f:Nat} {pa qa argv:List SV} {xs:List AV} {as':List SV} {r x:SV} {ex fr':Fr} (hcl:Cl g f as' [] r ex) (hcal:calleeS (rd env c)=some (f,pa,qa):=by exact rfl) (hav:pa++args.toList.map (rd env)++qa=argv:=by exact rfl) (hx:toAVs fr (treeArgs (handL g f 0 argv) argv)=some xs:=by exact rfl) (hh:dedup [] (handRefs (handL g f 0 argv) argv)=[]:=by exact rfl) (hm:mixArgs (idxσ []) (handL g f 0 argv) argv xs=as':=by exact rfl) (hr:callRes fr (drOf d i) (rchs fr (treeArgs (handL g f 0 argv) argv)) r ex=some (x,fr',[]):=by exact rfl):OpR g d i env fr (.call ⟨.value c,args,tys⟩) x fr' []:=OpR.call (hcl:=hcl) (hcal:=hcal) (hav:=hav) (hx:=hx) (hh:=hh) (hm:=hm) (hr:=hr)
theorem oqX {g:Cfg} {d:Option (List Nat)} {i:Nat} {env:Env} {fr:Fr} {c:Operand} {args:Array Operand} {tys:Array TypeId} {f n:Nat} {pa qa argv:List SV} {xs:List AV} {us':List SV} {r v:SV} {ex ex' fr':Fr} (hcl:Cl g f us' [] r ex) (hcal:calleeS (rd env c)=some (f,pa,qa):=by exact rfl) (hav:pa++args.toList.map (rd env)++qa=argv:=by exact rfl) (hx:toAVs fr (treeArgs (handL g f 0 argv) argv)=some xs:=by exact rfl) (hh:dedup [] (handRefs (handL g f 0 argv) argv)=[]:=by exact rfl) (hm:mixArgs (idxσ []) (handL g f 0 argv) argv xs=us':=by exact rfl) (hr:flatS r=false:=by exact rfl) (hd:drOf d i=false:=by exact rfl) (hq:rchs fr (treeArgs (handL g f 0 argv) argv)=[]:=by kernel_rfl) (hn:fr.length=n:=by (first|exact ln0|exact ln1|exact ln2|exact ln3|exact ln4|exact ln5|exact ln6|exact ln7|exact ln8|exact ln9|exact ln10|exact ln11|exact ln12|exact ln13|exact ln14)) (hv:r.sub (backσ [] n)=v:=by (conv=>lhs;whnf);try exact rfl) (he:XFr (backσ [] n) ex ex':=by (repeat' (first|exact XFr.nil|(with_reducible apply XFr.row)|(with_reducible apply XFr.boxt)|(with_reducible apply XFr.own)|((apply XFr.box);(case hd=>(repeat' (first|exact LEq.nil|((first|with_reducible apply LEq.cons|apply LEq.cons);(case h=>(conv=>lhs;whnf);try exact rfl))))))))) (hf:LEq (fr++ex') fr':=by (repeat' (first|exact LEq.nil|((first|with_reducible apply LEq.cons|apply LEq.cons);(case h=>(conv=>lhs;whnf);try exact rfl))))):OpR g d i env fr (.call ⟨.value c,args,tys⟩) v fr' []:=OpR.callX (hcl:=hcl) (hcal:=hcal) (hav:=hav) (hx:=hx) (hh:=hh) (hm:=hm) (hr:=hr) (hd:=hd) (hq:=hq) (hn:=hn) (hv:=hv) (he:=he) (hf:=hf)
theorem oqQ {g:Cfg} {d:Option (List Nat)} {i:Nat} {env:Env} {fr:Fr} {c:Operand} {args:Array Operand} {tys:Array TypeId} {f h0:Nat} {ht:List Nat} (hs:List Nat) {pa qa argv:List SV} {xs:List AV} {us':List SV} {r x:SV} {bs bs' fr' fr2:Fr} {ks:List Nat} (hcl:Cl g f us' bs' r fr') (hdr:drOf d i=false:=by exact rfl) (hcal:calleeS (rd env c)=some (f,pa,qa):=by exact rfl) (hav:pa++args.toList.map (rd env)++qa=argv:=by exact rfl) (hx:toAVs fr (treeArgs (handL g f 0 argv) argv)=some xs:=by exact rfl) (hh:dedup [] (handRefs (handL g f 0 argv) argv)=h0::ht:=by exact rfl) (hs0:close fr 4 (h0::ht)=hs:=by kernel_rfl) (hf:rchs fr (treeArgs (handL g f 0 argv) argv)=[]:=by kernel_rfl) (hg:getAll fr hs=some bs:=by exact rfl) (hc:closedFr hs bs=true:=by kernel_rfl) (hm:mixArgs (idxσ hs) (handL g f 0 argv) argv xs=us':=by exact rfl) (hb:bs.map (fun b=>unTch (b.sub (idxσ hs)))=bs':=by exact rfl) (hk:kindOk hs fr' fr=true:=by exact rfl) (hv:r.sub (backσ hs fr.length)=x:=by (conv=>lhs;whnf);try exact rfl) (hl:LEq (back hs fr fr') fr2:=by (repeat' (first|exact LEq.nil|((first|with_reducible apply LEq.cons|apply LEq.cons);(case h=>(conv=>lhs;whnf);try exact rfl))))) (hq:touched hs fr'=ks:=by exact rfl):OpR g d i env fr (.call ⟨.value c,args,tys⟩) x fr2 ks:=OpR.callQ (hs:=hs) (hcl:=hcl) (hdr:=hdr) (hcal:=hcal) (hav:=hav) (hx:=hx) (hh:=hh) (hs0:=hs0) (hf:=hf) (hg:=hg) (hc:=hc) (hm:=hm) (hb:=hb) (hk:=hk) (hv:=hv) (hl:=hl) (hq:=hq)
theorem oqP {g:Cfg} {d:Option (List Nat)} {i':Nat} {env:Env} {fr:Fr} {c:Operand} {args:Array Operand} {tys:Array TypeId} {f h0:Nat} {ht:List Nat} (hs:List Nat) {pa qa argv:List SV} {xs:List AV} {as':List SV} {r x:SV} {bs bs' fr' fr2:Fr} {ks:List Nat} (hcl:Cl g f as' bs' r fr') (hdr:drOf d i'=false:=by exact rfl) (hcal:calleeS (rd env c)=some (f,pa,qa):=by exact rfl) (hav:pa++args.toList.map (rd env)++qa=argv:=by exact rfl) (hx:toAVs fr (treeArgs (handL g f 0 argv) argv)=some xs:=by exact rfl) (hh:dedup [] (handRefs (handL g f 0 argv) argv)=h0::ht:=by exact rfl) (hs0:close fr 4 (h0::ht)=hs:=by kernel_rfl) (hf:rchs fr (treeArgs (handL g f 0 argv) argv)=[]:=by kernel_rfl) (hg:getAll fr hs=some bs:=by exact rfl) (hc:closedFr hs bs=true:=by kernel_rfl) (hm:mixArgs (idxσ hs) (handL g f 0 argv) argv xs=as':=by exact rfl) (hb:bs.map (fun b=>unTch (b.sub (idxσ hs)))=bs':=by exact rfl) (hk:kindOk hs fr' fr=true:=by exact rfl) (hr:(r.sub (backσ hs fr.length),back hs fr fr',touched hs fr')=(x,fr2,ks):=by exact rfl):OpR g d i' env fr (.call ⟨.value c,args,tys⟩) x fr2 ks:=OpR.callP (hs:=hs) (hcl:=hcl) (hdr:=hdr) (hcal:=hcal) (hav:=hav) (hx:=hx) (hh:=hh) (hs0:=hs0) (hf:=hf) (hg:=hg) (hc:=hc) (hm:=hm) (hb:=hb) (hk:=hk) (hr:=hr)
end Go.Proofs.YtjdhnoffoknlnaaGreatDoor
namespace Go.Proofs.YtjdhnoffoknlnaaGreatDoor
open Go.RowKit
inductive Lft (q:Prop):Prop where
 | mk (h:q)
theorem Lft.out {q:Prop} (h:Lft q):q:=by cases h with|mk h=>exact h
end Go.Proofs.YtjdhnoffoknlnaaGreatDoor
namespace Go.Proofs.YtjdhnoffoknlnaaGreatDoor
open Go.RowKit Go.ChangeShapes Go.WideShapes Go.Deep
def layF (P:Program):Nat→List Field→Option Nat
 | off,[]=>some off
 | off,f::fs=>match Nat.beq f.offset off with
  | true=>layF P (off+P.cellsOf f.type) fs
  | false=>none
def tyOk (P:Program):Nat→TypeId→Bool
 | 0,_=>false
 | n+1,t=>match P.underlying t with
  | some (.int _)=>true
  | some .bool=>true
  | some .string=>true
  | some (.slice e)=>Nat.ble 1 (P.cellsOf e) && (Nat.ble 8 (P.bytesOf e) && tyOk P n e)
  | some (.struct fs)=>(match layF P 0 fs.toList with
   | some k=>Nat.beq k (P.cellsOf t)
   | none=>false) && fs.toList.all fun f=>tyOk P n f.type
  | _=>false
def ShpF (R:TypeId→List AV→Prop):List Field→List AV→Prop
 | [],xs=>xs=[]
 | f::fs,xs=>∃ ys zs,xs=ys++zs∧R f.type ys∧ShpF R fs zs
def Shp (P:Program):Nat→TypeId→List AV→Prop
 | 0,_,_=>False
 | n+1,t,xs=>match P.underlying t with
  | some (.int k)=>∃ m,xs=[.int k m]∧(Lit.int k m).wf=true
  | some .bool=>∃ b,xs=[.bool b]
  | some .string=>∃ s,xs=[.str s]∧s.size≤maxLen
  | some (.slice e)=>∃ es,xs=[.arr es]∧es.length≤17592186044416∧∀ cs∈es,Shp P n e cs
  | some (.struct fs)=>ShpF (Shp P n) fs.toList xs
  | _=>False
def Sml (l:List Nat):Prop:=∀ n∈l,n≤reachBytes
theorem Sml.app {a b:List Nat} (h:Sml (a++b)):Sml a∧Sml b:=⟨fun n hn=>h n (by simp [hn]),fun n hn=>h n (by simp [hn])⟩
section
variable {H:Type} {enc:TypeId×Value→H} {P:Program} {w:World}
theorem sml_all {e:TypeId}:∀ {l:List (DataW H)},Sml (DataW.weightsAll P e l)→∀ d∈l,Sml (d.weights P e)
 | [],_,d,hd=>by cases hd
 | x::l,h,d,hd=>by
  have h':=Sml.app h
  rcases List.mem_cons.1 hd with rfl|hd
  ·exact h'.1
  ·exact sml_all h'.2 d hd
theorem sml_each:∀ {ts:List TypeId} {l:List (DataW H)},Sml (DataW.weightsEach P ts l)→∀ (i:Nat) (t:TypeId) (d:DataW H),ts[i]?=some t→l[i]?=some d→Sml (d.weights P t)
 | [],_,_,_,_,_,ht,_=>by simp at ht
 | _::_,[],_,_,_,_,_,hd=>by simp at hd
 | t::ts,x::l,h,i,u,d,ht,hd=>by
  have h':=Sml.app h
  cases i with
  | zero=>simp at ht hd;subst ht hd;exact h'.1
  | succ i=>exact sml_each h'.2 i u d (by simpa using ht) (by simpa using hd)
def Vs (w:World) (xs:List AV) (cs:List Value):Prop:=xs.length=cs.length∧∀ (j:Nat) (x:AV) (u:Value),xs[j]?=some x→cs[j]?=some u→VR (fun _=>True) w x u
theorem Vs.one {x:AV} {u:Value} (h:VR (fun _=>True) w x u):Vs w [x] [u]:=⟨rfl,fun j y v hy hv=>by
 cases j with
 | zero=>simp at hy hv;subst hy hv;exact h
 | succ j=>simp at hy⟩
theorem Vs.app {xs ys:List AV} {cs ds:List Value} (h1:Vs w xs cs) (h2:Vs w ys ds):Vs w (xs++ys) (cs++ds):=by
 refine ⟨by simp [h1.1,h2.1],fun j x u hx hu=>?_⟩
 rcases Nat.lt_or_ge j xs.length with hj|hj
 ·rw [List.getElem?_append_left hj] at hx
  rw [List.getElem?_append_left (by rw [← h1.1];exact hj)] at hu
  exact h1.2 j x u hx hu
 ·rw [List.getElem?_append_right hj] at hx
  rw [List.getElem?_append_right (by rw [← h1.1];exact hj),← h1.1] at hu
  exact h2.2 _ x u hx hu
theorem shp_fields {R:TypeId→List AV→Prop} {cs:List Value} {tot:Nat} (htot:cs.length=tot):∀ (fs:List Field) (off:Nat),off≤tot→layF P off fs=some tot→
  (∀ f∈fs,∀ c,(cs.drop f.offset).take (P.cellsOf f.type)=c→c.length=P.cellsOf f.type→∃ ys,R f.type ys∧Vs w ys c)→∃ xs,ShpF R fs xs∧Vs w xs (cs.drop off)
 | [],off,ho,hl,_=>by
  unfold layF at hl
  cases hl
  refine ⟨[],rfl,?_,?_⟩
  ·simp [htot]
  ·intro j x u hx;simp at hx
 | f::fs,off,ho,hl,h=>by
  unfold layF at hl
  split at hl
  ·rename_i hoff
   have hoff:f.offset=off:=by simpa using hoff
   have hmono:∀ (fs:List Field) (o:Nat),layF P o fs=some tot→o≤tot:=by
    intro fs
    induction fs with
    | nil=>intro o h;unfold layF at h;cases h;exact Nat.le_refl _
    | cons g gs ih=>
     intro o h
     unfold layF at h
     split at h
     ·have:=ih _ h;omega
     ·cases h
   have h1:=hmono _ _ hl
   obtain ⟨zs,hz,hzv⟩:=shp_fields htot fs (off+P.cellsOf f.type) h1 hl fun g hg=>h g (List.mem_cons_of_mem _ hg)
   obtain ⟨ys,hy,hyv⟩:=h f List.mem_cons_self _ rfl (by rw [List.length_take,List.length_drop,hoff];omega)
   refine ⟨ys++zs,⟨ys,zs,rfl,hy,hz⟩,?_⟩
   have:=hyv.app hzv
   rw [hoff] at this
   have e:(cs.drop off).take (P.cellsOf f.type)++cs.drop (off+P.cellsOf f.type)=cs.drop off:=by
    rw [← List.drop_drop,List.take_append_drop]
   rwa [e] at this
  ·cases hl
theorem tree_of_trod:∀ (n:Nat) (t:TypeId),tyOk P n t=true→∀ (fuel:Nat) (cs:List Value) (d:DataW H) (ps:List MemPlace),DataW.trod enc P w 0 (fun _=>true) true fuel t cs=some (d,ps)→Sml (d.weights P t)→∃ xs,Shp P n t xs∧Vs w xs cs
 | 0,t,h=>by unfold tyOk at h;cases h
 | n+1,t,h=>by
  intro fuel cs d ps ht hw
  unfold tyOk at h
  unfold Shp
  split at h
  ·rename_i k hu
   try simp only [hu]
   obtain ⟨m,rfl,_,hwf⟩:=DataW.trod_int hu ht
   exact ⟨_,⟨m,rfl,hwf⟩,.one (.int k m)⟩
  ·rename_i hu
   try simp only [hu]
   obtain ⟨b,rfl,_⟩:=DataW.trod_bool hu ht
   exact ⟨_,⟨b,rfl⟩,.one (.bool b)⟩
  ·rename_i hu
   try simp only [hu]
   obtain ⟨s,rfl,_,hs⟩:=DataW.trod_string hu ht
   exact ⟨_,⟨s,rfl,hs⟩,.one (.str s)⟩
  ·rename_i e hu
   try simp only [hu]
   rw [Bool.and_eq_true,Bool.and_eq_true] at h
   obtain ⟨hpos,hby,hty⟩:=h
   have hpos:1≤P.cellsOf e:=by simpa using hpos
   have hby:8≤P.bytesOf e:=by simpa using hby
   rcases open_slice hu ht with ⟨rfl,_⟩|⟨a,len,cap,m,k,D,Pl,rfl,_,hl,_,hm,hx,hi⟩
   ·exact ⟨_,⟨[],rfl,by simp,fun cs hcs=>by cases hcs⟩,.one (.arr0 none 0)⟩
   ·simp only [if_true] at hm
    subst hm
    simp only [Prod.mk.injEq] at hx
    rw [hx.1] at hw;clear hx ht
    rw [DataW.weights] at hw;simp only [hu] at hw
    have hcap:m * 8≤reachBytes:=by
     have:=hw _ (List.mem_cons_self)
     simp only [List.length_map,List.length_range] at this
     have h2:m * 8≤m * P.bytesOf e:=Nat.mul_le_mul_left _ hby
     have h3:len+(m - len)=m:=by omega
     rw [h3] at this
     omega
    have hwe:∀ i,i < len→Sml ((D i).weights P e):=by
     intro i hi'
     have h2:Sml (DataW.weightsAll P e ((List.range len).map D)):=fun n hn=>hw n (List.mem_cons_of_mem _ (List.mem_append_left _ hn))
     exact sml_all h2 _ (List.mem_map_of_mem (List.mem_range.2 hi'))
    have hev:∀ i,i < len→∃ z:List Value×List AV,w.cells? 0 (a.add (i * P.cellsOf e)) (P.cellsOf e)=some z.1∧Shp P n e z.2∧Vs w z.2 z.1:=by
     intro i hi'
     obtain ⟨cs',hc,ht'⟩:=hi i (by omega)
     obtain ⟨ys,h1,h2⟩:=tree_of_trod n e hty _ _ _ _ ht' (hwe i hi')
     exact ⟨(cs',ys),hc,h1,h2⟩
    obtain ⟨f,hf⟩:=choose_lt hev
    have hcell:∀ i,i < len→(f i).1.length=P.cellsOf e∧∀ (j:Nat),j < P.cellsOf e→w.cell? ((a.add (i * P.cellsOf e)).add j)=some ((f i).1.getD j undef):=by
     intro i hi'
     obtain ⟨_,hcl,hat⟩:=World.cells?_some (hf i hi').1
     refine ⟨hcl,fun j hj=>?_⟩
     rw [hat j hj,List.getD_eq_getElem?_getD,List.getElem?_eq_getElem (by omega)]
     rfl
    have hlen:((List.range len).map fun i=>(f i).2).length=len:=by simp
    have hes:∀ (k:Nat) (cs:List AV),((List.range len).map fun i=>(f i).2)[k]?=some cs→k < len∧cs=(f k).2:=by
     intro k cs hk
     have hkl:k < len:=by have:=lt_of_get hk;simpa using this
     rw [List.getElem?_map,List.getElem?_range hkl] at hk
     exact ⟨hkl,by simpa using hk.symm⟩
    refine ⟨[.arr ((List.range len).map fun i=>(f i).2)],⟨_,rfl,?_,?_⟩,.one ?_⟩
    ·rw [hlen];unfold reachBytes at hcap;omega
    ·intro cs hcs
     obtain ⟨i,hi',rfl⟩:=List.mem_map.1 hcs
     exact (hf i (List.mem_range.1 hi')).2.1
    ·rcases Nat.eq_zero_or_pos len with h0|h0
     ·subst h0;exact .arr0 _ _
     ·have hc0:=(hcell 0 h0).2 0 (by omega)
      obtain ⟨b,o,sp⟩:=a
      have hs:sp=none:=by simpa [Addr.add] using World.cell?_spot hc0
      subst hs
      have hadd:∀ i j:Nat,((⟨b,o,none⟩:Addr).add i).add j=⟨b,o+(i+j),none⟩:=by
       intro i j
       unfold Addr.add
       by_cases hi0:i=0 <;> by_cases hj0:j=0 <;> simp [hi0,hj0,Nat.add_assoc]
      have hb:b < w.heap.size:=by
       have:=hadd 0 0
       rw [Nat.zero_mul,this] at hc0
       exact World.block_lt_of_cell? w _ hc0
      have:=VR.arr (M:=fun _=>True) (w:=w) b o m (P.cellsOf e) ((List.range len).map fun i=>(f i).2) (fun k j=>(f k).1.getD j undef) (by intro h;rw [h] at hlen;simp at hlen;omega) (by rw [hlen];unfold reachBytes at hcap;omega) (by rw [hlen];exact hl) hb trivial
       (fun k cs hk=>by
        obtain ⟨hkl,rfl⟩:=hes k cs hk
        rw [(hf k hkl).2.2.1,(hcell k hkl).1])
       (fun k j hk hj=>by
        rw [hlen] at hk
        rw [← hadd]
        exact (hcell k hk).2 j hj)
       (fun k j cs x hk hj=>by
        obtain ⟨hkl,rfl⟩:=hes k cs hk
        have hj':j < (f k).1.length:=by rw [← (hf k hkl).2.2.1];exact lt_of_get hj
        refine (hf k hkl).2.2.2 j x _ hj ?_
        rw [List.getD_eq_getElem?_getD,List.getElem?_eq_getElem hj']
        rfl)
      rw [hlen] at this
      exact this
  ·rename_i fs hu
   try simp only [hu]
   rw [Bool.and_eq_true] at h
   obtain ⟨hlay,hall⟩:=h
   obtain ⟨xs,k,_,hx,hcl,hxl,hf⟩:=DataW.trod_struct hu ht
   simp only [Prod.mk.injEq] at hx
   rw [hx.1] at hw
   rw [DataW.weights] at hw;simp only [hu] at hw
   split at hlay
   ·rename_i tot htot
    have htot':tot=P.cellsOf t:=by simpa using hlay
    obtain ⟨ys,h1,h2⟩:=shp_fields (w:=w) (R:=Shp P n) (cs:=cs) (tot:=tot) (by rw [hcl,htot']) fs.toList 0 (Nat.zero_le _) htot (fun f hfm c hc hcl'=>by
     obtain ⟨i,hi,hfi⟩:=List.mem_iff_getElem.1 hfm
     have hfi':fs[i]?=some f:=by
      rw [← hfi]
      simp at hi
      simp [hi]
     have hxi:=hf i f hfi'
     have hil:i < xs.length:=by rw [hxl];simpa using hi
     rw [List.getElem?_eq_getElem hil,hc] at hxi
     have hty:tyOk P n f.type=true:=List.all_eq_true.1 hall f hfm
     refine tree_of_trod n f.type hty _ _ _ _ hxi ?_
     refine sml_each hw i f.type _ ?_ ?_
     ·rw [List.getElem?_map]
      simp [hfi']
     ·rw [List.getElem?_map,List.getElem?_eq_getElem hil]
      rfl)
    exact ⟨ys,h1,by simpa using h2⟩
   ·cases hlay
  ·cases h
end
end Go.Proofs.YtjdhnoffoknlnaaGreatDoor
namespace Go.Proofs.YtjdhnoffoknlnaaGreatDoor
open Go.RowKit Go.ChangeShapes Go.WideShapes Go.Deep
section
variable {H:Type} {enc:TypeId×Value→H} {P:Program}
theorem post_of_below {f:Func} {s:ChangeSpec} {apart fresh handsOn again:Bool} {W W':World} {args:Array Value} {v:Value} {ds gs:List (DataW H)} {before pa pv:List MemPlace}
  (hW:DataW.Whole enc P f.params.toList s.vars apart W args.toList ds gs before)
  (hres:∀ (b:Nat) (sp:Nat→Bool) (hd:Bool),DataW.TrodAll enc P W' b sp hd f.resultTypes.toList (v.resultList f.resultTypes.size) (s.fn H (ds++gs)).results [])
  (hargs:∀ sp:Nat→Bool,(∀ p∈before,sp p.block=true)→DataW.TrodAll enc P W' 0 sp true f.params.toList args.toList (s.fn H (ds++gs)).args pa)
  (hvars:∀ sp:Nat→Bool,(∀ p∈before,sp p.block=true)→DataW.TrodVars enc P W' sp s.vars (s.fn H (ds++gs)).vars pv)
  (hps:before=pa++pv) (hb:Below W.heap.size W W')
  (hok:∀ (j:Nat) (t:TypeId) (r:Value),f.resultTypes[j]?=some t→(v.resultList f.resultTypes.size)[j]?=some r→Value.okWide P W' .any 0 t r) :
  s.post enc P f apart fresh handsOn again W args v W':=by
 have hlt:∀ p∈before,p.block < W.heap.size:=fun p hp=>hW.lt p hp
 have hold:∀ p∈before,(fun b=>decide (b < W.heap.size)) p.block=true:=fun p hp=>by simpa using hlt p hp
 refine ⟨ds,gs,before,[],pa,pv,hW,hres _ _ _,hargs _ hold,hvars _ hold,World.keptBut_mono (fun p hp=>⟨hp,?_⟩) (hb.frame (·∈before)),fun _=>?_⟩
 ·rw [hps,List.mem_append] at hp
  exact Or.inr hp
 ·obtain ⟨_,_,_,_,_,hz,hn⟩:=hW
  refine ⟨hok,_,_,([]++pa)++pv,⟨[]++pa,pv,trodAll_append (hargs _ (fun _ _=>rfl)) (hres _ _ _),hvars _ (fun _ _=>rfl),rfl,?_,?_⟩,?_⟩
  ·intro b off hp
   have hin:MemPlace.cell b off∈before:=by rw [hps];simpa using hp
   rw [hb.frozen (hlt _ hin)]
   exact hz b off hin
  ·intro ha
   have:=hn ha
   rw [hps] at this
   simpa using this
  ·intro p hp _
   rw [hps]
   simpa using hp
end
def Law (w:World) (e:Ending) (w':World):Prop:=e=.returned (.bool true)∧Below w.heap.size w w'
theorem Law.mk {w w':World} (h:Below w.heap.size w w'):Law w (.returned (.bool true)) w':=⟨rfl,h⟩
section
variable {H:Type} {enc:TypeId×Value→H}
theorem laidOut:laidOutB Tryz.prog=true:=by kernel_rfl
theorem trodAll_stays {P:Program} (hlo:laidOutB P=true) {W W':World} (hb:Below W.heap.size W W') (sp:Nat→Bool) (ts:List TypeId):∀ (vs:List Value) (ds:List (DataW H)) (ps:List MemPlace),
  (∀ t∈ts,P.readableRec t=true∧t < P.types.size)→(∀ x∈ps,x.block < W.heap.size)→(∀ p∈ps,sp p.block=true)→
  DataW.TrodAll enc P W 0 (fun _=>true) true ts vs ds ps→DataW.TrodAll enc P W' 0 sp true ts vs ds ps:=by
 induction ts with
 | nil=>
  intro vs ds ps _ _ _ h
  obtain ⟨rfl,rfl,rfl⟩:=trodAll_nil h
  exact trodAll_mk0
 | cons t ts ih=>
  intro vs ds ps ht hlt hsp h
  obtain ⟨v,vs',d,ds',p,q,rfl,rfl,rfl,h0,hr⟩:=trodAll_cons h
  have ht0:=ht t (by simp)
  exact trodAll_cons_mk (WideElems.Trod_stays hlo ht0.1 ht0.2 h0 (fun x hx=>hb.same (hlt x (by simp [hx]))) (fun x hx=>hsp x (by simp [hx])))
   (ih vs' ds' q (fun u hu=>ht u (by simp [hu])) (fun x hx=>hlt x (by simp [hx])) (fun x hx=>hsp x (by simp [hx])) hr)
theorem blist:Value.resultList 1 (Value.bool true)=[Value.bool true]:=by kernel_rfl
set_option maxRecDepth 100000 in
theorem law_close {F:FuncId} {f:Func} {s:ChangeSpec} {W:World} {args:Array Value} {ds gs:List (DataW H)} {before:List MemPlace} (hvars:s.vars=[]) (hrt:f.resultTypes=#[4])
  (hpar:(f.params.toList.all fun t=>Tryz.prog.readableRec t && decide (t < Tryz.prog.types.size))=true) (hfn:s.fn H ds={ results:=[.lit (.bool true)],args:=ds })
  (hW:DataW.Whole enc Tryz.prog f.params.toList s.vars false W args.toList ds gs before) (h:Calls Tryz.prog F args W (Law W)) :
  Calls Tryz.prog F args W fun e W'=>∃ v,e=.returned v∧s.post enc Tryz.prog f false true false false W args v W':=by
 refine h.mono fun e W' ⟨he,hb⟩=>⟨_,he,?_⟩
 have hW':=hW
 obtain ⟨p,q,hA,hV,rfl,hfz,hnd⟩:=hW
 have hlt:∀ x∈p++q,x.block < W.heap.size:=fun x hx=>hW'.lt x hx
 rw [hvars] at hV
 obtain ⟨rfl,rfl⟩:=trodVars_none hV
 have hfn':s.fn H (ds++[])={ results:=[.lit (.bool true)],args:=ds }:=by rw [List.append_nil];exact hfn
 refine post_of_below (pa:=p) (pv:=[]) hW' ?_ ?_ ?_ rfl hb ?_
 ·intro b sp hd
  rw [hfn',hrt]
  exact trodAll_mk1 (shut_bool Tryz.underlying4 true)
 ·intro sp hsp
  rw [hfn']
  exact trodAll_stays laidOut hb sp _ _ _ _ (fun t ht=>by have:=List.all_eq_true.1 hpar t ht;rw [Bool.and_eq_true] at this;exact ⟨this.1,of_decide_eq_true this.2⟩) (fun x hx=>hlt x (by simp [hx])) (fun x hx=>hsp x (by simp [hx])) hA
 ·intro sp _
  rw [hfn',hvars]
  rfl
 ·exact ok_one hrt blist (okWide_bool_mk Tryz.underlying4 true)
end
def ctx0 (W:World):Ctx:=⟨fun _=>True,fun _=>False,fun _=>False,W,fun _=>none⟩
theorem core0 {γ:Glob} {W:World} (hG:γ.G W) (hn:γ.n≤W.heap.size):Core γ (ctx0 W) [] (ctx0 W).L W where
 glob:=hG
 gn:=hn
 gx:=fun _ h=>h.elim
 fresh:=fun _ _=>trivial
 os:=rfl
 tape:=rfl
 output:=rfl
 size:=Nat.le_refl _
 kept:=fun _ _ _=>rfl
 lim:=fun _ _ h=>by cases h
 new:=fun _ _ _ _ h=>by cases h
 dis:=fun _ _ _ _ _ h=>by cases h
 hand:=fun _ _ h=>by cases h
 blk:=fun i lb h=>by simp at h
theorem law_ok {g:Cfg} {γ:Glob} (hW:Wf g γ) {F:Nat} {xs:List AV} {us:Array Value} {W:World} (hc:Cl g F (xs.map .t) [] (.t (.bool true)) []) (hG:γ.G W) (hn:γ.n≤W.heap.size) (hv:Vs W xs us.toList):Calls g.P F us W (Law W):=by
 obtain ⟨n,hn'⟩:=hc
 have h:=((sound hW n).1 F _ _ _ _ hn').2 (ctx0 W) W us (core0 hG hn) rfl (by rw [List.length_map,hv.1];simp) (fun j x u hx hu=>by
  rw [List.getElem?_map] at hx
  cases hy:xs[j]? with
  | none=>rw [hy] at hx;cases hx
  | some y=>
   rw [hy] at hx
   cases hx
   exact .t _ _ ((hv.2 j y u hy (by simpa using hu)).on (Nat.le_refl _) fun b _ _=>⟨⟨trivial,fun ⟨i,v,lb,h1,_⟩=>by cases h1⟩,rfl⟩))
 refine h.mono fun e w' ⟨v,L',he,hC,hS⟩=>⟨?_,⟨hC.os,hC.tape,hC.output,hC.size,fun k hk=>hC.kept k hk id⟩⟩
 rw [he]
 cases hS with
 | t x v h=>cases h;rfl
theorem sml_args {H:Type} {P:Program} {ts us:List TypeId} {ds gs:List (DataW H)} (h:(DataW.weightsEach P (ts++us) (ds++gs)).all (·≤reachBytes)=true):Sml (DataW.weightsEach P ts ds):=by
 have h0:Sml (DataW.weightsEach P (ts++us) (ds++gs)):=fun n hn=>by simpa using List.all_eq_true.1 h n hn
 clear h
 induction ts generalizing ds with
 | nil=>intro n hn;simp [DataW.weightsEach] at hn
 | cons t ts ih=>
  cases ds with
  | nil=>intro n hn;simp [DataW.weightsEach] at hn
  | cons d ds=>
   simp only [List.cons_append,DataW.weightsEach] at h0 ⊢
   have h1:=Sml.app h0
   intro n hn
   rcases List.mem_append.1 hn with h|h
   ·exact h1.1 n h
   ·exact ih h1.2 n h
def Arg (P:Program) (m:Nat) (t:TypeId) (x:AV):Prop:=∃ xs,Shp P m t xs∧(match P.underlying t with
 | some (.struct _)=>x=.agg xs
 | _=>xs=[x])
def Args (P:Program) (m:Nat):List TypeId→List AV→Prop
 | [],xs=>xs=[]
 | t::ts,xs=>∃ x ys,xs=x::ys∧Arg P m t x∧Args P m ts ys
theorem vs_one {W:World} {xs:List AV} {v:Value} (h:Vs W xs [v]):∃ x,xs=[x]∧VR (fun _=>True) W x v:=by
 match xs,h with
 | [x],h=>exact ⟨x,rfl,h.2 0 x v rfl rfl⟩
 | [],h=>simp [Vs] at h
 | _::_::_,h=>simp [Vs] at h
section
variable {H:Type} {enc:TypeId×Value→H} {P:Program} {W:World}
theorem arg_of {m b0:Nat} {t:TypeId} {v:Value} {d:DataW H} {ps:List MemPlace} (hty:tyOk P m t=true) (hv:Value.okWide P W .any b0 t v) (h:DataW.Trod enc P W 0 (fun _=>true) true t v d ps) (hs:Sml (d.weights P t)):∃ x,Arg P m t x∧VR (fun _=>True) W x v:=by
 obtain ⟨fuel,hf⟩:=h
 obtain ⟨xs,h1,h2⟩:=tree_of_trod m t hty fuel _ d ps hf hs
 have one:∀ u,v.cells.toList=[u]→v=u→(∀ fs,P.underlying t≠some (.struct fs))→∃ x,Arg P m t x∧VR (fun _=>True) W x v:=fun u hc hu hns=>by
  rw [hc] at h2
  obtain ⟨x,rfl,hx⟩:=vs_one h2
  refine ⟨x,⟨[x],h1,?_⟩,hu ▸ hx⟩
  split
  ·rename_i fs hfs;exact absurd hfs (hns fs)
  ·rfl
 cases m with
 | zero=>unfold tyOk at hty;cases hty
 | succ m=>
  unfold tyOk at hty
  split at hty
  ·rename_i k hu
   obtain ⟨n,rfl⟩:=okWide_int hu hv
   exact one _ rfl rfl fun fs h=>by rw [hu] at h;cases h
  ·rename_i hu
   obtain ⟨n,rfl⟩:=okWide_bool hu hv
   exact one _ rfl rfl fun fs h=>by rw [hu] at h;cases h
  ·rename_i hu
   obtain ⟨n,rfl⟩:=okWide_string hu hv
   exact one _ rfl rfl fun fs h=>by rw [hu] at h;cases h
  ·rename_i e hu
   obtain ⟨a,l,c,rfl⟩:=okWide_slice hu hv
   exact one _ rfl rfl fun fs h=>by rw [hu] at h;cases h
  ·rename_i fs hu
   obtain ⟨cs,rfl,_⟩:=okWide_struct hu hv
   refine ⟨.agg xs,⟨xs,h1,by rw [hu]⟩,.agg xs cs (by have:=h2.1;simp [Value.cells] at this;omega) fun j x u hx hu'=>h2.2 j x u hx (by simpa [Value.cells] using hu')⟩
  ·cases hty
theorem args_of {m b0:Nat}:∀ (ts:List TypeId) (vs:List Value) (ds:List (DataW H)) (ps:List MemPlace),(ts.all fun t=>tyOk P m t)=true→(∀ (j:Nat) t v,ts[j]?=some t→vs[j]?=some v→Value.okWide P W .any b0 t v)→DataW.TrodAll enc P W 0 (fun _=>true) true ts vs ds ps→Sml (DataW.weightsEach P ts ds)→ds.length=ts.length∧∃ xs,Args P m ts xs∧Vs W xs vs
 | [],vs,ds,ps,_,_,h,_=>by
  obtain ⟨rfl,rfl,rfl⟩:=trodAll_nil h
  exact ⟨rfl,[],rfl,rfl,fun j x u hx=>by simp at hx⟩
 | t::ts,vs,ds,ps,hty,hv,h,hs=>by
  obtain ⟨v,vs',d,ds',p,q,rfl,rfl,rfl,h0,hr⟩:=trodAll_cons h
  rw [List.all_cons,Bool.and_eq_true] at hty
  have hs':=Sml.app (show Sml (d.weights P t++DataW.weightsEach P ts ds') from hs)
  obtain ⟨x,hx,hxv⟩:=arg_of hty.1 (hv 0 t v rfl rfl) h0 hs'.1
  obtain ⟨hl,ys,hy,hyv⟩:=args_of ts vs' ds' q hty.2 (fun j t v ht hv'=>hv (j+1) t v (by simpa using ht) (by simpa using hv')) hr hs'.2
  exact ⟨by simp [hl],x::ys,⟨x,ys,rfl,hx,hy⟩,(Vs.one hxv).app hyv⟩
set_option maxRecDepth 100000 in
theorem law_all {m b0:Nat} {g:Cfg} {γ:Glob} (hP:g.P=Tryz.prog) (hWf:Wf g γ) {F:FuncId} {f:Func} {s:ChangeSpec} {args:Array Value} {ds gs:List (DataW H)} {before:List MemPlace} {ts:List TypeId} (hvars:s.vars=[]) (hrt:f.resultTypes=#[4])
  (hpar:(f.params.toList.all fun t=>Tryz.prog.readableRec t && decide (t < Tryz.prog.types.size))=true) (hty:(f.params.toList.all fun t=>tyOk Tryz.prog m t)=true) (hfn:∀ ds:List (DataW H),ds.length=f.params.toList.length→s.fn H ds={ results:=[.lit (.bool true)],args:=ds })
  (hval:∀ (j:Nat) t v,f.params[j]?=some t→args[j]?=some v→Value.okWide Tryz.prog W .any b0 t v)
  (hW:DataW.Whole enc Tryz.prog f.params.toList s.vars false W args.toList ds gs before) (hsz:(DataW.weightsEach Tryz.prog (f.params.toList++ts) (ds++gs)).all (·≤reachBytes)=true)
  (hG:γ.G W) (hn:γ.n≤W.heap.size) (hlaw:∀ xs,Args Tryz.prog m f.params.toList xs→Cl g F (xs.map .t) [] (.t (.bool true)) []) :
  Calls Tryz.prog F args W fun e W'=>∃ v,e=.returned v∧s.post enc Tryz.prog f false true false false W args v W':=by
 have hW':=hW
 obtain ⟨p,q,hA0,hV,rfl,hfz,hnd⟩:=hW
 have hA:DataW.TrodAll enc Tryz.prog W 0 (fun _=>true) true f.params.toList args.toList ds p:=hA0
 obtain ⟨hl,xs,hx,hxv⟩:=args_of f.params.toList args.toList ds p hty (fun j t v h1 h2=>hval j t v (by simpa using h1) (by simpa using h2)) hA (sml_args hsz)
 refine law_close hvars hrt hpar (hfn ds hl) hW' ?_
 rw [← hP]
 exact law_ok hWf (hlaw xs hx) hG hn hxv
end
end Go.Proofs.YtjdhnoffoknlnaaGreatDoor
namespace Go.Proofs.YtjdhnoffoknlnaaGreatDoor
open Go.RowKit
structure SortsI (P:Program) (f:Nat):Prop where
 known:Known P f
 some:∀ (blk off cap:Nat) (zs:List Int) (w:World),Sort.Holds (Value.int .i64) w blk off zs.toArray→blk < w.heap.size→zs.length < 4611686018427387904→
  Calls P f #[.slice (some ⟨blk,off,none⟩) zs.length cap] w fun e w'=>e=.returned (.tuple #[])∧∃ n os,w'=Sort.grow (Sort.putRow (Value.int .i64) (Sort.ahead w n) blk off (zs.mergeSort fun x y=>decide (x≤y)).toArray) os
 none:∀ (p:Option Addr) (cap:Nat) (w:World),Calls P f #[.slice p 0 cap] w fun e w'=>e=.returned (.tuple #[])∧w'=w
end Go.Proofs.YtjdhnoffoknlnaaGreatDoor
