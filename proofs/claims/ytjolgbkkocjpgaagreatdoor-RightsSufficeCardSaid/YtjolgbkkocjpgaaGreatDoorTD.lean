/- The tree evaluator,22: rules for operations whose. No condition. -/
import Derived.Test.YtjolgbkkocjpgaaGreatDoorTC
import Derived.ProofKit
import Derived.OpenShut
import Derived.Deep.Slices
import Derived.SizedLaws
import Derived.ChangeSame
import Derived.Carry
import Derived.Deep.DeepHandedRow
import Derived.Lib.LaidTab
import Derived.LaidMore
import Derived.LaidSub
import Derived.Lib.SmallJoins
import Derived.Sort.OwnSortedInts
set_option linter.all false
namespace Go.Proofs.YtjolgbkkocjpgaaGreatDoor
open Go.RowKit
section
variable {ops:Array Oper} {env:Env} {j d:Nat} {W b:Bool}
def Du(h:(ops[j]?).bind (·.dst)=some d)(he:env d=.t (.bool b)):cP ops env j true=some b:=by unfold cP;rw[h];simp only[he,ru];cases b <;>rfl
def Dt(h:(ops[j]?).bind (·.dst)=some d)(he:env d=.t (.bool b)):cP ops env j false=some (!b):=by unfold cP;rw[h];simp only[he,ru];cases b <;>rfl
def Dr(h:(ops[j]?).bind (·.dst)=some d)(he:env d=s8 W (.t (.bool b))):cP ops env j true=some (W&&b):=by unfold cP;rw[h];simp only[he];cases W <;>cases b <;>rfl
def Dq(h:(ops[j]?).bind (·.dst)=some d)(he:env d=s8 W (.t (.bool b))):cP ops env j false=some (W&&!b):=by unfold cP;rw[h];simp only[he];cases W <;>cases b <;>rfl
end
section
variable {g:Cfg} {d:Option (List Nat)} {i:Nat} {env:Env} {fr:Fr}
def QP{C:CallF}{op:Op}{x:SV}(hw:iL op=false)(hc:mI op=false)(h:bP g.P fr env op=some x):step g C d i env fr op=some (x,fr,[]):=by
 unfold step
 cases d with
 |none=>simp only[cd,hw,h]
 |some effs=>
  simp only
  cases bS effs i with
  |true=>simp only[cd,hw,h]
  |false=>simp only[ig,hc,h];rfl
def ac.p{op:Op}{x:SV}(hw:iL op=false)(hc:mI op=false)(h:bP g.P fr env op=some x):ac g d i env fr op x fr []:=.r fun _=>QP hw hc h
def ac.or{c x y:Operand}{b z:Bool}(hc:rd env c=.t (.bool b))(hx:rd env x=.t (.bool true))(hy:dE env y=s8 (!b) (.t (.bool z))):ac g d i env fr (.pick c x y) (.t (.bool (b ||z))) fr []:=.p rfl rfl (by
 unfold bP
 cases b with
 |true=>simp only[hc];exact congrArg some hx
 |false=>simp only[hc];show some (un (dE env y))=_;rw[hy];rfl)
def ac.and{c x y:Operand}{b z:Bool}(hc:rd env c=.t (.bool b))(hx:dE env x=s8 b (.t (.bool z)))(hy:rd env y=.t (.bool false)):ac g d i env fr (.pick c x y) (.t (.bool (b&&z))) fr []:=.p rfl rfl (by
 unfold bP
 cases b with
 |false=>simp only[hc];exact congrArg some hy
 |true=>simp only[hc];show some (un (dE env x))=_;rw[hx];rfl)
def ac.lu{b:BinOp}{xt yt:TypeId}{x y:Operand}{s s':SV}{r:AV}(hx:rd env x=s)(hy:rd env y=s')(h:h_ g.P b xt (lJ x ||lJ y) s s'=some r):ac g d i env fr (.binOp b xt x y yt) (.t r) fr []:=.p rfl rfl (by unfold bP;simp only[hx,hy,h])
theorem ac.add{xt yt:TypeId}{x y:Operand}{m n:Int}(hx:rd env x=.t (.int .i64 m))(hy:rd env y=.t (.int .i64 n))(h : -9223372036854775808<=m+n/\m+n<=9223372036854775807):ac g d i env fr (.binOp .add xt x y yt) (.t (.int .i64 (m+n))) fr []:=
 .lu hx hy (by unfold h_;simp only[if_true,kJ,IntWalk.i64_in _ h])
theorem ac.sub{xt yt:TypeId}{x y:Operand}{m n:Int}(hx:rd env x=.t (.int .i64 m))(hy:rd env y=.t (.int .i64 n))(h : -9223372036854775808<=m - n/\m - n<=9223372036854775807):ac g d i env fr (.binOp .sub xt x y yt) (.t (.int .i64 (m - n))) fr []:=
 .lu hx hy (by unfold h_;simp only[if_true,kJ,IntWalk.i64_in _ h])
theorem ac.mul{xt yt:TypeId}{x y:Operand}{m n:Int}(hx:rd env x=.t (.int .i64 m))(hy:rd env y=.t (.int .i64 n))(h : -9223372036854775808<=m*n/\m*n<=9223372036854775807):ac g d i env fr (.binOp .mul xt x y yt) (.t (.int .i64 (m*n))) fr []:=
 .lu hx hy (by unfold h_;simp only[if_true,kJ,IntWalk.i64_in _ h])
def ac.inc{xt yt:TypeId}{x y:Operand}{k:Nat}(hx:rd env x=.t (.int .i64 (k:Int)))(hy:rd env y=.t (.int .i64 1))(h:k<=9223372036854775806):ac g d i env fr (.binOp .add xt x y yt) (.t (.int .i64 ((k+1:Nat):Int))) fr []:=by
 have:=ac.add (g:=g) (d:=d) (i:=i) (env:=env) (fr:=fr) (xt:=xt) (yt:=yt) hx hy (by omega);exact this
def CX{sz:Nat}{es:List (List AV)}{m:Int}{c:AV}{cs:List AV}(h0:0<=m)(hc:es[m.toNat]?=some (c::cs))(hz:Nat.beq sz (cs.length+1)=true):elemAt sz es m=some (.t (.tp (c::cs))):=by
 unfold elemAt;rw[decide_eq_true h0];simp only[hc,hz]
def ac.DN{t e sz:Nat}{x y:Operand}{k:IntKind}{m:Int}{es:List (List AV)}{c:AV}{cs:List AV}(he:fy g.P t=some (e,sz))(hx:rd env x=.t (.arr es))(hi:rd env y=.t (.int k m))(h0:0<=m)(hc:es[m.toNat]?=some (c::cs))(hz:Nat.beq sz (cs.length+1)=true):
  ac g d i env fr (.indexAddr t x y) (.t (.tp (c::cs))) fr []:=.p rfl rfl (by unfold bP jJ;simp only[he,hx,hi,CX h0 hc hz])
def ac.ix{t e sz:Nat}{x y:Operand}{k:IntKind}{q:Nat}{es:List (List AV)}{c:AV}{cs:List AV}(he:fy g.P t=some (e,sz))(hx:rd env x=.t (.arr es))(hi:rd env y=.t (.int k (q:Int)))(hc:es[q]?=some (c::cs))(hz:Nat.beq sz (cs.length+1)=true):
  ac g d i env fr (.indexAddr t x y) (.t (.tp (c::cs))) fr []:=.DN he hx hi (by omega) (by rw[Int.toNat_natCast];exact hc) hz
def ac.LI{t e sz r:Nat}{x y:Operand}{k:IntKind}{q:Nat}{ro tch:Bool}{es:List (List AV)}(he:fy g.P t=some (e,sz))(hx:rd env x=.ls r)(hi:rd env y=.t (.int k (q:Int)))(hb:fr[r]?=some (.row ro tch sz es))(hq:q <es.length):
  ac g d i env fr (.indexAddr t x y) (.le r sz q 0) fr []:=.p rfl rfl (by
 have h1:jI (q:Int) es.length=true:=by
  unfold jI;rw[Int.toNat_natCast,Bool.and_eq_true,Nat.blt_eq];exact⟨decide_eq_true (by omega),hq⟩
 have h2:Nat.beq sz sz=true:=by simp
 unfold bP jJ;simp only[he,hx,hi,hb,h1,h2,Int.toNat_natCast])
def ac.LJ{t e sz r:Nat}{x y:Operand}{k:IntKind}{m:Int}{ro tch:Bool}{es:List (List AV)}(he:fy g.P t=some (e,sz))(hx:rd env x=.ls r)(hi:rd env y=.t (.int k m))(hb:fr[r]?=some (.row ro tch sz es))(h0:0<=m)(hq:m.toNat <es.length):
  ac g d i env fr (.indexAddr t x y) (.le r sz m.toNat 0) fr []:=.p rfl rfl (by
 have h1:jI m es.length=true:=by
  unfold jI;rw[Bool.and_eq_true,Nat.blt_eq];exact⟨decide_eq_true h0,hq⟩
 have h2:Nat.beq sz sz=true:=by simp
 unfold bP jJ;simp only[he,hx,hi,hb,h1,h2])
def ac.D3{t n r sz q j:Nat}{y:Operand}{ro tch:Bool}{es:List (List AV)}{cs:List AV}{c:AV}(ht:bu g.P t=some (false,n))(hy:rd env y=.le r sz q j)(hb:fr[r]?=some (.row ro tch sz es))(hk:es[q]?=some cs)(hj:cs[j]?=some c):ac g d i env fr (.load t y) (.t c) fr []:=.p rfl rfl (by
 have h2:Nat.beq sz sz=true:=by simp
 unfold bP fW;simp only[ht,hy,hb,h2,hk,hj])
def Mq{P:Program}{t:Nat}{s:SV}{es:List (List AV)}(hs:kQ P t=true)(hy:iU fr s=some es):tS P fr (some t) s=some (.t (.int .i64 es.length)):=by
 have u:∀q,s≠.t (.str q):=fun q h=>by subst h;unfold iU at hy;simp at hy
 unfold tS
 cases s with
 |t x=>cases x <;>first|(exact absurd rfl (u _))|(simp only[hs,hy])
 |_=>simp only[hs,hy]
theorem ac.len{y:Operand}{tys:Array TypeId}{t:Nat}{args:Array Operand}{es:List (List AV)}{n:Nat}(ha:args.toList=[y])(hy:iU fr (rd env y)=some es)(ht:tys[0]?=some t)(hs:kQ g.P t=true)(hn:es.length=n):ac g d i env fr (.call ⟨.builtin .len,args,tys⟩) (.t (.int .i64 (n:Int))) fr []:=.p rfl rfl (by
 subst hn;unfold bP yE;simp only[ha,ht];exact Mq hs hy)
def ac.str{t n r sz q j:Nat}{a y:Operand}{tch:Bool}{es:List (List AV)}{cs:List AV}{c:AV}{v:Bool}{effOk:∀C:CallF,step g C d i env fr (.store t a y)=cd g C env fr (.store t a y)}(ht:bu g.P t=some (v,n))(ha:rd env a=.le r sz q j)(hy:rd env y=.t c)(hone:dS (.t c)=true)(hn:Nat.beq 1 n=true)(hb:fr[r]?=some (.row false tch sz es))(hk:es[q]?=some cs)(hj:Nat.ble (j+1) cs.length=true):ac g d i env fr (.store t a y) .dead (fr.set r (.row false tch sz (es.set q (cs.set j c)))) []:=.r fun C=>by
 obtain rfl:1=n:=by simpa using hn
 have h2:Nat.beq sz sz=true:=by simp
 have u:bJ (.t c)=[.t c]:=by cases c <;>first|rfl|(simp[dS]at hone)
 rw[effOk C];unfold cd;simp only[iL];unfold ca;simp only;unfold iV;simp only[ht,ha,hy,u,List.all_cons,hone,List.all_nil,Bool.and_self,List.length_cons,List.length_nil,hb,h2,hk,hj,cR,jq,deep,bD,nR,bS,List.any_nil,oW,freeze];rfl
def oo(fr:Fr)(y:Bool)(v:List Nat)(r:SV)(u:Fr):Option eZ:=match dF r with
 |true=>some (r,fr,[])
 |false=>match y with
  |false=>some (r.sub (dD [] fr.length),freeze fr v++u.map (fun b=>cS (b.sub (dD [] fr.length))),[])
  |true=>match v with
   |[]=>match r.refs with
    |[]=>some (r,fr,[])
    |_=>match jq u deep r with
     |some x=>some (.t x,fr,[])
     |none=>none
   |_=>none
def IG{C:CallF}{v:Bool}{f:Nat}{args:List SV}{xs:List AV}{u:List SV}{r:SV}{y:Fr}(hx:cR fr (br (aM g f 0 args) args)=some xs)(hh:cE [] (fc (aM g f 0 args) args)=[])(hm:dh (bc []) (aM g f 0 args) args xs=u)(hc:C f u []=some (r,y)):
  iE g C v fr f args=oo fr v (bD fr (br (aM g f 0 args) args)) r y:=by
 subst hm;unfold iE oo;simp only[hx,hh,hc];cases dF r <;>rfl
def dZ:Option (List Nat)->Nat->Bool
 |none,_=>false
 |some e,i=>!bS e i
def G5{C:CallF}{c:Operand}{args:Array Operand}{tys:Array TypeId}:step g C d i env fr (.call ⟨.value c,args,tys⟩)=ca g C (dZ d i) env fr (.call ⟨.value c,args,tys⟩):=by
 cases d with
 |none=>rfl
 |some e=>
  unfold step dZ;simp only;cases bS e i <;>rfl
theorem ac.call{c:Operand}{args:Array Operand}{tys:Array TypeId}{f:Nat}{pa z u:List SV}{xs:List AV}{v:List SV}{r x:SV}{y fr':Fr}(hcl:Cl g f v [] r y)(hcal:ep (rd env c)=some (f,pa,z))(hav:pa++args.toList.map (rd env)++z=u)(hx:cR fr (br (aM g f 0 u) u)=some xs)(hh:cE [] (fc (aM g f 0 u) u)=[])(hm:dh (bc []) (aM g f 0 u) u xs=v)
  (hr:oo fr (dZ d i) (bD fr (br (aM g f 0 u) u)) r y=some (x,fr',[])):ac g d i env fr (.call ⟨.value c,args,tys⟩) x fr' []:=by
 obtain⟨n,D⟩:=hcl;refine⟨n,?_⟩;subst hav;rw[G5];unfold ca;simp only;unfold nu;simp only[hcal];rw[IG hx hh hm D];exact hr
end
section
variable {g:Cfg} {f:Nat} {env:Env} {fr:Fr} {d:Option (List Nat)} {ops:Array Oper} {i i':Nat} {K':Env->Fr->Prop} {l:List Oper} {dst:Option Tmp} {op:Op} {ty:TypeId} {pos:String} {after:Array Edge} {fr':Fr}
def aa.u0{x:SV}(hx:ac g d i env fr op x fr' [])(h:aa g d ops (i+1) l (aH env dst x) fr' K'):aa g d ops i (⟨dst,op,ty,pos,after,none⟩::l) env fr K':=aa.u hx h
def aa.aB{j:Nat}{u:Bool}{x:SV}(hW:cP ops env j u=some true)(hx:ac g d i env fr op x fr' [])(h:aa g d ops (i+1) l (aH env dst (.aV x)) fr' K'):aa g d ops i (⟨dst,op,ty,pos,after,some (j,u)⟩::l) env fr K':=aa.gt hW hx h
def ac.mv{y:Operand}{v:SV}(h:rd env y=v):ac g d i env fr (.move y) v fr []:=.p rfl rfl (by unfold bP;simp only[h])
def ac.asg{y:Operand}{v:SV}(h:rd env y=v):ac g d i env fr (.assign y) v fr []:=.p rfl rfl (by unfold bP;simp only[h])
def ac.NW{c x y:Operand}{v:SV}(hc:rd env c=.t (.bool true))(h:rd env x=v):ac g d i env fr (.pick c x y) v fr []:=.p rfl rfl (by unfold bP;simp only[hc,h])
def ac.NV{c x y:Operand}{v:SV}(hc:rd env c=.t (.bool false))(h:rd env y=v):ac g d i env fr (.pick c x y) v fr []:=.p rfl rfl (by unfold bP;simp only[hc,h])
def ac.rj{z v i j u n:Nat}{y:Operand}(hy:rd env y=.lp i j)(ho:tk g.P z v=some u)(hn:j+u=n):ac g d i' env fr (.fieldAddr z y v) (.lp i n) fr []:=.p rfl rfl (by
 subst hn;unfold bP tj;simp only[ho,hy])
def ac.Kz{z v r sz k j u n:Nat}{y:Operand}(hy:rd env y=.le r sz k j)(ho:tk g.P z v=some u)(hn:j+u=n):ac g d i' env fr (.fieldAddr z y v) (.le r sz k n) fr []:=.p rfl rfl (by
 subst hn;unfold bP tj;simp only[ho,hy])
def ac.eqs{t:Nat}{x y:Operand}{yt:TypeId}{cs ds:List AV}{n:Nat}{r:Bool}(hx:rd env x=.t (.agg cs))(hy:rd env y=.t (.agg ds))(hg:g.P.eqGuardType g.P.depth t=false)(ht:bu g.P t=some (true,n))(hr:gy g.P 20 t cs ds=some r):ac g d i' env fr (.binOp .eql t x y yt) (.t (.bool r)) fr []:=.lu hx hy (by unfold h_ sM;simp only[hg,ht,hr,gH])
def ac.qv{t:Nat}{x y:Operand}{yt:TypeId}{cs ds:List AV}{n:Nat}{r:Bool}(hx:rd env x=.t (.agg cs))(hy:rd env y=.t (.agg ds))(hg:g.P.eqGuardType g.P.depth t=false)(ht:bu g.P t=some (true,n))(hr:gy g.P 20 t cs ds=some r):ac g d i' env fr (.binOp .neq t x y yt) (.t (.bool (!r))) fr []:=.lu hx hy (by unfold h_ sM;simp only[hg,ht,hr,gH])
def ac.j_{t len:Nat}{parts:Array (Nat×Operand)}{es:List (List AV)}(hw:iL (.buildSlice t len parts)=false)(ho:(parts.toList.all fun p=>(bJ (rd env p.2)).all dS)=true)(h:sR g.P t len (parts.toList.map fun p=>(p.1,rd env p.2))=some es):ac g d i' env fr (.buildSlice t len parts) (.tc es) fr []:=.p hw rfl (by unfold bP;simp only[ho,h])
def ac.lk{t e:Nat}{u:TypeDesc}{x k:Operand}{ok:Bool}{ka:AV}{ks:List AV}{vs:List SV}{z:SV}(hm:nL g.P t=some (e,u))(hk:rd env k=.t ka)(ho:mapOf fr (rd env x)=some (ks,vs))(hf:eB u ka ks 0=some none)(hz:uO g.P e=some z):ac g d i' env fr (.lookup t x k ok) (mT ok z false) fr []:=.p rfl rfl (by unfold bP tW;simp only[hm,hk,ho,hf,hz])
def ac.oQ{t e j:Nat}{u:TypeDesc}{x k:Operand}{ok:Bool}{ka:AV}{ks:List AV}{vs:List SV}{z:SV}(hm:nL g.P t=some (e,u))(hk:rd env k=.t ka)(ho:mapOf fr (rd env x)=some (ks,vs))(hf:eB u ka ks 0=some (some j))(hz:vs[j]?=some z):ac g d i' env fr (.lookup t x k ok) (mT ok z true) fr []:=.p rfl rfl (by unfold bP tW;simp only[hm,hk,ho,hf,hz])
def ac.Cr{c:Operand}{args:Array Operand}{tys:Array TypeId}{f h0:Nat}{ht hs:List Nat}{pa D u:List SV}{xs:List AV}{v:List SV}{r x:SV}{fr1 bs y fr' z:Fr}{ks:List Nat}(hcl:Cl g f v y r fr')(hdr:dZ d i'=false)(hcal:ep (rd env c)=some (f,pa,D))(hav:pa++args.toList.map (rd env)++D=u)(hx:cR fr (br (aM g f 0 u) u)=some xs)(hh:cE [] (fc (aM g f 0 u) u)=h0::ht)
  (hs0:close fr 4 (h0::ht)=hs)(hf:freeze fr (bD fr (br (aM g f 0 u) u))=fr1)(hg:dL fr1 hs=some bs)(hc:lw hs bs=true)(hm:dh (bc hs) (aM g f 0 u) u xs=v)(hb:bs.map (fun b=>cS (b.sub (bc hs)))=y)(hk:kindOk hs fr' fr1=true)(hr:(r.sub (dD hs fr.length),back hs fr1 fr',dy hs fr')=(x,z,ks)):ac g d i' env fr (.call ⟨.value c,args,tys⟩) x z ks:=by
 obtain⟨n,G⟩:=hcl;refine⟨n,?_⟩;subst hav hs0 hf hm hb;rw[G5,hdr];unfold ca;simp only;unfold nu;simp only[hcal];unfold iE;simp only[hx,hh,hg,hc,G,hk,hr]
def aa.og{o:Oper}{u l2:List Oper}(h:aa g d ops i (o::List.append u l2) env fr K'):aa g d ops i (List.append (o::u) l2) env fr K':=h
def aa.pG{l2:List Oper}(h:aa g d ops i l2 env fr K'):aa g d ops i (List.append [] l2) env fr K':=h
def aa.pF{u l2 v:List Oper}(h:aa g d ops i (List.append u (List.append l2 v)) env fr K'):aa g d ops i (List.append (List.append u l2) v) env fr K':=by
 have e:List.append (List.append u l2) v=List.append u (List.append l2 v):=List.append_assoc u l2 v;rw[e];exact h
def ac.qZ{t:Nat}{parts:Array (Nat×Operand)}{cs:List SV}{v:SV}(ho:(parts.toList.all fun p=>(bJ (rd env p.2)).all dS)=true)(h:vc g.P t (parts.toList.map fun p=>(p.1,rd env p.2))=some cs)(hv:my cs=v):ac g d i' env fr (.build t parts) v fr []:=.p rfl rfl (by unfold bP;simp only[ho,h,hv])
def ac.Cs{c:Operand}{args:Array Operand}{tys:Array TypeId}{f h0:Nat}{ht:List Nat}(hs:List Nat){pa D u:List SV}{xs:List AV}{v:List SV}{r x:SV}{bs y fr' z:Fr}{ks:List Nat}(hcl:Cl g f v y r fr')(hdr:dZ d i'=false)(hcal:ep (rd env c)=some (f,pa,D))(hav:pa++args.toList.map (rd env)++D=u)(hx:cR fr (br (aM g f 0 u) u)=some xs)(hh:cE [] (fc (aM g f 0 u) u)=h0::ht)
  (hs0:close fr 4 (h0::ht)=hs)(hf:bD fr (br (aM g f 0 u) u)=[])(hg:dL fr hs=some bs)(hc:lw hs bs=true)(hm:dh (bc hs) (aM g f 0 u) u xs=v)(hb:bs.map (fun b=>cS (b.sub (bc hs)))=y)(hk:kindOk hs fr' fr=true)(hr:(r.sub (dD hs fr.length),back hs fr fr',dy hs fr')=(x,z,ks)):ac g d i' env fr (.call ⟨.value c,args,tys⟩) x z ks:=ac.Cr hcl hdr hcal hav hx hh hs0 (by rw[hf];rfl) hg hc hm hb hk hr
def aa.jX{j:Nat}{t:Tmp}{b:Bool}(ht:b=true->aa g d ops j l (aH env (some t) (.t (.bool true))) fr K')(hf:b=false->aa g d ops j l (aH env (some t) (.t (.bool false))) fr K'):aa g d ops j l (aH env (some t) (.t (.bool b))) fr K':=by
 cases b with
 |true=>exact ht rfl
 |false=>exact hf rfl
def aa.iu{j:Nat}{t:Tmp}{b:Bool}(ht:b=true->aa g d ops j l (aH env (some t) (.aV (.t (.bool true)))) fr K')(hf:b=false->aa g d ops j l (aH env (some t) (.aV (.t (.bool false)))) fr K'):aa g d ops j l (aH env (some t) (.aV (.t (.bool b)))) fr K':=by
 cases b with
 |true=>exact ht rfl
 |false=>exact hf rfl
section
variable {j:Nat} {t:Tmp} {p:Prop} [Decidable p]
def aa.aR(hp:p)(h:aa g d ops j l (aH env (some t) (.t (.bool true))) fr K'):aa g d ops j l (aH env (some t) (.t (.bool (decide p)))) fr K':=.jX (fun _=>h) (fun h=>absurd hp (of_decide_eq_false h))
def aa.cQ(hp:¬p)(h:aa g d ops j l (aH env (some t) (.t (.bool false))) fr K'):aa g d ops j l (aH env (some t) (.t (.bool (decide p)))) fr K':=.jX (fun h=>absurd (of_decide_eq_true h) hp) (fun _=>h)
def aa.aX(ht:p->aa g d ops j l (aH env (some t) (.t (.bool true))) fr K')(hf:¬p->aa g d ops j l (aH env (some t) (.t (.bool false))) fr K'):aa g d ops j l (aH env (some t) (.t (.bool (decide p)))) fr K':=.jX (fun h=>ht (of_decide_eq_true h)) (fun h=>hf (of_decide_eq_false h))
def aa.ee(hp:p)(h:aa g d ops j l (aH env (some t) (.aV (.t (.bool true)))) fr K'):aa g d ops j l (aH env (some t) (.aV (.t (.bool (decide p))))) fr K':=.iu (fun _=>h) (fun h=>absurd hp (of_decide_eq_false h))
def aa.lZ(hp:¬p)(h:aa g d ops j l (aH env (some t) (.aV (.t (.bool false)))) fr K'):aa g d ops j l (aH env (some t) (.aV (.t (.bool (decide p))))) fr K':=.iu (fun h=>absurd (of_decide_eq_true h) hp) (fun _=>h)
def aa.bi(ht:p->aa g d ops j l (aH env (some t) (.aV (.t (.bool true)))) fr K')(hf:¬p->aa g d ops j l (aH env (some t) (.aV (.t (.bool false)))) fr K'):aa g d ops j l (aH env (some t) (.aV (.t (.bool (decide p))))) fr K':=.iu (fun h=>ht (of_decide_eq_true h)) (fun h=>hf (of_decide_eq_false h))
def aa.la(hp:¬p)(h:aa g d ops j l (aH env (some t) (.t (.bool true))) fr K'):aa g d ops j l (aH env (some t) (.t (.bool (!decide p)))) fr K':=by rw[decide_eq_false hp];exact h
def aa.l4(hp:p)(h:aa g d ops j l (aH env (some t) (.t (.bool false))) fr K'):aa g d ops j l (aH env (some t) (.t (.bool (!decide p)))) fr K':=by rw[decide_eq_true hp];exact h
def aa.gm(ht:¬p->aa g d ops j l (aH env (some t) (.t (.bool true))) fr K')(hf:p->aa g d ops j l (aH env (some t) (.t (.bool false))) fr K'):aa g d ops j l (aH env (some t) (.t (.bool (!decide p)))) fr K':=if h:p then .l4 h (hf h)else .la h (ht h)
def aa.l5(hp:¬p)(h:aa g d ops j l (aH env (some t) (.aV (.t (.bool true)))) fr K'):aa g d ops j l (aH env (some t) (.aV (.t (.bool (!decide p))))) fr K':=by rw[decide_eq_false hp];exact h
def aa.nc(hp:p)(h:aa g d ops j l (aH env (some t) (.aV (.t (.bool false)))) fr K'):aa g d ops j l (aH env (some t) (.aV (.t (.bool (!decide p))))) fr K':=by rw[decide_eq_true hp];exact h
def aa.fj(ht:¬p->aa g d ops j l (aH env (some t) (.aV (.t (.bool true)))) fr K')(hf:p->aa g d ops j l (aH env (some t) (.aV (.t (.bool false)))) fr K'):aa g d ops j l (aH env (some t) (.aV (.t (.bool (!decide p))))) fr K':=if h:p then .nc h (hf h)else .l5 h (ht h)
end
def aa.cI{P:Env->Fr->Prop}{K:Out->Env->Fr->Prop}(h:P env fr):aa g d ops i [] env fr (fun e r=>ma P K .normal e r):=aa.nil h
def aa.eE{id:Nat}{K:Out->Env->Fr->Prop}(h:K .normal env fr):aa g d ops i [] env fr (fun e r=>mz id K .normal e r):=aa.nil h
variable {effs:List Nat}
def az.og{o:Oper}{u l2:List Oper}(h:az g effs ops i (o::List.append u l2) env fr K'):az g effs ops i (List.append (o::u) l2) env fr K':=h
def az.pG{l2:List Oper}(h:az g effs ops i l2 env fr K'):az g effs ops i (List.append [] l2) env fr K':=h
def az.pF{u l2 v:List Oper}(h:az g effs ops i (List.append u (List.append l2 v)) env fr K'):az g effs ops i (List.append (List.append u l2) v) env fr K':=by
 have e:List.append (List.append u l2) v=List.append u (List.append l2 v):=List.append_assoc u l2 v;rw[e];exact h
def az.jX{j:Nat}{t:Tmp}{b:Bool}(ht:b=true->az g effs ops j l (aH env (some t) (.t (.bool true))) fr K')(hf:b=false->az g effs ops j l (aH env (some t) (.t (.bool false))) fr K'):az g effs ops j l (aH env (some t) (.t (.bool b))) fr K':=by
 cases b with
 |true=>exact ht rfl
 |false=>exact hf rfl
def az.iu{j:Nat}{t:Tmp}{b:Bool}(ht:b=true->az g effs ops j l (aH env (some t) (.aV (.t (.bool true)))) fr K')(hf:b=false->az g effs ops j l (aH env (some t) (.aV (.t (.bool false)))) fr K'):az g effs ops j l (aH env (some t) (.aV (.t (.bool b)))) fr K':=by
 cases b with
 |true=>exact ht rfl
 |false=>exact hf rfl
section
variable {j:Nat} {t:Tmp} {p:Prop} [Decidable p]
def az.aR(hp:p)(h:az g effs ops j l (aH env (some t) (.t (.bool true))) fr K'):az g effs ops j l (aH env (some t) (.t (.bool (decide p)))) fr K':=.jX (fun _=>h) (fun h=>absurd hp (of_decide_eq_false h))
def az.cQ(hp:¬p)(h:az g effs ops j l (aH env (some t) (.t (.bool false))) fr K'):az g effs ops j l (aH env (some t) (.t (.bool (decide p)))) fr K':=.jX (fun h=>absurd (of_decide_eq_true h) hp) (fun _=>h)
def az.aX(ht:p->az g effs ops j l (aH env (some t) (.t (.bool true))) fr K')(hf:¬p->az g effs ops j l (aH env (some t) (.t (.bool false))) fr K'):az g effs ops j l (aH env (some t) (.t (.bool (decide p)))) fr K':=.jX (fun h=>ht (of_decide_eq_true h)) (fun h=>hf (of_decide_eq_false h))
def az.ee(hp:p)(h:az g effs ops j l (aH env (some t) (.aV (.t (.bool true)))) fr K'):az g effs ops j l (aH env (some t) (.aV (.t (.bool (decide p))))) fr K':=.iu (fun _=>h) (fun h=>absurd hp (of_decide_eq_false h))
def az.lZ(hp:¬p)(h:az g effs ops j l (aH env (some t) (.aV (.t (.bool false)))) fr K'):az g effs ops j l (aH env (some t) (.aV (.t (.bool (decide p))))) fr K':=.iu (fun h=>absurd (of_decide_eq_true h) hp) (fun _=>h)
def az.bi(ht:p->az g effs ops j l (aH env (some t) (.aV (.t (.bool true)))) fr K')(hf:¬p->az g effs ops j l (aH env (some t) (.aV (.t (.bool false)))) fr K'):az g effs ops j l (aH env (some t) (.aV (.t (.bool (decide p))))) fr K':=.iu (fun h=>ht (of_decide_eq_true h)) (fun h=>hf (of_decide_eq_false h))
def az.la(hp:¬p)(h:az g effs ops j l (aH env (some t) (.t (.bool true))) fr K'):az g effs ops j l (aH env (some t) (.t (.bool (!decide p)))) fr K':=by rw[decide_eq_false hp];exact h
def az.l4(hp:p)(h:az g effs ops j l (aH env (some t) (.t (.bool false))) fr K'):az g effs ops j l (aH env (some t) (.t (.bool (!decide p)))) fr K':=by rw[decide_eq_true hp];exact h
def az.gm(ht:¬p->az g effs ops j l (aH env (some t) (.t (.bool true))) fr K')(hf:p->az g effs ops j l (aH env (some t) (.t (.bool false))) fr K'):az g effs ops j l (aH env (some t) (.t (.bool (!decide p)))) fr K':=if h:p then .l4 h (hf h)else .la h (ht h)
def az.l5(hp:¬p)(h:az g effs ops j l (aH env (some t) (.aV (.t (.bool true)))) fr K'):az g effs ops j l (aH env (some t) (.aV (.t (.bool (!decide p))))) fr K':=by rw[decide_eq_false hp];exact h
def az.nc(hp:p)(h:az g effs ops j l (aH env (some t) (.aV (.t (.bool false)))) fr K'):az g effs ops j l (aH env (some t) (.aV (.t (.bool (!decide p))))) fr K':=by rw[decide_eq_true hp];exact h
def az.fj(ht:¬p->az g effs ops j l (aH env (some t) (.aV (.t (.bool true)))) fr K')(hf:p->az g effs ops j l (aH env (some t) (.aV (.t (.bool false)))) fr K'):az g effs ops j l (aH env (some t) (.aV (.t (.bool (!decide p))))) fr K':=if h:p then .nc h (hf h)else .l5 h (ht h)
end
def az.wF{u:Nat}{ds:List Nat}{P:Env->Fr->Prop}{K:Out->Env->Fr->Prop}(hck:pU u ds env fr=true)(h:P env fr):az g effs ops i [] env fr (fun e r=>pU u ds e r=true/\ma P K .normal e r):=.nil ⟨hck,h⟩
def az.Ah{u:Nat}{ds:List Nat}{K:Env->Fr->Prop}(hck:pU u ds env fr=true)(h:K env fr):az g effs ops i [] env fr (fun e r=>pU u ds e r=true/\K e r):=.nil ⟨hck,h⟩
def az.cI{P:Env->Fr->Prop}{K:Out->Env->Fr->Prop}(h:P env fr):az g effs ops i [] env fr (fun e r=>ma P K .normal e r):=az.nil h
def az.eE{id:Nat}{K:Out->Env->Fr->Prop}(h:K .normal env fr):az g effs ops i [] env fr (fun e r=>mz id K .normal e r):=az.nil h
variable {K:Out->Env->Fr->Prop}
def am.ew{c:Operand}{a b:Code}(hc:rd env c=.t (.bool true))(ha:am g f a env fr K):am g f (.cond c a b) env fr K:=am.cond hc (fun _=>ha) (fun h=>nomatch h)
def am.jB{c:Operand}{a b:Code}(hc:rd env c=.t (.bool false))(ha:am g f b env fr K):am g f (.cond c a b) env fr K:=am.cond hc (fun h=>nomatch h) (fun _=>ha)
def dx{P:Env->Fr->Prop}(h:P env fr):ma P K .normal env fr:=h
def qG{P:Env->Fr->Prop}{id:Nat}(h:K (.exit id) env fr):ma P K (.exit id) env fr:=h
def pg{P:Env->Fr->Prop}(h:K .ret env fr):ma P K .ret env fr:=h
def q6{id:Nat}(h:K .normal env fr):mz id K .normal env fr:=h
def pJ{id:Nat}(h:K .ret env fr):mz id K .ret env fr:=h
def pI{id:Nat}(h:K .normal env fr):mz id K (.exit id) env fr:=by
 unfold mz;have:Nat.beq id id=true:=by simp
 simp only[this];exact h
def u_{id j:Nat}(hj:Nat.beq j id=false)(h:K (.exit j) env fr):mz id K (.exit j) env fr:=by
 unfold mz;simp only[hj];exact h
inductive mq (env:Env) (fr:Fr) (h:Nat):List Nat->List (Nat×SV)->Prop where
 |nil:mq env fr h [] []
 |cons {t:Nat} {v:SV} {sl:List Nat} {vs:List (Nat×SV)} (hv:oy fr h (Go.Proofs.YtjolgbkkocjpgaaGreatDoor.un (env t))=v) (ht:mq env fr h sl vs):mq env fr h (t::sl) ((t,v)::vs)
def mq.eq{h:Nat}{u:List Nat}{vs:List (Nat×SV)}(hs:mq env fr h u vs):u.map (fun t=>(t,oy fr h (Go.Proofs.YtjolgbkkocjpgaaGreatDoor.un (env t))))=vs:=by
 induction hs with
 |nil=>rfl
 |cons hv _ ih=>rw[List.map_cons,hv,ih]
def Rm:trim fr.length fr=fr:=by
 unfold trim;have:Nat.ble fr.length fr.length=true:=by simp
 simp only[this]
def am.lK{b:Code}{vs:List (Nat×SV)}{u:List Nat}{own:List (Nat×Nat)}{env':Env}{fr':Fr}(ho:g.own f (db b)=own)(hp:gS own env fr=(env',fr'))(hl:g.lv f (db b)=some u)(hs:mq env' fr' fr'.length u vs)(h:ax g f b (di vs) fr' K):am g f (.loop b) env fr K:=by
 refine am.loop (p:=(env',fr')) (by rw[ho];exact hp) (q:=(di vs,fr')) ?_ h;rw[hl];show(di (u.map fun t=>(t,oy fr' (kG u fr'.length fr') (Go.Proofs.YtjolgbkkocjpgaaGreatDoor.un (env' t)))),trim (kG u fr'.length fr') fr')=_
 rw[K1,hs.eq,Rm]
def ax.ind{b:Code}{base:List (Nat×SV)}{σ:Type}(V:σ->List (Nat×SV))(I:σ->Prop)(μ:σ->Nat)(v:σ)(he:env=di (V v++base))(h0:I v)
  (hs:∀s,I s->am g f b (di (V s++base)) fr (ma (fun e r=>∃s',(head (g.lv f (db b)) fr.length e r).1=di (V s'++base)/\(head (g.lv f (db b)) fr.length e r).2=fr/\I s'/\μ s' <μ s) K)):ax g f b env fr K:=by
 subst he
 have u:∀(n:Nat) (s:σ),μ s <n->I s->ax g f b (di (V s++base)) fr K:=by
  intro n
  induction n with
  |zero=>intro s h;omega
  |succ n z=>
   intro s D y;refine ax.step ?_;refine(hs s y).post ?_;intro o e r h
   cases o with
   |normal=>
    obtain⟨s',h1,h2,h3,h4⟩:=h;show ax g f b _ _ K
    rw[h1,h2];exact z s' (by omega) h3
   |exit id=>exact h
   |ret=>exact h
 exact u _ v (Nat.lt_succ_self _) h0
def ax.cA{b:Code}{base:List (Nat×SV)}{σ:Type}(V:σ->List (Nat×SV))(F:σ->Fr)(I:σ->Prop)(μ:σ->Nat)(u:σ)(he:env=di (V u++base))(y:fr=F u)(h0:I u)
  (hs:∀s,I s->am g f b (di (V s++base)) (F s) (ma (fun e r=>∃s',(head (g.lv f (db b)) (F s).length e r).1=di (V s'++base)/\(head (g.lv f (db b)) (F s).length e r).2=F s'/\I s'/\μ s' <μ s) K)):ax g f b env fr K:=by
 subst he y
 have v:∀(n:Nat) (s:σ),μ s <n->I s->ax g f b (di (V s++base)) (F s) K:=by
  intro n
  induction n with
  |zero=>intro s h;omega
  |succ n D=>
   intro s G z;refine ax.step ?_;refine(hs s z).post ?_;intro o e r h
   cases o with
   |normal=>
    obtain⟨s',h1,h2,h3,h4⟩:=h;show ax g f b _ _ K
    rw[h1,h2];exact D s' (by omega) h3
   |exit id=>exact h
   |ret=>exact h
 exact v _ u (Nat.lt_succ_self _) h0
def a_{o:Out}{m:Nat}{s:Option SV}{b u:Bool}{fr':Fr}(ho:o=.normal\/o=.ret)(h:nC m s fr=some (.t (.bool b),fr'))(e:b=u):(o=.normal\/o=.ret)/\nC m s fr=some (.t (.bool u),fr'):=⟨ho,by rw[h,e]⟩
end
mutual
theorem SV.xz{σ:Nat->Option Nat}:∀x:SV,x.refs=[]->SV.sub σ x=x
 | .t x,_=>by rw[SV.sub]
 | .nil,_=>by rw[SV.sub]
 | .tc es,_=>by rw[SV.sub]
 | .nn es,_=>by rw[SV.sub]
 | .lp i j,h=>by simp[SV.refs]at h
 | .ls i,h=>by simp[SV.refs]at h
 | .lv i sz a n,h=>by simp[SV.refs]at h
 | .le i sz k j,h=>by simp[SV.refs]at h
 | .lm i,h=>by simp[SV.refs]at h
 | .lo i p,h=>by simp[SV.refs]at h
 | .lr i p k,h=>by simp[SV.refs]at h
 | .agg u,h=>by rw[SV.sub,SV.xw u (by simpa[SV.refs]using h)]
 | .aJ u,h=>by rw[SV.sub,SV.xw u (by simpa[SV.refs]using h)]
 | .fn f v u,h=>by rw[SV.sub,SV.xw u (by simpa[SV.refs]using h)]
 | .aV s,h=>by rw[SV.sub,SV.xz s (by simpa[SV.refs]using h)]
 | .no,_=>by rw[SV.sub]
 | .dead,_=>by rw[SV.sub]
theorem SV.xw{σ:Nat->Option Nat}:∀cs:List SV,SV.iS cs=[]->SV.cM σ cs=cs
 |[],_=>by rw[SV.cM]
 |c::cs,h=>by
  rw[SV.iS,List.append_eq_nil_iff]at h;rw[SV.cM,SV.xz c h.1,SV.xw cs h.2]
end
section
variable {g:Cfg} {f:Nat} {env:Env} {fr:Fr} {K:Out->Env->Fr->Prop} {c:Operand} {a b:Code} {p:Prop} [Decidable p]
def am.Jm{t:Bool}(hc:rd env c=.t (.bool t))(ht:t=true->am g f a env fr K)(hf:t=false->am g f b env fr K):am g f (.cond c a b) env fr K:=am.cond hc ht hf
end
def vA(e:Env)(d:Nat)(v:SV):aH e (some d) v d=v:=by unfold aH c9;simp
def vC{e:Env}{d t:Nat}{x v:SV}(h:Nat.beq t d=false)(he:e t=v):aH e (some d) x t=v:=by unfold aH c9;simp only[h];exact he
def vB{e:Env}{t:Nat}{x v:SV}(he:e t=v):aH e none x t=v:=he
def uX(p:Prop):Prop:=p
def uX.go{p:Prop}(h:p):uX p:=h
def am.stop{g:Cfg}{f id:Nat}{ops:Array Oper}{b:Bool}{c:Code}{env:Env}{fr:Fr}{K:Out->Env->Fr->Prop}(h:uX (am g f (.seq (.region id ops b) c) env fr K)):am g f (.seq (.region id ops b) c) env fr K:=h
section
variable {g:Cfg} {d:Option (List Nat)} {i:Nat} {env:Env} {fr:Fr}
def ac.sS{c:Operand}{args:Array Operand}{tys:Array TypeId}{f:Nat}{pa y u:List SV}{xs:List AV}{v:List SV}{r:SV}{z:Fr}(hcl:Cl g f v [] r z)(hcal:ep (rd env c)=some (f,pa,y))(hav:pa++args.toList.map (rd env)++y=u)(hx:cR fr (br (aM g f 0 u) u)=some xs)(hh:cE [] (fc (aM g f 0 u) u)=[])(hm:dh (bc []) (aM g f 0 u) u xs=v)
  (hr:dF r=true):ac g d i env fr (.call ⟨.value c,args,tys⟩) r fr []:=.call hcl hcal hav hx hh hm (by unfold oo;rw[hr])
def ac.cV{c:Operand}{args:Array Operand}{tys:Array TypeId}{f:Nat}{pa y u:List SV}{xs:List AV}{v:List SV}{r:SV}(hcl:Cl g f v [] r [])(hcal:ep (rd env c)=some (f,pa,y))(hav:pa++args.toList.map (rd env)++y=u)(hx:cR fr (br (aM g f 0 u) u)=some xs)(hh:cE [] (fc (aM g f 0 u) u)=[])(hm:dh (bc []) (aM g f 0 u) u xs=v)
  (hn:r.refs=[])(hr:bD fr (br (aM g f 0 u) u)=[]):ac g d i env fr (.call ⟨.value c,args,tys⟩) r fr []:=.call hcl hcal hav hx hh hm (by
 unfold oo;rw[hr]
 cases dF r with
 |true=>rfl
 |false=>
  cases dZ d i with
  |false=>simp only[SV.xz r hn];simp[freeze]
  |true=>simp only[hn])
def ac.LK{t e sz:Nat}{x y:Operand}{k:IntKind}{q:Nat}{es:List (List AV)}{c:AV}{cs:List AV}(he:fy g.P t=some (e,sz))(hx:rd env x=.tc es)(hi:rd env y=.t (.int k (q:Int)))(hc:es[q]?=some (c::cs))(hz:Nat.beq sz (cs.length+1)=true):ac g d i env fr (.indexAddr t x y) (.t (.tp (c::cs))) fr []:=.p rfl rfl (by
 have h:=CX (sz:=sz) (es:=es) (m:=(q:Int)) (by omega) (by rw[Int.toNat_natCast];exact hc) hz;unfold bP jJ;simp only[he,hx,hi,h])
def ac.GV{t e sz k:Nat}{x h:Operand}{u:IntKind}{es vs:List (List AV)}(he:fy g.P t=some (e,sz))(hx:rd env x=.t (.arr es))(hi:rd env h=.t (.int u (k:Int)))(hn:k<=es.length)(hz:qx sz es=true)(hv:es.take k=vs):ac g d i env fr (.slice t x none (some h) none) (.t (.arr vs)) fr []:=.p rfl rfl (by
 subst hv;have h1:(decide (0<=(k:Int))&&Nat.ble (Int.toNat (k:Int)) es.length)=true:=by simp;omega
 unfold bP o7;simp only[Option.map_none,Option.map_some,hx,hi,he,uG,hz];unfold lB e8;simp only[h1];simp[e8])
section
variable {α:Type} {x0 x1 x2 x3 x4 x5 x6 x7 x8 x9 x10 x11 x12 x13:α}
def qc:([]:List α).length=0:=rfl
def qd:[x0].length=1:=rfl
def qj:[x0,x1].length=2:=rfl
def qk:[x0,x1,x2].length=3:=rfl
def ql:[x0,x1,x2,x3].length=4:=rfl
def qm:[x0,x1,x2,x3,x4].length=5:=rfl
def qn:[x0,x1,x2,x3,x4,x5].length=6:=rfl
def qo:[x0,x1,x2,x3,x4,x5,x6].length=7:=rfl
def qp:[x0,x1,x2,x3,x4,x5,x6,x7].length=8:=rfl
def qq:[x0,x1,x2,x3,x4,x5,x6,x7,x8].length=9:=rfl
def qe:[x0,x1,x2,x3,x4,x5,x6,x7,x8,x9].length=10:=rfl
def qf:[x0,x1,x2,x3,x4,x5,x6,x7,x8,x9,x10].length=11:=rfl
def qg:[x0,x1,x2,x3,x4,x5,x6,x7,x8,x9,x10,x11].length=12:=rfl
def qh:[x0,x1,x2,x3,x4,x5,x6,x7,x8,x9,x10,x11,x12].length=13:=rfl
def qi:[x0,x1,x2,x3,x4,x5,x6,x7,x8,x9,x10,x11,x12,x13].length=14:=rfl
end
inductive aI {α:Type}:List α->List α->Prop where
 |nil:aI [] []
 |cons {a b:α} {us bs:List α} (h:a=b) (ht:aI us bs):aI (a::us) (b::bs)
def aI.eq{α:Type}{us bs:List α}(h:aI us bs):us=bs:=by
 induction h with
 |nil=>rfl
 |cons h _ ih=>rw[h,ih]
inductive j8:List SV->List AV->Prop where
 |nil:j8 [] []
 |cons {x:AV} {us:List SV} {bs:List AV} (ht:j8 us bs):j8 (.t x::us) (x::bs)
def j8.eq{us:List SV}{bs:List AV}(h:j8 us bs):us=bs.map .t:=by
 induction h with
 |nil=>rfl
 |cons _ ih=>rw[ih];rfl
def Oc(xs:List AV):iq (xs.map .t)=some xs:=by
 induction xs with
 |nil=>rfl
 |cons x xs u=>rw[List.map_cons];unfold iq;rw[u]
def Od(xs:List AV):qy (xs.map .t)=some xs:=by
 induction xs with
 |nil=>rfl
 |cons x xs u=>rw[List.map_cons];unfold qy;rw[u]
def BU(xs:List AV):my (xs.map .t)=.t (.agg xs):=by unfold my;rw[Od]
def Og(xs:List SV):∀(pre u:List SV),u.length=xs.length->jS (pre++u) pre.length xs=pre++xs:=by
 induction xs with
 |nil=>intro pre u h;obtain rfl:=List.length_eq_zero_iff.1 h;rfl
 |cons x xs v=>
  intro pre u h
  cases u with
  |nil=>simp at h
  |cons o u=>
   unfold jS;have e:(pre++o::u).set pre.length x=(pre++[x])++u:=by simp
   have:=v (pre++[x]) u (by simpa using h);rw[e];simpa using this
def Oe{cs xs:List SV}(h:cs.length=xs.length):jS cs 0 xs=xs:=Og xs [] cs h
def ac.al{T n:Nat}{zs cs:List SV}{fr':Fr}(hs:∀C:CallF,step g C d i env fr (.alloc T)=ca g C (dZ d i) env fr (.alloc T))(hz:mi g.P T=some zs)(hc:aI zs cs)(hn:fr.length=n)(hf:aI (fr++[.box false T cs]) fr'):ac g d i env fr (.alloc T) (.lp n 0) fr' []:=.r fun C=>by
 rw[hs];subst hn;obtain rfl:=hf.eq;obtain rfl:=hc.eq;unfold ca;simp only[hz]
def ac.IB{T n:Nat}{y:Operand}{s:SV}{cs ds:List SV}{fr':Fr}(hs:∀C:CallF,step g C d i env fr (.box T y)=ca g C (dZ d i) env fr (.box T y))(hy:rd env y=s)(hc:bJ s=cs)(ho:cs.all dS=true)(hd:aI cs ds)(hn:fr.length=n)(hf:aI (fr++[.box false T ds]) fr'):ac g d i env fr (.box T y) (.lp n 0) fr' []:=.r fun C=>by
 rw[hs];subst hn hc hy;obtain rfl:=hf.eq;obtain rfl:=hd.eq;unfold ca;simp only[ho]
def ac.Co{T n:Nat}{y:Operand}{xs:List AV}{fr':Fr}(hs:∀C:CallF,step g C d i env fr (.box T y)=ca g C (dZ d i) env fr (.box T y))(hy:rd env y=.t (.agg xs))(ho:(xs.map SV.t).all dS=true)(hn:fr.length=n)(hf:aI (fr++[.box false T (xs.map .t)]) fr'):ac g d i env fr (.box T y) (.lp n 0) fr' []:=.r fun C=>by
 rw[hs];subst hn;obtain rfl:=hf.eq;unfold ca;simp only[hy];have e:bJ (.t (.agg xs))=xs.map .t:=rfl;simp only[e,ho]
def ac.G9{t n r T:Nat}{a y:Operand}{u:Bool}{xs:List AV}{cs:List SV}{fr':Fr}(hs:∀C:CallF,step g C d i env fr (.store t a y)=cd g C env fr (.store t a y))(ht:bu g.P t=some (u,n))(ha:rd env a=.lp r 0)(hy:rd env y=.t (.agg xs))(ho:(xs.map SV.t).all dS=true)(hl:xs.length=n)(hb:fr[r]?=some (.box false T cs))(hc:cs.length=n)(hf:aI (fr.set r (.box false T (xs.map .t))) fr'):ac g d i env fr (.store t a y) .dead fr' []:=.r fun C=>by
 rw[hs];obtain rfl:=hf.eq;subst hl;have e:bJ (.t (.agg xs))=xs.map .t:=rfl;have h1:Nat.beq (xs.map SV.t).length xs.length=true:=by simp
 have h2:Nat.ble (0+xs.length) cs.length=true:=by simp;omega
 have h3:jS cs 0 (xs.map .t)=xs.map .t:=Oe (by simpa using hc);unfold cd;simp only[iL];unfold ca;simp only;unfold iV;simp only[ht,ha,hy,e,ho,h1,Bool.and_self,hb,h2,h3]
def ac.G6{t n r j T:Nat}{a y:Operand}{u:Bool}{s:SV}{cs ds vs:List SV}{fr':Fr}(hs:∀C:CallF,step g C d i env fr (.store t a y)=cd g C env fr (.store t a y))(ht:bu g.P t=some (u,n))(ha:rd env a=.lp r j)(hy:rd env y=s)(hv:bJ s=vs)(ho:(vs.all dS&&Nat.beq vs.length n)=true)(hb:fr[r]?=some (.box false T cs))(hc:Nat.ble (j+n) cs.length=true)(hd:aI (jS cs j vs) ds)(hf:aI (fr.set r (.box false T ds)) fr'):ac g d i env fr (.store t a y) .dead fr' []:=.r fun C=>by
 rw[hs];obtain rfl:=hf.eq;obtain rfl:=hd.eq;subst hv hy;unfold cd;simp only[iL];unfold ca;simp only;unfold iV;simp only[ht,ha,ho,hb,hc]
def ac.D5{t n r T:Nat}{y:Operand}{ro:Bool}{xs:List AV}(ht:bu g.P t=some (true,n))(hy:rd env y=.lp r 0)(hb:fr[r]?=some (.box ro T (List.map SV.t xs)))(hl:xs.length=n):ac g d i env fr (.load t y) (.t (.agg xs)) fr []:=.p rfl rfl (by
 subst hl;unfold bP fW;have h1:Nat.ble (0+xs.length) (xs.map SV.t).length=true:=by simp
 have h2:((xs.map SV.t).drop 0).take xs.length=xs.map .t:=by rw[List.drop_zero];exact List.take_of_length_le (by simp)
 simp only[ht,hy,hb,h1,h2,BU])
def ac.zO{t n r j T:Nat}{y:Operand}{ro:Bool}{cs vs:List SV}{xs:List AV}(ht:bu g.P t=some (true,n))(hy:rd env y=.lp r j)(hb:fr[r]?=some (.box ro T cs))(hl:Nat.ble (j+n) cs.length=true)(hv:(cs.drop j).take n=vs)(hx:j8 vs xs):ac g d i env fr (.load t y) (.t (.agg xs)) fr []:=.p rfl rfl (by
 unfold bP fW;simp only[ht,hy,hb,hl,hv,hx.eq,BU])
def ac.D2{t n r j T:Nat}{y:Operand}{ro:Bool}{cs vs:List SV}{v:SV}(ht:bu g.P t=some (true,n))(hy:rd env y=.lp r j)(hb:fr[r]?=some (.box ro T cs))(hl:Nat.ble (j+n) cs.length=true)(hv:aI ((cs.drop j).take n) vs)(hx:my vs=v):ac g d i env fr (.load t y) v fr []:=.p rfl rfl (by
 unfold bP fW;simp only[ht,hy,hb,hl,hv.eq,hx])
end
inductive fS (ks:List Nat):Fr->Fr->Prop where
 |nil:fS ks [] []
 |own {ro:Bool} {x:AV} {fr fr':Fr} (h:fS ks fr fr'):fS ks (.own ro x::fr) (.own ro x::fr')
 |row {ro tch:Bool} {sz:Nat} {es:List (List AV)} {fr fr':Fr} (h:fS ks fr fr'):fS ks (.row ro tch sz es::fr) (.row ro tch sz es::fr')
 |pL {ro:Bool} {T:TypeId} {xs:List AV} {fr fr':Fr} (h:fS ks fr fr'):fS ks (.box ro T (List.map SV.t xs)::fr) (.box ro T (List.map SV.t xs)::fr')
 |box {ro:Bool} {T:TypeId} {cs ds:List SV} {fr fr':Fr} (hd:aI (SV.cM (dN ks) cs) ds) (h:fS ks fr fr'):fS ks (.box ro T cs::fr) (.box ro T ds::fr')
def sx{σ:Nat->Option Nat}(xs:List AV):SV.cM σ (xs.map .t)=xs.map .t:=by
 induction xs with
 |nil=>rfl
 |cons x xs u=>rw[List.map_cons,SV.cM,SV.sub,u]
theorem fS.eq{ks:List Nat}{fr fr':Fr}(h:fS ks fr fr'):fr.map (Lb.sub (dN ks))=fr':=by
 induction h with
 |nil=>rfl
 |row _ ih=>rw[List.map_cons,ih];rfl
 |own _ ih=>rw[List.map_cons,ih];rfl
 |pL _ ih=>rw[List.map_cons,ih,Lb.sub,sx]
 |box hd _ ih=>rw[List.map_cons,ih,Lb.sub,hd.eq]
section
variable {g:Cfg} {d:Option (List Nat)} {i:Nat} {env:Env} {fr:Fr}
def ac.Ix{t T sz u n:Nat}{fr':Fr}(hs:∀C:CallF,step g C d i env fr (.buildSlice t 0 #[])=ca g C (dZ d i) env fr (.buildSlice t 0 #[]))(hr:eT g.P t=some (T,sz,u))(hn:fr.length=n)(hf:aI (fr++[.row false false sz []]) fr'):ac g d i env fr (.buildSlice t 0 #[]) (.ls n) fr' []:=.r fun C=>by
 rw[hs];subst hn;obtain rfl:=hf.eq;unfold ca;simp only[hr]
def ac.da{t T r sz v:Nat}{a y:Operand}{args:Array Operand}{tys:Array TypeId}{s:SV}{es u vs:List (List AV)}{tch:Bool}{fr1 fr':Fr}(hs:∀C:CallF,step g C d i env fr (.call ⟨.builtin .append,args,tys⟩)=ca g C (dZ d i) env fr (.call ⟨.builtin .append,args,tys⟩))(ha:args.toList=[a,y])(ht:tys.toList=[t,t])(hr:eT g.P t=some (T,sz,v))(hx:rd env a=.ls r)(hy:rd env y=s)(hn:iU fr s=some u)(hb:fr[r]?=some (.row false tch sz es))
  (hok:eP sz u=true)(hlen:b6 (es.length+u.length) v=true)(hv:es++u=vs)(hk:fS [r] fr fr1)(hf:aI (fr1.set r (.row false true sz vs)) fr'):ac g d i env fr (.call ⟨.builtin .append,args,tys⟩) (.ls r) fr' [r]:=.r fun C=>by
 rw[hs];subst hv hy;obtain rfl:=hf.eq;obtain rfl:=hk.eq;have h1:(Nat.beq sz sz&&b6 (es.length+u.length) v)=true:=by rw[hlen];simp
 have h2:Nat.beq t t=true:=by simp
 unfold ca;simp only[ha,ht,h2];unfold sQ;simp only[hr,hn,hok,hx,hb,h1];rfl
def ac.qE{t n r q:Nat}{a y:Operand}{tch:Bool}{es vs:List (List AV)}{cs:List AV}{c:AV}{u:Bool}{fr':Fr}(hs:∀C:CallF,step g C d i env fr (.store t a y)=cd g C env fr (.store t a y))(ht:bu g.P t=some (u,n))(ha:rd env a=.le r 1 q 0)(hy:rd env y=.t c)(hone:dS (.t c)=true)(hn:Nat.beq 1 n=true)(hb:fr[r]?=some (.row false tch 1 es))(hk:es[q]?=some cs)(hj:cs.length=1)(hv:es.set q [c]=vs)(hf:aI (fr.set r (.row false tch 1 vs)) fr'):ac g d i env fr (.store t a y) .dead fr' []:=by
 obtain rfl:=hf.eq;subst hv
 have e:cs.set 0 c=[c]:=by
  match cs,hj with
  |[x],_=>rfl
 have:=ac.str (effOk:=hs) ht ha hy hone hn hb hk (by rw[hj];rfl);rw[e]at this;exact this
def ac.Iy{t len:Nat}{parts:Array (Nat×Operand)}{u:List Nat}{xs:List AV}{x:SV}{fr1:Fr}(hs:∀C:CallF,step g C d i env fr (.buildSlice t len parts)=cd g C env fr (.buildSlice t len parts))(hw:iL (.buildSlice t len parts)=false)(h0:bP g.P fr env (.buildSlice t len parts)=none)(ht:jY (parts.toList.map (·.2))=u)(hx:cR fr (u.map fun t=>un (env t))=some xs)(hf:aI (freeze fr (bD fr (u.map fun t=>un (env t)))) fr1)(hp:bP g.P fr1 (qJ env u xs) (.buildSlice t len parts)=some x):ac g d i env fr (.buildSlice t len parts) x fr1 []:=.r fun C=>by
 rw[hs];subst ht;obtain rfl:=hf.eq;unfold cd;simp only[hw,h0];unfold vI;simp only[hx];rw[hp];rfl
def ac.H0{xt yt:TypeId}{x y:Operand}{s u:ByteArray}(hx:rd env x=.t (.str s))(hy:rd env y=.t (.str u))(h:s.size+u.size<=9223372036854775807):ac g d i env fr (.binOp .add xt x y yt) (.t (.str (s++u))) fr []:=
 .lu hx hy (by unfold h_;simp only[xv,if_pos h])
def ac.lV{xt yt:TypeId}{x y:Operand}{m n r:Int}(hx:rd env x=.t (.int .i64 m))(hy:rd env y=.t (.int .i64 n))(hn:n≠0)(h:m.tmod n=r):ac g d i env fr (.binOp .rem xt x y yt) (.t (.int .i64 r)) fr []:=
 .lu hx hy (by unfold h_;simp only[if_true,kJ,if_neg hn,h])
def ac.gT{xt yt:TypeId}{x y:Operand}{m n r:Int}(hx:rd env x=.t (.int .i64 m))(hy:rd env y=.t (.int .i64 n))(hn:n≠0)(h:m.tdiv n=r)(hb : -9223372036854775808<=r/\r<=9223372036854775807):ac g d i env fr (.binOp .quo xt x y yt) (.t (.int .i64 r)) fr []:=
 .lu hx hy (by unfold h_;simp only[if_true,kJ,if_neg hn,h,IntWalk.i64_in _ hb])
def ac.ss{t l h:Nat}{x lo hi:Operand}{k z:IntKind}{s v:ByteArray}(hst:mJ g.P t=true)(hx:rd env x=.t (.str s))(hl:rd env lo=.t (.int k (l:Int)))(hh:rd env hi=.t (.int z (h:Int)))(hlh:l<=h)(hhs:h<=s.size)(hv:s.extract l h=v):ac g d i env fr (.slice t x (some lo) (some hi) none) (.t (.str v)) fr []:=.p rfl rfl (by
 subst hv;have h1:(decide (0<=(h:Int))&&Nat.ble (Int.toNat (h:Int)) s.size)=true:=by simp;omega
 have h2:(decide (0<=(l:Int))&&Nat.ble (Int.toNat (l:Int)) h)=true:=by simp;omega
 have u:e8 (some (.t (.int z (h:Int)))) s.size s.size=some h:=by unfold e8;simp only[h1];simp
 have y:e8 (some (.t (.int k (l:Int)))) 0 h=some l:=by unfold e8;simp only[h2];simp
 unfold bP o7;simp only[Option.map_none,Option.map_some,hx,hl,hh,hst];unfold lB;simp only[u,y])
def ac.D4{t n r sz q j:Nat}{y:Operand}{ro tch:Bool}{es:List (List AV)}{cs vs:List AV}(ht:bu g.P t=some (true,n))(hy:rd env y=.le r sz q j)(hb:fr[r]?=some (.row ro tch sz es))(hk:es[q]?=some cs)(hl:Nat.ble (j+n) cs.length=true)(hv:aI ((cs.drop j).take n) vs):ac g d i env fr (.load t y) (.t (.agg vs)) fr []:=.p rfl rfl (by
 obtain rfl:=hv.eq;have h2:Nat.beq sz sz=true:=by simp
 unfold bP fW;simp only[ht,hy,hb,h2,hk,hl])
def ac.Mi{t n r sz q:Nat}{y:Operand}{ro tch:Bool}{es:List (List AV)}{c:AV}(ht:bu g.P t=some (false,n))(hy:rd env y=.le r sz q 0)(hb:fr[r]?=some (.row ro tch sz es))(hk:es[q]?=some [c]):ac g d i env fr (.load t y) (.t c) fr []:=.D3 ht hy hb hk rfl
end
inductive c_ (σ:Nat->Option Nat):Fr->Fr->Prop where
 |nil:c_ σ [] []
 |own {ro:Bool} {x:AV} {fr fr':Fr} (h:c_ σ fr fr'):c_ σ (.own ro x::fr) (.own ro x::fr')
 |row {ro tch:Bool} {sz:Nat} {es:List (List AV)} {fr fr':Fr} (h:c_ σ fr fr'):c_ σ (.row ro tch sz es::fr) (.row ro false sz es::fr')
 |pL {ro:Bool} {T:TypeId} {xs:List AV} {fr fr':Fr} (h:c_ σ fr fr'):c_ σ (.box ro T (List.map SV.t xs)::fr) (.box ro T (List.map SV.t xs)::fr')
 |box {ro:Bool} {T:TypeId} {cs ds:List SV} {fr fr':Fr} (hd:aI (SV.cM σ cs) ds) (h:c_ σ fr fr'):c_ σ (.box ro T cs::fr) (.box ro T ds::fr')
theorem c_.eq{σ:Nat->Option Nat}{fr fr':Fr}(h:c_ σ fr fr'):fr.map (fun b=>cS (b.sub σ))=fr':=by
 induction h with
 |nil=>rfl
 |row _ ih=>rw[List.map_cons,ih];rfl
 |own _ ih=>rw[List.map_cons,ih];rfl
 |pL _ ih=>rw[List.map_cons,ih,Lb.sub,sx];rfl
 |box hd _ ih=>rw[List.map_cons,ih,Lb.sub,hd.eq];rfl
section
variable {g:Cfg} {d:Option (List Nat)} {i:Nat} {env:Env} {fr:Fr}
def ac.Ct{c:Operand}{args:Array Operand}{tys:Array TypeId}{f n:Nat}{pa G u:List SV}{xs:List AV}{z:List SV}{r v:SV}{D y fr':Fr}(hcl:Cl g f z [] r D)(hcal:ep (rd env c)=some (f,pa,G))(hav:pa++args.toList.map (rd env)++G=u)(hx:cR fr (br (aM g f 0 u) u)=some xs)(hh:cE [] (fc (aM g f 0 u) u)=[])(hm:dh (bc []) (aM g f 0 u) u xs=z)
  (hr:dF r=false)(hd:dZ d i=false)(hq:bD fr (br (aM g f 0 u) u)=[])(hn:fr.length=n)(hv:r.sub (dD [] n)=v)(he:c_ (dD [] n) D y)(hf:aI (fr++y) fr'):ac g d i env fr (.call ⟨.value c,args,tys⟩) v fr' []:=.call hcl hcal hav hx hh hm (by
 subst hv hn;obtain rfl:=hf.eq;obtain rfl:=he.eq;unfold oo;rw[hr,hd,hq];rfl)
def ac.sT{c:Operand}{args:Array Operand}{tys:Array TypeId}{f h0:Nat}{ht:List Nat}(hs:List Nat){pa D u:List SV}{xs:List AV}{z:List SV}{r x:SV}{bs v fr' y:Fr}{ks:List Nat}(hcl:Cl g f z v r fr')(hdr:dZ d i=false)(hcal:ep (rd env c)=some (f,pa,D))(hav:pa++args.toList.map (rd env)++D=u)(hx:cR fr (br (aM g f 0 u) u)=some xs)(hh:cE [] (fc (aM g f 0 u) u)=h0::ht)
  (hs0:close fr 4 (h0::ht)=hs)(hf:bD fr (br (aM g f 0 u) u)=[])(hg:dL fr hs=some bs)(hc:lw hs bs=true)(hm:dh (bc hs) (aM g f 0 u) u xs=z)(hb:bs.map (fun b=>cS (b.sub (bc hs)))=v)(hk:kindOk hs fr' fr=true)(hv:r.sub (dD hs fr.length)=x)(hl:aI (back hs fr fr') y)(hq:dy hs fr'=ks):ac g d i env fr (.call ⟨.value c,args,tys⟩) x y ks:=ac.Cs hs hcl hdr hcal hav hx hh hs0 hf hg hc hm hb hk (by rw[hv,hl.eq,hq])
def ac.II{c:Operand}{args:Array Operand}{tys:Array TypeId}{f h0:Nat}{ht:List Nat}(hs:List Nat){pa D u:List SV}{xs:List AV}{z:List SV}{r x:SV}{bs v fr' fr1 y:Fr}{ks:List Nat}(hcl:Cl g f z v r fr')(hdr:dZ d i=false)(hcal:ep (rd env c)=some (f,pa,D))(hav:pa++args.toList.map (rd env)++D=u)(hx:cR fr (br (aM g f 0 u) u)=some xs)(hh:cE [] (fc (aM g f 0 u) u)=h0::ht)
  (hs0:close fr 4 (h0::ht)=hs)(hf:aI (freeze fr (bD fr (br (aM g f 0 u) u))) fr1)(hg:dL fr1 hs=some bs)(hc:lw hs bs=true)(hm:dh (bc hs) (aM g f 0 u) u xs=z)(hb:bs.map (fun b=>cS (b.sub (bc hs)))=v)(hk:kindOk hs fr' fr1=true)(hv:r.sub (dD hs fr.length)=x)(hl:aI (back hs fr1 fr') y)(hq:dy hs fr'=ks):ac g d i env fr (.call ⟨.value c,args,tys⟩) x y ks:=ac.Cr hcl hdr hcal hav hx hh hs0 hf.eq hg hc hm hb hk (by rw[hv,hl.eq,hq])
end
section
variable {g:Cfg}
theorem Cl.ext{f:Nat}{xs:List AV}{args:List SV}{r:SV}{u:Fr}(hok:g.ok f=false)(ha:args=xs.map .t)(he:g.ext f xs=some (r,u)):Cl g f args [] r u:=by
 subst ha;refine⟨1,?_⟩;unfold cV;have e:iq (xs.map .t)=some xs:=Oc xs;simp only[hok,e];exact he
end
section
variable {g:Cfg} {d:Option (List Nat)} {i':Nat} {env:Env} {fr:Fr}
def ac.gV{t:Nat}{x i:Operand}{k:IntKind}{m:Int}{s:ByteArray}{b:UInt8}(hx:rd env x=.t (.str s))(hi:rd env i=.t (.int k m))(hst:mJ g.P t=true)(h0:0<=m)(hb:s.data.toList[m.toNat]?=some b):ac g d i' env fr (.index t x i) (.t (.int .u8 (b.toNat:Int))) fr []:=.p rfl rfl (by
 have h1:s[m.toNat]?=some b:=by
  rw[<- hb];obtain⟨⟨l⟩⟩:=s;show(if h:_ then _ else _)=_
  rcases Nat.lt_or_ge m.toNat l.length with h|h
  ·rw[dif_pos (by simpa[ByteArray.size]using h)];simp only[List.getElem?_eq_getElem h];rfl
  ·rw[dif_neg (by simpa[ByteArray.size]using h)];simp[List.getElem?_eq_none h]
 unfold bP v8;simp only[hx,hi,hst,decide_eq_true h0,h1])
def ac.ux{t:Nat}{x lo:Operand}{k:IntKind}{m:Int}{s v:ByteArray}(hst:mJ g.P t=true)(hx:rd env x=.t (.str s))(hl:rd env lo=.t (.int k m))(h0:0<=m)(hls:m.toNat<=s.size)(hv:s.extract m.toNat s.size=v):ac g d i' env fr (.slice t x (some lo) none none) (.t (.str v)) fr []:=.p rfl rfl (by
 subst hv;obtain⟨l,rfl⟩:=Int.eq_ofNat_of_zero_le h0;rw[Int.toNat_natCast]at hls⊢;have h2:(decide (0<=(l:Int))&&Nat.ble (Int.toNat (l:Int)) s.size)=true:=by simp;omega
 have y:e8 (some (.t (.int k (l:Int)))) 0 s.size=some l:=by unfold e8;simp only[h2];simp
 have u:e8 none s.size s.size=some s.size:=rfl;unfold bP o7;simp only[Option.map_none,Option.map_some,hx,hl,hst];unfold lB;simp only[u,y])
def ac.xl{t h:Nat}{x hi:Operand}{k:IntKind}{s v:ByteArray}(hst:mJ g.P t=true)(hx:rd env x=.t (.str s))(hh:rd env hi=.t (.int k (h:Int)))(hhs:h<=s.size)(hv:s.extract 0 h=v):ac g d i' env fr (.slice t x none (some hi) none) (.t (.str v)) fr []:=.p rfl rfl (by
 subst hv;have h1:(decide (0<=(h:Int))&&Nat.ble (Int.toNat (h:Int)) s.size)=true:=by simp;omega
 have u:e8 (some (.t (.int k (h:Int)))) s.size s.size=some h:=by unfold e8;simp only[h1];simp
 have y:e8 none 0 h=some 0:=by unfold e8;rfl
 unfold bP o7;simp only[Option.map_none,Option.map_some,hx,hh,hst];unfold lB;simp only[u,y])
def ac.JR{u dst:Nat}{k:IntKind}{x:Operand}{m:Int}{ds:TypeDesc}(hx:rd env x=.t (.int k m))(hs:g.P.underlying u=some ds)(hd:g.P.underlying dst=some (.int .i64))(h : -9223372036854775808<=m/\m<=9223372036854775807):ac g d i' env fr (.convert u dst x) (.t (.int .i64 m)) fr []:=.p rfl rfl (by
 unfold bP s_;simp only[hx,hs,hd,IntWalk.i64_in _ h])
end
section
variable {g:Cfg} {d:Option (List Nat)} {env:Env} {fr:Fr} {i':Nat}
def ac.JS{u dst:Nat}{k:IntKind}{x:Operand}{m:Int}{ds:TypeDesc}(hx:rd env x=.t (.int k m))(hs:g.P.underlying u=some ds)(hd:g.P.underlying dst=some (.int .u64))(h:0<=m/\m<=9223372036854775807):ac g d i' env fr (.convert u dst x) (.t (.int .u64 m)) fr []:=.p rfl rfl (by
 unfold bP s_;simp only[hx,hs,hd,IntWalk.u64_in _ ⟨h.1,by omega⟩])
def ac.ec{t:Nat}{l c:Operand}{v u x:SV}{fr1 fr':Fr}(hs:∀C:CallF,step g C d i' env fr (.makeSlice t l c)=ca g C (dZ d i') env fr (.makeSlice t l c))(hl:rd env l=v)(hc:rd env c=u)(hd:dZ d i'=false)(hm:iO g.P fr t v u=some (x,fr1,[]))(hf:aI fr1 fr'):ac g d i' env fr (.makeSlice t l c) x fr' []:=.r fun C=>by
 obtain rfl:=hf.eq;subst hl hc;rw[hs];unfold ca;simp only[hm,hd]
end
section
variable {g:Cfg} {d:Option (List Nat)} {env:Env} {fr:Fr} {i:Nat}
def ac.GY{t e sz r:Nat}{x:Operand}{lo hi:Option Operand}{ro tch:Bool}{es:List (List AV)}{v u:Option SV}{y:SV}(he:fy g.P t=some (e,sz))(hx:rd env x=.ls r)(hl:lo.map (rd env)=v)(hh:hi.map (rd env)=u)(hb:fr[r]?=some (.row ro tch sz es))(hv:lf r sz 0 es.length es.length v u=some y):ac g d i env fr (.slice t x lo hi none) y fr []:=.p rfl rfl (by
 have h2:Nat.beq sz sz=true:=by simp
 subst hl hh;unfold bP o7;simp only[Option.map_none,hx,he,uG];unfold xq;simp only[he,hb,h2];exact hv)
def Ce{q dv u:Nat}{k:IntKind}(h:q<=u):e8 (some (.t (.int k (q:Int)))) dv u=some q:=by
 have h1:(decide (0<=(q:Int))&&Nat.ble (Int.toNat (q:Int)) u)=true:=by simp;omega
 unfold e8;simp only[h1];simp
def Cf{dv u:Nat}:e8 none dv u=some dv:=rfl
def Hy{r sz n l h:Nat}{lo hi:Option SV}(h1:e8 hi n n=some h)(h2:e8 lo 0 h=some l):lf r sz 0 n n lo hi=match Nat.beq (0+l) 0&&Nat.beq h n with
  |true=>some (.ls r)
  |false=>match Nat.beq (h - l) 0&&Nat.blt 0 (0+l)with
   |true=>some (.t (.arr []))
   |false=>some (.lv r sz (0+l) (h - l)):=by
 unfold lf lB;simp only[h1,h2];rfl
def yx{a b:Nat}(h:a≠b):Nat.beq a b=false:=by rw[<- Bool.not_eq_true,Nat.beq_eq];exact h
def RJ{r sz n q:Nat}{k:IntKind}(h0:0 <q)(h:q <n):lf r sz 0 n n (some (.t (.int k (q:Int)))) none=some (.lv r sz q (n - q)):=by
 rw[Hy Cf (Ce (by omega)),Nat.zero_add,yx (show q≠0 by omega),yx (show n - q≠0 by omega)];rfl
def RH{r sz n q:Nat}{k:IntKind}(h:q <n):lf r sz 0 n n none (some (.t (.int k (q:Int))))=some (.lv r sz 0 q):=by
 rw[Hy (Ce (by omega)) Cf,yx (show q≠n by omega),Nat.zero_add];have h3:Nat.blt 0 0=false:=rfl;rw[h3,Bool.and_false,Bool.and_false];rfl
end
def af{g:Cfg}{d:Option (List Nat)}{i:Nat}{env:Env}{fr fr':Fr}{op:Op}{x:SV}{ks:List Nat}(h:ac g d i env fr op x fr' ks:=by
 first
|((with_reducible apply ac.mv);(conv=>lhs;whnf);try exact rfl)
|((with_reducible apply ac.asg);(conv=>lhs;whnf);try exact rfl)
|((with_reducible apply ac.NW);(case hc=>exact rfl);(case h=>(conv=>lhs;whnf);try exact rfl))
|((with_reducible apply ac.NV);(case hc=>exact rfl);(case h=>(conv=>lhs;whnf);try exact rfl))
|((with_reducible apply ac.inc);(case hx|hy=>exact rfl);(case h=>omega))
|((with_reducible apply ac.add);(case hx|hy=>exact rfl);(case h=>omega))
|((with_reducible apply ac.sub);(case hx|hy=>exact rfl);(case h=>omega))
|((with_reducible apply ac.len);(case ha|hy|ht|hs=>exact rfl);(case hn=>first|exact List.length_map _|exact rfl))
|((with_reducible apply ac.ix);(case he=>first|(with_reducible exact pR)|(with_reducible exact el1)|(with_reducible exact pS)|(with_reducible exact el3)|(with_reducible exact el4)|(with_reducible exact pT)|(with_reducible exact el6)|(with_reducible exact el7)|exact rfl);(case hx|hi=>exact rfl);(case hc=>assumption);(case hz=>exact rfl))
|((with_reducible apply ac.LK);(case he=>first|(with_reducible exact pR)|(with_reducible exact el1)|(with_reducible exact pS)|(with_reducible exact el3)|(with_reducible exact el4)|(with_reducible exact pT)|(with_reducible exact el6)|(with_reducible exact el7)|exact rfl);(case hx|hi=>exact rfl);(case hc=>assumption);(case hz=>exact rfl))
|((with_reducible apply ac.DN);(case he=>first|(with_reducible exact pR)|(with_reducible exact el1)|(with_reducible exact pS)|(with_reducible exact el3)|(with_reducible exact el4)|(with_reducible exact pT)|(with_reducible exact el6)|(with_reducible exact el7)|exact rfl);(case hx|hi=>exact rfl);(case h0=>omega);(case hc=>assumption);(case hz=>exact rfl))
|((with_reducible apply ac.rj);(case hy|ho=>exact rfl);(case hn=>(conv=>lhs;whnf);try exact rfl))
|((with_reducible apply ac.Kz);(case hy|ho=>exact rfl);(case hn=>(conv=>lhs;whnf);try exact rfl))
|((with_reducible apply ac.al);(case hs=>exact fun _=>rfl);(case hz=>exact rfl);(case hc=>(repeat'(first|exact aI.nil|((first|with_reducible apply aI.cons|apply aI.cons);(case h=>(conv=>lhs;whnf);try exact rfl)))));(case hn=>(first|exact qc|exact qd|exact qj|exact qk|exact ql|exact qm|exact qn|exact qo|exact qp|exact qq|exact qe|exact qf|exact qg|exact qh|exact qi));(case hf=>(repeat'(first|exact aI.nil|((first|with_reducible apply aI.cons|apply aI.cons);(case h=>(conv=>lhs;whnf);try exact rfl))))))
|((with_reducible apply ac.Co);(case hs=>exact fun _=>rfl);(case hy=>exact rfl);(case ho=>kernel_rfl);(case hn=>(first|exact qc|exact qd|exact qj|exact qk|exact ql|exact qm|exact qn|exact qo|exact qp|exact qq|exact qe|exact qf|exact qg|exact qh|exact qi));(case hf=>(repeat'(first|exact aI.nil|((first|with_reducible apply aI.cons|apply aI.cons);(case h=>(conv=>lhs;whnf);try exact rfl))))))
|((with_reducible apply ac.IB);(case hs=>exact fun _=>rfl);(case hy|hc=>exact rfl);(case ho=>kernel_rfl);(case hd=>(repeat'(first|exact aI.nil|((first|with_reducible apply aI.cons|apply aI.cons);(case h=>(conv=>lhs;whnf);try exact rfl)))));(case hn=>(first|exact qc|exact qd|exact qj|exact qk|exact ql|exact qm|exact qn|exact qo|exact qp|exact qq|exact qe|exact qf|exact qg|exact qh|exact qi));(case hf=>(repeat'(first|exact aI.nil|((first|with_reducible apply aI.cons|apply aI.cons);(case h=>(conv=>lhs;whnf);try exact rfl))))))
|((with_reducible apply ac.G9);(case hs=>exact fun _=>rfl);(case ha|hy=>exact rfl);(case ht=>first|(with_reducible exact sz0)|(with_reducible exact eV)|(with_reducible exact nV)|(with_reducible exact sz3)|(with_reducible exact sz4)|(with_reducible exact sz5)|(with_reducible exact sz6)|(with_reducible exact sz7)|(with_reducible exact sz8)|(with_reducible exact sz9)|exact rfl);(case ho=>kernel_rfl);(case hl=>kernel_rfl);(case hb=>exact rfl);(case hc=>kernel_rfl);(case hf=>(repeat'(first|exact aI.nil|((first|with_reducible apply aI.cons|apply aI.cons);(case h=>(conv=>lhs;whnf);try exact rfl))))))
|((with_reducible apply ac.G6);(case hs=>exact fun _=>rfl);(case ha|hy=>exact rfl);(case ht=>first|(with_reducible exact sz0)|(with_reducible exact eV)|(with_reducible exact nV)|(with_reducible exact sz3)|(with_reducible exact sz4)|(with_reducible exact sz5)|(with_reducible exact sz6)|(with_reducible exact sz7)|(with_reducible exact sz8)|(with_reducible exact sz9)|exact rfl);(case hv=>exact rfl);(case ho=>kernel_rfl);(case hb=>exact rfl);(case hc=>kernel_rfl);(case hd=>(repeat'(first|exact aI.nil|((first|with_reducible apply aI.cons|apply aI.cons);(case h=>(conv=>lhs;whnf);try exact rfl)))));(case hf=>(repeat'(first|exact aI.nil|((first|with_reducible apply aI.cons|apply aI.cons);(case h=>(conv=>lhs;whnf);try exact rfl))))))
|((with_reducible apply ac.D5);(case hy=>exact rfl);(case ht=>first|(with_reducible exact sz0)|(with_reducible exact eV)|(with_reducible exact nV)|(with_reducible exact sz3)|(with_reducible exact sz4)|(with_reducible exact sz5)|(with_reducible exact sz6)|(with_reducible exact sz7)|(with_reducible exact sz8)|(with_reducible exact sz9));(case hb=>exact rfl);(case hl=>kernel_rfl))
|((with_reducible apply ac.zO);(case hy=>exact rfl);(case ht=>first|(with_reducible exact sz0)|(with_reducible exact eV)|(with_reducible exact nV)|(with_reducible exact sz3)|(with_reducible exact sz4)|(with_reducible exact sz5)|(with_reducible exact sz6)|(with_reducible exact sz7)|(with_reducible exact sz8)|(with_reducible exact sz9));(case hb=>exact rfl);(case hl=>kernel_rfl);(case hv=>exact rfl);(case hx=>(repeat'(first|exact j8.nil|(apply j8.cons)))))
|((with_reducible apply ac.D2);(case hy=>exact rfl);(case ht=>first|(with_reducible exact sz0)|(with_reducible exact eV)|(with_reducible exact nV)|(with_reducible exact sz3)|(with_reducible exact sz4)|(with_reducible exact sz5)|(with_reducible exact sz6)|(with_reducible exact sz7)|(with_reducible exact sz8)|(with_reducible exact sz9));(case hb=>exact rfl);(case hl=>kernel_rfl);(case hv=>(repeat'(first|exact aI.nil|((first|with_reducible apply aI.cons|apply aI.cons);(case h=>(conv=>lhs;whnf);try exact rfl)))));(case hx=>(conv=>lhs;whnf);try exact rfl))
|((with_reducible apply ac.H0);(case hx|hy=>exact rfl);(case h=>first|assumption|omega))
|((with_reducible apply ac.Ix);(case hs=>exact fun _=>rfl);(case hr=>first|(with_reducible exact c7)|(with_reducible exact rw1)|(with_reducible exact c8)|(with_reducible exact rw3)|(with_reducible exact rw4)|exact rfl);(case hn=>(first|exact qc|exact qd|exact qj|exact qk|exact ql|exact qm|exact qn|exact qo|exact qp|exact qq|exact qe|exact qf|exact qg|exact qh|exact qi));(case hf=>(repeat'(first|exact aI.nil|((first|with_reducible apply aI.cons|apply aI.cons);(case h=>(conv=>lhs;whnf);try exact rfl))))))
|((with_reducible apply ac.LI);(case he=>first|(with_reducible exact pR)|(with_reducible exact el1)|(with_reducible exact pS)|(with_reducible exact el3)|(with_reducible exact el4)|(with_reducible exact pT)|(with_reducible exact el6)|(with_reducible exact el7)|exact rfl);(case hx|hi|hb=>exact rfl);(case hq=>first|assumption|omega))
|((with_reducible apply ac.LJ);(case he=>first|(with_reducible exact pR)|(with_reducible exact el1)|(with_reducible exact pS)|(with_reducible exact el3)|(with_reducible exact el4)|(with_reducible exact pT)|(with_reducible exact el6)|(with_reducible exact el7)|exact rfl);(case hx|hi|hb=>exact rfl);(case h0=>first|assumption|omega);(case hq=>first|assumption|omega))
|((with_reducible apply ac.Mi);(case hy|ht|hb=>exact rfl);(case hk=>assumption))
|((with_reducible apply ac.D4);(case hy=>exact rfl);(case ht=>first|(with_reducible exact sz0)|(with_reducible exact eV)|(with_reducible exact nV)|(with_reducible exact sz3)|(with_reducible exact sz4)|(with_reducible exact sz5)|(with_reducible exact sz6)|(with_reducible exact sz7)|(with_reducible exact sz8)|(with_reducible exact sz9));(case hb=>exact rfl);(case hk=>assumption);(case hl=>kernel_rfl);(case hv=>(repeat'(first|exact aI.nil|((first|with_reducible apply aI.cons|apply aI.cons);(case h=>(conv=>lhs;whnf);try exact rfl))))))
|((with_reducible apply ac.D5);(case hy=>exact rfl);(case ht=>first|(with_reducible exact xC)|(with_reducible exact xD)|(with_reducible exact xE)|(with_reducible exact xF)|(with_reducible exact xG)|(with_reducible exact xH)|(with_reducible exact xI)|(with_reducible exact xJ)|(with_reducible exact xK)|(with_reducible exact xL)|(with_reducible exact xM)|(with_reducible exact xN)|(with_reducible exact xO)|(with_reducible exact sz23)|(with_reducible exact sz24)|(with_reducible exact xP)|(with_reducible exact xQ)|(with_reducible exact xR)|(with_reducible exact xS)|(with_reducible exact xT)|(with_reducible exact sz30)|(with_reducible exact sz31)|(with_reducible exact sz32)|(with_reducible exact sz33)|(with_reducible exact sz34));(case hb=>exact rfl);(case hl=>kernel_rfl))
|((with_reducible apply ac.zO);(case hy=>exact rfl);(case ht=>first|(with_reducible exact xC)|(with_reducible exact xD)|(with_reducible exact xE)|(with_reducible exact xF)|(with_reducible exact xG)|(with_reducible exact xH)|(with_reducible exact xI)|(with_reducible exact xJ)|(with_reducible exact xK)|(with_reducible exact xL)|(with_reducible exact xM)|(with_reducible exact xN)|(with_reducible exact xO)|(with_reducible exact sz23)|(with_reducible exact sz24)|(with_reducible exact xP)|(with_reducible exact xQ)|(with_reducible exact xR)|(with_reducible exact xS)|(with_reducible exact xT)|(with_reducible exact sz30)|(with_reducible exact sz31)|(with_reducible exact sz32)|(with_reducible exact sz33)|(with_reducible exact sz34));(case hb=>exact rfl);(case hl=>kernel_rfl);(case hv=>exact rfl);(case hx=>(repeat'(first|exact j8.nil|(apply j8.cons)))))
|((with_reducible apply ac.D2);(case hy=>exact rfl);(case ht=>first|(with_reducible exact xC)|(with_reducible exact xD)|(with_reducible exact xE)|(with_reducible exact xF)|(with_reducible exact xG)|(with_reducible exact xH)|(with_reducible exact xI)|(with_reducible exact xJ)|(with_reducible exact xK)|(with_reducible exact xL)|(with_reducible exact xM)|(with_reducible exact xN)|(with_reducible exact xO)|(with_reducible exact sz23)|(with_reducible exact sz24)|(with_reducible exact xP)|(with_reducible exact xQ)|(with_reducible exact xR)|(with_reducible exact xS)|(with_reducible exact xT)|(with_reducible exact sz30)|(with_reducible exact sz31)|(with_reducible exact sz32)|(with_reducible exact sz33)|(with_reducible exact sz34));(case hb=>exact rfl);(case hl=>kernel_rfl);(case hv=>(repeat'(first|exact aI.nil|((first|with_reducible apply aI.cons|apply aI.cons);(case h=>(conv=>lhs;whnf);try exact rfl)))));(case hx=>(conv=>lhs;whnf);try exact rfl))
|((with_reducible apply ac.D4);(case hy=>exact rfl);(case ht=>first|(with_reducible exact xC)|(with_reducible exact xD)|(with_reducible exact xE)|(with_reducible exact xF)|(with_reducible exact xG)|(with_reducible exact xH)|(with_reducible exact xI)|(with_reducible exact xJ)|(with_reducible exact xK)|(with_reducible exact xL)|(with_reducible exact xM)|(with_reducible exact xN)|(with_reducible exact xO)|(with_reducible exact sz23)|(with_reducible exact sz24)|(with_reducible exact xP)|(with_reducible exact xQ)|(with_reducible exact xR)|(with_reducible exact xS)|(with_reducible exact xT)|(with_reducible exact sz30)|(with_reducible exact sz31)|(with_reducible exact sz32)|(with_reducible exact sz33)|(with_reducible exact sz34));(case hb=>exact rfl);(case hk=>assumption);(case hl=>kernel_rfl);(case hv=>(repeat'(first|exact aI.nil|((first|with_reducible apply aI.cons|apply aI.cons);(case h=>(conv=>lhs;whnf);try exact rfl))))))
|((with_reducible apply ac.D3);(case ht|hy|hb=>exact rfl);(case hk=>assumption);(case hj=>exact rfl))
|exact ac.r fun _=>rfl
 ):ac g d i env fr op x fr' ks:=h
def leq{α:Type}{a b:List α}(h:aI a b:=by repeat'(first|exact aI.nil|((first|with_reducible apply aI.cons|apply aI.cons);(case h=>(conv=>lhs;whnf);try exact rfl)))):aI a b:=h
def slt{e:Env}{fr:Fr}{n:Nat}{s:List Nat}{l:List (Nat×SV)}(h:mq e fr n s l:=by repeat'(first|exact mq.nil|(apply mq.cons;(case hv=>(conv=>lhs;whnf);try exact rfl)))):mq e fr n s l:=h
def zS{fr:Fr}{n:Nat}(h:fr.length=n:=by first|exact qc|exact qd|exact qj|exact qk|exact ql|exact qm|exact qn|exact qo|exact qp|exact qq|exact qe|exact qf|exact qg|exact qh|exact qi):fr.length=n:=h
def Sk{σ:Nat->Option Nat}{a b:Fr}(h:c_ σ a b:=by repeat'(first|exact c_.nil|(with_reducible apply c_.row)|(with_reducible apply c_.pL)|(with_reducible apply c_.own)|((apply c_.box);(case hd=>(repeat'(first|exact aI.nil|((first|with_reducible apply aI.cons|apply aI.cons);(case h=>(conv=>lhs;whnf);try exact rfl)))))))):c_ σ a b:=h
def de{ks:List Nat}{a b:Fr}(h:fS ks a b:=by repeat'(first|exact fS.nil|(with_reducible apply fS.row)|(with_reducible apply fS.pL)|(with_reducible apply fS.own)|((apply fS.box);(case hd=>(repeat'(first|exact aI.nil|((first|with_reducible apply aI.cons|apply aI.cons);(case h=>(conv=>lhs;whnf);try exact rfl)))))))):fS ks a b:=h
def aA{p:Prop}(h:p:=by first|assumption|omega):p:=h
def ap{g:Cfg}{d:Option (List Nat)}{i:Nat}{env:Env}{fr:Fr}{c:Operand}{args:Array Operand}{tys:Array TypeId}{f:Nat}{pa y u:List SV}{xs:List AV}{v:List SV}{r:SV}{z:Fr}(hcl:Cl g f v [] r z)(hcal:ep (rd env c)=some (f,pa,y):=by exact rfl)(hav:pa++args.toList.map (rd env)++y=u:=by exact rfl)(hx:cR fr (br (aM g f 0 u) u)=some xs:=by exact rfl)(hh:cE [] (fc (aM g f 0 u) u)=[]:=by exact rfl)(hm:dh (bc []) (aM g f 0 u) u xs=v:=by exact rfl)(hr:dF r=true:=by exact rfl):ac g d i env fr (.call ⟨.value c,args,tys⟩) r fr []:=ac.sS (hcl:=hcl) (hcal:=hcal) (hav:=hav) (hx:=hx) (hh:=hh) (hm:=hm) (hr:=hr)
def gR{g:Cfg}{d:Option (List Nat)}{i:Nat}{env:Env}{fr:Fr}{c:Operand}{args:Array Operand}{tys:Array TypeId}{f:Nat}{pa y u:List SV}{xs:List AV}{v:List SV}{r:SV}(hcl:Cl g f v [] r [])(hcal:ep (rd env c)=some (f,pa,y):=by exact rfl)(hav:pa++args.toList.map (rd env)++y=u:=by exact rfl)(hx:cR fr (br (aM g f 0 u) u)=some xs:=by exact rfl)(hh:cE [] (fc (aM g f 0 u) u)=[]:=by exact rfl)(hm:dh (bc []) (aM g f 0 u) u xs=v:=by exact rfl)(hn:r.refs=[]:=by exact rfl)(hr:bD fr (br (aM g f 0 u) u)=[]:=by exact rfl):ac g d i env fr (.call ⟨.value c,args,tys⟩) r fr []:=ac.cV (hcl:=hcl) (hcal:=hcal) (hav:=hav) (hx:=hx) (hh:=hh) (hm:=hm) (hn:=hn) (hr:=hr)
def Ap{g:Cfg}{d:Option (List Nat)}{i:Nat}{env:Env}{fr:Fr}{c:Operand}{args:Array Operand}{tys:Array TypeId}{f:Nat}{pa z u:List SV}{xs:List AV}{v:List SV}{r x:SV}{y fr':Fr}(hcl:Cl g f v [] r y)(hcal:ep (rd env c)=some (f,pa,z):=by exact rfl)(hav:pa++args.toList.map (rd env)++z=u:=by exact rfl)(hx:cR fr (br (aM g f 0 u) u)=some xs:=by exact rfl)(hh:cE [] (fc (aM g f 0 u) u)=[]:=by exact rfl)(hm:dh (bc []) (aM g f 0 u) u xs=v:=by exact rfl)(hr:oo fr (dZ d i) (bD fr (br (aM g f 0 u) u)) r y=some (x,fr',[]):=by exact rfl):ac g d i env fr (.call ⟨.value c,args,tys⟩) x fr' []:=ac.call (hcl:=hcl) (hcal:=hcal) (hav:=hav) (hx:=hx) (hh:=hh) (hm:=hm) (hr:=hr)
def lS{g:Cfg}{d:Option (List Nat)}{i:Nat}{env:Env}{fr:Fr}{c:Operand}{args:Array Operand}{tys:Array TypeId}{f n:Nat}{pa G u:List SV}{xs:List AV}{z:List SV}{r v:SV}{D y fr':Fr}(hcl:Cl g f z [] r D)(hcal:ep (rd env c)=some (f,pa,G):=by exact rfl)(hav:pa++args.toList.map (rd env)++G=u:=by exact rfl)(hx:cR fr (br (aM g f 0 u) u)=some xs:=by exact rfl)(hh:cE [] (fc (aM g f 0 u) u)=[]:=by exact rfl)(hm:dh (bc []) (aM g f 0 u) u xs=z:=by exact rfl)(hr:dF r=false:=by exact rfl)(hd:dZ d i=false:=by exact rfl)(hq:bD fr (br (aM g f 0 u) u)=[]:=by kernel_rfl)(hn:fr.length=n:=by(first|exact qc|exact qd|exact qj|exact qk|exact ql|exact qm|exact qn|exact qo|exact qp|exact qq|exact qe|exact qf|exact qg|exact qh|exact qi))(hv:r.sub (dD [] n)=v:=by(conv=>lhs;whnf);try exact rfl)(he:c_ (dD [] n) D y:=by(repeat'(first|exact c_.nil|(with_reducible apply c_.row)|(with_reducible apply c_.pL)|(with_reducible apply c_.own)|((apply c_.box);(case hd=>(repeat'(first|exact aI.nil|((first|with_reducible apply aI.cons|apply aI.cons);(case h=>(conv=>lhs;whnf);try exact rfl)))))))))(hf:aI (fr++y) fr':=by(repeat'(first|exact aI.nil|((first|with_reducible apply aI.cons|apply aI.cons);(case h=>(conv=>lhs;whnf);try exact rfl))))):ac g d i env fr (.call ⟨.value c,args,tys⟩) v fr' []:=ac.Ct (hcl:=hcl) (hcal:=hcal) (hav:=hav) (hx:=hx) (hh:=hh) (hm:=hm) (hr:=hr) (hd:=hd) (hq:=hq) (hn:=hn) (hv:=hv) (he:=he) (hf:=hf)
def kZ{g:Cfg}{d:Option (List Nat)}{i:Nat}{env:Env}{fr:Fr}{c:Operand}{args:Array Operand}{tys:Array TypeId}{f h0:Nat}{ht:List Nat}(hs:List Nat){pa D u:List SV}{xs:List AV}{z:List SV}{r x:SV}{bs v fr' y:Fr}{ks:List Nat}(hcl:Cl g f z v r fr')(hdr:dZ d i=false:=by exact rfl)(hcal:ep (rd env c)=some (f,pa,D):=by exact rfl)(hav:pa++args.toList.map (rd env)++D=u:=by exact rfl)(hx:cR fr (br (aM g f 0 u) u)=some xs:=by exact rfl)(hh:cE [] (fc (aM g f 0 u) u)=h0::ht:=by exact rfl)(hs0:close fr 4 (h0::ht)=hs:=by kernel_rfl)(hf:bD fr (br (aM g f 0 u) u)=[]:=by kernel_rfl)(hg:dL fr hs=some bs:=by exact rfl)(hc:lw hs bs=true:=by kernel_rfl)(hm:dh (bc hs) (aM g f 0 u) u xs=z:=by exact rfl)(hb:bs.map (fun b=>cS (b.sub (bc hs)))=v:=by exact rfl)(hk:kindOk hs fr' fr=true:=by exact rfl)(hv:r.sub (dD hs fr.length)=x:=by(conv=>lhs;whnf);try exact rfl)(hl:aI (back hs fr fr') y:=by(repeat'(first|exact aI.nil|((first|with_reducible apply aI.cons|apply aI.cons);(case h=>(conv=>lhs;whnf);try exact rfl)))))(hq:dy hs fr'=ks:=by exact rfl):ac g d i env fr (.call ⟨.value c,args,tys⟩) x y ks:=ac.sT (hs:=hs) (hcl:=hcl) (hdr:=hdr) (hcal:=hcal) (hav:=hav) (hx:=hx) (hh:=hh) (hs0:=hs0) (hf:=hf) (hg:=hg) (hc:=hc) (hm:=hm) (hb:=hb) (hk:=hk) (hv:=hv) (hl:=hl) (hq:=hq)
def Aq{g:Cfg}{d:Option (List Nat)}{i':Nat}{env:Env}{fr:Fr}{c:Operand}{args:Array Operand}{tys:Array TypeId}{f h0:Nat}{ht:List Nat}(hs:List Nat){pa D u:List SV}{xs:List AV}{v:List SV}{r x:SV}{bs y fr' z:Fr}{ks:List Nat}(hcl:Cl g f v y r fr')(hdr:dZ d i'=false:=by exact rfl)(hcal:ep (rd env c)=some (f,pa,D):=by exact rfl)(hav:pa++args.toList.map (rd env)++D=u:=by exact rfl)(hx:cR fr (br (aM g f 0 u) u)=some xs:=by exact rfl)(hh:cE [] (fc (aM g f 0 u) u)=h0::ht:=by exact rfl)(hs0:close fr 4 (h0::ht)=hs:=by kernel_rfl)(hf:bD fr (br (aM g f 0 u) u)=[]:=by kernel_rfl)(hg:dL fr hs=some bs:=by exact rfl)(hc:lw hs bs=true:=by kernel_rfl)(hm:dh (bc hs) (aM g f 0 u) u xs=v:=by exact rfl)(hb:bs.map (fun b=>cS (b.sub (bc hs)))=y:=by exact rfl)(hk:kindOk hs fr' fr=true:=by exact rfl)(hr:(r.sub (dD hs fr.length),back hs fr fr',dy hs fr')=(x,z,ks):=by exact rfl):ac g d i' env fr (.call ⟨.value c,args,tys⟩) x z ks:=ac.Cs (hs:=hs) (hcl:=hcl) (hdr:=hdr) (hcal:=hcal) (hav:=hav) (hx:=hx) (hh:=hh) (hs0:=hs0) (hf:=hf) (hg:=hg) (hc:=hc) (hm:=hm) (hb:=hb) (hk:=hk) (hr:=hr)
def NH{g:Cfg}{d:Option (List Nat)}{i:Nat}{env:Env}{fr:Fr}{c:Operand}{args:Array Operand}{tys:Array TypeId}{f h0:Nat}{ht:List Nat}(hs:List Nat){pa D u:List SV}{xs:List AV}{z:List SV}{r x:SV}{bs v fr' fr1 y:Fr}{ks:List Nat}(hcl:Cl g f z v r fr')(hdr:dZ d i=false:=by exact rfl)(hcal:ep (rd env c)=some (f,pa,D):=by exact rfl)(hav:pa++args.toList.map (rd env)++D=u:=by exact rfl)(hx:cR fr (br (aM g f 0 u) u)=some xs:=by exact rfl)(hh:cE [] (fc (aM g f 0 u) u)=h0::ht:=by exact rfl)(hs0:close fr 4 (h0::ht)=hs:=by kernel_rfl)(hf:aI (freeze fr (bD fr (br (aM g f 0 u) u))) fr1:=by(repeat'(first|exact aI.nil|((first|with_reducible apply aI.cons|apply aI.cons);(case h=>(conv=>lhs;whnf);try exact rfl)))))(hg:dL fr1 hs=some bs:=by exact rfl)(hc:lw hs bs=true:=by kernel_rfl)(hm:dh (bc hs) (aM g f 0 u) u xs=z:=by exact rfl)(hb:bs.map (fun b=>cS (b.sub (bc hs)))=v:=by exact rfl)(hk:kindOk hs fr' fr1=true:=by exact rfl)(hv:r.sub (dD hs fr.length)=x:=by(conv=>lhs;whnf);try exact rfl)(hl:aI (back hs fr1 fr') y:=by(repeat'(first|exact aI.nil|((first|with_reducible apply aI.cons|apply aI.cons);(case h=>(conv=>lhs;whnf);try exact rfl)))))(hq:dy hs fr'=ks:=by exact rfl):ac g d i env fr (.call ⟨.value c,args,tys⟩) x y ks:=ac.II (hs:=hs) (hcl:=hcl) (hdr:=hdr) (hcal:=hcal) (hav:=hav) (hx:=hx) (hh:=hh) (hs0:=hs0) (hf:=hf) (hg:=hg) (hc:=hc) (hm:=hm) (hb:=hb) (hk:=hk) (hv:=hv) (hl:=hl) (hq:=hq)
inductive sI (q:Prop):Prop where
 |mk (h:q)
def sI.out{q:Prop}(h:sI q):q:=by cases h with|mk h=>exact h
def An{p:Prop}(h:p:=by first
  |((with_reducible apply ac.sS);(case hcal|hav|hx|hh|hm=>exact rfl);(case hcl=>first|with_reducible assumption|assumption);(case hr=>exact rfl))
  |((with_reducible apply ac.cV);(case hcal|hav|hx|hh|hm=>exact rfl);(case hcl=>first|with_reducible assumption|assumption);(case hn|hr=>exact rfl))
  |((with_reducible apply ac.Ct);(case hcal|hav|hx|hh|hm=>exact rfl);(case hcl=>first|with_reducible assumption|assumption);(case hr|hd=>exact rfl);(case hq=>kernel_rfl);(case hn=>(first|exact qc|exact qd|exact qj|exact qk|exact ql|exact qm|exact qn|exact qo|exact qp|exact qq|exact qe|exact qf|exact qg|exact qh|exact qi));(case hv=>(conv=>lhs;whnf);try exact rfl);(case he=>(repeat'(first|exact c_.nil|(with_reducible apply c_.row)|(with_reducible apply c_.pL)|((apply c_.box);(case hd=>(repeat'(first|exact aI.nil|((with_reducible apply aI.cons);(case h=>(conv=>lhs;whnf);try exact rfl))|(apply aI.cons;(case h=>(conv=>lhs;whnf);try exact rfl)))))))));(case hf=>(repeat'(first|exact aI.nil|((with_reducible apply aI.cons);(case h=>(conv=>lhs;whnf);try exact rfl))|(apply aI.cons;(case h=>(conv=>lhs;whnf);try exact rfl))))))
  |((with_reducible apply ac.call);(case hcal|hav|hx|hh|hm=>exact rfl);(case hcl=>first|with_reducible assumption|assumption);(case hr=>exact rfl))
  |((with_reducible apply ac.gV);(case hx|hi|hst=>exact rfl);(case h0=>omega);(case hb=>assumption))
  |((with_reducible apply ac.mul);(case hx|hy=>exact rfl);(case h=>omega))
  |exact af):p:=h
def ak{p q:Prop}(h:q)(k:sI q->p:=by
 intro v
 repeat'(first
   |(with_reducible apply am.seq)
   |(with_reducible apply am.block)
   |((with_reducible apply am.text);(try case hm=>exact rfl))
   |((with_reducible apply am.drawn);(case hm=>exact rfl))
   |((with_reducible apply am.vy);(case hm=>exact rfl))
   |((with_reducible apply am.vx);(case hm|he=>exact rfl))
   |(with_reducible apply aa.og)
   |(with_reducible apply am.skip)
   |(with_reducible apply am.exit)
   |(with_reducible apply am.ret)
   |(with_reducible apply dx)
   |(with_reducible apply qG)
   |(with_reducible apply pg)
   |(with_reducible apply q6)
   |(with_reducible apply pJ)
   |(with_reducible apply pI)
   |((with_reducible apply u_);(case hj=>exact rfl))
   |((with_reducible apply am.ew);(case hc=>exact rfl))
   |((with_reducible apply am.jB);(case hc=>exact rfl))
   |((with_reducible apply aa.aR);(case hp=>first|assumption|omega))
   |((with_reducible apply aa.cQ);(case hp=>first|assumption|omega))
   |((with_reducible apply aa.aX)<;>intro hq)
   |((with_reducible apply aa.la);(case hp=>first|assumption|omega))
   |((with_reducible apply aa.l4);(case hp=>first|assumption|omega))
   |((with_reducible apply aa.gm)<;>intro hq)
   |((with_reducible apply aa.ee);(case hp=>first|assumption|omega))
   |((with_reducible apply aa.lZ);(case hp=>first|assumption|omega))
   |((with_reducible apply aa.bi)<;>intro hq)
   |((with_reducible apply aa.l5);(case hp=>first|assumption|omega))
   |((with_reducible apply aa.nc);(case hp=>first|assumption|omega))
   |((with_reducible apply aa.fj)<;>intro hq)
   |(with_reducible apply aa.cI)
   |(with_reducible apply aa.eE)
   |(with_reducible apply aa.nil)
   |((with_reducible apply aa.gf);(case hW=>exact rfl))
   |((with_reducible apply az.wF);(case hck=>kernel_rfl))
   |(with_reducible apply az.cI)
   |((with_reducible apply az.u);(case hfl=>kernel_rfl);(case hx=>exact An))
   |((with_reducible apply aa.aB);(case hW=>exact rfl);(case hx=>exact An))
   |((with_reducible apply aa.u0);(case hx=>exact An))
   |fail)
 all_goals first
  |exact⟨.inr rfl,rfl⟩
  |exact⟨_,rfl,rfl,⟨by omega,rfl⟩,by omega⟩
  |exact⟨_,rfl,rfl,by omega,by omega⟩
  |exact⟨_,rfl,rfl,⟨by omega,by omega⟩,by omega⟩
  |exact⟨_,rfl,rfl,⟨by omega,by assumption⟩,by omega⟩
  |(refine a_ (.inr rfl) rfl ?_;first|rfl|(simp_all;done)|(simp_all;omega)|(simp;done)|(simp;omega))
  |(apply am.lK;(case ho|hp|hl=>exact rfl);(case hs=>exact slt);exact v.out)
  |exact v.out
 ):p:=k (.mk h)
def ae{p:Prop}(h:p:=by exact ak trivial):p:=h
def ar{p q:Prop}(h:q)(k:sI q->p:=by
 intro u
 repeat1' (first
   |(with_reducible apply am.seq)
   |(with_reducible apply am.block)
   |((with_reducible apply am.text);(try case hm=>exact rfl))
   |((with_reducible apply am.drawn);(case hm=>exact rfl))
   |((with_reducible apply am.vy);(case hm=>exact rfl))
   |((with_reducible apply am.vx);(case hm|he=>exact rfl))
   |(with_reducible apply aa.og)
   |(with_reducible apply aa.pG)
   |(with_reducible apply aa.pF)
   |(with_reducible apply am.skip)
   |(with_reducible apply am.exit)
   |(with_reducible apply am.ret)
   |(with_reducible apply dx)
   |(with_reducible apply qG)
   |(with_reducible apply pg)
   |(with_reducible apply q6)
   |(with_reducible apply pJ)
   |(with_reducible apply pI)
   |((with_reducible apply u_);(case hj=>exact rfl))
   |((with_reducible apply am.ew);(case hc=>exact rfl))
   |((with_reducible apply am.jB);(case hc=>exact rfl))
   |(with_reducible apply aa.cI)
   |(with_reducible apply aa.eE)
   |(with_reducible apply aa.nil)
   |((with_reducible apply aa.gf);(case hW=>exact rfl))
   |(with_reducible apply az.og)
   |(with_reducible apply az.pG)
   |(with_reducible apply az.pF)
   |((with_reducible apply az.wF);(case hck=>kernel_rfl))
   |((with_reducible apply az.Ah);(case hck=>kernel_rfl))
   |(with_reducible apply az.cI)
   |(with_reducible apply az.eE)
   |(with_reducible apply az.nil)
   |((with_reducible apply az.gf);(case hfl=>kernel_rfl);(case hW=>exact rfl)))
 exact u.out
 ):p:=k (.mk h)
def aY{p q:Prop}(h:q)(k:sI q->p:=by
 intro u
 repeat1' (first
   |((with_reducible apply aa.aR);(case hp=>first|assumption|omega))
   |((with_reducible apply aa.cQ);(case hp=>first|assumption|omega))
   |((with_reducible apply aa.la);(case hp=>first|assumption|omega))
   |((with_reducible apply aa.l4);(case hp=>first|assumption|omega))
   |((with_reducible apply aa.ee);(case hp=>first|assumption|omega))
   |((with_reducible apply aa.lZ);(case hp=>first|assumption|omega))
   |((with_reducible apply aa.l5);(case hp=>first|assumption|omega))
   |((with_reducible apply aa.nc);(case hp=>first|assumption|omega))
   |((with_reducible apply az.aR);(case hp=>first|assumption|omega))
   |((with_reducible apply az.cQ);(case hp=>first|assumption|omega))
   |((with_reducible apply az.la);(case hp=>first|assumption|omega))
   |((with_reducible apply az.l4);(case hp=>first|assumption|omega))
   |((with_reducible apply az.ee);(case hp=>first|assumption|omega))
   |((with_reducible apply az.lZ);(case hp=>first|assumption|omega))
   |((with_reducible apply az.l5);(case hp=>first|assumption|omega))
   |((with_reducible apply az.nc);(case hp=>first|assumption|omega)))
 exact u.out
 ):p:=k (.mk h)
open Go.ChangeShapes Go.WideShapes Go.Deep
def oM(P:Program):Nat->List Field->Option Nat
 |off,[]=>some off
 |off,f::u=>match Nat.beq f.offset off with
  |true=>oM P (off+P.cellsOf f.type) u
  |false=>none
def mg(P:Program):Nat->TypeId->Bool
 |0,_=>false
 |n+1,t=>match P.underlying t with
  |some (.int _)=>true
  |some .bool=>true
  |some .string=>true
  |some (.slice e)=>Nat.ble 1 (P.cellsOf e)&&(Nat.ble 8 (P.bytesOf e)&&mg P n e)
  |some (.struct u)=>(match oM P 0 u.toList with
   |some k=>Nat.beq k (P.cellsOf t)
   |none=>false)&&u.toList.all fun f=>mg P n f.type
  |_=>false
def dW(R:TypeId->List AV->Prop):List Field->List AV->Prop
 |[],xs=>xs=[]
 |f::y,xs=>∃u v,xs=u++v/\R f.type u/\dW R y v
def aK(P:Program):Nat->TypeId->List AV->Prop
 |0,_,_=>False
 |n+1,t,xs=>match P.underlying t with
  |some (.int k)=>∃m,xs=[.int k m]/\(Lit.int k m).wf=true
  |some .bool=>∃b,xs=[.bool b]
  |some .string=>∃s,xs=[.str s]/\s.size<=maxLen
  |some (.slice e)=>∃u,xs=[.arr u]/\u.length<=17592186044416/\∀v∈u,aK P n e v
  |some (.struct y)=>dW (aK P n) y.toList xs
  |_=>False
def fw(l:List Nat):Prop:=∀n∈l,n<=reachBytes
def fw.gO{a b:List Nat}(h:fw (a++b)):fw a/\fw b:=⟨fun n u=>h n (by simp[u]),fun n u=>h n (by simp[u])⟩
section
variable {H:Type} {enc:TypeId×Value->H} {P:Program} {w:World}
theorem GZ{e:TypeId}:∀{l:List (DataW H)},fw (DataW.weightsAll P e l)->∀d∈l,fw (d.weights P e)
 |[],_,d,hd=>by cases hd
 |x::l,h,d,hd=>by
  have u:=fw.gO h;rcases List.mem_cons.1 hd with rfl|hd
  ·exact u.1
  ·exact GZ u.2 d hd
theorem Be:∀{y:List TypeId} {l:List (DataW H)},fw (DataW.weightsEach P y l)->∀(i:Nat) (t:TypeId) (d:DataW H),y[i]?=some t->l[i]?=some d->fw (d.weights P t)
 |[],_,_,_,_,_,v,_=>by simp at v
 |_::_,[],_,_,_,_,_,hd=>by simp at hd
 |t::y,x::l,h,i,u,d,v,hd=>by
  have z:=fw.gO h
  cases i with
  |zero=>simp at v hd;subst v hd;exact z.1
  |succ i=>exact Be z.2 i u d (by simpa using v) (by simpa using hd)
def Vs(w:World)(xs:List AV)(cs:List Value):Prop:=xs.length=cs.length/\∀(j:Nat) (x:AV) (u:Value),xs[j]?=some x->cs[j]?=some u->VR (fun _=>True) w x u
def Vs.one{x:AV}{u:Value}(h:VR (fun _=>True) w x u):Vs w [x] [u]:=⟨rfl,fun j y v z D=>by
 cases j with
 |zero=>simp at z D;subst z D;exact h
 |succ j=>simp at z⟩
def Vs.gO{xs D:List AV}{cs ds:List Value}(h1:Vs w xs cs)(h2:Vs w D ds):Vs w (xs++D) (cs++ds):=by
 refine⟨by simp[h1.1,h2.1],fun j x u z y=>?_⟩;rcases Nat.lt_or_ge j xs.length with v|v
 ·rw[List.getElem?_append_left v]at z;rw[List.getElem?_append_left (by rw[<- h1.1];exact v)]at y;exact h1.2 j x u z y
 ·rw[List.getElem?_append_right v]at z;rw[List.getElem?_append_right (by rw[<- h1.1];exact v),<- h1.1]at y;exact h2.2 _ x u z y
theorem GH{R:TypeId->List AV->Prop}{cs:List Value}{tot:Nat}(D:cs.length=tot):∀(fs:List Field) (v:Nat),v<=tot->oM P v fs=some tot->
  (∀f∈fs,∀c,(cs.drop f.offset).take (P.cellsOf f.type)=c->c.length=P.cellsOf f.type->∃I,R f.type I/\Vs w I c)->∃xs,dW R fs xs/\Vs w xs (cs.drop v)
 |[],v,ho,z,_=>by
  unfold oM at z;cases z;refine⟨[],rfl,?_,?_⟩
  ·simp[D]
  ·intro j x u hx;simp at hx
 |f::fs,v,ho,z,h=>by
  unfold oM at z;split at z
  ·rename_i y;have y:f.offset=v:=by simpa using y
   have G:∀(fs:List Field) (o:Nat),oM P o fs=some tot->o<=tot:=by
    intro fs
    induction fs with
    |nil=>intro o h;unfold oM at h;cases h;exact Nat.le_refl _
    |cons g gs ih=>
     intro o h;unfold oM at h;split at h
     ·have:=ih _ h;omega
     ·cases h
   have h1:=G _ _ z;obtain⟨V,hz,U⟩:=GH D fs (v+P.cellsOf f.type) h1 z fun g Z=>h g (List.mem_cons_of_mem _ Z);obtain⟨I,hy,J⟩:=h f List.mem_cons_self _ rfl (by rw[List.length_take,List.length_drop,y];omega);refine⟨I++V,⟨I,V,rfl,hy,hz⟩,?_⟩;have:=J.gO U;rw[y]at this
   have e:(cs.drop v).take (P.cellsOf f.type)++cs.drop (v+P.cellsOf f.type)=cs.drop v:=by
    rw[<- List.drop_drop,List.take_append_drop]
   rwa[e]at this
  ·cases z
theorem BB:∀(n:Nat) (t:TypeId),mg P n t=true->∀(Z:Nat) (cs:List Value) (d:DataW H) (ps:List MemPlace),DataW.trod enc P w 0 (fun _=>true) true Z t cs=some (d,ps)->fw (d.weights P t)->∃xs,aK P n t xs/\Vs w xs cs
 |0,t,h=>by unfold mg at h;cases h
 |n+1,t,h=>by
  intro Z cs d ps ht V;unfold mg at h;unfold aK;split at h
  ·rename_i k y
   try simp only[y]
   obtain⟨m,rfl,_,bi⟩:=DataW.trod_int y ht;exact⟨_,⟨m,rfl,bi⟩,.one (.int k m)⟩
  ·rename_i y
   try simp only[y]
   obtain⟨b,rfl,_⟩:=DataW.trod_bool y ht;exact⟨_,⟨b,rfl⟩,.one (.bool b)⟩
  ·rename_i y
   try simp only[y]
   obtain⟨s,rfl,_,hs⟩:=DataW.trod_string y ht;exact⟨_,⟨s,rfl,hs⟩,.one (.str s)⟩
  ·rename_i e y
   try simp only[y]
   rw[Bool.and_eq_true,Bool.and_eq_true]at h;obtain⟨ai,al,av⟩:=h;have ai:1<=P.cellsOf e:=by simpa using ai
   have al:8<=P.bytesOf e:=by simpa using al
   rcases open_slice y ht with⟨rfl,_⟩|⟨a,len,cap,m,k,D,Pl,rfl,_,hl,_,hm,hx,hi⟩
   ·exact⟨_,⟨[],rfl,by simp,fun cs aq=>by cases aq⟩,.one (.bT none 0)⟩
   ·simp only[if_true]at hm;subst hm;simp only[Prod.mk.injEq]at hx;rw[hx.1]at V;clear hx ht;rw[DataW.weights]at V;simp only[y]at V
    have ad:m*8<=reachBytes:=by
     have:=V _ (List.mem_cons_self);simp only[List.length_map,List.length_range]at this;have h2:m*8<=m*P.bytesOf e:=Nat.mul_le_mul_left _ al;have h3:len+(m - len)=m:=by omega
     rw[h3]at this;omega
    have bh:∀i,i <len->fw ((D i).weights P e):=by
     intro i I;have h2:fw (DataW.weightsAll P e ((List.range len).map D)):=fun n hn=>V n (List.mem_cons_of_mem _ (List.mem_append_left _ hn));exact GZ h2 _ (List.mem_map_of_mem (List.mem_range.2 I))
    have a6:∀i,i <len->∃z:List Value×List AV,w.cells? 0 (a.add (i*P.cellsOf e)) (P.cellsOf e)=some z.1/\aK P n e z.2/\Vs w z.2 z.1:=by
     intro i I;obtain⟨aX,hc,bf⟩:=hi i (by omega);obtain⟨ys,h1,h2⟩:=BB n e av _ _ _ _ bf (bh i I);exact⟨(aX,ys),hc,h1,h2⟩
    obtain⟨f,hf⟩:=choose_lt a6
    have G:∀i,i <len->(f i).1.length=P.cellsOf e/\∀(j:Nat),j <P.cellsOf e->w.cell? ((a.add (i*P.cellsOf e)).add j)=some ((f i).1.getD j undef):=by
     intro i I;obtain⟨_,ao,a1⟩:=World.cells?_some (hf i I).1;refine⟨ao,fun j hj=>?_⟩;rw[a1 j hj,List.getD_eq_getElem?_getD,List.getElem?_eq_getElem (by omega)];rfl
    have u:((List.range len).map fun i=>(f i).2).length=len:=by simp
    have aD:∀(k:Nat) (cs:List AV),((List.range len).map fun i=>(f i).2)[k]?=some cs->k <len/\cs=(f k).2:=by
     intro k cs U;have v:k <len:=by have:=aC U;simpa using this
     rw[List.getElem?_map,List.getElem?_range v]at U;exact⟨v,by simpa using U.symm⟩
    refine⟨[.arr ((List.range len).map fun i=>(f i).2)],⟨_,rfl,?_,?_⟩,.one ?_⟩
    ·rw[u];unfold reachBytes at ad;omega
    ·intro cs aq;obtain⟨i,I,rfl⟩:=List.mem_map.1 aq;exact(hf i (List.mem_range.1 I)).2.1
    ·rcases Nat.eq_zero_or_pos len with h0|h0
     ·subst h0;exact .bT _ _
     ·have an:=(G 0 h0).2 0 (by omega);obtain⟨b,o,sp⟩:=a;have hs:sp=none:=by simpa[Addr.add]using World.cell?_spot an
      subst hs
      have ab:∀i j:Nat,((⟨b,o,none⟩:Addr).add i).add j=⟨b,o+(i+j),none⟩:=by
       intro i j;unfold Addr.add;by_cases bb:i=0 <;>by_cases be:j=0 <;>simp[bb,be,Nat.add_assoc]
      have hb:b <w.heap.size:=by
       have:=ab 0 0;rw[Nat.zero_mul,this]at an;exact World.block_lt_of_cell? w _ an
      have:=VR.arr (M:=fun _=>True) (w:=w) b o m (P.cellsOf e) ((List.range len).map fun i=>(f i).2) (fun k j=>(f k).1.getD j undef) (by intro h;rw[h]at u;simp at u;omega) (by rw[u];unfold reachBytes at ad;omega) (by rw[u];exact hl) hb trivial
       (fun k cs U=>by
        obtain⟨v,rfl⟩:=aD k cs U;rw[(hf k v).2.2.1,(G k v).1])
       (fun k j U hj=>by
        rw[u]at U;rw[<- ab];exact(G k U).2 j hj)
       (fun k j cs x U hj=>by
        obtain⟨v,rfl⟩:=aD k cs U;have bd:j <(f k).1.length:=by rw[<- (hf k v).2.2.1];exact aC hj
        refine(hf k v).2.2.2 j x _ hj ?_;rw[List.getD_eq_getElem?_getD,List.getElem?_eq_getElem bd];rfl)
      rw[u]at this;exact this
  ·rename_i fs y
   try simp only[y]
   rw[Bool.and_eq_true]at h;obtain⟨J,aB⟩:=h;obtain⟨xs,k,_,hx,ao,bl,hf⟩:=DataW.trod_struct y ht;simp only[Prod.mk.injEq]at hx;rw[hx.1]at V;rw[DataW.weights]at V;simp only[y]at V;split at J
   ·rename_i tot aR;have au:tot=P.cellsOf t:=by simpa using J
    obtain⟨ys,h1,h2⟩:=GH (w:=w) (R:=aK P n) (cs:=cs) (tot:=tot) (by rw[ao,au]) fs.toList 0 (Nat.zero_le _) aR (fun f aG c hc bm=>by
     obtain⟨i,hi,a8⟩:=List.mem_iff_getElem.1 aG
     have ag:fs[i]?=some f:=by
      rw[<- a8];simp at hi;simp[hi]
     have aV:=hf i f ag;have aJ:i <xs.length:=by rw[bl];simpa using hi
     rw[List.getElem?_eq_getElem aJ,hc]at aV;have av:mg P n f.type=true:=List.all_eq_true.1 aB f aG;refine BB n f.type av _ _ _ _ aV ?_;refine Be V i f.type _ ?_ ?_
     ·rw[List.getElem?_map];simp[ag]
     ·rw[List.getElem?_map,List.getElem?_eq_getElem aJ];rfl)
    exact⟨ys,h1,by simpa using h2⟩
   ·cases J
  ·cases h
end
section
variable {H:Type} {enc:TypeId×Value->H} {P:Program}
def N7{f:Func}{s:ChangeSpec}{apart fresh y V:Bool}{W W':World}{args:Array Value}{v:Value}{ds gs:List (DataW H)}{u pa pv:List MemPlace}
  (hW:DataW.Whole enc P f.params.toList s.vars apart W args.toList ds gs u)
  (U:∀(b:Nat) (Z:Nat->Bool) (hd:Bool),DataW.TrodAll enc P W' b Z hd f.resultTypes.toList (v.resultList f.resultTypes.size) (s.fn H (ds++gs)).results [])
  (z:∀Z:Nat->Bool,(∀p∈u,Z p.block=true)->DataW.TrodAll enc P W' 0 Z true f.params.toList args.toList (s.fn H (ds++gs)).args pa)
  (G:∀Z:Nat->Bool,(∀p∈u,Z p.block=true)->DataW.TrodVars enc P W' Z s.vars (s.fn H (ds++gs)).vars pv)
  (I:u=pa++pv)(hb:Below W.heap.size W W')
  (hok:∀(j:Nat) (t:TypeId) (r:Value),f.resultTypes[j]?=some t->(v.resultList f.resultTypes.size)[j]?=some r->Value.okWide P W' .any 0 t r):
  s.post enc P f apart fresh y V W args v W':=by
 have ad:∀p∈u,p.block <W.heap.size:=fun p D=>hW.lt p D;have J:∀p∈u,(fun b=>decide (b <W.heap.size)) p.block=true:=fun p D=>by simpa using ad p D
 refine⟨ds,gs,u,[],pa,pv,hW,U _ _ _,z _ J,G _ J,World.keptBut_mono (fun p D=>⟨D,?_⟩) (hb.frame (·∈u)),fun _=>?_⟩
 ·rw[I,List.mem_append]at D;exact Or.inr D
 ·obtain⟨_,_,_,_,_,hz,hn⟩:=hW;refine⟨hok,_,_,([]++pa)++pv,⟨[]++pa,pv,trodAll_append (z _ (fun _ _=>rfl)) (U _ _ _),G _ (fun _ _=>rfl),rfl,?_,?_⟩,?_⟩
  ·intro b ag D;have ab:MemPlace.cell b ag∈u:=by rw[I];simpa using D
   rw[hb.frozen (ad _ ab)];exact hz b ag ab
  ·intro ha;have:=hn ha;rw[I]at this;simpa using this
  ·intro p D _;rw[I];simpa using D
end
def eY(w:World)(e:Ending)(w':World):Prop:=e=.returned (.bool true)/\Below w.heap.size w w'
def eY.mk{w w':World}(h:Below w.heap.size w w'):eY w (.returned (.bool true)) w':=⟨rfl,h⟩
section
variable {H:Type} {enc:TypeId×Value->H}
def laidOut:laidOutB Tryz.prog=true:=by kernel_rfl
def Rn{P:Program}(V:laidOutB P=true){W W':World}(hb:Below W.heap.size W W')(sp:Nat->Bool)(J:List TypeId):∀(vs:List Value) (ds:List (DataW H)) (z:List MemPlace),
  (∀t∈J,P.readableRec t=true/\t <P.types.size)->(∀x∈z,x.block <W.heap.size)->(∀p∈z,sp p.block=true)->
  DataW.TrodAll enc P W 0 (fun _=>true) true J vs ds z->DataW.TrodAll enc P W' 0 sp true J vs ds z:=by
 induction J with
 |nil=>
  intro vs ds z _ _ _ h;obtain⟨rfl,rfl,rfl⟩:=trodAll_nil h;exact trodAll_mk0
 |cons t J ih=>
  intro vs ds z ht D G h;obtain⟨v,Z,d,U,p,q,rfl,rfl,rfl,h0,hr⟩:=trodAll_cons h;have I:=ht t (by simp)
  exact trodAll_cons_mk (WideElems.Trod_stays V I.1 I.2 h0 (fun x y=>hb.same (D x (by simp[y]))) (fun x y=>G x (by simp[y])))
   (ih Z U q (fun u hu=>ht u (by simp[hu])) (fun x y=>D x (by simp[y])) (fun x y=>G x (by simp[y])) hr)
def Is:Value.resultList 1 (Value.bool true)=[Value.bool true]:=by kernel_rfl
set_option maxRecDepth 100000 in
theorem L_ {F:FuncId} {f:Func} {s:ChangeSpec} {W:World} {args:Array Value} {ds gs:List (DataW H)} {z:List MemPlace} (y:s.vars=[]) (I:f.resultTypes=#[4])
  (G:(f.params.toList.all fun t=>Tryz.prog.readableRec t && decide (t < Tryz.prog.types.size))=true) (U:s.fn H ds={ results:=[.lit (.bool true)],args:=ds })
  (hW:DataW.Whole enc Tryz.prog f.params.toList s.vars false W args.toList ds gs z) (h:Calls Tryz.prog F args W (eY W)) :
  Calls Tryz.prog F args W fun e W'=>∃ v,e=.returned v/\s.post enc Tryz.prog f false true false false W args v W':=by
 refine h.mono fun e W' ⟨he,hb⟩=>⟨_,he,?_⟩;have D:=hW;obtain ⟨p,q,hA,hV,rfl,ab,ad⟩:=hW;have V:∀ x∈p++q,x.block < W.heap.size:=fun x J=>D.lt x J;rw [y] at hV;obtain ⟨rfl,rfl⟩:=trodVars_none hV;have u:s.fn H (ds++[])={ results:=[.lit (.bool true)],args:=ds }:=by rw [List.append_nil];exact U
 refine N7 (pa:=p) (pv:=[]) D ?_ ?_ ?_ rfl hb ?_
 ·intro b sp hd;rw [u,I];exact trodAll_mk1 (shut_bool Tryz.underlying4 true)
 ·intro sp Z;rw [u];exact Rn laidOut hb sp _ _ _ _ (fun t ht=>by have:=List.all_eq_true.1 G t ht;rw [Bool.and_eq_true] at this;exact ⟨this.1,of_decide_eq_true this.2⟩) (fun x J=>V x (by simp [J])) (fun x J=>Z x (by simp [J])) hA
 ·intro sp _;rw [u,y];rfl
 ·exact ok_one I Is (okWide_bool_mk Tryz.underlying4 true)
end
def yM(W:World):Ctx:=⟨fun _=>True,fun _=>False,fun _=>False,W,fun _=>none⟩
def JG{γ:Glob}{W:World}(u:γ.G W)(hn:γ.n<=W.heap.size):aw γ (yM W) [] (yM W).L W where
 glob:=u
 gn:=hn
 gx:=fun _ h=>h.elim
 fresh:=fun _ _=>trivial
 os:=rfl
 tape:=rfl
 output:=rfl
 size:=Nat.le_refl _
 kept:=fun _ _ _=>rfl
 lim:=fun _ _ h=>by cases h
 new:=fun _ _ _ _ h=>by cases h
 dis:=fun _ _ _ _ _ h=>by cases h
 hand:=fun _ _ h=>by cases h
 blk:=fun i v h=>by simp at h
def Ma{g:Cfg}{γ:Glob}(hW:Wf g γ){F:Nat}{xs:List AV}{us:Array Value}{W:World}(hc:Cl g F (xs.map .t) [] (.t (.bool true)) [])(U:γ.G W)(hn:γ.n<=W.heap.size)(hv:Vs W xs us.toList):Calls g.P F us W (eY W):=by
 obtain⟨n,I⟩:=hc
 have h:=((sound hW n).1 F _ _ _ _ I).2 (yM W) W us (JG U hn) rfl (by rw[List.length_map,hv.1];simp) (fun j x u D hu=>by
  rw[List.getElem?_map]at D
  cases J:xs[j]? with
  |none=>rw[J]at D;cases D
  |some y=>
   rw[J]at D;cases D;exact .t _ _ ((hv.2 j y u J (by simpa using hu)).on (Nat.le_refl _) fun b _ _=>⟨⟨trivial,fun⟨i,v,lb,h1,_⟩=>by cases h1⟩,rfl⟩))
 refine h.mono fun e w' ⟨v,L',Z,z,V⟩=>⟨?_,⟨z.os,z.tape,z.output,z.size,fun k hk=>z.kept k hk id⟩⟩;rw[Z]
 cases V with
 |t x v h=>cases h;rfl
def G0{H:Type}{P:Program}{v us:List TypeId}{ds y:List (DataW H)}(h:(DataW.weightsEach P (v++us) (ds++y)).all (·<=reachBytes)=true):fw (DataW.weightsEach P v ds):=by
 have z:fw (DataW.weightsEach P (v++us) (ds++y)):=fun n u=>by simpa using List.all_eq_true.1 h n u
 clear h
 induction v generalizing ds with
 |nil=>intro n u;simp[DataW.weightsEach]at u
 |cons t v D=>
  cases ds with
  |nil=>intro n u;simp[DataW.weightsEach]at u
  |cons d ds=>
   simp only[List.cons_append,DataW.weightsEach]at z⊢;have h1:=fw.gO z;intro n u;rcases List.mem_append.1 u with h|h
   ·exact h1.1 n h
   ·exact D h1.2 n h
def Arg(P:Program)(m:Nat)(t:TypeId)(x:AV):Prop:=∃xs,aK P m t xs/\(match P.underlying t with
 |some (.struct _)=>x=.agg xs
 |_=>xs=[x])
def uP(P:Program)(m:Nat):List TypeId->List AV->Prop
 |[],xs=>xs=[]
 |t::v,xs=>∃x u,xs=x::u/\Arg P m t x/\uP P m v u
def RQ{W:World}{xs:List AV}{v:Value}(h:Vs W xs [v]):∃x,xs=[x]/\VR (fun _=>True) W x v:=by
 match xs,h with
 |[x],h=>exact⟨x,rfl,h.2 0 x v rfl rfl⟩
 |[],h=>simp[Vs]at h
 |_::_::_,h=>simp[Vs]at h
section
variable {H:Type} {enc:TypeId×Value->H} {P:Program} {W:World}
def Ik{m b0:Nat}{t:TypeId}{v:Value}{d:DataW H}{Z:List MemPlace}(z:mg P m t=true)(hv:Value.okWide P W .any b0 t v)(h:DataW.Trod enc P W 0 (fun _=>true) true t v d Z)(hs:fw (d.weights P t)):∃x,Arg P m t x/\VR (fun _=>True) W x v:=by
 obtain⟨G,hf⟩:=h;obtain⟨xs,h1,h2⟩:=BB m t z G _ d Z hf hs
 have one:∀u,v.cells.toList=[u]->v=u->(∀D,P.underlying t≠some (.struct D))->∃x,Arg P m t x/\VR (fun _=>True) W x v:=fun u hc y J=>by
  rw[hc]at h2;obtain⟨x,rfl,V⟩:=RQ h2;refine⟨x,⟨[x],h1,?_⟩,y ▸ V⟩;split
  ·rename_i D I;exact absurd I (J D)
  ·rfl
 cases m with
 |zero=>unfold mg at z;cases z
 |succ m=>
  unfold mg at z;split at z
  ·rename_i k y;obtain⟨n,rfl⟩:=okWide_int y hv;exact one _ rfl rfl fun D h=>by rw[y]at h;cases h
  ·rename_i y;obtain⟨n,rfl⟩:=okWide_bool y hv;exact one _ rfl rfl fun D h=>by rw[y]at h;cases h
  ·rename_i y;obtain⟨n,rfl⟩:=okWide_string y hv;exact one _ rfl rfl fun D h=>by rw[y]at h;cases h
  ·rename_i e y;obtain⟨a,l,c,rfl⟩:=okWide_slice y hv;exact one _ rfl rfl fun D h=>by rw[y]at h;cases h
  ·rename_i D y;obtain⟨cs,rfl,_⟩:=okWide_struct y hv;refine⟨.agg xs,⟨xs,h1,by rw[y]⟩,.agg xs cs (by have:=h2.1;simp[Value.cells]at this;omega) fun j x u V U=>h2.2 j x u V (by simpa[Value.cells]using U)⟩
  ·cases z
theorem B6{m b0:Nat}:∀(y:List TypeId) (vs:List Value) (ds:List (DataW H)) (Z:List MemPlace),(y.all fun t=>mg P m t)=true->(∀(j:Nat) t v,y[j]?=some t->vs[j]?=some v->Value.okWide P W .any b0 t v)->DataW.TrodAll enc P W 0 (fun _=>true) true y vs ds Z->fw (DataW.weightsEach P y ds)->ds.length=y.length/\∃xs,uP P m y xs/\Vs W xs vs
 |[],vs,ds,Z,_,_,h,_=>by
  obtain⟨rfl,rfl,rfl⟩:=trodAll_nil h;exact⟨rfl,[],rfl,rfl,fun j x u J=>by simp at J⟩
 |t::y,vs,ds,Z,z,hv,h,hs=>by
  obtain⟨v,ab,d,D,p,q,rfl,rfl,rfl,h0,hr⟩:=trodAll_cons h;rw[List.all_cons,Bool.and_eq_true]at z;have G:=fw.gO (show fw (d.weights P t++DataW.weightsEach P y D) from hs);obtain⟨x,J,U⟩:=Ik z.1 (hv 0 t v rfl rfl) h0 G.1;obtain⟨hl,ys,hy,V⟩:=B6 y ab D q z.2 (fun j t v ht I=>hv (j+1) t v (by simpa using ht) (by simpa using I)) hr G.2;exact⟨by simp[hl],x::ys,⟨x,ys,rfl,J,hy⟩,(Vs.one U).gO V⟩
end
structure Sh (P:Program) (f:Nat):Prop where
 known:gN P f
 some:∀(blk off cap:Nat) (zs:List Int) (w:World),Sort.Holds (Value.int .i64) w blk off zs.toArray->blk <w.heap.size->zs.length <4611686018427387904->
  Calls P f #[.slice (some ⟨blk,off,none⟩) zs.length cap] w fun e w'=>e=.returned (.tuple #[])/\∃n os,w'=Sort.grow (Sort.putRow (Value.int .i64) (Sort.ahead w n) blk off (zs.mergeSort fun x y=>decide (x<=y)).toArray) os
 none:∀(p:Option Addr) (cap:Nat) (w:World),Calls P f #[.slice p 0 cap] w fun e w'=>e=.returned (.tuple #[])/\w'=w
end Go.Proofs.YtjolgbkkocjpgaaGreatDoor
