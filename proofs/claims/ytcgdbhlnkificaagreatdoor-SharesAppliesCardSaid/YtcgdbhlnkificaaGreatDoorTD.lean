/- The tree evaluator,22: rules for operations whose. No condition. -/
import Derived.Test.YtcgdbhlnkificaaGreatDoorTC
import Derived.ProofKit
import Derived.OpenShut
import Derived.Deep.Slices
import Derived.SizedLaws
import Derived.ChangeSame
import Derived.Carry
import Derived.Deep.DeepHandedRow
import Derived.Lib.LaidTab
import Derived.LaidMore
import Derived.LaidSub
import Derived.Lib.SmallJoins
import Derived.Sort.OwnSortedInts
set_option linter.all false
namespace Go.Proofs.YtcgdbhlnkificaaGreatDoor
open Go.RowKit
section
variable {ops:Array Oper} {env:Env} {j d:Nat} {W b:Bool}
def JG(h:(ops[j]?).bind (·.dst)=some d)(he:env d=.t (.bool b)):cG ops env j true=some b:=by unfold cG;rw[h];simp only[he,qS];cases b <;>rfl
def JF(h:(ops[j]?).bind (·.dst)=some d)(he:env d=.t (.bool b)):cG ops env j false=some (!b):=by unfold cG;rw[h];simp only[he,qS];cases b <;>rfl
def JE(h:(ops[j]?).bind (·.dst)=some d)(he:env d=sy W (.t (.bool b))):cG ops env j true=some (W&&b):=by unfold cG;rw[h];simp only[he];cases W <;>cases b <;>rfl
def JD(h:(ops[j]?).bind (·.dst)=some d)(he:env d=sy W (.t (.bool b))):cG ops env j false=some (W&&!b):=by unfold cG;rw[h];simp only[he];cases W <;>cases b <;>rfl
end
section
variable {g:Cfg} {d:Option (List Nat)} {i:Nat} {env:Env} {fr:Fr}
def Pv{C:CallF}{op:Op}{x:SV}(hw:gW op=false)(hc:mq op=false)(h:bD g.P fr env op=some x):step g C d i env fr op=some (x,fr,[]):=by
 unfold step
 cases d with
 |none=>simp only[bX,hw,h]
 |some effs=>
  simp only
  cases bI effs i with
  |true=>simp only[bX,hw,h]
  |false=>simp only[gU,hc,h];rfl
def af.p{op:Op}{x:SV}(hw:gW op=false)(hc:mq op=false)(h:bD g.P fr env op=some x):af g d i env fr op x fr []:=.r fun _=>Pv hw hc h
def af.or{c x y:Operand}{b z:Bool}(hc:rd env c=.t (.bool b))(hx:rd env x=.t (.bool true))(hy:dp env y=sy (!b) (.t (.bool z))):af g d i env fr (.pick c x y) (.t (.bool (b ||z))) fr []:=.p rfl rfl (by
 unfold bD
 cases b with
 |true=>simp only[hc];exact congrArg some hx
 |false=>simp only[hc];show some (un (dp env y))=_;rw[hy];rfl)
def af.and{c x y:Operand}{b z:Bool}(hc:rd env c=.t (.bool b))(hx:dp env x=sy b (.t (.bool z)))(hy:rd env y=.t (.bool false)):af g d i env fr (.pick c x y) (.t (.bool (b&&z))) fr []:=.p rfl rfl (by
 unfold bD
 cases b with
 |false=>simp only[hc];exact congrArg some hy
 |true=>simp only[hc];show some (un (dp env x))=_;rw[hx];rfl)
def af.mg{b:BinOp}{xt yt:TypeId}{x y:Operand}{s s':SV}{r:AV}(hx:rd env x=s)(hy:rd env y=s')(h:iw g.P b xt (lC x ||lC y) s s'=some r):af g d i env fr (.binOp b xt x y yt) (.t r) fr []:=.p rfl rfl (by unfold bD;simp only[hx,hy,h])
theorem af.add{xt yt:TypeId}{x y:Operand}{m n:Int}(hx:rd env x=.t (.int .i64 m))(hy:rd env y=.t (.int .i64 n))(h : -9223372036854775808<=m+n/\m+n<=9223372036854775807):af g d i env fr (.binOp .add xt x y yt) (.t (.int .i64 (m+n))) fr []:=
 .mg hx hy (by unfold iw;simp only[if_true,lA,IntWalk.i64_in _ h])
theorem af.sub{xt yt:TypeId}{x y:Operand}{m n:Int}(hx:rd env x=.t (.int .i64 m))(hy:rd env y=.t (.int .i64 n))(h : -9223372036854775808<=m - n/\m - n<=9223372036854775807):af g d i env fr (.binOp .sub xt x y yt) (.t (.int .i64 (m - n))) fr []:=
 .mg hx hy (by unfold iw;simp only[if_true,lA,IntWalk.i64_in _ h])
theorem af.mul{xt yt:TypeId}{x y:Operand}{m n:Int}(hx:rd env x=.t (.int .i64 m))(hy:rd env y=.t (.int .i64 n))(h : -9223372036854775808<=m*n/\m*n<=9223372036854775807):af g d i env fr (.binOp .mul xt x y yt) (.t (.int .i64 (m*n))) fr []:=
 .mg hx hy (by unfold iw;simp only[if_true,lA,IntWalk.i64_in _ h])
def af.inc{xt yt:TypeId}{x y:Operand}{k:Nat}(hx:rd env x=.t (.int .i64 (k:Int)))(hy:rd env y=.t (.int .i64 1))(h:k<=9223372036854775806):af g d i env fr (.binOp .add xt x y yt) (.t (.int .i64 ((k+1:Nat):Int))) fr []:=by
 have:=af.add (g:=g) (d:=d) (i:=i) (env:=env) (fr:=fr) (xt:=xt) (yt:=yt) hx hy (by omega);exact this
def B_{sz:Nat}{es:List (List AV)}{m:Int}{c:AV}{cs:List AV}(h0:0<=m)(hc:es[m.toNat]?=some (c::cs))(hz:Nat.beq sz (cs.length+1)=true):elemAt sz es m=some (.t (.tp (c::cs))):=by
 unfold elemAt;rw[decide_eq_true h0];simp only[hc,hz]
def af.C9{t e sz:Nat}{x y:Operand}{k:IntKind}{m:Int}{es:List (List AV)}{c:AV}{cs:List AV}(he:eZ g.P t=some (e,sz))(hx:rd env x=.t (.arr es))(hi:rd env y=.t (.int k m))(h0:0<=m)(hc:es[m.toNat]?=some (c::cs))(hz:Nat.beq sz (cs.length+1)=true):
  af g d i env fr (.indexAddr t x y) (.t (.tp (c::cs))) fr []:=.p rfl rfl (by unfold bD jD;simp only[he,hx,hi,B_ h0 hc hz])
def af.ix{t e sz:Nat}{x y:Operand}{k:IntKind}{q:Nat}{es:List (List AV)}{c:AV}{cs:List AV}(he:eZ g.P t=some (e,sz))(hx:rd env x=.t (.arr es))(hi:rd env y=.t (.int k (q:Int)))(hc:es[q]?=some (c::cs))(hz:Nat.beq sz (cs.length+1)=true):
  af g d i env fr (.indexAddr t x y) (.t (.tp (c::cs))) fr []:=.C9 he hx hi (by omega) (by rw[Int.toNat_natCast];exact hc) hz
def af.Kk{t e sz r:Nat}{x y:Operand}{k:IntKind}{q:Nat}{ro tch:Bool}{es:List (List AV)}(he:eZ g.P t=some (e,sz))(hx:rd env x=.ls r)(hi:rd env y=.t (.int k (q:Int)))(hb:fr[r]?=some (.row ro tch sz es))(hq:q <es.length):
  af g d i env fr (.indexAddr t x y) (.le r sz q 0) fr []:=.p rfl rfl (by
 have h1:jC (q:Int) es.length=true:=by
  unfold jC;rw[Int.toNat_natCast,Bool.and_eq_true,Nat.blt_eq];exact⟨decide_eq_true (by omega),hq⟩
 have h2:Nat.beq sz sz=true:=by simp
 unfold bD jD;simp only[he,hx,hi,hb,h1,h2,Int.toNat_natCast])
def af.Kl{t e sz r:Nat}{x y:Operand}{k:IntKind}{m:Int}{ro tch:Bool}{es:List (List AV)}(he:eZ g.P t=some (e,sz))(hx:rd env x=.ls r)(hi:rd env y=.t (.int k m))(hb:fr[r]?=some (.row ro tch sz es))(h0:0<=m)(hq:m.toNat <es.length):
  af g d i env fr (.indexAddr t x y) (.le r sz m.toNat 0) fr []:=.p rfl rfl (by
 have h1:jC m es.length=true:=by
  unfold jC;rw[Bool.and_eq_true,Nat.blt_eq];exact⟨decide_eq_true h0,hq⟩
 have h2:Nat.beq sz sz=true:=by simp
 unfold bD jD;simp only[he,hx,hi,hb,h1,h2])
def af.Do{t n r sz q j:Nat}{y:Operand}{ro tch:Bool}{es:List (List AV)}{cs:List AV}{c:AV}(ht:bn g.P t=some (false,n))(hy:rd env y=.le r sz q j)(hb:fr[r]?=some (.row ro tch sz es))(hk:es[q]?=some cs)(hj:cs[j]?=some c):af g d i env fr (.load t y) (.t c) fr []:=.p rfl rfl (by
 have h2:Nat.beq sz sz=true:=by simp
 unfold bD fO;simp only[ht,hy,hb,h2,hk,hj])
def KX{P:Program}{t:Nat}{s:SV}{es:List (List AV)}(hs:kI P t=true)(hy:gO fr s=some es):ti P fr (some t) s=some (.t (.int .i64 es.length)):=by
 have u:∀q,s≠.t (.str q):=fun q h=>by subst h;unfold gO at hy;simp at hy
 unfold ti
 cases s with
 |t x=>cases x <;>first|(exact absurd rfl (u _))|(simp only[hs,hy])
 |_=>simp only[hs,hy]
theorem af.len{y:Operand}{tys:Array TypeId}{t:Nat}{args:Array Operand}{es:List (List AV)}{n:Nat}(ha:args.toList=[y])(hy:gO fr (rd env y)=some es)(ht:tys[0]?=some t)(hs:kI g.P t=true)(hn:es.length=n):af g d i env fr (.call ⟨.builtin .len,args,tys⟩) (.t (.int .i64 (n:Int))) fr []:=.p rfl rfl (by
 subst hn;unfold bD xC;simp only[ha,ht];exact KX hs hy)
def af.str{t n r sz q j:Nat}{a y:Operand}{tch:Bool}{es:List (List AV)}{cs:List AV}{c:AV}{v:Bool}{effOk:∀C:CallF,step g C d i env fr (.store t a y)=bX g C env fr (.store t a y)}(ht:bn g.P t=some (v,n))(ha:rd env a=.le r sz q j)(hy:rd env y=.t c)(hone:du (.t c)=true)(hn:Nat.beq 1 n=true)(hb:fr[r]?=some (.row false tch sz es))(hk:es[q]?=some cs)(hj:Nat.ble (j+1) cs.length=true):af g d i env fr (.store t a y) .dead (fr.set r (.row false tch sz (es.set q (cs.set j c)))) []:=.r fun C=>by
 obtain rfl:1=n:=by simpa using hn
 have h2:Nat.beq sz sz=true:=by simp
 have u:bw (.t c)=[.t c]:=by cases c <;>first|rfl|(simp[du]at hone)
 rw[effOk C];unfold bX;simp only[gW];unfold bT;simp only;unfold ik;simp only[ht,ha,hy,u,List.all_cons,hone,List.all_nil,Bool.and_self,List.length_cons,List.length_nil,hb,h2,hk,hj,cJ,iN,deep,br,nD,bI,List.any_nil,lO,freeze];rfl
def nT(fr:Fr)(y:Bool)(v:List Nat)(r:SV)(u:Fr):Option eH:=match dq r with
 |true=>some (r,fr,[])
 |false=>match y with
  |false=>some (r.sub (dO [] fr.length),freeze fr v++u.map (fun b=>cU (b.sub (dO [] fr.length))),[])
  |true=>match v with
   |[]=>match r.refs with
    |[]=>some (r,fr,[])
    |_=>match iN u deep r with
     |some x=>some (.t x,fr,[])
     |none=>none
   |_=>none
def HJ{C:CallF}{v:Bool}{f:Nat}{args:List SV}{xs:List AV}{u:List SV}{r:SV}{y:Fr}(hx:cJ fr (bp (aQ g f 0 args) args)=some xs)(hh:cB [] (fo (aQ g f 0 args) args)=[])(hm:dt (bc []) (aQ g f 0 args) args xs=u)(hc:C f u []=some (r,y)):
  iy g C v fr f args=nT fr v (br fr (bp (aQ g f 0 args) args)) r y:=by
 subst hm;unfold iy nT;simp only[hx,hh,hc];cases dq r <;>rfl
def ep:Option (List Nat)->Nat->Bool
 |none,_=>false
 |some e,i=>!bI e i
def F_{C:CallF}{c:Operand}{args:Array Operand}{tys:Array TypeId}:step g C d i env fr (.call ⟨.value c,args,tys⟩)=bT g C (ep d i) env fr (.call ⟨.value c,args,tys⟩):=by
 cases d with
 |none=>rfl
 |some e=>
  unfold step ep;simp only;cases bI e i <;>rfl
theorem af.call{c:Operand}{args:Array Operand}{tys:Array TypeId}{f:Nat}{pa z u:List SV}{xs:List AV}{v:List SV}{r x:SV}{y fr':Fr}(hcl:Cl g f v [] r y)(hcal:eK (rd env c)=some (f,pa,z))(hav:pa++args.toList.map (rd env)++z=u)(hx:cJ fr (bp (aQ g f 0 u) u)=some xs)(hh:cB [] (fo (aQ g f 0 u) u)=[])(hm:dt (bc []) (aQ g f 0 u) u xs=v)
  (hr:nT fr (ep d i) (br fr (bp (aQ g f 0 u) u)) r y=some (x,fr',[])):af g d i env fr (.call ⟨.value c,args,tys⟩) x fr' []:=by
 obtain⟨n,D⟩:=hcl;refine⟨n,?_⟩;subst hav;rw[F_];unfold bT;simp only;unfold mX;simp only[hcal];rw[HJ hx hh hm D];exact hr
end
section
variable {g:Cfg} {f:Nat} {env:Env} {fr:Fr} {d:Option (List Nat)} {ops:Array Oper} {i i':Nat} {K':Env->Fr->Prop} {l:List Oper} {dst:Option Tmp} {op:Op} {ty:TypeId} {pos:String} {after:Array Edge} {fr':Fr}
def aa.u0{x:SV}(hx:af g d i env fr op x fr' [])(h:aa g d ops (i+1) l (aE env dst x) fr' K'):aa g d ops i (⟨dst,op,ty,pos,after,none⟩::l) env fr K':=aa.u hx h
def aa.av{j:Nat}{u:Bool}{x:SV}(hW:cG ops env j u=some true)(hx:af g d i env fr op x fr' [])(h:aa g d ops (i+1) l (aE env dst (.aT x)) fr' K'):aa g d ops i (⟨dst,op,ty,pos,after,some (j,u)⟩::l) env fr K':=aa.gt hW hx h
def af.mv{y:Operand}{v:SV}(h:rd env y=v):af g d i env fr (.move y) v fr []:=.p rfl rfl (by unfold bD;simp only[h])
def af.asg{y:Operand}{v:SV}(h:rd env y=v):af g d i env fr (.assign y) v fr []:=.p rfl rfl (by unfold bD;simp only[h])
def af.MD{c x y:Operand}{v:SV}(hc:rd env c=.t (.bool true))(h:rd env x=v):af g d i env fr (.pick c x y) v fr []:=.p rfl rfl (by unfold bD;simp only[hc,h])
def af.MC{c x y:Operand}{v:SV}(hc:rd env c=.t (.bool false))(h:rd env y=v):af g d i env fr (.pick c x y) v fr []:=.p rfl rfl (by unfold bD;simp only[hc,h])
def af.yh{v u i j off n:Nat}{y:Operand}(hy:rd env y=.lp i j)(ho:sM g.P v u=some off)(hn:j+off=n):af g d i' env fr (.fieldAddr v y u) (.lp i n) fr []:=.p rfl rfl (by
 subst hn;unfold bD sL;simp only[ho,hy])
def af.Jh{v u r sz k j off n:Nat}{y:Operand}(hy:rd env y=.le r sz k j)(ho:sM g.P v u=some off)(hn:j+off=n):af g d i' env fr (.fieldAddr v y u) (.le r sz k n) fr []:=.p rfl rfl (by
 subst hn;unfold bD sL;simp only[ho,hy])
def af.eqs{t:Nat}{x y:Operand}{yt:TypeId}{cs ds:List AV}{n:Nat}{r:Bool}(hx:rd env x=.t (.agg cs))(hy:rd env y=.t (.agg ds))(hg:g.P.eqGuardType g.P.depth t=false)(ht:bn g.P t=some (true,n))(hr:gI g.P 20 t cs ds=some r):af g d i' env fr (.binOp .eql t x y yt) (.t (.bool r)) fr []:=.mg hx hy (by unfold iw si;simp only[hg,ht,hr,gw])
def af.rn{t:Nat}{x y:Operand}{yt:TypeId}{cs ds:List AV}{n:Nat}{r:Bool}(hx:rd env x=.t (.agg cs))(hy:rd env y=.t (.agg ds))(hg:g.P.eqGuardType g.P.depth t=false)(ht:bn g.P t=some (true,n))(hr:gI g.P 20 t cs ds=some r):af g d i' env fr (.binOp .neq t x y yt) (.t (.bool (!r))) fr []:=.mg hx hy (by unfold iw si;simp only[hg,ht,hr,gw])
def af.jo{t len:Nat}{parts:Array (Nat×Operand)}{es:List (List AV)}(hw:gW (.buildSlice t len parts)=false)(ho:(parts.toList.all fun p=>(bw (rd env p.2)).all du)=true)(h:sn g.P t len (parts.toList.map fun p=>(p.1,rd env p.2))=some es):af g d i' env fr (.buildSlice t len parts) (.tc es) fr []:=.p hw rfl (by unfold bD;simp only[ho,h])
def af.lk{t e:Nat}{u:TypeDesc}{x k:Operand}{ok:Bool}{ka:AV}{ks:List AV}{vs:List SV}{z:SV}(hm:nx g.P t=some (e,u))(hk:rd env k=.t ka)(ho:mapOf fr (rd env x)=some (ks,vs))(hf:dW u ka ks 0=some none)(hz:ug g.P e=some z):af g d i' env fr (.lookup t x k ok) (mA ok z false) fr []:=.p rfl rfl (by unfold bD tu;simp only[hm,hk,ho,hf,hz])
def af.oC{t e j:Nat}{u:TypeDesc}{x k:Operand}{ok:Bool}{ka:AV}{ks:List AV}{vs:List SV}{z:SV}(hm:nx g.P t=some (e,u))(hk:rd env k=.t ka)(ho:mapOf fr (rd env x)=some (ks,vs))(hf:dW u ka ks 0=some (some j))(hz:vs[j]?=some z):af g d i' env fr (.lookup t x k ok) (mA ok z true) fr []:=.p rfl rfl (by unfold bD tu;simp only[hm,hk,ho,hf,hz])
def af.HE{c:Operand}{args:Array Operand}{tys:Array TypeId}{f h0:Nat}{ht hs:List Nat}{pa D u:List SV}{xs:List AV}{v:List SV}{r x:SV}{fr1 bs y fr' z:Fr}{ks:List Nat}(hcl:Cl g f v y r fr')(hdr:ep d i'=false)(hcal:eK (rd env c)=some (f,pa,D))(hav:pa++args.toList.map (rd env)++D=u)(hx:cJ fr (bp (aQ g f 0 u) u)=some xs)(hh:cB [] (fo (aQ g f 0 u) u)=h0::ht)
  (hs0:close fr 4 (h0::ht)=hs)(hf:freeze fr (br fr (bp (aQ g f 0 u) u))=fr1)(hg:dX fr1 hs=some bs)(hc:mZ hs bs=true)(hm:dt (bc hs) (aQ g f 0 u) u xs=v)(hb:bs.map (fun b=>cU (b.sub (bc hs)))=y)(hk:kindOk hs fr' fr1=true)(hr:(r.sub (dO hs fr.length),back hs fr1 fr',dL hs fr')=(x,z,ks)):af g d i' env fr (.call ⟨.value c,args,tys⟩) x z ks:=by
 obtain⟨n,G⟩:=hcl;refine⟨n,?_⟩;subst hav hs0 hf hm hb;rw[F_,hdr];unfold bT;simp only;unfold mX;simp only[hcal];unfold iy;simp only[hx,hh,hg,hc,G,hk,hr]
def aa.nQ{o:Oper}{u l2:List Oper}(h:aa g d ops i (o::List.append u l2) env fr K'):aa g d ops i (List.append (o::u) l2) env fr K':=h
def aa.pd{l2:List Oper}(h:aa g d ops i l2 env fr K'):aa g d ops i (List.append [] l2) env fr K':=h
def aa.pc{u l2 v:List Oper}(h:aa g d ops i (List.append u (List.append l2 v)) env fr K'):aa g d ops i (List.append (List.append u l2) v) env fr K':=by
 have e:List.append (List.append u l2) v=List.append u (List.append l2 v):=List.append_assoc u l2 v;rw[e];exact h
def af.qy{t:Nat}{parts:Array (Nat×Operand)}{cs:List SV}{v:SV}(ho:(parts.toList.all fun p=>(bw (rd env p.2)).all du)=true)(h:uF g.P t (parts.toList.map fun p=>(p.1,rd env p.2))=some cs)(hv:mf cs=v):af g d i' env fr (.build t parts) v fr []:=.p rfl rfl (by unfold bD;simp only[ho,h,hv])
def af.BF{c:Operand}{args:Array Operand}{tys:Array TypeId}{f h0:Nat}{ht:List Nat}(hs:List Nat){pa D u:List SV}{xs:List AV}{v:List SV}{r x:SV}{bs y fr' z:Fr}{ks:List Nat}(hcl:Cl g f v y r fr')(hdr:ep d i'=false)(hcal:eK (rd env c)=some (f,pa,D))(hav:pa++args.toList.map (rd env)++D=u)(hx:cJ fr (bp (aQ g f 0 u) u)=some xs)(hh:cB [] (fo (aQ g f 0 u) u)=h0::ht)
  (hs0:close fr 4 (h0::ht)=hs)(hf:br fr (bp (aQ g f 0 u) u)=[])(hg:dX fr hs=some bs)(hc:mZ hs bs=true)(hm:dt (bc hs) (aQ g f 0 u) u xs=v)(hb:bs.map (fun b=>cU (b.sub (bc hs)))=y)(hk:kindOk hs fr' fr=true)(hr:(r.sub (dO hs fr.length),back hs fr fr',dL hs fr')=(x,z,ks)):af g d i' env fr (.call ⟨.value c,args,tys⟩) x z ks:=af.HE hcl hdr hcal hav hx hh hs0 (by rw[hf];rfl) hg hc hm hb hk hr
def aa.jR{j:Nat}{t:Tmp}{b:Bool}(ht:b=true->aa g d ops j l (aE env (some t) (.t (.bool true))) fr K')(hf:b=false->aa g d ops j l (aE env (some t) (.t (.bool false))) fr K'):aa g d ops j l (aE env (some t) (.t (.bool b))) fr K':=by
 cases b with
 |true=>exact ht rfl
 |false=>exact hf rfl
def aa.ic{j:Nat}{t:Tmp}{b:Bool}(ht:b=true->aa g d ops j l (aE env (some t) (.aT (.t (.bool true)))) fr K')(hf:b=false->aa g d ops j l (aE env (some t) (.aT (.t (.bool false)))) fr K'):aa g d ops j l (aE env (some t) (.aT (.t (.bool b)))) fr K':=by
 cases b with
 |true=>exact ht rfl
 |false=>exact hf rfl
section
variable {j:Nat} {t:Tmp} {p:Prop} [Decidable p]
def aa.aF(hp:p)(h:aa g d ops j l (aE env (some t) (.t (.bool true))) fr K'):aa g d ops j l (aE env (some t) (.t (.bool (decide p)))) fr K':=.jR (fun _=>h) (fun h=>absurd hp (of_decide_eq_false h))
def aa.bk(hp:¬p)(h:aa g d ops j l (aE env (some t) (.t (.bool false))) fr K'):aa g d ops j l (aE env (some t) (.t (.bool (decide p)))) fr K':=.jR (fun h=>absurd (of_decide_eq_true h) hp) (fun _=>h)
def aa.aX(ht:p->aa g d ops j l (aE env (some t) (.t (.bool true))) fr K')(hf:¬p->aa g d ops j l (aE env (some t) (.t (.bool false))) fr K'):aa g d ops j l (aE env (some t) (.t (.bool (decide p)))) fr K':=.jR (fun h=>ht (of_decide_eq_true h)) (fun h=>hf (of_decide_eq_false h))
def aa.cj(hp:p)(h:aa g d ops j l (aE env (some t) (.aT (.t (.bool true)))) fr K'):aa g d ops j l (aE env (some t) (.aT (.t (.bool (decide p))))) fr K':=.ic (fun _=>h) (fun h=>absurd hp (of_decide_eq_false h))
def aa.c_(hp:¬p)(h:aa g d ops j l (aE env (some t) (.aT (.t (.bool false)))) fr K'):aa g d ops j l (aE env (some t) (.aT (.t (.bool (decide p))))) fr K':=.ic (fun h=>absurd (of_decide_eq_true h) hp) (fun _=>h)
def aa.bi(ht:p->aa g d ops j l (aE env (some t) (.aT (.t (.bool true)))) fr K')(hf:¬p->aa g d ops j l (aE env (some t) (.aT (.t (.bool false)))) fr K'):aa g d ops j l (aE env (some t) (.aT (.t (.bool (decide p))))) fr K':=.ic (fun h=>ht (of_decide_eq_true h)) (fun h=>hf (of_decide_eq_false h))
def aa.fS(hp:¬p)(h:aa g d ops j l (aE env (some t) (.t (.bool true))) fr K'):aa g d ops j l (aE env (some t) (.t (.bool (!decide p)))) fr K':=by rw[decide_eq_false hp];exact h
def aa.dK(hp:p)(h:aa g d ops j l (aE env (some t) (.t (.bool false))) fr K'):aa g d ops j l (aE env (some t) (.t (.bool (!decide p)))) fr K':=by rw[decide_eq_true hp];exact h
def aa.gA(ht:¬p->aa g d ops j l (aE env (some t) (.t (.bool true))) fr K')(hf:p->aa g d ops j l (aE env (some t) (.t (.bool false))) fr K'):aa g d ops j l (aE env (some t) (.t (.bool (!decide p)))) fr K':=if h:p then .dK h (hf h)else .fS h (ht h)
def aa.iM(hp:¬p)(h:aa g d ops j l (aE env (some t) (.aT (.t (.bool true)))) fr K'):aa g d ops j l (aE env (some t) (.aT (.t (.bool (!decide p))))) fr K':=by rw[decide_eq_false hp];exact h
def aa.iL(hp:p)(h:aa g d ops j l (aE env (some t) (.aT (.t (.bool false)))) fr K'):aa g d ops j l (aE env (some t) (.aT (.t (.bool (!decide p))))) fr K':=by rw[decide_eq_true hp];exact h
def aa.fz(ht:¬p->aa g d ops j l (aE env (some t) (.aT (.t (.bool true)))) fr K')(hf:p->aa g d ops j l (aE env (some t) (.aT (.t (.bool false)))) fr K'):aa g d ops j l (aE env (some t) (.aT (.t (.bool (!decide p))))) fr K':=if h:p then .iL h (hf h)else .iM h (ht h)
end
def aa.aB{P:Env->Fr->Prop}{K:Out->Env->Fr->Prop}(h:P env fr):aa g d ops i [] env fr (fun e r=>lZ P K .normal e r):=aa.nil h
def aa.dF{id:Nat}{K:Out->Env->Fr->Prop}(h:K .normal env fr):aa g d ops i [] env fr (fun e r=>mh id K .normal e r):=aa.nil h
variable {effs:List Nat}
def ay.nQ{o:Oper}{u l2:List Oper}(h:ay g effs ops i (o::List.append u l2) env fr K'):ay g effs ops i (List.append (o::u) l2) env fr K':=h
def ay.pd{l2:List Oper}(h:ay g effs ops i l2 env fr K'):ay g effs ops i (List.append [] l2) env fr K':=h
def ay.pc{u l2 v:List Oper}(h:ay g effs ops i (List.append u (List.append l2 v)) env fr K'):ay g effs ops i (List.append (List.append u l2) v) env fr K':=by
 have e:List.append (List.append u l2) v=List.append u (List.append l2 v):=List.append_assoc u l2 v;rw[e];exact h
def ay.jR{j:Nat}{t:Tmp}{b:Bool}(ht:b=true->ay g effs ops j l (aE env (some t) (.t (.bool true))) fr K')(hf:b=false->ay g effs ops j l (aE env (some t) (.t (.bool false))) fr K'):ay g effs ops j l (aE env (some t) (.t (.bool b))) fr K':=by
 cases b with
 |true=>exact ht rfl
 |false=>exact hf rfl
def ay.ic{j:Nat}{t:Tmp}{b:Bool}(ht:b=true->ay g effs ops j l (aE env (some t) (.aT (.t (.bool true)))) fr K')(hf:b=false->ay g effs ops j l (aE env (some t) (.aT (.t (.bool false)))) fr K'):ay g effs ops j l (aE env (some t) (.aT (.t (.bool b)))) fr K':=by
 cases b with
 |true=>exact ht rfl
 |false=>exact hf rfl
section
variable {j:Nat} {t:Tmp} {p:Prop} [Decidable p]
def ay.aF(hp:p)(h:ay g effs ops j l (aE env (some t) (.t (.bool true))) fr K'):ay g effs ops j l (aE env (some t) (.t (.bool (decide p)))) fr K':=.jR (fun _=>h) (fun h=>absurd hp (of_decide_eq_false h))
def ay.bk(hp:¬p)(h:ay g effs ops j l (aE env (some t) (.t (.bool false))) fr K'):ay g effs ops j l (aE env (some t) (.t (.bool (decide p)))) fr K':=.jR (fun h=>absurd (of_decide_eq_true h) hp) (fun _=>h)
def ay.aX(ht:p->ay g effs ops j l (aE env (some t) (.t (.bool true))) fr K')(hf:¬p->ay g effs ops j l (aE env (some t) (.t (.bool false))) fr K'):ay g effs ops j l (aE env (some t) (.t (.bool (decide p)))) fr K':=.jR (fun h=>ht (of_decide_eq_true h)) (fun h=>hf (of_decide_eq_false h))
def ay.cj(hp:p)(h:ay g effs ops j l (aE env (some t) (.aT (.t (.bool true)))) fr K'):ay g effs ops j l (aE env (some t) (.aT (.t (.bool (decide p))))) fr K':=.ic (fun _=>h) (fun h=>absurd hp (of_decide_eq_false h))
def ay.c_(hp:¬p)(h:ay g effs ops j l (aE env (some t) (.aT (.t (.bool false)))) fr K'):ay g effs ops j l (aE env (some t) (.aT (.t (.bool (decide p))))) fr K':=.ic (fun h=>absurd (of_decide_eq_true h) hp) (fun _=>h)
def ay.bi(ht:p->ay g effs ops j l (aE env (some t) (.aT (.t (.bool true)))) fr K')(hf:¬p->ay g effs ops j l (aE env (some t) (.aT (.t (.bool false)))) fr K'):ay g effs ops j l (aE env (some t) (.aT (.t (.bool (decide p))))) fr K':=.ic (fun h=>ht (of_decide_eq_true h)) (fun h=>hf (of_decide_eq_false h))
def ay.fS(hp:¬p)(h:ay g effs ops j l (aE env (some t) (.t (.bool true))) fr K'):ay g effs ops j l (aE env (some t) (.t (.bool (!decide p)))) fr K':=by rw[decide_eq_false hp];exact h
def ay.dK(hp:p)(h:ay g effs ops j l (aE env (some t) (.t (.bool false))) fr K'):ay g effs ops j l (aE env (some t) (.t (.bool (!decide p)))) fr K':=by rw[decide_eq_true hp];exact h
def ay.gA(ht:¬p->ay g effs ops j l (aE env (some t) (.t (.bool true))) fr K')(hf:p->ay g effs ops j l (aE env (some t) (.t (.bool false))) fr K'):ay g effs ops j l (aE env (some t) (.t (.bool (!decide p)))) fr K':=if h:p then .dK h (hf h)else .fS h (ht h)
def ay.iM(hp:¬p)(h:ay g effs ops j l (aE env (some t) (.aT (.t (.bool true)))) fr K'):ay g effs ops j l (aE env (some t) (.aT (.t (.bool (!decide p))))) fr K':=by rw[decide_eq_false hp];exact h
def ay.iL(hp:p)(h:ay g effs ops j l (aE env (some t) (.aT (.t (.bool false)))) fr K'):ay g effs ops j l (aE env (some t) (.aT (.t (.bool (!decide p))))) fr K':=by rw[decide_eq_true hp];exact h
def ay.fz(ht:¬p->ay g effs ops j l (aE env (some t) (.aT (.t (.bool true)))) fr K')(hf:p->ay g effs ops j l (aE env (some t) (.aT (.t (.bool false)))) fr K'):ay g effs ops j l (aE env (some t) (.aT (.t (.bool (!decide p))))) fr K':=if h:p then .iL h (hf h)else .iM h (ht h)
end
def ay.vN{u:Nat}{ds:List Nat}{P:Env->Fr->Prop}{K:Out->Env->Fr->Prop}(hck:pj u ds env fr=true)(h:P env fr):ay g effs ops i [] env fr (fun e r=>pj u ds e r=true/\lZ P K .normal e r):=.nil ⟨hck,h⟩
def ay.zl{u:Nat}{ds:List Nat}{K:Env->Fr->Prop}(hck:pj u ds env fr=true)(h:K env fr):ay g effs ops i [] env fr (fun e r=>pj u ds e r=true/\K e r):=.nil ⟨hck,h⟩
def ay.aB{P:Env->Fr->Prop}{K:Out->Env->Fr->Prop}(h:P env fr):ay g effs ops i [] env fr (fun e r=>lZ P K .normal e r):=ay.nil h
def ay.dF{id:Nat}{K:Out->Env->Fr->Prop}(h:K .normal env fr):ay g effs ops i [] env fr (fun e r=>mh id K .normal e r):=ay.nil h
variable {K:Out->Env->Fr->Prop}
def ac.aR{c:Operand}{a b:Code}(hc:rd env c=.t (.bool true))(ha:ac g f a env fr K):ac g f (.cond c a b) env fr K:=ac.cond hc (fun _=>ha) (fun h=>nomatch h)
def ac.aY{c:Operand}{a b:Code}(hc:rd env c=.t (.bool false))(ha:ac g f b env fr K):ac g f (.cond c a b) env fr K:=ac.cond hc (fun h=>nomatch h) (fun _=>ha)
def aH{P:Env->Fr->Prop}(h:P env fr):lZ P K .normal env fr:=h
def da{P:Env->Fr->Prop}{id:Nat}(h:K (.exit id) env fr):lZ P K (.exit id) env fr:=h
def bL{P:Env->Fr->Prop}(h:K .ret env fr):lZ P K .ret env fr:=h
def fH{id:Nat}(h:K .normal env fr):mh id K .normal env fr:=h
def eV{id:Nat}(h:K .ret env fr):mh id K .ret env fr:=h
def cY{id:Nat}(h:K .normal env fr):mh id K (.exit id) env fr:=by
 unfold mh;have:Nat.beq id id=true:=by simp
 simp only[this];exact h
def uD{id j:Nat}(hj:Nat.beq j id=false)(h:K (.exit j) env fr):mh id K (.exit j) env fr:=by
 unfold mh;simp only[hj];exact h
inductive l9 (env:Env) (fr:Fr) (h:Nat):List Nat->List (Nat×SV)->Prop where
 |nil:l9 env fr h [] []
 |cons {t:Nat} {v:SV} {sl:List Nat} {vs:List (Nat×SV)} (hv:nX fr h (Go.Proofs.YtcgdbhlnkificaaGreatDoor.un (env t))=v) (ht:l9 env fr h sl vs):l9 env fr h (t::sl) ((t,v)::vs)
def l9.eq{h:Nat}{sl:List Nat}{vs:List (Nat×SV)}(hs:l9 env fr h sl vs):sl.map (fun t=>(t,nX fr h (Go.Proofs.YtcgdbhlnkificaaGreatDoor.un (env t))))=vs:=by
 induction hs with
 |nil=>rfl
 |cons hv _ ih=>rw[List.map_cons,hv,ih]
def P6:trim fr.length fr=fr:=by
 unfold trim;have:Nat.ble fr.length fr.length=true:=by simp
 simp only[this]
def ac.cR{b:Code}{vs:List (Nat×SV)}{sl:List Nat}{own:List (Nat×Nat)}{env':Env}{fr':Fr}(ho:g.own f (cX b)=own)(hp:gK own env fr=(env',fr'))(hl:g.lv f (cX b)=some sl)(hs:l9 env' fr' fr'.length sl vs)(h:az g f b (c9 vs) fr' K):ac g f (.loop b) env fr K:=by
 refine ac.loop (p:=(env',fr')) (by rw[ho];exact hp) (q:=(c9 vs,fr')) ?_ h;rw[hl];show(c9 (sl.map fun t=>(t,nX fr' (kz sl fr'.length fr') (Go.Proofs.YtcgdbhlnkificaaGreatDoor.un (env' t)))),trim (kz sl fr'.length fr') fr')=_
 rw[JK,hs.eq,P6]
def az.ind{b:Code}{base:List (Nat×SV)}{σ:Type}(V:σ->List (Nat×SV))(I:σ->Prop)(μ:σ->Nat)(v:σ)(he:env=c9 (V v++base))(h0:I v)
  (hs:∀s,I s->ac g f b (c9 (V s++base)) fr (lZ (fun e r=>∃s',(head (g.lv f (cX b)) fr.length e r).1=c9 (V s'++base)/\(head (g.lv f (cX b)) fr.length e r).2=fr/\I s'/\μ s' <μ s) K)):az g f b env fr K:=by
 subst he
 have u:∀(n:Nat) (s:σ),μ s <n->I s->az g f b (c9 (V s++base)) fr K:=by
  intro n
  induction n with
  |zero=>intro s h;omega
  |succ n z=>
   intro s D y;refine az.step ?_;refine(hs s y).post ?_;intro o e r h
   cases o with
   |normal=>
    obtain⟨s',h1,h2,h3,h4⟩:=h;show az g f b _ _ K
    rw[h1,h2];exact z s' (by omega) h3
   |exit id=>exact h
   |ret=>exact h
 exact u _ v (Nat.lt_succ_self _) h0
def az.c8{b:Code}{base:List (Nat×SV)}{σ:Type}(V:σ->List (Nat×SV))(F:σ->Fr)(I:σ->Prop)(μ:σ->Nat)(u:σ)(he:env=c9 (V u++base))(y:fr=F u)(h0:I u)
  (hs:∀s,I s->ac g f b (c9 (V s++base)) (F s) (lZ (fun e r=>∃s',(head (g.lv f (cX b)) (F s).length e r).1=c9 (V s'++base)/\(head (g.lv f (cX b)) (F s).length e r).2=F s'/\I s'/\μ s' <μ s) K)):az g f b env fr K:=by
 subst he y
 have v:∀(n:Nat) (s:σ),μ s <n->I s->az g f b (c9 (V s++base)) (F s) K:=by
  intro n
  induction n with
  |zero=>intro s h;omega
  |succ n D=>
   intro s G z;refine az.step ?_;refine(hs s z).post ?_;intro o e r h
   cases o with
   |normal=>
    obtain⟨s',h1,h2,h3,h4⟩:=h;show az g f b _ _ K
    rw[h1,h2];exact D s' (by omega) h3
   |exit id=>exact h
   |ret=>exact h
 exact v _ u (Nat.lt_succ_self _) h0
def ba{o:Out}{m:Nat}{s:Option SV}{b u:Bool}{fr':Fr}(ho:o=.normal\/o=.ret)(h:nl m s fr=some (.t (.bool b),fr'))(e:b=u):(o=.normal\/o=.ret)/\nl m s fr=some (.t (.bool u),fr'):=⟨ho,by rw[h,e]⟩
end
mutual
theorem SV.wD{σ:Nat->Option Nat}:∀x:SV,x.refs=[]->SV.sub σ x=x
 | .t x,_=>by rw[SV.sub]
 | .nil,_=>by rw[SV.sub]
 | .tc es,_=>by rw[SV.sub]
 | .nn es,_=>by rw[SV.sub]
 | .lp i j,h=>by simp[SV.refs]at h
 | .ls i,h=>by simp[SV.refs]at h
 | .lv i sz a n,h=>by simp[SV.refs]at h
 | .le i sz k j,h=>by simp[SV.refs]at h
 | .lm i,h=>by simp[SV.refs]at h
 | .lo i p,h=>by simp[SV.refs]at h
 | .lr i p k,h=>by simp[SV.refs]at h
 | .agg u,h=>by rw[SV.sub,SV.wA u (by simpa[SV.refs]using h)]
 | .aN u,h=>by rw[SV.sub,SV.wA u (by simpa[SV.refs]using h)]
 | .fn f v u,h=>by rw[SV.sub,SV.wA u (by simpa[SV.refs]using h)]
 | .aT s,h=>by rw[SV.sub,SV.wD s (by simpa[SV.refs]using h)]
 | .no,_=>by rw[SV.sub]
 | .dead,_=>by rw[SV.sub]
theorem SV.wA{σ:Nat->Option Nat}:∀cs:List SV,SV.iJ cs=[]->SV.cC σ cs=cs
 |[],_=>by rw[SV.cC]
 |c::cs,h=>by
  rw[SV.iJ,List.append_eq_nil_iff]at h;rw[SV.cC,SV.wD c h.1,SV.wA cs h.2]
end
section
variable {g:Cfg} {f:Nat} {env:Env} {fr:Fr} {K:Out->Env->Fr->Prop} {c:Operand} {a b:Code} {p:Prop} [Decidable p]
def ac.R7{t:Bool}(hc:rd env c=.t (.bool t))(ht:t=true->ac g f a env fr K)(hf:t=false->ac g f b env fr K):ac g f (.cond c a b) env fr K:=ac.cond hc ht hf
end
def Cc(e:Env)(d:Nat)(v:SV):aE e (some d) v d=v:=by unfold aE cV;simp
def Ce{e:Env}{d t:Nat}{x v:SV}(h:Nat.beq t d=false)(he:e t=v):aE e (some d) x t=v:=by unfold aE cV;simp only[h];exact he
def Cd{e:Env}{t:Nat}{x v:SV}(he:e t=v):aE e none x t=v:=he
def A0(p:Prop):Prop:=p
def A0.go{p:Prop}(h:p):A0 p:=h
def ac.stop{g:Cfg}{f id:Nat}{ops:Array Oper}{b:Bool}{c:Code}{env:Env}{fr:Fr}{K:Out->Env->Fr->Prop}(h:A0 (ac g f (.seq (.region id ops b) c) env fr K)):ac g f (.seq (.region id ops b) c) env fr K:=h
section
variable {g:Cfg} {d:Option (List Nat)} {i:Nat} {env:Env} {fr:Fr}
def af.so{c:Operand}{args:Array Operand}{tys:Array TypeId}{f:Nat}{pa y u:List SV}{xs:List AV}{v:List SV}{r:SV}{z:Fr}(hcl:Cl g f v [] r z)(hcal:eK (rd env c)=some (f,pa,y))(hav:pa++args.toList.map (rd env)++y=u)(hx:cJ fr (bp (aQ g f 0 u) u)=some xs)(hh:cB [] (fo (aQ g f 0 u) u)=[])(hm:dt (bc []) (aQ g f 0 u) u xs=v)
  (hr:dq r=true):af g d i env fr (.call ⟨.value c,args,tys⟩) r fr []:=.call hcl hcal hav hx hh hm (by unfold nT;rw[hr])
def af.cO{c:Operand}{args:Array Operand}{tys:Array TypeId}{f:Nat}{pa y u:List SV}{xs:List AV}{v:List SV}{r:SV}(hcl:Cl g f v [] r [])(hcal:eK (rd env c)=some (f,pa,y))(hav:pa++args.toList.map (rd env)++y=u)(hx:cJ fr (bp (aQ g f 0 u) u)=some xs)(hh:cB [] (fo (aQ g f 0 u) u)=[])(hm:dt (bc []) (aQ g f 0 u) u xs=v)
  (hn:r.refs=[])(hr:br fr (bp (aQ g f 0 u) u)=[]):af g d i env fr (.call ⟨.value c,args,tys⟩) r fr []:=.call hcl hcal hav hx hh hm (by
 unfold nT;rw[hr]
 cases dq r with
 |true=>rfl
 |false=>
  cases ep d i with
  |false=>simp only[SV.wD r hn];simp[freeze]
  |true=>simp only[hn])
def af.Km{t e sz:Nat}{x y:Operand}{k:IntKind}{q:Nat}{es:List (List AV)}{c:AV}{cs:List AV}(he:eZ g.P t=some (e,sz))(hx:rd env x=.tc es)(hi:rd env y=.t (.int k (q:Int)))(hc:es[q]?=some (c::cs))(hz:Nat.beq sz (cs.length+1)=true):af g d i env fr (.indexAddr t x y) (.t (.tp (c::cs))) fr []:=.p rfl rfl (by
 have h:=B_ (sz:=sz) (es:=es) (m:=(q:Int)) (by omega) (by rw[Int.toNat_natCast];exact hc) hz;unfold bD jD;simp only[he,hx,hi,h])
def af.F0{t e sz k:Nat}{x h:Operand}{u:IntKind}{es vs:List (List AV)}(he:eZ g.P t=some (e,sz))(hx:rd env x=.t (.arr es))(hi:rd env h=.t (.int u (k:Int)))(hn:k<=es.length)(hz:pW sz es=true)(hv:es.take k=vs):af g d i env fr (.slice t x none (some h) none) (.t (.arr vs)) fr []:=.p rfl rfl (by
 subst hv;have h1:(decide (0<=(k:Int))&&Nat.ble (Int.toNat (k:Int)) es.length)=true:=by simp;omega
 unfold bD oO;simp only[Option.map_none,Option.map_some,hx,hi,he,tW,hz];unfold lj eI;simp only[h1];simp[eI])
section
variable {α:Type} {x0 x1 x2 x3 x4 x5 x6 x7 x8 x9 x10 x11 x12 x13:α}
def pA:([]:List α).length=0:=rfl
def pB:[x0].length=1:=rfl
def pI:[x0,x1].length=2:=rfl
def pJ:[x0,x1,x2].length=3:=rfl
def pL:[x0,x1,x2,x3].length=4:=rfl
def pO:[x0,x1,x2,x3,x4].length=5:=rfl
def pP:[x0,x1,x2,x3,x4,x5].length=6:=rfl
def pQ:[x0,x1,x2,x3,x4,x5,x6].length=7:=rfl
def pR:[x0,x1,x2,x3,x4,x5,x6,x7].length=8:=rfl
def pS:[x0,x1,x2,x3,x4,x5,x6,x7,x8].length=9:=rfl
def pC:[x0,x1,x2,x3,x4,x5,x6,x7,x8,x9].length=10:=rfl
def pD:[x0,x1,x2,x3,x4,x5,x6,x7,x8,x9,x10].length=11:=rfl
def pF:[x0,x1,x2,x3,x4,x5,x6,x7,x8,x9,x10,x11].length=12:=rfl
def pG:[x0,x1,x2,x3,x4,x5,x6,x7,x8,x9,x10,x11,x12].length=13:=rfl
def pH:[x0,x1,x2,x3,x4,x5,x6,x7,x8,x9,x10,x11,x12,x13].length=14:=rfl
end
inductive aI {α:Type}:List α->List α->Prop where
 |nil:aI [] []
 |cons {a b:α} {us bs:List α} (h:a=b) (ht:aI us bs):aI (a::us) (b::bs)
def aI.eq{α:Type}{us bs:List α}(h:aI us bs):us=bs:=by
 induction h with
 |nil=>rfl
 |cons h _ ih=>rw[h,ih]
inductive jW:List SV->List AV->Prop where
 |nil:jW [] []
 |cons {x:AV} {us:List SV} {bs:List AV} (ht:jW us bs):jW (.t x::us) (x::bs)
def jW.eq{us:List SV}{bs:List AV}(h:jW us bs):us=bs.map .t:=by
 induction h with
 |nil=>rfl
 |cons _ ih=>rw[ih];rfl
def MU(xs:List AV):iH (xs.map .t)=some xs:=by
 induction xs with
 |nil=>rfl
 |cons x xs u=>rw[List.map_cons];unfold iH;rw[u]
def MV(xs:List AV):pX (xs.map .t)=some xs:=by
 induction xs with
 |nil=>rfl
 |cons x xs u=>rw[List.map_cons];unfold pX;rw[u]
def A6(xs:List AV):mf (xs.map .t)=.t (.agg xs):=by unfold mf;rw[MV]
def MZ(xs:List SV):∀(pre u:List SV),u.length=xs.length->jM (pre++u) pre.length xs=pre++xs:=by
 induction xs with
 |nil=>intro pre u h;obtain rfl:=List.length_eq_zero_iff.1 h;rfl
 |cons x xs v=>
  intro pre u h
  cases u with
  |nil=>simp at h
  |cons o u=>
   unfold jM;have e:(pre++o::u).set pre.length x=(pre++[x])++u:=by simp
   have:=v (pre++[x]) u (by simpa using h);rw[e];simpa using this
def MY{cs xs:List SV}(h:cs.length=xs.length):jM cs 0 xs=xs:=MZ xs [] cs h
def af.al{T n:Nat}{zs cs:List SV}{fr':Fr}(hs:∀C:CallF,step g C d i env fr (.alloc T)=bT g C (ep d i) env fr (.alloc T))(hz:nM g.P T=some zs)(hc:aI zs cs)(hn:fr.length=n)(hf:aI (fr++[.box false T cs]) fr'):af g d i env fr (.alloc T) (.lp n 0) fr' []:=.r fun C=>by
 rw[hs];subst hn;obtain rfl:=hf.eq;obtain rfl:=hc.eq;unfold bT;simp only[hz]
def af.HC{T n:Nat}{y:Operand}{s:SV}{cs ds:List SV}{fr':Fr}(hs:∀C:CallF,step g C d i env fr (.box T y)=bT g C (ep d i) env fr (.box T y))(hy:rd env y=s)(hc:bw s=cs)(ho:cs.all du=true)(hd:aI cs ds)(hn:fr.length=n)(hf:aI (fr++[.box false T ds]) fr'):af g d i env fr (.box T y) (.lp n 0) fr' []:=.r fun C=>by
 rw[hs];subst hn hc hy;obtain rfl:=hf.eq;obtain rfl:=hd.eq;unfold bT;simp only[ho]
def af.BC{T n:Nat}{y:Operand}{xs:List AV}{fr':Fr}(hs:∀C:CallF,step g C d i env fr (.box T y)=bT g C (ep d i) env fr (.box T y))(hy:rd env y=.t (.agg xs))(ho:(xs.map SV.t).all du=true)(hn:fr.length=n)(hf:aI (fr++[.box false T (xs.map .t)]) fr'):af g d i env fr (.box T y) (.lp n 0) fr' []:=.r fun C=>by
 rw[hs];subst hn;obtain rfl:=hf.eq;unfold bT;simp only[hy];have e:bw (.t (.agg xs))=xs.map .t:=rfl;simp only[e,ho]
def af.Pz{t n r T:Nat}{a y:Operand}{u:Bool}{xs:List AV}{cs:List SV}{fr':Fr}(hs:∀C:CallF,step g C d i env fr (.store t a y)=bX g C env fr (.store t a y))(ht:bn g.P t=some (u,n))(ha:rd env a=.lp r 0)(hy:rd env y=.t (.agg xs))(ho:(xs.map SV.t).all du=true)(hl:xs.length=n)(hb:fr[r]?=some (.box false T cs))(hc:cs.length=n)(hf:aI (fr.set r (.box false T (xs.map .t))) fr'):af g d i env fr (.store t a y) .dead fr' []:=.r fun C=>by
 rw[hs];obtain rfl:=hf.eq;subst hl;have e:bw (.t (.agg xs))=xs.map .t:=rfl;have h1:Nat.beq (xs.map SV.t).length xs.length=true:=by simp
 have h2:Nat.ble (0+xs.length) cs.length=true:=by simp;omega
 have h3:jM cs 0 (xs.map .t)=xs.map .t:=MY (by simpa using hc);unfold bX;simp only[gW];unfold bT;simp only;unfold ik;simp only[ht,ha,hy,e,ho,h1,Bool.and_self,hb,h2,h3]
def af.Gb{t n r j T:Nat}{a y:Operand}{u:Bool}{s:SV}{cs ds vs:List SV}{fr':Fr}(hs:∀C:CallF,step g C d i env fr (.store t a y)=bX g C env fr (.store t a y))(ht:bn g.P t=some (u,n))(ha:rd env a=.lp r j)(hy:rd env y=s)(hv:bw s=vs)(ho:(vs.all du&&Nat.beq vs.length n)=true)(hb:fr[r]?=some (.box false T cs))(hc:Nat.ble (j+n) cs.length=true)(hd:aI (jM cs j vs) ds)(hf:aI (fr.set r (.box false T ds)) fr'):af g d i env fr (.store t a y) .dead fr' []:=.r fun C=>by
 rw[hs];obtain rfl:=hf.eq;obtain rfl:=hd.eq;subst hv hy;unfold bX;simp only[gW];unfold bT;simp only;unfold ik;simp only[ht,ha,ho,hb,hc]
def af.Dq{t n r T:Nat}{y:Operand}{ro:Bool}{xs:List AV}(ht:bn g.P t=some (true,n))(hy:rd env y=.lp r 0)(hb:fr[r]?=some (.box ro T (List.map SV.t xs)))(hl:xs.length=n):af g d i env fr (.load t y) (.t (.agg xs)) fr []:=.p rfl rfl (by
 subst hl;unfold bD fO;have h1:Nat.ble (0+xs.length) (xs.map SV.t).length=true:=by simp
 have h2:((xs.map SV.t).drop 0).take xs.length=xs.map .t:=by rw[List.drop_zero];exact List.take_of_length_le (by simp)
 simp only[ht,hy,hb,h1,h2,A6])
def af.yM{t n r j T:Nat}{y:Operand}{ro:Bool}{cs vs:List SV}{xs:List AV}(ht:bn g.P t=some (true,n))(hy:rd env y=.lp r j)(hb:fr[r]?=some (.box ro T cs))(hl:Nat.ble (j+n) cs.length=true)(hv:(cs.drop j).take n=vs)(hx:jW vs xs):af g d i env fr (.load t y) (.t (.agg xs)) fr []:=.p rfl rfl (by
 unfold bD fO;simp only[ht,hy,hb,hl,hv,hx.eq,A6])
def af.Dn{t n r j T:Nat}{y:Operand}{ro:Bool}{cs vs:List SV}{v:SV}(ht:bn g.P t=some (true,n))(hy:rd env y=.lp r j)(hb:fr[r]?=some (.box ro T cs))(hl:Nat.ble (j+n) cs.length=true)(hv:aI ((cs.drop j).take n) vs)(hx:mf vs=v):af g d i env fr (.load t y) v fr []:=.p rfl rfl (by
 unfold bD fO;simp only[ht,hy,hb,hl,hv.eq,hx])
end
inductive fE (ks:List Nat):Fr->Fr->Prop where
 |nil:fE ks [] []
 |own {ro:Bool} {x:AV} {fr fr':Fr} (h:fE ks fr fr'):fE ks (.own ro x::fr) (.own ro x::fr')
 |row {ro tch:Bool} {sz:Nat} {es:List (List AV)} {fr fr':Fr} (h:fE ks fr fr'):fE ks (.row ro tch sz es::fr) (.row ro tch sz es::fr')
 |pf {ro:Bool} {T:TypeId} {xs:List AV} {fr fr':Fr} (h:fE ks fr fr'):fE ks (.box ro T (List.map SV.t xs)::fr) (.box ro T (List.map SV.t xs)::fr')
 |box {ro:Bool} {T:TypeId} {cs ds:List SV} {fr fr':Fr} (hd:aI (SV.cC (dD ks) cs) ds) (h:fE ks fr fr'):fE ks (.box ro T cs::fr) (.box ro T ds::fr')
def rT{σ:Nat->Option Nat}(xs:List AV):SV.cC σ (xs.map .t)=xs.map .t:=by
 induction xs with
 |nil=>rfl
 |cons x xs u=>rw[List.map_cons,SV.cC,SV.sub,u]
theorem fE.eq{ks:List Nat}{fr fr':Fr}(h:fE ks fr fr'):fr.map (Lb.sub (dD ks))=fr':=by
 induction h with
 |nil=>rfl
 |row _ ih=>rw[List.map_cons,ih];rfl
 |own _ ih=>rw[List.map_cons,ih];rfl
 |pf _ ih=>rw[List.map_cons,ih,Lb.sub,rT]
 |box hd _ ih=>rw[List.map_cons,ih,Lb.sub,hd.eq]
section
variable {g:Cfg} {d:Option (List Nat)} {i:Nat} {env:Env} {fr:Fr}
def af.Hz{t T sz u n:Nat}{fr':Fr}(hs:∀C:CallF,step g C d i env fr (.buildSlice t 0 #[])=bT g C (ep d i) env fr (.buildSlice t 0 #[]))(hr:eQ g.P t=some (T,sz,u))(hn:fr.length=n)(hf:aI (fr++[.row false false sz []]) fr'):af g d i env fr (.buildSlice t 0 #[]) (.ls n) fr' []:=.r fun C=>by
 rw[hs];subst hn;obtain rfl:=hf.eq;unfold bT;simp only[hr]
def af.ei{t T r sz v:Nat}{a y:Operand}{args:Array Operand}{tys:Array TypeId}{s:SV}{es u vs:List (List AV)}{tch:Bool}{fr1 fr':Fr}(hs:∀C:CallF,step g C d i env fr (.call ⟨.builtin .append,args,tys⟩)=bT g C (ep d i) env fr (.call ⟨.builtin .append,args,tys⟩))(ha:args.toList=[a,y])(ht:tys.toList=[t,t])(hr:eQ g.P t=some (T,sz,v))(hx:rd env a=.ls r)(hy:rd env y=s)(hn:gO fr s=some u)(hb:fr[r]?=some (.row false tch sz es))
  (hok:fu sz u=true)(hlen:cn (es.length+u.length) v=true)(hv:es++u=vs)(hk:fE [r] fr fr1)(hf:aI (fr1.set r (.row false true sz vs)) fr'):af g d i env fr (.call ⟨.builtin .append,args,tys⟩) (.ls r) fr' [r]:=.r fun C=>by
 rw[hs];subst hv hy;obtain rfl:=hf.eq;obtain rfl:=hk.eq;have h1:(Nat.beq sz sz&&cn (es.length+u.length) v)=true:=by rw[hlen];simp
 have h2:Nat.beq t t=true:=by simp
 unfold bT;simp only[ha,ht,h2];unfold sk;simp only[hr,hn,hok,hx,hb,h1];rfl
def af.Av{t n r q:Nat}{a y:Operand}{tch:Bool}{es vs:List (List AV)}{cs:List AV}{c:AV}{u:Bool}{fr':Fr}(hs:∀C:CallF,step g C d i env fr (.store t a y)=bX g C env fr (.store t a y))(ht:bn g.P t=some (u,n))(ha:rd env a=.le r 1 q 0)(hy:rd env y=.t c)(hone:du (.t c)=true)(hn:Nat.beq 1 n=true)(hb:fr[r]?=some (.row false tch 1 es))(hk:es[q]?=some cs)(hj:cs.length=1)(hv:es.set q [c]=vs)(hf:aI (fr.set r (.row false tch 1 vs)) fr'):af g d i env fr (.store t a y) .dead fr' []:=by
 obtain rfl:=hf.eq;subst hv
 have e:cs.set 0 c=[c]:=by
  match cs,hj with
  |[x],_=>rfl
 have:=af.str (effOk:=hs) ht ha hy hone hn hb hk (by rw[hj];rfl);rw[e]at this;exact this
def af.uE{t len:Nat}{parts:Array (Nat×Operand)}{u:List Nat}{xs:List AV}{x:SV}{fr1:Fr}(hs:∀C:CallF,step g C d i env fr (.buildSlice t len parts)=bX g C env fr (.buildSlice t len parts))(hw:gW (.buildSlice t len parts)=false)(h0:bD g.P fr env (.buildSlice t len parts)=none)(ht:jS (parts.toList.map (·.2))=u)(hx:cJ fr (u.map fun t=>un (env t))=some xs)(hf:aI (freeze fr (br fr (u.map fun t=>un (env t)))) fr1)(hp:bD g.P fr1 (qg env u xs) (.buildSlice t len parts)=some x):af g d i env fr (.buildSlice t len parts) x fr1 []:=.r fun C=>by
 rw[hs];subst ht;obtain rfl:=hf.eq;unfold bX;simp only[hw,h0];unfold uX;simp only[hx];rw[hp];rfl
def af.Hb{xt yt:TypeId}{x y:Operand}{s u:ByteArray}(hx:rd env x=.t (.str s))(hy:rd env y=.t (.str u))(h:s.size+u.size<=9223372036854775807):af g d i env fr (.binOp .add xt x y yt) (.t (.str (s++u))) fr []:=
 .mg hx hy (by unfold iw;simp only[wz,if_pos h])
def af.nE{xt yt:TypeId}{x y:Operand}{m n r:Int}(hx:rd env x=.t (.int .i64 m))(hy:rd env y=.t (.int .i64 n))(hn:n≠0)(h:m.tmod n=r):af g d i env fr (.binOp .rem xt x y yt) (.t (.int .i64 r)) fr []:=
 .mg hx hy (by unfold iw;simp only[if_true,lA,if_neg hn,h])
def af.iI{xt yt:TypeId}{x y:Operand}{m n r:Int}(hx:rd env x=.t (.int .i64 m))(hy:rd env y=.t (.int .i64 n))(hn:n≠0)(h:m.tdiv n=r)(hb : -9223372036854775808<=r/\r<=9223372036854775807):af g d i env fr (.binOp .quo xt x y yt) (.t (.int .i64 r)) fr []:=
 .mg hx hy (by unfold iw;simp only[if_true,lA,if_neg hn,h,IntWalk.i64_in _ hb])
def af.rQ{t l h:Nat}{x lo hi:Operand}{k z:IntKind}{s v:ByteArray}(hst:mr g.P t=true)(hx:rd env x=.t (.str s))(hl:rd env lo=.t (.int k (l:Int)))(hh:rd env hi=.t (.int z (h:Int)))(hlh:l<=h)(hhs:h<=s.size)(hv:s.extract l h=v):af g d i env fr (.slice t x (some lo) (some hi) none) (.t (.str v)) fr []:=.p rfl rfl (by
 subst hv;have h1:(decide (0<=(h:Int))&&Nat.ble (Int.toNat (h:Int)) s.size)=true:=by simp;omega
 have h2:(decide (0<=(l:Int))&&Nat.ble (Int.toNat (l:Int)) h)=true:=by simp;omega
 have u:eI (some (.t (.int z (h:Int)))) s.size s.size=some h:=by unfold eI;simp only[h1];simp
 have y:eI (some (.t (.int k (l:Int)))) 0 h=some l:=by unfold eI;simp only[h2];simp
 unfold bD oO;simp only[Option.map_none,Option.map_some,hx,hl,hh,hst];unfold lj;simp only[u,y])
def af.Dp{t n r sz q j:Nat}{y:Operand}{ro tch:Bool}{es:List (List AV)}{cs vs:List AV}(ht:bn g.P t=some (true,n))(hy:rd env y=.le r sz q j)(hb:fr[r]?=some (.row ro tch sz es))(hk:es[q]?=some cs)(hl:Nat.ble (j+n) cs.length=true)(hv:aI ((cs.drop j).take n) vs):af g d i env fr (.load t y) (.t (.agg vs)) fr []:=.p rfl rfl (by
 obtain rfl:=hv.eq;have h2:Nat.beq sz sz=true:=by simp
 unfold bD fO;simp only[ht,hy,hb,h2,hk,hl])
def af.KQ{t n r sz q:Nat}{y:Operand}{ro tch:Bool}{es:List (List AV)}{c:AV}(ht:bn g.P t=some (false,n))(hy:rd env y=.le r sz q 0)(hb:fr[r]?=some (.row ro tch sz es))(hk:es[q]?=some [c]):af g d i env fr (.load t y) (.t c) fr []:=.Do ht hy hb hk rfl
end
inductive cW (σ:Nat->Option Nat):Fr->Fr->Prop where
 |nil:cW σ [] []
 |own {ro:Bool} {x:AV} {fr fr':Fr} (h:cW σ fr fr'):cW σ (.own ro x::fr) (.own ro x::fr')
 |row {ro tch:Bool} {sz:Nat} {es:List (List AV)} {fr fr':Fr} (h:cW σ fr fr'):cW σ (.row ro tch sz es::fr) (.row ro false sz es::fr')
 |pf {ro:Bool} {T:TypeId} {xs:List AV} {fr fr':Fr} (h:cW σ fr fr'):cW σ (.box ro T (List.map SV.t xs)::fr) (.box ro T (List.map SV.t xs)::fr')
 |box {ro:Bool} {T:TypeId} {cs ds:List SV} {fr fr':Fr} (hd:aI (SV.cC σ cs) ds) (h:cW σ fr fr'):cW σ (.box ro T cs::fr) (.box ro T ds::fr')
theorem cW.eq{σ:Nat->Option Nat}{fr fr':Fr}(h:cW σ fr fr'):fr.map (fun b=>cU (b.sub σ))=fr':=by
 induction h with
 |nil=>rfl
 |row _ ih=>rw[List.map_cons,ih];rfl
 |own _ ih=>rw[List.map_cons,ih];rfl
 |pf _ ih=>rw[List.map_cons,ih,Lb.sub,rT];rfl
 |box hd _ ih=>rw[List.map_cons,ih,Lb.sub,hd.eq];rfl
section
variable {g:Cfg} {d:Option (List Nat)} {i:Nat} {env:Env} {fr:Fr}
def af.BG{c:Operand}{args:Array Operand}{tys:Array TypeId}{f n:Nat}{pa G u:List SV}{xs:List AV}{z:List SV}{r v:SV}{D y fr':Fr}(hcl:Cl g f z [] r D)(hcal:eK (rd env c)=some (f,pa,G))(hav:pa++args.toList.map (rd env)++G=u)(hx:cJ fr (bp (aQ g f 0 u) u)=some xs)(hh:cB [] (fo (aQ g f 0 u) u)=[])(hm:dt (bc []) (aQ g f 0 u) u xs=z)
  (hr:dq r=false)(hd:ep d i=false)(hq:br fr (bp (aQ g f 0 u) u)=[])(hn:fr.length=n)(hv:r.sub (dO [] n)=v)(he:cW (dO [] n) D y)(hf:aI (fr++y) fr'):af g d i env fr (.call ⟨.value c,args,tys⟩) v fr' []:=.call hcl hcal hav hx hh hm (by
 subst hv hn;obtain rfl:=hf.eq;obtain rfl:=he.eq;unfold nT;rw[hr,hd,hq];rfl)
def af.HF{c:Operand}{args:Array Operand}{tys:Array TypeId}{f h0:Nat}{ht:List Nat}(hs:List Nat){pa D u:List SV}{xs:List AV}{z:List SV}{r x:SV}{bs v fr' y:Fr}{ks:List Nat}(hcl:Cl g f z v r fr')(hdr:ep d i=false)(hcal:eK (rd env c)=some (f,pa,D))(hav:pa++args.toList.map (rd env)++D=u)(hx:cJ fr (bp (aQ g f 0 u) u)=some xs)(hh:cB [] (fo (aQ g f 0 u) u)=h0::ht)
  (hs0:close fr 4 (h0::ht)=hs)(hf:br fr (bp (aQ g f 0 u) u)=[])(hg:dX fr hs=some bs)(hc:mZ hs bs=true)(hm:dt (bc hs) (aQ g f 0 u) u xs=z)(hb:bs.map (fun b=>cU (b.sub (bc hs)))=v)(hk:kindOk hs fr' fr=true)(hv:r.sub (dO hs fr.length)=x)(hl:aI (back hs fr fr') y)(hq:dL hs fr'=ks):af g d i env fr (.call ⟨.value c,args,tys⟩) x y ks:=af.BF hs hcl hdr hcal hav hx hh hs0 hf hg hc hm hb hk (by rw[hv,hl.eq,hq])
end
section
variable {g:Cfg}
theorem Cl.ext{f:Nat}{xs:List AV}{args:List SV}{r:SV}{u:Fr}(hok:g.ok f=false)(ha:args=xs.map .t)(he:g.ext f xs=some (r,u)):Cl g f args [] r u:=by
 subst ha;refine⟨1,?_⟩;unfold cO;have e:iH (xs.map .t)=some xs:=MU xs;simp only[hok,e];exact he
end
section
variable {g:Cfg} {d:Option (List Nat)} {i':Nat} {env:Env} {fr:Fr}
def af.gN{t:Nat}{x i:Operand}{k:IntKind}{m:Int}{s:ByteArray}{b:UInt8}(hx:rd env x=.t (.str s))(hi:rd env i=.t (.int k m))(hst:mr g.P t=true)(h0:0<=m)(hb:s.data.toList[m.toNat]?=some b):af g d i' env fr (.index t x i) (.t (.int .u8 (b.toNat:Int))) fr []:=.p rfl rfl (by
 have h1:s[m.toNat]?=some b:=by
  rw[<- hb];obtain⟨⟨l⟩⟩:=s;show(if h:_ then _ else _)=_
  rcases Nat.lt_or_ge m.toNat l.length with h|h
  ·rw[dif_pos (by simpa[ByteArray.size]using h)];simp only[List.getElem?_eq_getElem h];rfl
  ·rw[dif_neg (by simpa[ByteArray.size]using h)];simp[List.getElem?_eq_none h]
 unfold bD vl;simp only[hx,hi,hst,decide_eq_true h0,h1])
def af.tQ{t:Nat}{x lo:Operand}{k:IntKind}{m:Int}{s v:ByteArray}(hst:mr g.P t=true)(hx:rd env x=.t (.str s))(hl:rd env lo=.t (.int k m))(h0:0<=m)(hls:m.toNat<=s.size)(hv:s.extract m.toNat s.size=v):af g d i' env fr (.slice t x (some lo) none none) (.t (.str v)) fr []:=.p rfl rfl (by
 subst hv;obtain⟨l,rfl⟩:=Int.eq_ofNat_of_zero_le h0;rw[Int.toNat_natCast]at hls⊢;have h2:(decide (0<=(l:Int))&&Nat.ble (Int.toNat (l:Int)) s.size)=true:=by simp;omega
 have y:eI (some (.t (.int k (l:Int)))) 0 s.size=some l:=by unfold eI;simp only[h2];simp
 have u:eI none s.size s.size=some s.size:=rfl;unfold bD oO;simp only[Option.map_none,Option.map_some,hx,hl,hst];unfold lj;simp only[u,y])
def af.ws{t h:Nat}{x hi:Operand}{k:IntKind}{s v:ByteArray}(hst:mr g.P t=true)(hx:rd env x=.t (.str s))(hh:rd env hi=.t (.int k (h:Int)))(hhs:h<=s.size)(hv:s.extract 0 h=v):af g d i' env fr (.slice t x none (some hi) none) (.t (.str v)) fr []:=.p rfl rfl (by
 subst hv;have h1:(decide (0<=(h:Int))&&Nat.ble (Int.toNat (h:Int)) s.size)=true:=by simp;omega
 have u:eI (some (.t (.int k (h:Int)))) s.size s.size=some h:=by unfold eI;simp only[h1];simp
 have y:eI none 0 h=some 0:=by unfold eI;rfl
 unfold bD oO;simp only[Option.map_none,Option.map_some,hx,hh,hst];unfold lj;simp only[u,y])
def af.BW{u dst:Nat}{k:IntKind}{x:Operand}{m:Int}{ds:TypeDesc}(hx:rd env x=.t (.int k m))(hs:g.P.underlying u=some ds)(hd:g.P.underlying dst=some (.int .i64))(h : -9223372036854775808<=m/\m<=9223372036854775807):af g d i' env fr (.convert u dst x) (.t (.int .i64 m)) fr []:=.p rfl rfl (by
 unfold bD sA;simp only[hx,hs,hd,IntWalk.i64_in _ h])
end
section
variable {g:Cfg} {d:Option (List Nat)} {env:Env} {fr:Fr} {i':Nat}
def af.BX{u dst:Nat}{k:IntKind}{x:Operand}{m:Int}{ds:TypeDesc}(hx:rd env x=.t (.int k m))(hs:g.P.underlying u=some ds)(hd:g.P.underlying dst=some (.int .u64))(h:0<=m/\m<=9223372036854775807):af g d i' env fr (.convert u dst x) (.t (.int .u64 m)) fr []:=.p rfl rfl (by
 unfold bD sA;simp only[hx,hs,hd,IntWalk.u64_in _ ⟨h.1,by omega⟩])
def af.dY{t:Nat}{l c:Operand}{sl u x:SV}{fr1 fr':Fr}(hs:∀C:CallF,step g C d i' env fr (.makeSlice t l c)=bT g C (ep d i') env fr (.makeSlice t l c))(hl:rd env l=sl)(hc:rd env c=u)(hd:ep d i'=false)(hm:gZ g.P fr t sl u=some (x,fr1,[]))(hf:aI fr1 fr'):af g d i' env fr (.makeSlice t l c) x fr' []:=.r fun C=>by
 obtain rfl:=hf.eq;subst hl hc;rw[hs];unfold bT;simp only[hm,hd]
end
section
variable {g:Cfg} {d:Option (List Nat)} {env:Env} {fr:Fr} {i:Nat}
def af.wx{t e sz r:Nat}{x:Operand}{lo hi:Option Operand}{ro tch:Bool}{es:List (List AV)}{v u:Option SV}{y:SV}(he:eZ g.P t=some (e,sz))(hx:rd env x=.ls r)(hl:lo.map (rd env)=v)(hh:hi.map (rd env)=u)(hb:fr[r]?=some (.row ro tch sz es))(hv:jg r sz 0 es.length es.length v u=some y):af g d i env fr (.slice t x lo hi none) y fr []:=.p rfl rfl (by
 have h2:Nat.beq sz sz=true:=by simp
 subst hl hh;unfold bD oO;simp only[Option.map_none,hx,he,tW];unfold ww;simp only[he,hb,h2];exact hv)
def Bt{q dv u:Nat}{k:IntKind}(h:q<=u):eI (some (.t (.int k (q:Int)))) dv u=some q:=by
 have h1:(decide (0<=(q:Int))&&Nat.ble (Int.toNat (q:Int)) u)=true:=by simp;omega
 unfold eI;simp only[h1];simp
def Bu{dv u:Nat}:eI none dv u=some dv:=rfl
def GL{r sz n l h:Nat}{lo hi:Option SV}(h1:eI hi n n=some h)(h2:eI lo 0 h=some l):jg r sz 0 n n lo hi=match Nat.beq (0+l) 0&&Nat.beq h n with
  |true=>some (.ls r)
  |false=>match Nat.beq (h - l) 0&&Nat.blt 0 (0+l)with
   |true=>some (.t (.arr []))
   |false=>some (.lv r sz (0+l) (h - l)):=by
 unfold jg lj;simp only[h1,h2];rfl
def xv{a b:Nat}(h:a≠b):Nat.beq a b=false:=by rw[<- Bool.not_eq_true,Nat.beq_eq];exact h
def GK{r sz n q:Nat}{k:IntKind}(h0:0 <q)(h:q <n):jg r sz 0 n n (some (.t (.int k (q:Int)))) none=some (.lv r sz q (n - q)):=by
 rw[GL Bu (Bt (by omega)),Nat.zero_add,xv (show q≠0 by omega),xv (show n - q≠0 by omega)];rfl
def GJ{r sz n q:Nat}{k:IntKind}(h:q <n):jg r sz 0 n n none (some (.t (.int k (q:Int))))=some (.lv r sz 0 q):=by
 rw[GL (Bt (by omega)) Bu,xv (show q≠n by omega),Nat.zero_add];have h3:Nat.blt 0 0=false:=rfl;rw[h3,Bool.and_false,Bool.and_false];rfl
end
def ae{g:Cfg}{d:Option (List Nat)}{i:Nat}{env:Env}{fr fr':Fr}{op:Op}{x:SV}{ks:List Nat}(h:af g d i env fr op x fr' ks:=by
 first
|((with_reducible apply af.mv);(conv=>lhs;whnf);try exact rfl)
|((with_reducible apply af.asg);(conv=>lhs;whnf);try exact rfl)
|((with_reducible apply af.MD);(case hc=>exact rfl);(case h=>(conv=>lhs;whnf);try exact rfl))
|((with_reducible apply af.MC);(case hc=>exact rfl);(case h=>(conv=>lhs;whnf);try exact rfl))
|((with_reducible apply af.inc);(case hx|hy=>exact rfl);(case h=>omega))
|((with_reducible apply af.add);(case hx|hy=>exact rfl);(case h=>omega))
|((with_reducible apply af.sub);(case hx|hy=>exact rfl);(case h=>omega))
|((with_reducible apply af.len);(case ha|hy|ht|hs=>exact rfl);(case hn=>first|exact List.length_map _|exact rfl))
|((with_reducible apply af.ix);(case he=>first|(with_reducible exact na)|(with_reducible exact el1)|(with_reducible exact nc)|(with_reducible exact el3)|(with_reducible exact el4)|(with_reducible exact ng)|(with_reducible exact el6)|(with_reducible exact el7)|exact rfl);(case hx|hi=>exact rfl);(case hc=>assumption);(case hz=>exact rfl))
|((with_reducible apply af.Km);(case he=>first|(with_reducible exact na)|(with_reducible exact el1)|(with_reducible exact nc)|(with_reducible exact el3)|(with_reducible exact el4)|(with_reducible exact ng)|(with_reducible exact el6)|(with_reducible exact el7)|exact rfl);(case hx|hi=>exact rfl);(case hc=>assumption);(case hz=>exact rfl))
|((with_reducible apply af.C9);(case he=>first|(with_reducible exact na)|(with_reducible exact el1)|(with_reducible exact nc)|(with_reducible exact el3)|(with_reducible exact el4)|(with_reducible exact ng)|(with_reducible exact el6)|(with_reducible exact el7)|exact rfl);(case hx|hi=>exact rfl);(case h0=>omega);(case hc=>assumption);(case hz=>exact rfl))
|((with_reducible apply af.yh);(case hy|ho=>exact rfl);(case hn=>(conv=>lhs;whnf);try exact rfl))
|((with_reducible apply af.Jh);(case hy|ho=>exact rfl);(case hn=>(conv=>lhs;whnf);try exact rfl))
|((with_reducible apply af.al);(case hs=>exact fun _=>rfl);(case hz=>exact rfl);(case hc=>(repeat'(first|exact aI.nil|((first|with_reducible apply aI.cons|apply aI.cons);(case h=>(conv=>lhs;whnf);try exact rfl)))));(case hn=>(first|exact pA|exact pB|exact pI|exact pJ|exact pL|exact pO|exact pP|exact pQ|exact pR|exact pS|exact pC|exact pD|exact pF|exact pG|exact pH));(case hf=>(repeat'(first|exact aI.nil|((first|with_reducible apply aI.cons|apply aI.cons);(case h=>(conv=>lhs;whnf);try exact rfl))))))
|((with_reducible apply af.BC);(case hs=>exact fun _=>rfl);(case hy=>exact rfl);(case ho=>kernel_rfl);(case hn=>(first|exact pA|exact pB|exact pI|exact pJ|exact pL|exact pO|exact pP|exact pQ|exact pR|exact pS|exact pC|exact pD|exact pF|exact pG|exact pH));(case hf=>(repeat'(first|exact aI.nil|((first|with_reducible apply aI.cons|apply aI.cons);(case h=>(conv=>lhs;whnf);try exact rfl))))))
|((with_reducible apply af.HC);(case hs=>exact fun _=>rfl);(case hy|hc=>exact rfl);(case ho=>kernel_rfl);(case hd=>(repeat'(first|exact aI.nil|((first|with_reducible apply aI.cons|apply aI.cons);(case h=>(conv=>lhs;whnf);try exact rfl)))));(case hn=>(first|exact pA|exact pB|exact pI|exact pJ|exact pL|exact pO|exact pP|exact pQ|exact pR|exact pS|exact pC|exact pD|exact pF|exact pG|exact pH));(case hf=>(repeat'(first|exact aI.nil|((first|with_reducible apply aI.cons|apply aI.cons);(case h=>(conv=>lhs;whnf);try exact rfl))))))
|((with_reducible apply af.Pz);(case hs=>exact fun _=>rfl);(case ha|hy=>exact rfl);(case ht=>first|(with_reducible exact sz0)|(with_reducible exact eD)|(with_reducible exact qb)|(with_reducible exact sz3)|(with_reducible exact qc)|(with_reducible exact sz5)|(with_reducible exact sz6)|(with_reducible exact sz7)|(with_reducible exact sz8)|(with_reducible exact sz9)|exact rfl);(case ho=>kernel_rfl);(case hl=>kernel_rfl);(case hb=>exact rfl);(case hc=>kernel_rfl);(case hf=>(repeat'(first|exact aI.nil|((first|with_reducible apply aI.cons|apply aI.cons);(case h=>(conv=>lhs;whnf);try exact rfl))))))
|((with_reducible apply af.Gb);(case hs=>exact fun _=>rfl);(case ha|hy=>exact rfl);(case ht=>first|(with_reducible exact sz0)|(with_reducible exact eD)|(with_reducible exact qb)|(with_reducible exact sz3)|(with_reducible exact qc)|(with_reducible exact sz5)|(with_reducible exact sz6)|(with_reducible exact sz7)|(with_reducible exact sz8)|(with_reducible exact sz9)|exact rfl);(case hv=>exact rfl);(case ho=>kernel_rfl);(case hb=>exact rfl);(case hc=>kernel_rfl);(case hd=>(repeat'(first|exact aI.nil|((first|with_reducible apply aI.cons|apply aI.cons);(case h=>(conv=>lhs;whnf);try exact rfl)))));(case hf=>(repeat'(first|exact aI.nil|((first|with_reducible apply aI.cons|apply aI.cons);(case h=>(conv=>lhs;whnf);try exact rfl))))))
|((with_reducible apply af.Dq);(case hy=>exact rfl);(case ht=>first|(with_reducible exact sz0)|(with_reducible exact eD)|(with_reducible exact qb)|(with_reducible exact sz3)|(with_reducible exact qc)|(with_reducible exact sz5)|(with_reducible exact sz6)|(with_reducible exact sz7)|(with_reducible exact sz8)|(with_reducible exact sz9));(case hb=>exact rfl);(case hl=>kernel_rfl))
|((with_reducible apply af.yM);(case hy=>exact rfl);(case ht=>first|(with_reducible exact sz0)|(with_reducible exact eD)|(with_reducible exact qb)|(with_reducible exact sz3)|(with_reducible exact qc)|(with_reducible exact sz5)|(with_reducible exact sz6)|(with_reducible exact sz7)|(with_reducible exact sz8)|(with_reducible exact sz9));(case hb=>exact rfl);(case hl=>kernel_rfl);(case hv=>exact rfl);(case hx=>(repeat'(first|exact jW.nil|(apply jW.cons)))))
|((with_reducible apply af.Dn);(case hy=>exact rfl);(case ht=>first|(with_reducible exact sz0)|(with_reducible exact eD)|(with_reducible exact qb)|(with_reducible exact sz3)|(with_reducible exact qc)|(with_reducible exact sz5)|(with_reducible exact sz6)|(with_reducible exact sz7)|(with_reducible exact sz8)|(with_reducible exact sz9));(case hb=>exact rfl);(case hl=>kernel_rfl);(case hv=>(repeat'(first|exact aI.nil|((first|with_reducible apply aI.cons|apply aI.cons);(case h=>(conv=>lhs;whnf);try exact rfl)))));(case hx=>(conv=>lhs;whnf);try exact rfl))
|((with_reducible apply af.Hb);(case hx|hy=>exact rfl);(case h=>first|assumption|omega))
|((with_reducible apply af.Hz);(case hs=>exact fun _=>rfl);(case hr=>first|(with_reducible exact ec)|(with_reducible exact rw1)|(with_reducible exact ed)|(with_reducible exact rw3)|(with_reducible exact rw4)|exact rfl);(case hn=>(first|exact pA|exact pB|exact pI|exact pJ|exact pL|exact pO|exact pP|exact pQ|exact pR|exact pS|exact pC|exact pD|exact pF|exact pG|exact pH));(case hf=>(repeat'(first|exact aI.nil|((first|with_reducible apply aI.cons|apply aI.cons);(case h=>(conv=>lhs;whnf);try exact rfl))))))
|((with_reducible apply af.Kk);(case he=>first|(with_reducible exact na)|(with_reducible exact el1)|(with_reducible exact nc)|(with_reducible exact el3)|(with_reducible exact el4)|(with_reducible exact ng)|(with_reducible exact el6)|(with_reducible exact el7)|exact rfl);(case hx|hi|hb=>exact rfl);(case hq=>first|assumption|omega))
|((with_reducible apply af.Kl);(case he=>first|(with_reducible exact na)|(with_reducible exact el1)|(with_reducible exact nc)|(with_reducible exact el3)|(with_reducible exact el4)|(with_reducible exact ng)|(with_reducible exact el6)|(with_reducible exact el7)|exact rfl);(case hx|hi|hb=>exact rfl);(case h0=>first|assumption|omega);(case hq=>first|assumption|omega))
|((with_reducible apply af.KQ);(case hy|ht|hb=>exact rfl);(case hk=>assumption))
|((with_reducible apply af.Dp);(case hy=>exact rfl);(case ht=>first|(with_reducible exact sz0)|(with_reducible exact eD)|(with_reducible exact qb)|(with_reducible exact sz3)|(with_reducible exact qc)|(with_reducible exact sz5)|(with_reducible exact sz6)|(with_reducible exact sz7)|(with_reducible exact sz8)|(with_reducible exact sz9));(case hb=>exact rfl);(case hk=>assumption);(case hl=>kernel_rfl);(case hv=>(repeat'(first|exact aI.nil|((first|with_reducible apply aI.cons|apply aI.cons);(case h=>(conv=>lhs;whnf);try exact rfl))))))
|((with_reducible apply af.Dq);(case hy=>exact rfl);(case ht=>first|(with_reducible exact wG)|(with_reducible exact wH)|(with_reducible exact wI)|(with_reducible exact wJ)|(with_reducible exact wK)|(with_reducible exact wL)|(with_reducible exact wM)|(with_reducible exact wN)|(with_reducible exact wO)|(with_reducible exact wP)|(with_reducible exact wQ)|(with_reducible exact wR)|(with_reducible exact wS)|(with_reducible exact sz23)|(with_reducible exact sz24)|(with_reducible exact wT)|(with_reducible exact wU)|(with_reducible exact wV)|(with_reducible exact wW)|(with_reducible exact wX)|(with_reducible exact sz30)|(with_reducible exact sz31)|(with_reducible exact sz32)|(with_reducible exact sz33)|(with_reducible exact sz34));(case hb=>exact rfl);(case hl=>kernel_rfl))
|((with_reducible apply af.yM);(case hy=>exact rfl);(case ht=>first|(with_reducible exact wG)|(with_reducible exact wH)|(with_reducible exact wI)|(with_reducible exact wJ)|(with_reducible exact wK)|(with_reducible exact wL)|(with_reducible exact wM)|(with_reducible exact wN)|(with_reducible exact wO)|(with_reducible exact wP)|(with_reducible exact wQ)|(with_reducible exact wR)|(with_reducible exact wS)|(with_reducible exact sz23)|(with_reducible exact sz24)|(with_reducible exact wT)|(with_reducible exact wU)|(with_reducible exact wV)|(with_reducible exact wW)|(with_reducible exact wX)|(with_reducible exact sz30)|(with_reducible exact sz31)|(with_reducible exact sz32)|(with_reducible exact sz33)|(with_reducible exact sz34));(case hb=>exact rfl);(case hl=>kernel_rfl);(case hv=>exact rfl);(case hx=>(repeat'(first|exact jW.nil|(apply jW.cons)))))
|((with_reducible apply af.Dn);(case hy=>exact rfl);(case ht=>first|(with_reducible exact wG)|(with_reducible exact wH)|(with_reducible exact wI)|(with_reducible exact wJ)|(with_reducible exact wK)|(with_reducible exact wL)|(with_reducible exact wM)|(with_reducible exact wN)|(with_reducible exact wO)|(with_reducible exact wP)|(with_reducible exact wQ)|(with_reducible exact wR)|(with_reducible exact wS)|(with_reducible exact sz23)|(with_reducible exact sz24)|(with_reducible exact wT)|(with_reducible exact wU)|(with_reducible exact wV)|(with_reducible exact wW)|(with_reducible exact wX)|(with_reducible exact sz30)|(with_reducible exact sz31)|(with_reducible exact sz32)|(with_reducible exact sz33)|(with_reducible exact sz34));(case hb=>exact rfl);(case hl=>kernel_rfl);(case hv=>(repeat'(first|exact aI.nil|((first|with_reducible apply aI.cons|apply aI.cons);(case h=>(conv=>lhs;whnf);try exact rfl)))));(case hx=>(conv=>lhs;whnf);try exact rfl))
|((with_reducible apply af.Dp);(case hy=>exact rfl);(case ht=>first|(with_reducible exact wG)|(with_reducible exact wH)|(with_reducible exact wI)|(with_reducible exact wJ)|(with_reducible exact wK)|(with_reducible exact wL)|(with_reducible exact wM)|(with_reducible exact wN)|(with_reducible exact wO)|(with_reducible exact wP)|(with_reducible exact wQ)|(with_reducible exact wR)|(with_reducible exact wS)|(with_reducible exact sz23)|(with_reducible exact sz24)|(with_reducible exact wT)|(with_reducible exact wU)|(with_reducible exact wV)|(with_reducible exact wW)|(with_reducible exact wX)|(with_reducible exact sz30)|(with_reducible exact sz31)|(with_reducible exact sz32)|(with_reducible exact sz33)|(with_reducible exact sz34));(case hb=>exact rfl);(case hk=>assumption);(case hl=>kernel_rfl);(case hv=>(repeat'(first|exact aI.nil|((first|with_reducible apply aI.cons|apply aI.cons);(case h=>(conv=>lhs;whnf);try exact rfl))))))
|((with_reducible apply af.Do);(case ht|hy|hb=>exact rfl);(case hk=>assumption);(case hj=>exact rfl))
|exact af.r fun _=>rfl
 ):af g d i env fr op x fr' ks:=h
def leq{α:Type}{a b:List α}(h:aI a b:=by repeat'(first|exact aI.nil|((first|with_reducible apply aI.cons|apply aI.cons);(case h=>(conv=>lhs;whnf);try exact rfl)))):aI a b:=h
def slt{e:Env}{fr:Fr}{n:Nat}{s:List Nat}{l:List (Nat×SV)}(h:l9 e fr n s l:=by repeat'(first|exact l9.nil|(apply l9.cons;(case hv=>(conv=>lhs;whnf);try exact rfl)))):l9 e fr n s l:=h
def Dy{fr:Fr}{n:Nat}(h:fr.length=n:=by first|exact pA|exact pB|exact pI|exact pJ|exact pL|exact pO|exact pP|exact pQ|exact pR|exact pS|exact pC|exact pD|exact pF|exact pG|exact pH):fr.length=n:=h
def QS{σ:Nat->Option Nat}{a b:Fr}(h:cW σ a b:=by repeat'(first|exact cW.nil|(with_reducible apply cW.row)|(with_reducible apply cW.pf)|(with_reducible apply cW.own)|((apply cW.box);(case hd=>(repeat'(first|exact aI.nil|((first|with_reducible apply aI.cons|apply aI.cons);(case h=>(conv=>lhs;whnf);try exact rfl)))))))):cW σ a b:=h
def ez{ks:List Nat}{a b:Fr}(h:fE ks a b:=by repeat'(first|exact fE.nil|(with_reducible apply fE.row)|(with_reducible apply fE.pf)|(with_reducible apply fE.own)|((apply fE.box);(case hd=>(repeat'(first|exact aI.nil|((first|with_reducible apply aI.cons|apply aI.cons);(case h=>(conv=>lhs;whnf);try exact rfl)))))))):fE ks a b:=h
def ak{p:Prop}(h:p:=by first|assumption|omega):p:=h
def ai{g:Cfg}{d:Option (List Nat)}{i:Nat}{env:Env}{fr:Fr}{c:Operand}{args:Array Operand}{tys:Array TypeId}{f:Nat}{pa y u:List SV}{xs:List AV}{v:List SV}{r:SV}{z:Fr}(hcl:Cl g f v [] r z)(hcal:eK (rd env c)=some (f,pa,y):=by exact rfl)(hav:pa++args.toList.map (rd env)++y=u:=by exact rfl)(hx:cJ fr (bp (aQ g f 0 u) u)=some xs:=by exact rfl)(hh:cB [] (fo (aQ g f 0 u) u)=[]:=by exact rfl)(hm:dt (bc []) (aQ g f 0 u) u xs=v:=by exact rfl)(hr:dq r=true:=by exact rfl):af g d i env fr (.call ⟨.value c,args,tys⟩) r fr []:=af.so (hcl:=hcl) (hcal:=hcal) (hav:=hav) (hx:=hx) (hh:=hh) (hm:=hm) (hr:=hr)
def di{g:Cfg}{d:Option (List Nat)}{i:Nat}{env:Env}{fr:Fr}{c:Operand}{args:Array Operand}{tys:Array TypeId}{f:Nat}{pa y u:List SV}{xs:List AV}{v:List SV}{r:SV}(hcl:Cl g f v [] r [])(hcal:eK (rd env c)=some (f,pa,y):=by exact rfl)(hav:pa++args.toList.map (rd env)++y=u:=by exact rfl)(hx:cJ fr (bp (aQ g f 0 u) u)=some xs:=by exact rfl)(hh:cB [] (fo (aQ g f 0 u) u)=[]:=by exact rfl)(hm:dt (bc []) (aQ g f 0 u) u xs=v:=by exact rfl)(hn:r.refs=[]:=by exact rfl)(hr:br fr (bp (aQ g f 0 u) u)=[]:=by exact rfl):af g d i env fr (.call ⟨.value c,args,tys⟩) r fr []:=af.cO (hcl:=hcl) (hcal:=hcal) (hav:=hav) (hx:=hx) (hh:=hh) (hm:=hm) (hn:=hn) (hr:=hr)
def zr{g:Cfg}{d:Option (List Nat)}{i:Nat}{env:Env}{fr:Fr}{c:Operand}{args:Array Operand}{tys:Array TypeId}{f:Nat}{pa z u:List SV}{xs:List AV}{v:List SV}{r x:SV}{y fr':Fr}(hcl:Cl g f v [] r y)(hcal:eK (rd env c)=some (f,pa,z):=by exact rfl)(hav:pa++args.toList.map (rd env)++z=u:=by exact rfl)(hx:cJ fr (bp (aQ g f 0 u) u)=some xs:=by exact rfl)(hh:cB [] (fo (aQ g f 0 u) u)=[]:=by exact rfl)(hm:dt (bc []) (aQ g f 0 u) u xs=v:=by exact rfl)(hr:nT fr (ep d i) (br fr (bp (aQ g f 0 u) u)) r y=some (x,fr',[]):=by exact rfl):af g d i env fr (.call ⟨.value c,args,tys⟩) x fr' []:=af.call (hcl:=hcl) (hcal:=hcal) (hav:=hav) (hx:=hx) (hh:=hh) (hm:=hm) (hr:=hr)
def iG{g:Cfg}{d:Option (List Nat)}{i:Nat}{env:Env}{fr:Fr}{c:Operand}{args:Array Operand}{tys:Array TypeId}{f n:Nat}{pa G u:List SV}{xs:List AV}{z:List SV}{r v:SV}{D y fr':Fr}(hcl:Cl g f z [] r D)(hcal:eK (rd env c)=some (f,pa,G):=by exact rfl)(hav:pa++args.toList.map (rd env)++G=u:=by exact rfl)(hx:cJ fr (bp (aQ g f 0 u) u)=some xs:=by exact rfl)(hh:cB [] (fo (aQ g f 0 u) u)=[]:=by exact rfl)(hm:dt (bc []) (aQ g f 0 u) u xs=z:=by exact rfl)(hr:dq r=false:=by exact rfl)(hd:ep d i=false:=by exact rfl)(hq:br fr (bp (aQ g f 0 u) u)=[]:=by kernel_rfl)(hn:fr.length=n:=by(first|exact pA|exact pB|exact pI|exact pJ|exact pL|exact pO|exact pP|exact pQ|exact pR|exact pS|exact pC|exact pD|exact pF|exact pG|exact pH))(hv:r.sub (dO [] n)=v:=by(conv=>lhs;whnf);try exact rfl)(he:cW (dO [] n) D y:=by(repeat'(first|exact cW.nil|(with_reducible apply cW.row)|(with_reducible apply cW.pf)|(with_reducible apply cW.own)|((apply cW.box);(case hd=>(repeat'(first|exact aI.nil|((first|with_reducible apply aI.cons|apply aI.cons);(case h=>(conv=>lhs;whnf);try exact rfl)))))))))(hf:aI (fr++y) fr':=by(repeat'(first|exact aI.nil|((first|with_reducible apply aI.cons|apply aI.cons);(case h=>(conv=>lhs;whnf);try exact rfl))))):af g d i env fr (.call ⟨.value c,args,tys⟩) v fr' []:=af.BG (hcl:=hcl) (hcal:=hcal) (hav:=hav) (hx:=hx) (hh:=hh) (hm:=hm) (hr:=hr) (hd:=hd) (hq:=hq) (hn:=hn) (hv:=hv) (he:=he) (hf:=hf)
def lN{g:Cfg}{d:Option (List Nat)}{i:Nat}{env:Env}{fr:Fr}{c:Operand}{args:Array Operand}{tys:Array TypeId}{f h0:Nat}{ht:List Nat}(hs:List Nat){pa D u:List SV}{xs:List AV}{z:List SV}{r x:SV}{bs v fr' y:Fr}{ks:List Nat}(hcl:Cl g f z v r fr')(hdr:ep d i=false:=by exact rfl)(hcal:eK (rd env c)=some (f,pa,D):=by exact rfl)(hav:pa++args.toList.map (rd env)++D=u:=by exact rfl)(hx:cJ fr (bp (aQ g f 0 u) u)=some xs:=by exact rfl)(hh:cB [] (fo (aQ g f 0 u) u)=h0::ht:=by exact rfl)(hs0:close fr 4 (h0::ht)=hs:=by kernel_rfl)(hf:br fr (bp (aQ g f 0 u) u)=[]:=by kernel_rfl)(hg:dX fr hs=some bs:=by exact rfl)(hc:mZ hs bs=true:=by kernel_rfl)(hm:dt (bc hs) (aQ g f 0 u) u xs=z:=by exact rfl)(hb:bs.map (fun b=>cU (b.sub (bc hs)))=v:=by exact rfl)(hk:kindOk hs fr' fr=true:=by exact rfl)(hv:r.sub (dO hs fr.length)=x:=by(conv=>lhs;whnf);try exact rfl)(hl:aI (back hs fr fr') y:=by(repeat'(first|exact aI.nil|((first|with_reducible apply aI.cons|apply aI.cons);(case h=>(conv=>lhs;whnf);try exact rfl)))))(hq:dL hs fr'=ks:=by exact rfl):af g d i env fr (.call ⟨.value c,args,tys⟩) x y ks:=af.HF (hs:=hs) (hcl:=hcl) (hdr:=hdr) (hcal:=hcal) (hav:=hav) (hx:=hx) (hh:=hh) (hs0:=hs0) (hf:=hf) (hg:=hg) (hc:=hc) (hm:=hm) (hb:=hb) (hk:=hk) (hv:=hv) (hl:=hl) (hq:=hq)
def zt{g:Cfg}{d:Option (List Nat)}{i':Nat}{env:Env}{fr:Fr}{c:Operand}{args:Array Operand}{tys:Array TypeId}{f h0:Nat}{ht:List Nat}(hs:List Nat){pa D u:List SV}{xs:List AV}{v:List SV}{r x:SV}{bs y fr' z:Fr}{ks:List Nat}(hcl:Cl g f v y r fr')(hdr:ep d i'=false:=by exact rfl)(hcal:eK (rd env c)=some (f,pa,D):=by exact rfl)(hav:pa++args.toList.map (rd env)++D=u:=by exact rfl)(hx:cJ fr (bp (aQ g f 0 u) u)=some xs:=by exact rfl)(hh:cB [] (fo (aQ g f 0 u) u)=h0::ht:=by exact rfl)(hs0:close fr 4 (h0::ht)=hs:=by kernel_rfl)(hf:br fr (bp (aQ g f 0 u) u)=[]:=by kernel_rfl)(hg:dX fr hs=some bs:=by exact rfl)(hc:mZ hs bs=true:=by kernel_rfl)(hm:dt (bc hs) (aQ g f 0 u) u xs=v:=by exact rfl)(hb:bs.map (fun b=>cU (b.sub (bc hs)))=y:=by exact rfl)(hk:kindOk hs fr' fr=true:=by exact rfl)(hr:(r.sub (dO hs fr.length),back hs fr fr',dL hs fr')=(x,z,ks):=by exact rfl):af g d i' env fr (.call ⟨.value c,args,tys⟩) x z ks:=af.BF (hs:=hs) (hcl:=hcl) (hdr:=hdr) (hcal:=hcal) (hav:=hav) (hx:=hx) (hh:=hh) (hs0:=hs0) (hf:=hf) (hg:=hg) (hc:=hc) (hm:=hm) (hb:=hb) (hk:=hk) (hr:=hr)
inductive r9 (q:Prop):Prop where
 |mk (h:q)
def r9.out{q:Prop}(h:r9 q):q:=by cases h with|mk h=>exact h
def zp{p:Prop}(h:p:=by first
  |((with_reducible apply af.so);(case hcal|hav|hx|hh|hm=>exact rfl);(case hcl=>first|with_reducible assumption|assumption);(case hr=>exact rfl))
  |((with_reducible apply af.cO);(case hcal|hav|hx|hh|hm=>exact rfl);(case hcl=>first|with_reducible assumption|assumption);(case hn|hr=>exact rfl))
  |((with_reducible apply af.BG);(case hcal|hav|hx|hh|hm=>exact rfl);(case hcl=>first|with_reducible assumption|assumption);(case hr|hd=>exact rfl);(case hq=>kernel_rfl);(case hn=>(first|exact pA|exact pB|exact pI|exact pJ|exact pL|exact pO|exact pP|exact pQ|exact pR|exact pS|exact pC|exact pD|exact pF|exact pG|exact pH));(case hv=>(conv=>lhs;whnf);try exact rfl);(case he=>(repeat'(first|exact cW.nil|(with_reducible apply cW.row)|(with_reducible apply cW.pf)|((apply cW.box);(case hd=>(repeat'(first|exact aI.nil|((with_reducible apply aI.cons);(case h=>(conv=>lhs;whnf);try exact rfl))|(apply aI.cons;(case h=>(conv=>lhs;whnf);try exact rfl)))))))));(case hf=>(repeat'(first|exact aI.nil|((with_reducible apply aI.cons);(case h=>(conv=>lhs;whnf);try exact rfl))|(apply aI.cons;(case h=>(conv=>lhs;whnf);try exact rfl))))))
  |((with_reducible apply af.call);(case hcal|hav|hx|hh|hm=>exact rfl);(case hcl=>first|with_reducible assumption|assumption);(case hr=>exact rfl))
  |((with_reducible apply af.gN);(case hx|hi|hst=>exact rfl);(case h0=>omega);(case hb=>assumption))
  |((with_reducible apply af.mul);(case hx|hy=>exact rfl);(case h=>omega))
  |exact ae):p:=h
def aq{p q:Prop}(h:q)(k:r9 q->p:=by
 intro v
 repeat'(first
   |(with_reducible apply ac.seq)
   |(with_reducible apply ac.block)
   |((with_reducible apply ac.text);(try case hm=>exact rfl))
   |((with_reducible apply ac.drawn);(case hm=>exact rfl))
   |((with_reducible apply ac.sD);(case hm=>exact rfl))
   |((with_reducible apply ac.uR);(case hm|he=>exact rfl))
   |(with_reducible apply aa.nQ)
   |(with_reducible apply ac.skip)
   |(with_reducible apply ac.exit)
   |(with_reducible apply ac.ret)
   |(with_reducible apply aH)
   |(with_reducible apply da)
   |(with_reducible apply bL)
   |(with_reducible apply fH)
   |(with_reducible apply eV)
   |(with_reducible apply cY)
   |((with_reducible apply uD);(case hj=>exact rfl))
   |((with_reducible apply ac.aR);(case hc=>exact rfl))
   |((with_reducible apply ac.aY);(case hc=>exact rfl))
   |((with_reducible apply aa.aF);(case hp=>first|assumption|omega))
   |((with_reducible apply aa.bk);(case hp=>first|assumption|omega))
   |((with_reducible apply aa.aX)<;>intro hq)
   |((with_reducible apply aa.fS);(case hp=>first|assumption|omega))
   |((with_reducible apply aa.dK);(case hp=>first|assumption|omega))
   |((with_reducible apply aa.gA)<;>intro hq)
   |((with_reducible apply aa.cj);(case hp=>first|assumption|omega))
   |((with_reducible apply aa.c_);(case hp=>first|assumption|omega))
   |((with_reducible apply aa.bi)<;>intro hq)
   |((with_reducible apply aa.iM);(case hp=>first|assumption|omega))
   |((with_reducible apply aa.iL);(case hp=>first|assumption|omega))
   |((with_reducible apply aa.fz)<;>intro hq)
   |(with_reducible apply aa.aB)
   |(with_reducible apply aa.dF)
   |(with_reducible apply aa.nil)
   |((with_reducible apply aa.gf);(case hW=>exact rfl))
   |((with_reducible apply ay.vN);(case hck=>kernel_rfl))
   |(with_reducible apply ay.aB)
   |((with_reducible apply ay.u);(case hfl=>kernel_rfl);(case hx=>exact zp))
   |((with_reducible apply aa.av);(case hW=>exact rfl);(case hx=>exact zp))
   |((with_reducible apply aa.u0);(case hx=>exact zp))
   |fail)
 all_goals first
  |exact⟨.inr rfl,rfl⟩
  |exact⟨_,rfl,rfl,⟨by omega,rfl⟩,by omega⟩
  |exact⟨_,rfl,rfl,by omega,by omega⟩
  |exact⟨_,rfl,rfl,⟨by omega,by omega⟩,by omega⟩
  |exact⟨_,rfl,rfl,⟨by omega,by assumption⟩,by omega⟩
  |(refine ba (.inr rfl) rfl ?_;first|rfl|(simp_all;done)|(simp_all;omega)|(simp;done)|(simp;omega))
  |(apply ac.cR;(case ho|hp|hl=>exact rfl);(case hs=>exact slt);exact v.out)
  |exact v.out
 ):p:=k (.mk h)
def ah{p:Prop}(h:p:=by exact aq trivial):p:=h
def aw{p q:Prop}(h:q)(k:r9 q->p:=by
 intro u
 repeat1' (first
   |(with_reducible apply ac.seq)
   |(with_reducible apply ac.block)
   |((with_reducible apply ac.text);(try case hm=>exact rfl))
   |((with_reducible apply ac.drawn);(case hm=>exact rfl))
   |((with_reducible apply ac.sD);(case hm=>exact rfl))
   |((with_reducible apply ac.uR);(case hm|he=>exact rfl))
   |(with_reducible apply aa.nQ)
   |(with_reducible apply aa.pd)
   |(with_reducible apply aa.pc)
   |(with_reducible apply ac.skip)
   |(with_reducible apply ac.exit)
   |(with_reducible apply ac.ret)
   |(with_reducible apply aH)
   |(with_reducible apply da)
   |(with_reducible apply bL)
   |(with_reducible apply fH)
   |(with_reducible apply eV)
   |(with_reducible apply cY)
   |((with_reducible apply uD);(case hj=>exact rfl))
   |((with_reducible apply ac.aR);(case hc=>exact rfl))
   |((with_reducible apply ac.aY);(case hc=>exact rfl))
   |(with_reducible apply aa.aB)
   |(with_reducible apply aa.dF)
   |(with_reducible apply aa.nil)
   |((with_reducible apply aa.gf);(case hW=>exact rfl))
   |(with_reducible apply ay.nQ)
   |(with_reducible apply ay.pd)
   |(with_reducible apply ay.pc)
   |((with_reducible apply ay.vN);(case hck=>kernel_rfl))
   |((with_reducible apply ay.zl);(case hck=>kernel_rfl))
   |(with_reducible apply ay.aB)
   |(with_reducible apply ay.dF)
   |(with_reducible apply ay.nil)
   |((with_reducible apply ay.gf);(case hfl=>kernel_rfl);(case hW=>exact rfl)))
 exact u.out
 ):p:=k (.mk h)
def a8{p q:Prop}(h:q)(k:r9 q->p:=by
 intro u
 repeat1' (first
   |((with_reducible apply aa.aF);(case hp=>first|assumption|omega))
   |((with_reducible apply aa.bk);(case hp=>first|assumption|omega))
   |((with_reducible apply aa.fS);(case hp=>first|assumption|omega))
   |((with_reducible apply aa.dK);(case hp=>first|assumption|omega))
   |((with_reducible apply aa.cj);(case hp=>first|assumption|omega))
   |((with_reducible apply aa.c_);(case hp=>first|assumption|omega))
   |((with_reducible apply aa.iM);(case hp=>first|assumption|omega))
   |((with_reducible apply aa.iL);(case hp=>first|assumption|omega))
   |((with_reducible apply ay.aF);(case hp=>first|assumption|omega))
   |((with_reducible apply ay.bk);(case hp=>first|assumption|omega))
   |((with_reducible apply ay.fS);(case hp=>first|assumption|omega))
   |((with_reducible apply ay.dK);(case hp=>first|assumption|omega))
   |((with_reducible apply ay.cj);(case hp=>first|assumption|omega))
   |((with_reducible apply ay.c_);(case hp=>first|assumption|omega))
   |((with_reducible apply ay.iM);(case hp=>first|assumption|omega))
   |((with_reducible apply ay.iL);(case hp=>first|assumption|omega)))
 exact u.out
 ):p:=k (.mk h)
open Go.ChangeShapes Go.WideShapes Go.Deep
def ow(P:Program):Nat->List Field->Option Nat
 |off,[]=>some off
 |off,f::u=>match Nat.beq f.offset off with
  |true=>ow P (off+P.cellsOf f.type) u
  |false=>none
def l5(P:Program):Nat->TypeId->Bool
 |0,_=>false
 |n+1,t=>match P.underlying t with
  |some (.int _)=>true
  |some .bool=>true
  |some .string=>true
  |some (.slice e)=>Nat.ble 1 (P.cellsOf e)&&(Nat.ble 8 (P.bytesOf e)&&l5 P n e)
  |some (.struct u)=>(match ow P 0 u.toList with
   |some k=>Nat.beq k (P.cellsOf t)
   |none=>false)&&u.toList.all fun f=>l5 P n f.type
  |_=>false
def dN(R:TypeId->List AV->Prop):List Field->List AV->Prop
 |[],xs=>xs=[]
 |f::y,xs=>∃u v,xs=u++v/\R f.type u/\dN R y v
def aJ(P:Program):Nat->TypeId->List AV->Prop
 |0,_,_=>False
 |n+1,t,xs=>match P.underlying t with
  |some (.int k)=>∃m,xs=[.int k m]/\(Lit.int k m).wf=true
  |some .bool=>∃b,xs=[.bool b]
  |some .string=>∃s,xs=[.str s]/\s.size<=maxLen
  |some (.slice e)=>∃u,xs=[.arr u]/\u.length<=17592186044416/\∀v∈u,aJ P n e v
  |some (.struct y)=>dN (aJ P n) y.toList xs
  |_=>False
def fj(l:List Nat):Prop:=∀n∈l,n<=reachBytes
def fj.fZ{a b:List Nat}(h:fj (a++b)):fj a/\fj b:=⟨fun n u=>h n (by simp[u]),fun n u=>h n (by simp[u])⟩
section
variable {H:Type} {enc:TypeId×Value->H} {P:Program} {w:World}
theorem F5{e:TypeId}:∀{l:List (DataW H)},fj (DataW.weightsAll P e l)->∀d∈l,fj (d.weights P e)
 |[],_,d,hd=>by cases hd
 |x::l,h,d,hd=>by
  have u:=fj.fZ h;rcases List.mem_cons.1 hd with rfl|hd
  ·exact u.1
  ·exact F5 u.2 d hd
theorem F6:∀{y:List TypeId} {l:List (DataW H)},fj (DataW.weightsEach P y l)->∀(i:Nat) (t:TypeId) (d:DataW H),y[i]?=some t->l[i]?=some d->fj (d.weights P t)
 |[],_,_,_,_,_,v,_=>by simp at v
 |_::_,[],_,_,_,_,_,hd=>by simp at hd
 |t::y,x::l,h,i,u,d,v,hd=>by
  have z:=fj.fZ h
  cases i with
  |zero=>simp at v hd;subst v hd;exact z.1
  |succ i=>exact F6 z.2 i u d (by simpa using v) (by simpa using hd)
def Vs(w:World)(xs:List AV)(cs:List Value):Prop:=xs.length=cs.length/\∀(j:Nat) (x:AV) (u:Value),xs[j]?=some x->cs[j]?=some u->VR (fun _=>True) w x u
def Vs.one{x:AV}{u:Value}(h:VR (fun _=>True) w x u):Vs w [x] [u]:=⟨rfl,fun j y v z D=>by
 cases j with
 |zero=>simp at z D;subst z D;exact h
 |succ j=>simp at z⟩
def Vs.fZ{xs D:List AV}{cs ds:List Value}(h1:Vs w xs cs)(h2:Vs w D ds):Vs w (xs++D) (cs++ds):=by
 refine⟨by simp[h1.1,h2.1],fun j x u z y=>?_⟩;rcases Nat.lt_or_ge j xs.length with v|v
 ·rw[List.getElem?_append_left v]at z;rw[List.getElem?_append_left (by rw[<- h1.1];exact v)]at y;exact h1.2 j x u z y
 ·rw[List.getElem?_append_right v]at z;rw[List.getElem?_append_right (by rw[<- h1.1];exact v),<- h1.1]at y;exact h2.2 _ x u z y
theorem FL{R:TypeId->List AV->Prop}{cs:List Value}{tot:Nat}(z:cs.length=tot):∀(fs:List Field) (off:Nat),off<=tot->ow P off fs=some tot->
  (∀f∈fs,∀c,(cs.drop f.offset).take (P.cellsOf f.type)=c->c.length=P.cellsOf f.type->∃G,R f.type G/\Vs w G c)->∃xs,dN R fs xs/\Vs w xs (cs.drop off)
 |[],off,Z,y,_=>by
  unfold ow at y;cases y;refine⟨[],rfl,?_,?_⟩
  ·simp[z]
  ·intro j x u hx;simp at hx
 |f::fs,off,Z,y,h=>by
  unfold ow at y;split at y
  ·rename_i v;have v:f.offset=off:=by simpa using v
   have D:∀(fs:List Field) (o:Nat),ow P o fs=some tot->o<=tot:=by
    intro fs
    induction fs with
    |nil=>intro o h;unfold ow at h;cases h;exact Nat.le_refl _
    |cons g gs ih=>
     intro o h;unfold ow at h;split at h
     ·have:=ih _ h;omega
     ·cases h
   have h1:=D _ _ y;obtain⟨U,hz,J⟩:=FL z fs (off+P.cellsOf f.type) h1 y fun g V=>h g (List.mem_cons_of_mem _ V);obtain⟨G,hy,I⟩:=h f List.mem_cons_self _ rfl (by rw[List.length_take,List.length_drop,v];omega);refine⟨G++U,⟨G,U,rfl,hy,hz⟩,?_⟩;have:=I.fZ J;rw[v]at this
   have e:(cs.drop off).take (P.cellsOf f.type)++cs.drop (off+P.cellsOf f.type)=cs.drop off:=by
    rw[<- List.drop_drop,List.take_append_drop]
   rwa[e]at this
  ·cases y
theorem AJ:∀(n:Nat) (t:TypeId),l5 P n t=true->∀(Z:Nat) (cs:List Value) (d:DataW H) (ps:List MemPlace),DataW.trod enc P w 0 (fun _=>true) true Z t cs=some (d,ps)->fj (d.weights P t)->∃xs,aJ P n t xs/\Vs w xs cs
 |0,t,h=>by unfold l5 at h;cases h
 |n+1,t,h=>by
  intro Z cs d ps ht V;unfold l5 at h;unfold aJ;split at h
  ·rename_i k y
   try simp only[y]
   obtain⟨m,rfl,_,bf⟩:=DataW.trod_int y ht;exact⟨_,⟨m,rfl,bf⟩,.one (.int k m)⟩
  ·rename_i y
   try simp only[y]
   obtain⟨b,rfl,_⟩:=DataW.trod_bool y ht;exact⟨_,⟨b,rfl⟩,.one (.bool b)⟩
  ·rename_i y
   try simp only[y]
   obtain⟨s,rfl,_,hs⟩:=DataW.trod_string y ht;exact⟨_,⟨s,rfl,hs⟩,.one (.str s)⟩
  ·rename_i e y
   try simp only[y]
   rw[Bool.and_eq_true,Bool.and_eq_true]at h;obtain⟨al,an,ax⟩:=h;have al:1<=P.cellsOf e:=by simpa using al
   have an:8<=P.bytesOf e:=by simpa using an
   rcases open_slice y ht with⟨rfl,_⟩|⟨a,len,cap,m,k,D,Pl,rfl,_,hl,_,hm,hx,hi⟩
   ·exact⟨_,⟨[],rfl,by simp,fun cs au=>by cases au⟩,.one (.bS none 0)⟩
   ·simp only[if_true]at hm;subst hm;simp only[Prod.mk.injEq]at hx;rw[hx.1]at V;clear hx ht;rw[DataW.weights]at V;simp only[y]at V
    have ad:m*8<=reachBytes:=by
     have:=V _ (List.mem_cons_self);simp only[List.length_map,List.length_range]at this;have h2:m*8<=m*P.bytesOf e:=Nat.mul_le_mul_left _ an;have h3:len+(m - len)=m:=by omega
     rw[h3]at this;omega
    have be:∀i,i <len->fj ((D i).weights P e):=by
     intro i I;have h2:fj (DataW.weightsAll P e ((List.range len).map D)):=fun n hn=>V n (List.mem_cons_of_mem _ (List.mem_append_left _ hn));exact F5 h2 _ (List.mem_map_of_mem (List.mem_range.2 I))
    have aX:∀i,i <len->∃z:List Value×List AV,w.cells? 0 (a.add (i*P.cellsOf e)) (P.cellsOf e)=some z.1/\aJ P n e z.2/\Vs w z.2 z.1:=by
     intro i I;obtain⟨aR,hc,bd⟩:=hi i (by omega);obtain⟨ys,h1,h2⟩:=AJ n e ax _ _ _ _ bd (be i I);exact⟨(aR,ys),hc,h1,h2⟩
    obtain⟨f,hf⟩:=choose_lt aX
    have G:∀i,i <len->(f i).1.length=P.cellsOf e/\∀(j:Nat),j <P.cellsOf e->w.cell? ((a.add (i*P.cellsOf e)).add j)=some ((f i).1.getD j undef):=by
     intro i I;obtain⟨_,ap,aT⟩:=World.cells?_some (hf i I).1;refine⟨ap,fun j hj=>?_⟩;rw[aT j hj,List.getD_eq_getElem?_getD,List.getElem?_eq_getElem (by omega)];rfl
    have u:((List.range len).map fun i=>(f i).2).length=len:=by simp
    have aB:∀(k:Nat) (cs:List AV),((List.range len).map fun i=>(f i).2)[k]?=some cs->k <len/\cs=(f k).2:=by
     intro k cs U;have v:k <len:=by have:=aC U;simpa using this
     rw[List.getElem?_map,List.getElem?_range v]at U;exact⟨v,by simpa using U.symm⟩
    refine⟨[.arr ((List.range len).map fun i=>(f i).2)],⟨_,rfl,?_,?_⟩,.one ?_⟩
    ·rw[u];unfold reachBytes at ad;omega
    ·intro cs au;obtain⟨i,I,rfl⟩:=List.mem_map.1 au;exact(hf i (List.mem_range.1 I)).2.1
    ·rcases Nat.eq_zero_or_pos len with h0|h0
     ·subst h0;exact .bS _ _
     ·have ao:=(G 0 h0).2 0 (by omega);obtain⟨b,o,sp⟩:=a;have hs:sp=none:=by simpa[Addr.add]using World.cell?_spot ao
      subst hs
      have ab:∀i j:Nat,((⟨b,o,none⟩:Addr).add i).add j=⟨b,o+(i+j),none⟩:=by
       intro i j;unfold Addr.add;by_cases a1:i=0 <;>by_cases bb:j=0 <;>simp[a1,bb,Nat.add_assoc]
      have hb:b <w.heap.size:=by
       have:=ab 0 0;rw[Nat.zero_mul,this]at ao;exact World.block_lt_of_cell? w _ ao
      have:=VR.arr (M:=fun _=>True) (w:=w) b o m (P.cellsOf e) ((List.range len).map fun i=>(f i).2) (fun k j=>(f k).1.getD j undef) (by intro h;rw[h]at u;simp at u;omega) (by rw[u];unfold reachBytes at ad;omega) (by rw[u];exact hl) hb trivial
       (fun k cs U=>by
        obtain⟨v,rfl⟩:=aB k cs U;rw[(hf k v).2.2.1,(G k v).1])
       (fun k j U hj=>by
        rw[u]at U;rw[<- ab];exact(G k U).2 j hj)
       (fun k j cs x U hj=>by
        obtain⟨v,rfl⟩:=aB k cs U;have a6:j <(f k).1.length:=by rw[<- (hf k v).2.2.1];exact aC hj
        refine(hf k v).2.2.2 j x _ hj ?_;rw[List.getD_eq_getElem?_getD,List.getElem?_eq_getElem a6];rfl)
      rw[u]at this;exact this
  ·rename_i fs y
   try simp only[y]
   rw[Bool.and_eq_true]at h;obtain⟨J,aA⟩:=h;obtain⟨xs,k,_,hx,ap,bi,hf⟩:=DataW.trod_struct y ht;simp only[Prod.mk.injEq]at hx;rw[hx.1]at V;rw[DataW.weights]at V;simp only[y]at V;split at J
   ·rename_i tot aM;have av:tot=P.cellsOf t:=by simpa using J
    obtain⟨ys,h1,h2⟩:=FL (w:=w) (R:=aJ P n) (cs:=cs) (tot:=tot) (by rw[ap,av]) fs.toList 0 (Nat.zero_le _) aM (fun f aF c hc bj=>by
     obtain⟨i,hi,aY⟩:=List.mem_iff_getElem.1 aF
     have ag:fs[i]?=some f:=by
      rw[<- aY];simp at hi;simp[hi]
     have aN:=hf i f ag;have aG:i <xs.length:=by rw[bi];simpa using hi
     rw[List.getElem?_eq_getElem aG,hc]at aN;have ax:l5 P n f.type=true:=List.all_eq_true.1 aA f aF;refine AJ n f.type ax _ _ _ _ aN ?_;refine F6 V i f.type _ ?_ ?_
     ·rw[List.getElem?_map];simp[ag]
     ·rw[List.getElem?_map,List.getElem?_eq_getElem aG];rfl)
    exact⟨ys,h1,by simpa using h2⟩
   ·cases J
  ·cases h
end
section
variable {H:Type} {enc:TypeId×Value->H} {P:Program}
def MQ{f:Func}{s:ChangeSpec}{apart fresh y V:Bool}{W W':World}{args:Array Value}{v:Value}{ds gs:List (DataW H)}{u pa pv:List MemPlace}
  (hW:DataW.Whole enc P f.params.toList s.vars apart W args.toList ds gs u)
  (U:∀(b:Nat) (Z:Nat->Bool) (hd:Bool),DataW.TrodAll enc P W' b Z hd f.resultTypes.toList (v.resultList f.resultTypes.size) (s.fn H (ds++gs)).results [])
  (z:∀Z:Nat->Bool,(∀p∈u,Z p.block=true)->DataW.TrodAll enc P W' 0 Z true f.params.toList args.toList (s.fn H (ds++gs)).args pa)
  (G:∀Z:Nat->Bool,(∀p∈u,Z p.block=true)->DataW.TrodVars enc P W' Z s.vars (s.fn H (ds++gs)).vars pv)
  (I:u=pa++pv)(hb:Below W.heap.size W W')
  (hok:∀(j:Nat) (t:TypeId) (r:Value),f.resultTypes[j]?=some t->(v.resultList f.resultTypes.size)[j]?=some r->Value.okWide P W' .any 0 t r):
  s.post enc P f apart fresh y V W args v W':=by
 have ad:∀p∈u,p.block <W.heap.size:=fun p D=>hW.lt p D;have J:∀p∈u,(fun b=>decide (b <W.heap.size)) p.block=true:=fun p D=>by simpa using ad p D
 refine⟨ds,gs,u,[],pa,pv,hW,U _ _ _,z _ J,G _ J,World.keptBut_mono (fun p D=>⟨D,?_⟩) (hb.frame (·∈u)),fun _=>?_⟩
 ·rw[I,List.mem_append]at D;exact Or.inr D
 ·obtain⟨_,_,_,_,_,hz,hn⟩:=hW;refine⟨hok,_,_,([]++pa)++pv,⟨[]++pa,pv,trodAll_append (z _ (fun _ _=>rfl)) (U _ _ _),G _ (fun _ _=>rfl),rfl,?_,?_⟩,?_⟩
  ·intro b ag D;have ab:MemPlace.cell b ag∈u:=by rw[I];simpa using D
   rw[hb.frozen (ad _ ab)];exact hz b ag ab
  ·intro ha;have:=hn ha;rw[I]at this;simpa using this
  ·intro p D _;rw[I];simpa using D
end
def fV(w:World)(e:Ending)(w':World):Prop:=e=.returned (.bool true)/\Below w.heap.size w w'
def fV.mk{w w':World}(h:Below w.heap.size w w'):fV w (.returned (.bool true)) w':=⟨rfl,h⟩
section
variable {H:Type} {enc:TypeId×Value->H}
def laidOut:laidOutB Tryz.prog=true:=by kernel_rfl
def P7{P:Program}(V:laidOutB P=true){W W':World}(hb:Below W.heap.size W W')(sp:Nat->Bool)(J:List TypeId):∀(vs:List Value) (ds:List (DataW H)) (z:List MemPlace),
  (∀t∈J,P.readableRec t=true/\t <P.types.size)->(∀x∈z,x.block <W.heap.size)->(∀p∈z,sp p.block=true)->
  DataW.TrodAll enc P W 0 (fun _=>true) true J vs ds z->DataW.TrodAll enc P W' 0 sp true J vs ds z:=by
 induction J with
 |nil=>
  intro vs ds z _ _ _ h;obtain⟨rfl,rfl,rfl⟩:=trodAll_nil h;exact trodAll_mk0
 |cons t J ih=>
  intro vs ds z ht D G h;obtain⟨v,Z,d,U,p,q,rfl,rfl,rfl,h0,hr⟩:=trodAll_cons h;have I:=ht t (by simp)
  exact trodAll_cons_mk (WideElems.Trod_stays V I.1 I.2 h0 (fun x y=>hb.same (D x (by simp[y]))) (fun x y=>G x (by simp[y])))
   (ih Z U q (fun u hu=>ht u (by simp[hu])) (fun x y=>D x (by simp[y])) (fun x y=>G x (by simp[y])) hr)
def Hu:Value.resultList 1 (Value.bool true)=[Value.bool true]:=by kernel_rfl
set_option maxRecDepth 100000 in
theorem KH {F:FuncId} {f:Func} {s:ChangeSpec} {W:World} {args:Array Value} {ds gs:List (DataW H)} {z:List MemPlace} (y:s.vars=[]) (I:f.resultTypes=#[4])
  (G:(f.params.toList.all fun t=>Tryz.prog.readableRec t && decide (t < Tryz.prog.types.size))=true) (U:s.fn H ds={ results:=[.lit (.bool true)],args:=ds })
  (hW:DataW.Whole enc Tryz.prog f.params.toList s.vars false W args.toList ds gs z) (h:Calls Tryz.prog F args W (fV W)) :
  Calls Tryz.prog F args W fun e W'=>∃ v,e=.returned v/\s.post enc Tryz.prog f false true false false W args v W':=by
 refine h.mono fun e W' ⟨he,hb⟩=>⟨_,he,?_⟩;have D:=hW;obtain ⟨p,q,hA,hV,rfl,ab,ad⟩:=hW;have V:∀ x∈p++q,x.block < W.heap.size:=fun x J=>D.lt x J;rw [y] at hV;obtain ⟨rfl,rfl⟩:=trodVars_none hV;have u:s.fn H (ds++[])={ results:=[.lit (.bool true)],args:=ds }:=by rw [List.append_nil];exact U
 refine MQ (pa:=p) (pv:=[]) D ?_ ?_ ?_ rfl hb ?_
 ·intro b sp hd;rw [u,I];exact trodAll_mk1 (shut_bool Tryz.underlying4 true)
 ·intro sp Z;rw [u];exact P7 laidOut hb sp _ _ _ _ (fun t ht=>by have:=List.all_eq_true.1 G t ht;rw [Bool.and_eq_true] at this;exact ⟨this.1,of_decide_eq_true this.2⟩) (fun x J=>V x (by simp [J])) (fun x J=>Z x (by simp [J])) hA
 ·intro sp _;rw [u,y];rfl
 ·exact ok_one I Hu (okWide_bool_mk Tryz.underlying4 true)
end
def xI(W:World):Ctx:=⟨fun _=>True,fun _=>False,fun _=>False,W,fun _=>none⟩
def Ix{γ:Glob}{W:World}(u:γ.G W)(hn:γ.n<=W.heap.size):ar γ (xI W) [] (xI W).L W where
 glob:=u
 gn:=hn
 gx:=fun _ h=>h.elim
 fresh:=fun _ _=>trivial
 os:=rfl
 tape:=rfl
 output:=rfl
 size:=Nat.le_refl _
 kept:=fun _ _ _=>rfl
 lim:=fun _ _ h=>by cases h
 new:=fun _ _ _ _ h=>by cases h
 dis:=fun _ _ _ _ _ h=>by cases h
 hand:=fun _ _ h=>by cases h
 blk:=fun i v h=>by simp at h
def KI{g:Cfg}{γ:Glob}(hW:Wf g γ){F:Nat}{xs:List AV}{us:Array Value}{W:World}(hc:Cl g F (xs.map .t) [] (.t (.bool true)) [])(U:γ.G W)(hn:γ.n<=W.heap.size)(hv:Vs W xs us.toList):Calls g.P F us W (fV W):=by
 obtain⟨n,I⟩:=hc
 have h:=((sound hW n).1 F _ _ _ _ I).2 (xI W) W us (Ix U hn) rfl (by rw[List.length_map,hv.1];simp) (fun j x u D hu=>by
  rw[List.getElem?_map]at D
  cases J:xs[j]? with
  |none=>rw[J]at D;cases D
  |some y=>
   rw[J]at D;cases D;exact .t _ _ ((hv.2 j y u J (by simpa using hu)).on (Nat.le_refl _) fun b _ _=>⟨⟨trivial,fun⟨i,v,lb,h1,_⟩=>by cases h1⟩,rfl⟩))
 refine h.mono fun e w' ⟨v,L',Z,z,V⟩=>⟨?_,⟨z.os,z.tape,z.output,z.size,fun k hk=>z.kept k hk id⟩⟩;rw[Z]
 cases V with
 |t x v h=>cases h;rfl
def Pm{H:Type}{P:Program}{v us:List TypeId}{ds y:List (DataW H)}(h:(DataW.weightsEach P (v++us) (ds++y)).all (·<=reachBytes)=true):fj (DataW.weightsEach P v ds):=by
 have z:fj (DataW.weightsEach P (v++us) (ds++y)):=fun n u=>by simpa using List.all_eq_true.1 h n u
 clear h
 induction v generalizing ds with
 |nil=>intro n u;simp[DataW.weightsEach]at u
 |cons t v D=>
  cases ds with
  |nil=>intro n u;simp[DataW.weightsEach]at u
  |cons d ds=>
   simp only[List.cons_append,DataW.weightsEach]at z⊢;have h1:=fj.fZ z;intro n u;rcases List.mem_append.1 u with h|h
   ·exact h1.1 n h
   ·exact D h1.2 n h
def Arg(P:Program)(m:Nat)(t:TypeId)(x:AV):Prop:=∃xs,aJ P m t xs/\(match P.underlying t with
 |some (.struct _)=>x=.agg xs
 |_=>xs=[x])
def rY(P:Program)(m:Nat):List TypeId->List AV->Prop
 |[],xs=>xs=[]
 |t::v,xs=>∃x u,xs=x::u/\Arg P m t x/\rY P m v u
def Qp{W:World}{xs:List AV}{v:Value}(h:Vs W xs [v]):∃x,xs=[x]/\VR (fun _=>True) W x v:=by
 match xs,h with
 |[x],h=>exact⟨x,rfl,h.2 0 x v rfl rfl⟩
 |[],h=>simp[Vs]at h
 |_::_::_,h=>simp[Vs]at h
section
variable {H:Type} {enc:TypeId×Value->H} {P:Program} {W:World}
def Ho{m b0:Nat}{t:TypeId}{v:Value}{d:DataW H}{Z:List MemPlace}(z:l5 P m t=true)(hv:Value.okWide P W .any b0 t v)(h:DataW.Trod enc P W 0 (fun _=>true) true t v d Z)(hs:fj (d.weights P t)):∃x,Arg P m t x/\VR (fun _=>True) W x v:=by
 obtain⟨G,hf⟩:=h;obtain⟨xs,h1,h2⟩:=AJ m t z G _ d Z hf hs
 have one:∀u,v.cells.toList=[u]->v=u->(∀D,P.underlying t≠some (.struct D))->∃x,Arg P m t x/\VR (fun _=>True) W x v:=fun u hc y J=>by
  rw[hc]at h2;obtain⟨x,rfl,V⟩:=Qp h2;refine⟨x,⟨[x],h1,?_⟩,y ▸ V⟩;split
  ·rename_i D I;exact absurd I (J D)
  ·rfl
 cases m with
 |zero=>unfold l5 at z;cases z
 |succ m=>
  unfold l5 at z;split at z
  ·rename_i k y;obtain⟨n,rfl⟩:=okWide_int y hv;exact one _ rfl rfl fun D h=>by rw[y]at h;cases h
  ·rename_i y;obtain⟨n,rfl⟩:=okWide_bool y hv;exact one _ rfl rfl fun D h=>by rw[y]at h;cases h
  ·rename_i y;obtain⟨n,rfl⟩:=okWide_string y hv;exact one _ rfl rfl fun D h=>by rw[y]at h;cases h
  ·rename_i e y;obtain⟨a,l,c,rfl⟩:=okWide_slice y hv;exact one _ rfl rfl fun D h=>by rw[y]at h;cases h
  ·rename_i D y;obtain⟨cs,rfl,_⟩:=okWide_struct y hv;refine⟨.agg xs,⟨xs,h1,by rw[y]⟩,.agg xs cs (by have:=h2.1;simp[Value.cells]at this;omega) fun j x u V U=>h2.2 j x u V (by simpa[Value.cells]using U)⟩
  ·cases z
theorem Bj{m b0:Nat}:∀(y:List TypeId) (vs:List Value) (ds:List (DataW H)) (Z:List MemPlace),(y.all fun t=>l5 P m t)=true->(∀(j:Nat) t v,y[j]?=some t->vs[j]?=some v->Value.okWide P W .any b0 t v)->DataW.TrodAll enc P W 0 (fun _=>true) true y vs ds Z->fj (DataW.weightsEach P y ds)->ds.length=y.length/\∃xs,rY P m y xs/\Vs W xs vs
 |[],vs,ds,Z,_,_,h,_=>by
  obtain⟨rfl,rfl,rfl⟩:=trodAll_nil h;exact⟨rfl,[],rfl,rfl,fun j x u J=>by simp at J⟩
 |t::y,vs,ds,Z,z,hv,h,hs=>by
  obtain⟨v,ab,d,D,p,q,rfl,rfl,rfl,h0,hr⟩:=trodAll_cons h;rw[List.all_cons,Bool.and_eq_true]at z;have G:=fj.fZ (show fj (d.weights P t++DataW.weightsEach P y D) from hs);obtain⟨x,J,U⟩:=Ho z.1 (hv 0 t v rfl rfl) h0 G.1;obtain⟨hl,ys,hy,V⟩:=Bj y ab D q z.2 (fun j t v ht I=>hv (j+1) t v (by simpa using ht) (by simpa using I)) hr G.2;exact⟨by simp[hl],x::ys,⟨x,ys,rfl,J,hy⟩,(Vs.one U).fZ V⟩
end
structure QP (P:Program) (f:Nat):Prop where
 known:gR P f
 some:∀(blk off cap:Nat) (zs:List Int) (w:World),Sort.Holds (Value.int .i64) w blk off zs.toArray->blk <w.heap.size->zs.length <4611686018427387904->
  Calls P f #[.slice (some ⟨blk,off,none⟩) zs.length cap] w fun e w'=>e=.returned (.tuple #[])/\∃n os,w'=Sort.grow (Sort.putRow (Value.int .i64) (Sort.ahead w n) blk off (zs.mergeSort fun x y=>decide (x<=y)).toArray) os
 none:∀(p:Option Addr) (cap:Nat) (w:World),Calls P f #[.slice p 0 cap] w fun e w'=>e=.returned (.tuple #[])/\w'=w
end Go.Proofs.YtcgdbhlnkificaaGreatDoor
