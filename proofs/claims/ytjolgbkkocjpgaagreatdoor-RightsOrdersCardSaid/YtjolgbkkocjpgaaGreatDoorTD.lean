/- The tree evaluator,22: rules for operations whose operands are told by variables;calls. No condition. -/
import Derived.Test.YtjolgbkkocjpgaaGreatDoorTC
import Derived.ProofKit
import Derived.OpenShut
import Derived.Deep.Slices
import Derived.SizedLaws
import Derived.ChangeSame
import Derived.Carry
import Derived.Deep.DeepHandedRow
import Derived.Lib.LaidTab
import Derived.LaidMore
import Derived.LaidSub
import Derived.Lib.SmallJoins
import Derived.Sort.OwnSortedInts
set_option linter.defProp false
set_option linter.unusedSimpArgs false
set_option linter.unusedVariables false
set_option linter.unusedSectionVars false
namespace Go.Proofs.YtjolgbkkocjpgaaGreatDoor
open Go.RowKit
section
variable {ops:Array Oper} {env:Env} {j d:Nat} {W b:Bool}
def Ii(h:(ops[j]?).bind (·.dst)=some d)(he:env d=.t (.bool b)):cX ops env j true=some b:=by unfold cX;rw[h];simp only[he,pH];cases b <;>rfl
def Ij(h:(ops[j]?).bind (·.dst)=some d)(he:env d=.t (.bool b)):cX ops env j false=some (!b):=by unfold cX;rw[h];simp only[he,pH];cases b <;>rfl
def Ik(h:(ops[j]?).bind (·.dst)=some d)(he:env d=q8 W (.t (.bool b))):cX ops env j true=some (W&&b):=by unfold cX;rw[h];simp only[he];cases W <;>cases b <;>rfl
def Il(h:(ops[j]?).bind (·.dst)=some d)(he:env d=q8 W (.t (.bool b))):cX ops env j false=some (W&&!b):=by unfold cX;rw[h];simp only[he];cases W <;>cases b <;>rfl
end
section
variable {g:Cfg} {d:Option (List Nat)} {i:Nat} {env:Env} {fr:Fr}
def Im{C:CallF}{op:Op}{x:SV}(hw:im op=false)(hc:mz op=false)(h:bG g.P fr env op=some x):step g C d i env fr op=some (x,fr,[]):=by
 unfold step
 cases d with
 |none=>simp only[cr,hw,h]
 |some effs=>
  simp only
  cases bT effs i with
  |true=>simp only[cr,hw,h]
  |false=>simp only[io,hc,h];rfl
def ae.p{op:Op}{x:SV}(hw:im op=false)(hc:mz op=false)(h:bG g.P fr env op=some x):ae g d i env fr op x fr []:=.r fun _=>Im hw hc h
def ae.or{c x y:Operand}{b z:Bool}(hc:rd env c=.t (.bool b))(hx:rd env x=.t (.bool true))(hy:du env y=q8 (!b) (.t (.bool z))):ae g d i env fr (.pick c x y) (.t (.bool (b ||z))) fr []:=.p rfl rfl (by
 unfold bG
 cases b with
 |true=>simp only[hc];exact congrArg some hx
 |false=>simp only[hc];show some (un (du env y))=_;rw[hy];rfl)
def ae.and{c x y:Operand}{b z:Bool}(hc:rd env c=.t (.bool b))(hx:du env x=q8 b (.t (.bool z)))(hy:rd env y=.t (.bool false)):ae g d i env fr (.pick c x y) (.t (.bool (b&&z))) fr []:=.p rfl rfl (by
 unfold bG
 cases b with
 |false=>simp only[hc];exact congrArg some hy
 |true=>simp only[hc];show some (un (du env x))=_;rw[hx];rfl)
def ae.kP{b:BinOp}{xt yt:TypeId}{x y:Operand}{s s':SV}{r:AV}(hx:rd env x=s)(hy:rd env y=s')(h:gF g.P b xt (j7 x ||j7 y) s s'=some r):ae g d i env fr (.binOp b xt x y yt) (.t r) fr []:=.p rfl rfl (by unfold bG;simp only[hx,hy,h])
theorem ae.add{xt yt:TypeId}{x y:Operand}{m n:Int}(hx:rd env x=.t (.int .i64 m))(hy:rd env y=.t (.int .i64 n))(h : -9223372036854775808<=m+n/\m+n<=9223372036854775807):ae g d i env fr (.binOp .add xt x y yt) (.t (.int .i64 (m+n))) fr []:=
 .kP hx hy (by unfold gF;simp only[if_true,jH,IntWalk.i64_in _ h])
theorem ae.sub{xt yt:TypeId}{x y:Operand}{m n:Int}(hx:rd env x=.t (.int .i64 m))(hy:rd env y=.t (.int .i64 n))(h : -9223372036854775808<=m - n/\m - n<=9223372036854775807):ae g d i env fr (.binOp .sub xt x y yt) (.t (.int .i64 (m - n))) fr []:=
 .kP hx hy (by unfold gF;simp only[if_true,jH,IntWalk.i64_in _ h])
theorem ae.mul{xt yt:TypeId}{x y:Operand}{m n:Int}(hx:rd env x=.t (.int .i64 m))(hy:rd env y=.t (.int .i64 n))(h : -9223372036854775808<=m*n/\m*n<=9223372036854775807):ae g d i env fr (.binOp .mul xt x y yt) (.t (.int .i64 (m*n))) fr []:=
 .kP hx hy (by unfold gF;simp only[if_true,jH,IntWalk.i64_in _ h])
def ae.inc{xt yt:TypeId}{x y:Operand}{k:Nat}(hx:rd env x=.t (.int .i64 (k:Int)))(hy:rd env y=.t (.int .i64 1))(h:k<=9223372036854775806):ae g d i env fr (.binOp .add xt x y yt) (.t (.int .i64 ((k+1:Nat):Int))) fr []:=by
 have:=ae.add (g:=g) (d:=d) (i:=i) (env:=env) (fr:=fr) (xt:=xt) (yt:=yt) hx hy (by omega);exact this
def BO{sz:Nat}{es:List (List AV)}{m:Int}{c:AV}{cs:List AV}(h0:0<=m)(hc:es[m.toNat]?=some (c::cs))(hz:Nat.beq sz (cs.length+1)=true):elemAt sz es m=some (.t (.tp (c::cs))):=by
 unfold elemAt;rw[decide_eq_true h0];simp only[hc,hz]
def ae.BP{t e sz:Nat}{x y:Operand}{k:IntKind}{m:Int}{es:List (List AV)}{c:AV}{cs:List AV}(he:eL g.P t=some (e,sz))(hx:rd env x=.t (.arr es))(hi:rd env y=.t (.int k m))(h0:0<=m)(hc:es[m.toNat]?=some (c::cs))(hz:Nat.beq sz (cs.length+1)=true):
  ae g d i env fr (.indexAddr t x y) (.t (.tp (c::cs))) fr []:=.p rfl rfl (by unfold bG i_;simp only[he,hx,hi,BO h0 hc hz])
def ae.ix{t e sz:Nat}{x y:Operand}{k:IntKind}{q:Nat}{es:List (List AV)}{c:AV}{cs:List AV}(he:eL g.P t=some (e,sz))(hx:rd env x=.t (.arr es))(hi:rd env y=.t (.int k (q:Int)))(hc:es[q]?=some (c::cs))(hz:Nat.beq sz (cs.length+1)=true):
  ae g d i env fr (.indexAddr t x y) (.t (.tp (c::cs))) fr []:=.BP he hx hi (by omega) (by rw[Int.toNat_natCast];exact hc) hz
def ae.Io{t e sz r:Nat}{x y:Operand}{k:IntKind}{q:Nat}{ro tch:Bool}{es:List (List AV)}(he:eL g.P t=some (e,sz))(hx:rd env x=.ls r)(hi:rd env y=.t (.int k (q:Int)))(hb:fr[r]?=some (.row ro tch sz es))(hq:q <es.length):
  ae g d i env fr (.indexAddr t x y) (.le r sz q 0) fr []:=.p rfl rfl (by
 have h1:iZ (q:Int) es.length=true:=by
  unfold iZ;rw[Int.toNat_natCast,Bool.and_eq_true,Nat.blt_eq];exact⟨decide_eq_true (by omega),hq⟩
 have h2:Nat.beq sz sz=true:=by simp
 unfold bG i_;simp only[he,hx,hi,hb,h1,h2,Int.toNat_natCast])
def ae.Ip{t e sz r:Nat}{x y:Operand}{k:IntKind}{m:Int}{ro tch:Bool}{es:List (List AV)}(he:eL g.P t=some (e,sz))(hx:rd env x=.ls r)(hi:rd env y=.t (.int k m))(hb:fr[r]?=some (.row ro tch sz es))(h0:0<=m)(hq:m.toNat <es.length):
  ae g d i env fr (.indexAddr t x y) (.le r sz m.toNat 0) fr []:=.p rfl rfl (by
 have h1:iZ m es.length=true:=by
  unfold iZ;rw[Bool.and_eq_true,Nat.blt_eq];exact⟨decide_eq_true h0,hq⟩
 have h2:Nat.beq sz sz=true:=by simp
 unfold bG i_;simp only[he,hx,hi,hb,h1,h2])
def ae.BQ{t n r sz q j:Nat}{y:Operand}{ro tch:Bool}{es:List (List AV)}{cs:List AV}{c:AV}(ht:bh g.P t=some (false,n))(hy:rd env y=.le r sz q j)(hb:fr[r]?=some (.row ro tch sz es))(hk:es[q]?=some cs)(hj:cs[j]?=some c):ae g d i env fr (.load t y) (.t c) fr []:=.p rfl rfl (by
 have h2:Nat.beq sz sz=true:=by simp
 unfold bG fv;simp only[ht,hy,hb,h2,hk,hj])
def Iq{P:Program}{t:Nat}{s:SV}{es:List (List AV)}(hs:jG P t=true)(hy:h_ fr s=some es):rh P fr (some t) s=some (.t (.int .i64 es.length)):=by
 have u:∀q,s≠.t (.str q):=fun q h=>by subst h;unfold h_ at hy;simp at hy
 unfold rh
 cases s with
 |t x=>cases x <;>first|(exact absurd rfl (u _))|(simp only[hs,hy])
 |_=>simp only[hs,hy]
theorem ae.len{y:Operand}{tys:Array TypeId}{t:Nat}{args:Array Operand}{es:List (List AV)}{n:Nat}(ha:args.toList=[y])(hy:h_ fr (rd env y)=some es)(ht:tys[0]?=some t)(hs:jG g.P t=true)(hn:es.length=n):ae g d i env fr (.call ⟨.builtin .len,args,tys⟩) (.t (.int .i64 (n:Int))) fr []:=.p rfl rfl (by
 subst hn;unfold bG wB;simp only[ha,ht];exact Iq hs hy)
def ae.str{t n r sz q j:Nat}{a y:Operand}{tch:Bool}{es:List (List AV)}{cs:List AV}{c:AV}{v:Bool}{effOk:∀C:CallF,step g C d i env fr (.store t a y)=cr g C env fr (.store t a y)}(ht:bh g.P t=some (v,n))(ha:rd env a=.le r sz q j)(hy:rd env y=.t c)(hone:dk (.t c)=true)(hn:Nat.beq 1 n=true)(hb:fr[r]?=some (.row false tch sz es))(hk:es[q]?=some cs)(hj:Nat.ble (j+1) cs.length=true):ae g d i env fr (.store t a y) .dead (fr.set r (.row false tch sz (es.set q (cs.set j c)))) []:=.r fun C=>by
 obtain rfl:1=n:=by simpa using hn
 have h2:Nat.beq sz sz=true:=by simp
 have u:bB (.t c)=[.t c]:=by cases c <;>first|rfl|(simp[dk]at hone)
 rw[effOk C];unfold cr;simp only[im];unfold bU;simp only;unfold gH;simp only[ht,ha,hy,u,List.all_cons,hone,List.all_nil,Bool.and_self,List.length_cons,List.length_nil,hb,h2,hk,hj,cz,ib,deep,bo,mo,bT,List.any_nil,kq,freeze];rfl
def nF(fr:Fr)(y:Bool)(v:List Nat)(r:SV)(u:Fr):Option dQ:=match dl r with
 |true=>some (r,fr,[])
 |false=>match y with
  |false=>some (r.sub (dm [] fr.length),freeze fr v++u.map (fun b=>cL (b.sub (dm [] fr.length))),[])
  |true=>match v with
   |[]=>match r.refs with
    |[]=>some (r,fr,[])
    |_=>match ib u deep r with
     |some x=>some (.t x,fr,[])
     |none=>none
   |_=>none
def Ir{C:CallF}{v:Bool}{f:Nat}{args:List SV}{xs:List AV}{u:List SV}{r:SV}{y:Fr}(hx:cz fr (bi (aM g f 0 args) args)=some xs)(hh:cx [] (ew (aM g f 0 args) args)=[])(hm:cY (aX []) (aM g f 0 args) args xs=u)(hc:C f u []=some (r,y)):
  il g C v fr f args=nF fr v (bo fr (bi (aM g f 0 args) args)) r y:=by
 subst hm;unfold il nF;simp only[hx,hh,hc];cases dl r <;>rfl
def dI:Option (List Nat)->Nat->Bool
 |none,_=>false
 |some e,i=>!bT e i
def BR{C:CallF}{c:Operand}{args:Array Operand}{tys:Array TypeId}:step g C d i env fr (.call ⟨.value c,args,tys⟩)=bU g C (dI d i) env fr (.call ⟨.value c,args,tys⟩):=by
 cases d with
 |none=>rfl
 |some e=>
  unfold step dI;simp only;cases bT e i <;>rfl
theorem ae.call{c:Operand}{args:Array Operand}{tys:Array TypeId}{f:Nat}{pa z u:List SV}{xs:List AV}{v:List SV}{r x:SV}{y fr':Fr}(hcl:Cl g f v [] r y)(hcal:dR (rd env c)=some (f,pa,z))(hav:pa++args.toList.map (rd env)++z=u)(hx:cz fr (bi (aM g f 0 u) u)=some xs)(hh:cx [] (ew (aM g f 0 u) u)=[])(hm:cY (aX []) (aM g f 0 u) u xs=v)
  (hr:nF fr (dI d i) (bo fr (bi (aM g f 0 u) u)) r y=some (x,fr',[])):ae g d i env fr (.call ⟨.value c,args,tys⟩) x fr' []:=by
 obtain⟨n,D⟩:=hcl;refine⟨n,?_⟩;subst hav;rw[BR];unfold bU;simp only;unfold my;simp only[hcal];rw[Ir hx hh hm D];exact hr
end
section
variable {g:Cfg} {f:Nat} {env:Env} {fr:Fr} {d:Option (List Nat)} {ops:Array Oper} {i i':Nat} {K':Env->Fr->Prop} {l:List Oper} {dst:Option Tmp} {op:Op} {ty:TypeId} {pos:String} {after:Array Edge} {fr':Fr}
def aa.u0{x:SV}(hx:ae g d i env fr op x fr' [])(h:aa g d ops (i+1) l (aK env dst x) fr' K'):aa g d ops i (⟨dst,op,ty,pos,after,none⟩::l) env fr K':=aa.u hx h
def aa.aD{j:Nat}{u:Bool}{x:SV}(hW:cX ops env j u=some true)(hx:ae g d i env fr op x fr' [])(h:aa g d ops (i+1) l (aK env dst (.aS x)) fr' K'):aa g d ops i (⟨dst,op,ty,pos,after,some (j,u)⟩::l) env fr K':=aa.gt hW hx h
def ae.mv{y:Operand}{v:SV}(h:rd env y=v):ae g d i env fr (.move y) v fr []:=.p rfl rfl (by unfold bG;simp only[h])
def ae.asg{y:Operand}{v:SV}(h:rd env y=v):ae g d i env fr (.assign y) v fr []:=.p rfl rfl (by unfold bG;simp only[h])
def ae.Is{c x y:Operand}{v:SV}(hc:rd env c=.t (.bool true))(h:rd env x=v):ae g d i env fr (.pick c x y) v fr []:=.p rfl rfl (by unfold bG;simp only[hc,h])
def ae.It{c x y:Operand}{v:SV}(hc:rd env c=.t (.bool false))(h:rd env y=v):ae g d i env fr (.pick c x y) v fr []:=.p rfl rfl (by unfold bG;simp only[hc,h])
def ae.x_{z v i j u n:Nat}{y:Operand}(hy:rd env y=.lp i j)(ho:q7 g.P z v=some u)(hn:j+u=n):ae g d i' env fr (.fieldAddr z y v) (.lp i n) fr []:=.p rfl rfl (by
 subst hn;unfold bG q_;simp only[ho,hy])
def ae.Iu{z v r sz k j u n:Nat}{y:Operand}(hy:rd env y=.le r sz k j)(ho:q7 g.P z v=some u)(hn:j+u=n):ae g d i' env fr (.fieldAddr z y v) (.le r sz k n) fr []:=.p rfl rfl (by
 subst hn;unfold bG q_;simp only[ho,hy])
def ae.eqs{t:Nat}{x y:Operand}{yt:TypeId}{cs ds:List AV}{n:Nat}{r:Bool}(hx:rd env x=.t (.agg cs))(hy:rd env y=.t (.agg ds))(hg:g.P.eqGuardType g.P.depth t=false)(ht:bh g.P t=some (true,n))(hr:ic g.P 20 t cs ds=some r):ae g d i' env fr (.binOp .eql t x y yt) (.t (.bool r)) fr []:=.kP hx hy (by unfold gF q9;simp only[hg,ht,hr,fH])
def ae.uF{t:Nat}{x y:Operand}{yt:TypeId}{cs ds:List AV}{n:Nat}{r:Bool}(hx:rd env x=.t (.agg cs))(hy:rd env y=.t (.agg ds))(hg:g.P.eqGuardType g.P.depth t=false)(ht:bh g.P t=some (true,n))(hr:ic g.P 20 t cs ds=some r):ae g d i' env fr (.binOp .neq t x y yt) (.t (.bool (!r))) fr []:=.kP hx hy (by unfold gF q9;simp only[hg,ht,hr,fH])
def ae.jQ{t len:Nat}{parts:Array (Nat×Operand)}{es:List (List AV)}(hw:im (.buildSlice t len parts)=false)(ho:(parts.toList.all fun p=>(bB (rd env p.2)).all dk)=true)(h:rj g.P t len (parts.toList.map fun p=>(p.1,rd env p.2))=some es):ae g d i' env fr (.buildSlice t len parts) (.tc es) fr []:=.p hw rfl (by unfold bG;simp only[ho,h])
def ae.lk{t e:Nat}{u:TypeDesc}{x k:Operand}{ok:Bool}{ka:AV}{ks:List AV}{vs:List SV}{z:SV}(hm:lG g.P t=some (e,u))(hk:rd env k=.t ka)(ho:mapOf fr (rd env x)=some (ks,vs))(hf:dG u ka ks 0=some none)(hz:rc g.P e=some z):ae g d i' env fr (.lookup t x k ok) (lH ok z false) fr []:=.p rfl rfl (by unfold bG re;simp only[hm,hk,ho,hf,hz])
def ae.nG{t e j:Nat}{u:TypeDesc}{x k:Operand}{ok:Bool}{ka:AV}{ks:List AV}{vs:List SV}{z:SV}(hm:lG g.P t=some (e,u))(hk:rd env k=.t ka)(ho:mapOf fr (rd env x)=some (ks,vs))(hf:dG u ka ks 0=some (some j))(hz:vs[j]?=some z):ae g d i' env fr (.lookup t x k ok) (lH ok z true) fr []:=.p rfl rfl (by unfold bG re;simp only[hm,hk,ho,hf,hz])
def ae.BS{c:Operand}{args:Array Operand}{tys:Array TypeId}{f h0:Nat}{ht hs:List Nat}{pa D u:List SV}{xs:List AV}{v:List SV}{r x:SV}{fr1 bs y fr' z:Fr}{ks:List Nat}(hcl:Cl g f v y r fr')(hdr:dI d i'=false)(hcal:dR (rd env c)=some (f,pa,D))(hav:pa++args.toList.map (rd env)++D=u)(hx:cz fr (bi (aM g f 0 u) u)=some xs)(hh:cx [] (ew (aM g f 0 u) u)=h0::ht)
  (hs0:close fr 4 (h0::ht)=hs)(hf:freeze fr (bo fr (bi (aM g f 0 u) u))=fr1)(hg:dx fr1 hs=some bs)(hc:kz hs bs=true)(hm:cY (aX hs) (aM g f 0 u) u xs=v)(hb:bs.map (fun b=>cL (b.sub (aX hs)))=y)(hk:kindOk hs fr' fr1=true)(hr:(r.sub (dm hs fr.length),back hs fr1 fr',c_ hs fr')=(x,z,ks)):ae g d i' env fr (.call ⟨.value c,args,tys⟩) x z ks:=by
 obtain⟨n,G⟩:=hcl;refine⟨n,?_⟩;subst hav hs0 hf hm hb;rw[BR,hdr];unfold bU;simp only;unfold my;simp only[hcal];unfold il;simp only[hx,hh,hg,hc,G,hk,hr]
def aa.oL{o:Oper}{u l2:List Oper}(h:aa g d ops i (o::List.append u l2) env fr K'):aa g d ops i (List.append (o::u) l2) env fr K':=h
def aa.qb{l2:List Oper}(h:aa g d ops i l2 env fr K'):aa g d ops i (List.append [] l2) env fr K':=h
def aa.r6{u l2 v:List Oper}(h:aa g d ops i (List.append u (List.append l2 v)) env fr K'):aa g d ops i (List.append (List.append u l2) v) env fr K':=by
 have e:List.append (List.append u l2) v=List.append u (List.append l2 v):=List.append_assoc u l2 v;rw[e];exact h
def ae.qc{t:Nat}{parts:Array (Nat×Operand)}{cs:List SV}{v:SV}(ho:(parts.toList.all fun p=>(bB (rd env p.2)).all dk)=true)(h:tB g.P t (parts.toList.map fun p=>(p.1,rd env p.2))=some cs)(hv:lD cs=v):ae g d i' env fr (.build t parts) v fr []:=.p rfl rfl (by unfold bG;simp only[ho,h,hv])
def ae.BU{c:Operand}{args:Array Operand}{tys:Array TypeId}{f h0:Nat}{ht:List Nat}(hs:List Nat){pa D u:List SV}{xs:List AV}{v:List SV}{r x:SV}{bs y fr' z:Fr}{ks:List Nat}(hcl:Cl g f v y r fr')(hdr:dI d i'=false)(hcal:dR (rd env c)=some (f,pa,D))(hav:pa++args.toList.map (rd env)++D=u)(hx:cz fr (bi (aM g f 0 u) u)=some xs)(hh:cx [] (ew (aM g f 0 u) u)=h0::ht)
  (hs0:close fr 4 (h0::ht)=hs)(hf:bo fr (bi (aM g f 0 u) u)=[])(hg:dx fr hs=some bs)(hc:kz hs bs=true)(hm:cY (aX hs) (aM g f 0 u) u xs=v)(hb:bs.map (fun b=>cL (b.sub (aX hs)))=y)(hk:kindOk hs fr' fr=true)(hr:(r.sub (dm hs fr.length),back hs fr fr',c_ hs fr')=(x,z,ks)):ae g d i' env fr (.call ⟨.value c,args,tys⟩) x z ks:=ae.BS hcl hdr hcal hav hx hh hs0 (by rw[hf];rfl) hg hc hm hb hk hr
def aa.ji{j:Nat}{t:Tmp}{b:Bool}(ht:b=true->aa g d ops j l (aK env (some t) (.t (.bool true))) fr K')(hf:b=false->aa g d ops j l (aK env (some t) (.t (.bool false))) fr K'):aa g d ops j l (aK env (some t) (.t (.bool b))) fr K':=by
 cases b with
 |true=>exact ht rfl
 |false=>exact hf rfl
def aa.gM{j:Nat}{t:Tmp}{b:Bool}(ht:b=true->aa g d ops j l (aK env (some t) (.aS (.t (.bool true)))) fr K')(hf:b=false->aa g d ops j l (aK env (some t) (.aS (.t (.bool false)))) fr K'):aa g d ops j l (aK env (some t) (.aS (.t (.bool b)))) fr K':=by
 cases b with
 |true=>exact ht rfl
 |false=>exact hf rfl
section
variable {j:Nat} {t:Tmp} {p:Prop} [Decidable p]
def aa.aE(hp:p)(h:aa g d ops j l (aK env (some t) (.t (.bool true))) fr K'):aa g d ops j l (aK env (some t) (.t (.bool (decide p)))) fr K':=.ji (fun _=>h) (fun h=>absurd hp (of_decide_eq_false h))
def aa.bC(hp:¬p)(h:aa g d ops j l (aK env (some t) (.t (.bool false))) fr K'):aa g d ops j l (aK env (some t) (.t (.bool (decide p)))) fr K':=.ji (fun h=>absurd (of_decide_eq_true h) hp) (fun _=>h)
def aa.bc(ht:p->aa g d ops j l (aK env (some t) (.t (.bool true))) fr K')(hf:¬p->aa g d ops j l (aK env (some t) (.t (.bool false))) fr K'):aa g d ops j l (aK env (some t) (.t (.bool (decide p)))) fr K':=.ji (fun h=>ht (of_decide_eq_true h)) (fun h=>hf (of_decide_eq_false h))
def aa.cd(hp:p)(h:aa g d ops j l (aK env (some t) (.aS (.t (.bool true)))) fr K'):aa g d ops j l (aK env (some t) (.aS (.t (.bool (decide p))))) fr K':=.gM (fun _=>h) (fun h=>absurd hp (of_decide_eq_false h))
def aa.cA(hp:¬p)(h:aa g d ops j l (aK env (some t) (.aS (.t (.bool false)))) fr K'):aa g d ops j l (aK env (some t) (.aS (.t (.bool (decide p))))) fr K':=.gM (fun h=>absurd (of_decide_eq_true h) hp) (fun _=>h)
def aa.bg(ht:p->aa g d ops j l (aK env (some t) (.aS (.t (.bool true)))) fr K')(hf:¬p->aa g d ops j l (aK env (some t) (.aS (.t (.bool false)))) fr K'):aa g d ops j l (aK env (some t) (.aS (.t (.bool (decide p))))) fr K':=.gM (fun h=>ht (of_decide_eq_true h)) (fun h=>hf (of_decide_eq_false h))
def aa.gN(hp:¬p)(h:aa g d ops j l (aK env (some t) (.t (.bool true))) fr K'):aa g d ops j l (aK env (some t) (.t (.bool (!decide p)))) fr K':=by rw[decide_eq_false hp];exact h
def aa.dS(hp:p)(h:aa g d ops j l (aK env (some t) (.t (.bool false))) fr K'):aa g d ops j l (aK env (some t) (.t (.bool (!decide p)))) fr K':=by rw[decide_eq_true hp];exact h
def aa.fP(ht:¬p->aa g d ops j l (aK env (some t) (.t (.bool true))) fr K')(hf:p->aa g d ops j l (aK env (some t) (.t (.bool false))) fr K'):aa g d ops j l (aK env (some t) (.t (.bool (!decide p)))) fr K':=if h:p then .dS h (hf h)else .gN h (ht h)
def aa.fQ(hp:¬p)(h:aa g d ops j l (aK env (some t) (.aS (.t (.bool true)))) fr K'):aa g d ops j l (aK env (some t) (.aS (.t (.bool (!decide p))))) fr K':=by rw[decide_eq_false hp];exact h
def aa.fB(hp:p)(h:aa g d ops j l (aK env (some t) (.aS (.t (.bool false)))) fr K'):aa g d ops j l (aK env (some t) (.aS (.t (.bool (!decide p))))) fr K':=by rw[decide_eq_true hp];exact h
def aa.fg(ht:¬p->aa g d ops j l (aK env (some t) (.aS (.t (.bool true)))) fr K')(hf:p->aa g d ops j l (aK env (some t) (.aS (.t (.bool false)))) fr K'):aa g d ops j l (aK env (some t) (.aS (.t (.bool (!decide p))))) fr K':=if h:p then .fB h (hf h)else .fQ h (ht h)
end
def aa.ap{P:Env->Fr->Prop}{K:Out->Env->Fr->Prop}(h:P env fr):aa g d ops i [] env fr (fun e r=>kK P K .normal e r):=aa.nil h
def aa.bj{u:Nat}{K:Out->Env->Fr->Prop}(h:K .normal env fr):aa g d ops i [] env fr (fun e r=>lV u K .normal e r):=aa.nil h
variable {effs:List Nat}
def aB.oL{o:Oper}{u l2:List Oper}(h:aB g effs ops i (o::List.append u l2) env fr K'):aB g effs ops i (List.append (o::u) l2) env fr K':=h
def aB.qb{l2:List Oper}(h:aB g effs ops i l2 env fr K'):aB g effs ops i (List.append [] l2) env fr K':=h
def aB.r6{u l2 v:List Oper}(h:aB g effs ops i (List.append u (List.append l2 v)) env fr K'):aB g effs ops i (List.append (List.append u l2) v) env fr K':=by
 have e:List.append (List.append u l2) v=List.append u (List.append l2 v):=List.append_assoc u l2 v;rw[e];exact h
def aB.ji{j:Nat}{t:Tmp}{b:Bool}(ht:b=true->aB g effs ops j l (aK env (some t) (.t (.bool true))) fr K')(hf:b=false->aB g effs ops j l (aK env (some t) (.t (.bool false))) fr K'):aB g effs ops j l (aK env (some t) (.t (.bool b))) fr K':=by
 cases b with
 |true=>exact ht rfl
 |false=>exact hf rfl
def aB.gM{j:Nat}{t:Tmp}{b:Bool}(ht:b=true->aB g effs ops j l (aK env (some t) (.aS (.t (.bool true)))) fr K')(hf:b=false->aB g effs ops j l (aK env (some t) (.aS (.t (.bool false)))) fr K'):aB g effs ops j l (aK env (some t) (.aS (.t (.bool b)))) fr K':=by
 cases b with
 |true=>exact ht rfl
 |false=>exact hf rfl
section
variable {j:Nat} {t:Tmp} {p:Prop} [Decidable p]
def aB.aE(hp:p)(h:aB g effs ops j l (aK env (some t) (.t (.bool true))) fr K'):aB g effs ops j l (aK env (some t) (.t (.bool (decide p)))) fr K':=.ji (fun _=>h) (fun h=>absurd hp (of_decide_eq_false h))
def aB.bC(hp:¬p)(h:aB g effs ops j l (aK env (some t) (.t (.bool false))) fr K'):aB g effs ops j l (aK env (some t) (.t (.bool (decide p)))) fr K':=.ji (fun h=>absurd (of_decide_eq_true h) hp) (fun _=>h)
def aB.bc(ht:p->aB g effs ops j l (aK env (some t) (.t (.bool true))) fr K')(hf:¬p->aB g effs ops j l (aK env (some t) (.t (.bool false))) fr K'):aB g effs ops j l (aK env (some t) (.t (.bool (decide p)))) fr K':=.ji (fun h=>ht (of_decide_eq_true h)) (fun h=>hf (of_decide_eq_false h))
def aB.cd(hp:p)(h:aB g effs ops j l (aK env (some t) (.aS (.t (.bool true)))) fr K'):aB g effs ops j l (aK env (some t) (.aS (.t (.bool (decide p))))) fr K':=.gM (fun _=>h) (fun h=>absurd hp (of_decide_eq_false h))
def aB.cA(hp:¬p)(h:aB g effs ops j l (aK env (some t) (.aS (.t (.bool false)))) fr K'):aB g effs ops j l (aK env (some t) (.aS (.t (.bool (decide p))))) fr K':=.gM (fun h=>absurd (of_decide_eq_true h) hp) (fun _=>h)
def aB.bg(ht:p->aB g effs ops j l (aK env (some t) (.aS (.t (.bool true)))) fr K')(hf:¬p->aB g effs ops j l (aK env (some t) (.aS (.t (.bool false)))) fr K'):aB g effs ops j l (aK env (some t) (.aS (.t (.bool (decide p))))) fr K':=.gM (fun h=>ht (of_decide_eq_true h)) (fun h=>hf (of_decide_eq_false h))
def aB.gN(hp:¬p)(h:aB g effs ops j l (aK env (some t) (.t (.bool true))) fr K'):aB g effs ops j l (aK env (some t) (.t (.bool (!decide p)))) fr K':=by rw[decide_eq_false hp];exact h
def aB.dS(hp:p)(h:aB g effs ops j l (aK env (some t) (.t (.bool false))) fr K'):aB g effs ops j l (aK env (some t) (.t (.bool (!decide p)))) fr K':=by rw[decide_eq_true hp];exact h
def aB.fP(ht:¬p->aB g effs ops j l (aK env (some t) (.t (.bool true))) fr K')(hf:p->aB g effs ops j l (aK env (some t) (.t (.bool false))) fr K'):aB g effs ops j l (aK env (some t) (.t (.bool (!decide p)))) fr K':=if h:p then .dS h (hf h)else .gN h (ht h)
def aB.fQ(hp:¬p)(h:aB g effs ops j l (aK env (some t) (.aS (.t (.bool true)))) fr K'):aB g effs ops j l (aK env (some t) (.aS (.t (.bool (!decide p))))) fr K':=by rw[decide_eq_false hp];exact h
def aB.fB(hp:p)(h:aB g effs ops j l (aK env (some t) (.aS (.t (.bool false)))) fr K'):aB g effs ops j l (aK env (some t) (.aS (.t (.bool (!decide p))))) fr K':=by rw[decide_eq_true hp];exact h
def aB.fg(ht:¬p->aB g effs ops j l (aK env (some t) (.aS (.t (.bool true)))) fr K')(hf:p->aB g effs ops j l (aK env (some t) (.aS (.t (.bool false)))) fr K'):aB g effs ops j l (aK env (some t) (.aS (.t (.bool (!decide p))))) fr K':=if h:p then .fB h (hf h)else .fQ h (ht h)
end
def aB.oM{u:Nat}{ds:List Nat}{P:Env->Fr->Prop}{K:Out->Env->Fr->Prop}(hck:ox u ds env fr=true)(h:P env fr):aB g effs ops i [] env fr (fun e r=>ox u ds e r=true/\kK P K .normal e r):=.nil ⟨hck,h⟩
def aB.BV{u:Nat}{ds:List Nat}{K:Env->Fr->Prop}(hck:ox u ds env fr=true)(h:K env fr):aB g effs ops i [] env fr (fun e r=>ox u ds e r=true/\K e r):=.nil ⟨hck,h⟩
def aB.ap{P:Env->Fr->Prop}{K:Out->Env->Fr->Prop}(h:P env fr):aB g effs ops i [] env fr (fun e r=>kK P K .normal e r):=aB.nil h
def aB.bj{u:Nat}{K:Out->Env->Fr->Prop}(h:K .normal env fr):aB g effs ops i [] env fr (fun e r=>lV u K .normal e r):=aB.nil h
variable {K:Out->Env->Fr->Prop}
def ac.aA{c:Operand}{a b:Code}(hc:rd env c=.t (.bool true))(ha:ac g f a env fr K):ac g f (.cond c a b) env fr K:=ac.cond hc (fun _=>ha) (fun h=>nomatch h)
def ac.aH{c:Operand}{a b:Code}(hc:rd env c=.t (.bool false))(ha:ac g f b env fr K):ac g f (.cond c a b) env fr K:=ac.cond hc (fun h=>nomatch h) (fun _=>ha)
def az{P:Env->Fr->Prop}(h:P env fr):kK P K .normal env fr:=h
def cR{P:Env->Fr->Prop}{u:Nat}(h:K (.exit u) env fr):kK P K (.exit u) env fr:=h
def aV{P:Env->Fr->Prop}(h:K .ret env fr):kK P K .ret env fr:=h
def bk{u:Nat}(h:K .normal env fr):lV u K .normal env fr:=h
def bq{u:Nat}(h:K .ret env fr):lV u K .ret env fr:=h
def cS{u:Nat}(h:K .normal env fr):lV u K (.exit u) env fr:=by
 unfold lV;have:Nat.beq u u=true:=by simp
 simp only[this];exact h
def ya{u j:Nat}(hj:Nat.beq j u=false)(h:K (.exit j) env fr):lV u K (.exit j) env fr:=by
 unfold lV;simp only[hj];exact h
inductive lW (env:Env) (fr:Fr) (h:Nat):List Nat->List (Nat×SV)->Prop where
 |nil:lW env fr h [] []
 |cons {t:Nat} {v:SV} {sl:List Nat} {vs:List (Nat×SV)} (hv:nt fr h (Go.Proofs.YtjolgbkkocjpgaaGreatDoor.un (env t))=v) (ht:lW env fr h sl vs):lW env fr h (t::sl) ((t,v)::vs)
def lW.eq{h:Nat}{u:List Nat}{vs:List (Nat×SV)}(hs:lW env fr h u vs):u.map (fun t=>(t,nt fr h (Go.Proofs.YtjolgbkkocjpgaaGreatDoor.un (env t))))=vs:=by
 induction hs with
 |nil=>rfl
 |cons hv _ ih=>rw[List.map_cons,hv,ih]
def Iv:trim fr.length fr=fr:=by
 unfold trim;have:Nat.ble fr.length fr.length=true:=by simp
 simp only[this]
def ac.kQ{b:Code}{vs:List (Nat×SV)}{u:List Nat}{own:List (Nat×Nat)}{env':Env}{fr':Fr}(ho:g.own f (c6 b)=own)(hp:f_ own env fr=(env',fr'))(hl:g.lv f (c6 b)=some u)(hs:lW env' fr' fr'.length u vs)(h:aC g f b (cZ vs) fr' K):ac g f (.loop b) env fr K:=by
 refine ac.loop (p:=(env',fr')) (by rw[ho];exact hp) (q:=(cZ vs,fr')) ?_ h;rw[hl];show(cZ (u.map fun t=>(t,nt fr' (jM u fr'.length fr') (Go.Proofs.YtjolgbkkocjpgaaGreatDoor.un (env' t)))),trim (jM u fr'.length fr') fr')=_
 rw[GI,hs.eq,Iv]
def aC.ind{b:Code}{base:List (Nat×SV)}{σ:Type}(V:σ->List (Nat×SV))(I:σ->Prop)(μ:σ->Nat)(v:σ)(he:env=cZ (V v++base))(h0:I v)
  (hs:∀s,I s->ac g f b (cZ (V s++base)) fr (kK (fun e r=>∃s',(head (g.lv f (c6 b)) fr.length e r).1=cZ (V s'++base)/\(head (g.lv f (c6 b)) fr.length e r).2=fr/\I s'/\μ s' <μ s) K)):aC g f b env fr K:=by
 subst he
 have u:∀(n:Nat) (s:σ),μ s <n->I s->aC g f b (cZ (V s++base)) fr K:=by
  intro n
  induction n with
  |zero=>intro s h;omega
  |succ n z=>
   intro s D y;refine aC.step ?_;refine(hs s y).post ?_;intro o e r h
   cases o with
   |normal=>
    obtain⟨s',h1,h2,h3,h4⟩:=h;show aC g f b _ _ K
    rw[h1,h2];exact z s' (by omega) h3
   |exit G=>exact h
   |ret=>exact h
 exact u _ v (Nat.lt_succ_self _) h0
def aC.cB{b:Code}{base:List (Nat×SV)}{σ:Type}(V:σ->List (Nat×SV))(F:σ->Fr)(I:σ->Prop)(μ:σ->Nat)(u:σ)(he:env=cZ (V u++base))(y:fr=F u)(h0:I u)
  (hs:∀s,I s->ac g f b (cZ (V s++base)) (F s) (kK (fun e r=>∃s',(head (g.lv f (c6 b)) (F s).length e r).1=cZ (V s'++base)/\(head (g.lv f (c6 b)) (F s).length e r).2=F s'/\I s'/\μ s' <μ s) K)):aC g f b env fr K:=by
 subst he y
 have v:∀(n:Nat) (s:σ),μ s <n->I s->aC g f b (cZ (V s++base)) (F s) K:=by
  intro n
  induction n with
  |zero=>intro s h;omega
  |succ n D=>
   intro s G z;refine aC.step ?_;refine(hs s z).post ?_;intro o e r h
   cases o with
   |normal=>
    obtain⟨s',h1,h2,h3,h4⟩:=h;show aC g f b _ _ K
    rw[h1,h2];exact D s' (by omega) h3
   |exit J=>exact h
   |ret=>exact h
 exact v _ u (Nat.lt_succ_self _) h0
def aZ{o:Out}{m:Nat}{s:Option SV}{b u:Bool}{fr':Fr}(ho:o=.normal\/o=.ret)(h:mB m s fr=some (.t (.bool b),fr'))(e:b=u):(o=.normal\/o=.ret)/\mB m s fr=some (.t (.bool u),fr'):=⟨ho,by rw[h,e]⟩
end
mutual
theorem SV.uG{σ:Nat->Option Nat}:∀x:SV,x.refs=[]->SV.sub σ x=x
 | .t x,_=>by rw[SV.sub]
 | .nil,_=>by rw[SV.sub]
 | .tc es,_=>by rw[SV.sub]
 | .nn es,_=>by rw[SV.sub]
 | .lp i j,h=>by simp[SV.refs]at h
 | .ls i,h=>by simp[SV.refs]at h
 | .lv i sz a n,h=>by simp[SV.refs]at h
 | .le i sz k j,h=>by simp[SV.refs]at h
 | .lm i,h=>by simp[SV.refs]at h
 | .lo i p,h=>by simp[SV.refs]at h
 | .lr i p k,h=>by simp[SV.refs]at h
 | .agg u,h=>by rw[SV.sub,SV.uH u (by simpa[SV.refs]using h)]
 | .aL u,h=>by rw[SV.sub,SV.uH u (by simpa[SV.refs]using h)]
 | .fn f v u,h=>by rw[SV.sub,SV.uH u (by simpa[SV.refs]using h)]
 | .aS s,h=>by rw[SV.sub,SV.uG s (by simpa[SV.refs]using h)]
 | .no,_=>by rw[SV.sub]
 | .dead,_=>by rw[SV.sub]
theorem SV.uH{σ:Nat->Option Nat}:∀cs:List SV,SV.g_ cs=[]->SV.cN σ cs=cs
 |[],_=>by rw[SV.cN]
 |c::cs,h=>by
  rw[SV.g_,List.append_eq_nil_iff]at h;rw[SV.cN,SV.uG c h.1,SV.uH cs h.2]
end
section
variable {g:Cfg} {f:Nat} {env:Env} {fr:Fr} {K:Out->Env->Fr->Prop} {c:Operand} {a b:Code} {p:Prop} [Decidable p]
end
def BW(e:Env)(d:Nat)(v:SV):aK e (some d) v d=v:=by unfold aK dw;simp
def BX{e:Env}{d t:Nat}{x v:SV}(h:Nat.beq t d=false)(he:e t=v):aK e (some d) x t=v:=by unfold aK dw;simp only[h];exact he
def BZ{e:Env}{t:Nat}{x v:SV}(he:e t=v):aK e none x t=v:=he
def B2(p:Prop):Prop:=p
def B2.go{p:Prop}(h:p):B2 p:=h
section
variable {g:Cfg} {d:Option (List Nat)} {i:Nat} {env:Env} {fr:Fr}
def ae.r7{c:Operand}{args:Array Operand}{tys:Array TypeId}{f:Nat}{pa y u:List SV}{xs:List AV}{v:List SV}{r:SV}{z:Fr}(hcl:Cl g f v [] r z)(hcal:dR (rd env c)=some (f,pa,y))(hav:pa++args.toList.map (rd env)++y=u)(hx:cz fr (bi (aM g f 0 u) u)=some xs)(hh:cx [] (ew (aM g f 0 u) u)=[])(hm:cY (aX []) (aM g f 0 u) u xs=v)
  (hr:dl r=true):ae g d i env fr (.call ⟨.value c,args,tys⟩) r fr []:=.call hcl hcal hav hx hh hm (by unfold nF;rw[hr])
def ae.cQ{c:Operand}{args:Array Operand}{tys:Array TypeId}{f:Nat}{pa y u:List SV}{xs:List AV}{v:List SV}{r:SV}(hcl:Cl g f v [] r [])(hcal:dR (rd env c)=some (f,pa,y))(hav:pa++args.toList.map (rd env)++y=u)(hx:cz fr (bi (aM g f 0 u) u)=some xs)(hh:cx [] (ew (aM g f 0 u) u)=[])(hm:cY (aX []) (aM g f 0 u) u xs=v)
  (hn:r.refs=[])(hr:bo fr (bi (aM g f 0 u) u)=[]):ae g d i env fr (.call ⟨.value c,args,tys⟩) r fr []:=.call hcl hcal hav hx hh hm (by
 unfold nF;rw[hr]
 cases dl r with
 |true=>rfl
 |false=>
  cases dI d i with
  |false=>simp only[SV.uG r hn];simp[freeze]
  |true=>simp only[hn])
def ae.Iw{t e sz:Nat}{x y:Operand}{k:IntKind}{q:Nat}{es:List (List AV)}{c:AV}{cs:List AV}(he:eL g.P t=some (e,sz))(hx:rd env x=.tc es)(hi:rd env y=.t (.int k (q:Int)))(hc:es[q]?=some (c::cs))(hz:Nat.beq sz (cs.length+1)=true):ae g d i env fr (.indexAddr t x y) (.t (.tp (c::cs))) fr []:=.p rfl rfl (by
 have h:=BO (sz:=sz) (es:=es) (m:=(q:Int)) (by omega) (by rw[Int.toNat_natCast];exact hc) hz;unfold bG i_;simp only[he,hx,hi,h])
def ae.B3{t e sz k:Nat}{x h:Operand}{u:IntKind}{es vs:List (List AV)}(he:eL g.P t=some (e,sz))(hx:rd env x=.t (.arr es))(hi:rd env h=.t (.int u (k:Int)))(hn:k<=es.length)(hz:oh sz es=true)(hv:es.take k=vs):ae g d i env fr (.slice t x none (some h) none) (.t (.arr vs)) fr []:=.p rfl rfl (by
 subst hv;have h1:(decide (0<=(k:Int))&&Nat.ble (Int.toNat (k:Int)) es.length)=true:=by simp;omega
 unfold bG nk;simp only[Option.map_none,Option.map_some,hx,hi,he,rf,hz];unfold j8 ep;simp only[h1];simp[ep])
section
variable {α:Type} {x0 x1 x2 x3 x4 x5 x6 x7 x8 x9 x10 x11 x12 x13:α}
def oN:([]:List α).length=0:=rfl
def oO:[x0].length=1:=rfl
def oP:[x0,x1].length=2:=rfl
def oQ:[x0,x1,x2].length=3:=rfl
def oR:[x0,x1,x2,x3].length=4:=rfl
def oS:[x0,x1,x2,x3,x4].length=5:=rfl
def oT:[x0,x1,x2,x3,x4,x5].length=6:=rfl
def oU:[x0,x1,x2,x3,x4,x5,x6].length=7:=rfl
def oV:[x0,x1,x2,x3,x4,x5,x6,x7].length=8:=rfl
def oW:[x0,x1,x2,x3,x4,x5,x6,x7,x8].length=9:=rfl
def oX:[x0,x1,x2,x3,x4,x5,x6,x7,x8,x9].length=10:=rfl
def oY:[x0,x1,x2,x3,x4,x5,x6,x7,x8,x9,x10].length=11:=rfl
def oZ:[x0,x1,x2,x3,x4,x5,x6,x7,x8,x9,x10,x11].length=12:=rfl
def o4:[x0,x1,x2,x3,x4,x5,x6,x7,x8,x9,x10,x11,x12].length=13:=rfl
def o5:[x0,x1,x2,x3,x4,x5,x6,x7,x8,x9,x10,x11,x12,x13].length=14:=rfl
end
inductive aJ {α:Type}:List α->List α->Prop where
 |nil:aJ [] []
 |cons {a b:α} {us bs:List α} (h:a=b) (ht:aJ us bs):aJ (a::us) (b::bs)
def aJ.eq{α:Type}{us bs:List α}(h:aJ us bs):us=bs:=by
 induction h with
 |nil=>rfl
 |cons h _ ih=>rw[h,ih]
inductive lX:List SV->List AV->Prop where
 |nil:lX [] []
 |cons {x:AV} {us:List SV} {bs:List AV} (ht:lX us bs):lX (.t x::us) (x::bs)
def lX.eq{us:List SV}{bs:List AV}(h:lX us bs):us=bs.map .t:=by
 induction h with
 |nil=>rfl
 |cons _ ih=>rw[ih];rfl
def Ix(xs:List AV):fY (xs.map .t)=some xs:=by
 induction xs with
 |nil=>rfl
 |cons x xs u=>rw[List.map_cons];unfold fY;rw[u]
def Iy(xs:List AV):og (xs.map .t)=some xs:=by
 induction xs with
 |nil=>rfl
 |cons x xs u=>rw[List.map_cons];unfold og;rw[u]
def B4(xs:List AV):lD (xs.map .t)=.t (.agg xs):=by unfold lD;rw[Iy]
def Iz(xs:List SV):∀(pre u:List SV),u.length=xs.length->ja (pre++u) pre.length xs=pre++xs:=by
 induction xs with
 |nil=>intro pre u h;obtain rfl:=List.length_eq_zero_iff.1 h;rfl
 |cons x xs v=>
  intro pre u h
  cases u with
  |nil=>simp at h
  |cons o u=>
   unfold ja;have e:(pre++o::u).set pre.length x=(pre++[x])++u:=by simp
   have:=v (pre++[x]) u (by simpa using h);rw[e];simpa using this
def IA{cs xs:List SV}(h:cs.length=xs.length):ja cs 0 xs=xs:=Iz xs [] cs h
def ae.al{T n:Nat}{zs cs:List SV}{fr':Fr}(hs:∀C:CallF,step g C d i env fr (.alloc T)=bU g C (dI d i) env fr (.alloc T))(hz:j9 g.P T=some zs)(hc:aJ zs cs)(hn:fr.length=n)(hf:aJ (fr++[.box false T cs]) fr'):ae g d i env fr (.alloc T) (.lp n 0) fr' []:=.r fun C=>by
 rw[hs];subst hn;obtain rfl:=hf.eq;obtain rfl:=hc.eq;unfold bU;simp only[hz]
def ae.IB{T n:Nat}{y:Operand}{s:SV}{cs ds:List SV}{fr':Fr}(hs:∀C:CallF,step g C d i env fr (.box T y)=bU g C (dI d i) env fr (.box T y))(hy:rd env y=s)(hc:bB s=cs)(ho:cs.all dk=true)(hd:aJ cs ds)(hn:fr.length=n)(hf:aJ (fr++[.box false T ds]) fr'):ae g d i env fr (.box T y) (.lp n 0) fr' []:=.r fun C=>by
 rw[hs];subst hn hc hy;obtain rfl:=hf.eq;obtain rfl:=hd.eq;unfold bU;simp only[ho]
def ae.B5{T n:Nat}{y:Operand}{xs:List AV}{fr':Fr}(hs:∀C:CallF,step g C d i env fr (.box T y)=bU g C (dI d i) env fr (.box T y))(hy:rd env y=.t (.agg xs))(ho:(xs.map SV.t).all dk=true)(hn:fr.length=n)(hf:aJ (fr++[.box false T (xs.map .t)]) fr'):ae g d i env fr (.box T y) (.lp n 0) fr' []:=.r fun C=>by
 rw[hs];subst hn;obtain rfl:=hf.eq;unfold bU;simp only[hy];have e:bB (.t (.agg xs))=xs.map .t:=rfl;simp only[e,ho]
def ae.IC{t n r T:Nat}{a y:Operand}{u:Bool}{xs:List AV}{cs:List SV}{fr':Fr}(hs:∀C:CallF,step g C d i env fr (.store t a y)=cr g C env fr (.store t a y))(ht:bh g.P t=some (u,n))(ha:rd env a=.lp r 0)(hy:rd env y=.t (.agg xs))(ho:(xs.map SV.t).all dk=true)(hl:xs.length=n)(hb:fr[r]?=some (.box false T cs))(hc:cs.length=n)(hf:aJ (fr.set r (.box false T (xs.map .t))) fr'):ae g d i env fr (.store t a y) .dead fr' []:=.r fun C=>by
 rw[hs];obtain rfl:=hf.eq;subst hl;have e:bB (.t (.agg xs))=xs.map .t:=rfl;have h1:Nat.beq (xs.map SV.t).length xs.length=true:=by simp
 have h2:Nat.ble (0+xs.length) cs.length=true:=by simp;omega
 have h3:ja cs 0 (xs.map .t)=xs.map .t:=IA (by simpa using hc);unfold cr;simp only[im];unfold bU;simp only;unfold gH;simp only[ht,ha,hy,e,ho,h1,Bool.and_self,hb,h2,h3]
def ae.B6{t n r j T:Nat}{a y:Operand}{u:Bool}{s:SV}{cs ds vs:List SV}{fr':Fr}(hs:∀C:CallF,step g C d i env fr (.store t a y)=cr g C env fr (.store t a y))(ht:bh g.P t=some (u,n))(ha:rd env a=.lp r j)(hy:rd env y=s)(hv:bB s=vs)(ho:(vs.all dk&&Nat.beq vs.length n)=true)(hb:fr[r]?=some (.box false T cs))(hc:Nat.ble (j+n) cs.length=true)(hd:aJ (ja cs j vs) ds)(hf:aJ (fr.set r (.box false T ds)) fr'):ae g d i env fr (.store t a y) .dead fr' []:=.r fun C=>by
 rw[hs];obtain rfl:=hf.eq;obtain rfl:=hd.eq;subst hv hy;unfold cr;simp only[im];unfold bU;simp only;unfold gH;simp only[ht,ha,ho,hb,hc]
def ae.B7{t n r T:Nat}{y:Operand}{ro:Bool}{xs:List AV}(ht:bh g.P t=some (true,n))(hy:rd env y=.lp r 0)(hb:fr[r]?=some (.box ro T (List.map SV.t xs)))(hl:xs.length=n):ae g d i env fr (.load t y) (.t (.agg xs)) fr []:=.p rfl rfl (by
 subst hl;unfold bG fv;have h1:Nat.ble (0+xs.length) (xs.map SV.t).length=true:=by simp
 have h2:((xs.map SV.t).drop 0).take xs.length=xs.map .t:=by rw[List.drop_zero];exact List.take_of_length_le (by simp)
 simp only[ht,hy,hb,h1,h2,B4])
def ae.B8{t n r j T:Nat}{y:Operand}{ro:Bool}{cs vs:List SV}{xs:List AV}(ht:bh g.P t=some (true,n))(hy:rd env y=.lp r j)(hb:fr[r]?=some (.box ro T cs))(hl:Nat.ble (j+n) cs.length=true)(hv:(cs.drop j).take n=vs)(hx:lX vs xs):ae g d i env fr (.load t y) (.t (.agg xs)) fr []:=.p rfl rfl (by
 unfold bG fv;simp only[ht,hy,hb,hl,hv,hx.eq,B4])
def ae.B9{t n r j T:Nat}{y:Operand}{ro:Bool}{cs vs:List SV}{v:SV}(ht:bh g.P t=some (true,n))(hy:rd env y=.lp r j)(hb:fr[r]?=some (.box ro T cs))(hl:Nat.ble (j+n) cs.length=true)(hv:aJ ((cs.drop j).take n) vs)(hx:lD vs=v):ae g d i env fr (.load t y) v fr []:=.p rfl rfl (by
 unfold bG fv;simp only[ht,hy,hb,hl,hv.eq,hx])
end
inductive fC (ks:List Nat):Fr->Fr->Prop where
 |nil:fC ks [] []
 |own {ro:Bool} {x:AV} {fr fr':Fr} (h:fC ks fr fr'):fC ks (.own ro x::fr) (.own ro x::fr')
 |row {ro tch:Bool} {sz:Nat} {es:List (List AV)} {fr fr':Fr} (h:fC ks fr fr'):fC ks (.row ro tch sz es::fr) (.row ro tch sz es::fr')
 |o6 {ro:Bool} {T:TypeId} {xs:List AV} {fr fr':Fr} (h:fC ks fr fr'):fC ks (.box ro T (List.map SV.t xs)::fr) (.box ro T (List.map SV.t xs)::fr')
 |box {ro:Bool} {T:TypeId} {cs ds:List SV} {fr fr':Fr} (hd:aJ (SV.cN (ij ks) cs) ds) (h:fC ks fr fr'):fC ks (.box ro T cs::fr) (.box ro T ds::fr')
def qd{σ:Nat->Option Nat}(xs:List AV):SV.cN σ (xs.map .t)=xs.map .t:=by
 induction xs with
 |nil=>rfl
 |cons x xs u=>rw[List.map_cons,SV.cN,SV.sub,u]
theorem fC.eq{ks:List Nat}{fr fr':Fr}(h:fC ks fr fr'):fr.map (Lb.sub (ij ks))=fr':=by
 induction h with
 |nil=>rfl
 |row _ ih=>rw[List.map_cons,ih];rfl
 |own _ ih=>rw[List.map_cons,ih];rfl
 |o6 _ ih=>rw[List.map_cons,ih,Lb.sub,qd]
 |box hd _ ih=>rw[List.map_cons,ih,Lb.sub,hd.eq]
section
variable {g:Cfg} {d:Option (List Nat)} {i:Nat} {env:Env} {fr:Fr}
def ae.ID{t T sz u n:Nat}{fr':Fr}(hs:∀C:CallF,step g C d i env fr (.buildSlice t 0 #[])=bU g C (dI d i) env fr (.buildSlice t 0 #[]))(hr:dY g.P t=some (T,sz,u))(hn:fr.length=n)(hf:aJ (fr++[.row false false sz []]) fr'):ae g d i env fr (.buildSlice t 0 #[]) (.ls n) fr' []:=.r fun C=>by
 rw[hs];subst hn;obtain rfl:=hf.eq;unfold bU;simp only[hr]
def ae.eP{t T r sz v:Nat}{a y:Operand}{args:Array Operand}{tys:Array TypeId}{s:SV}{es u vs:List (List AV)}{tch:Bool}{fr1 fr':Fr}(hs:∀C:CallF,step g C d i env fr (.call ⟨.builtin .append,args,tys⟩)=bU g C (dI d i) env fr (.call ⟨.builtin .append,args,tys⟩))(ha:args.toList=[a,y])(ht:tys.toList=[t,t])(hr:dY g.P t=some (T,sz,v))(hx:rd env a=.ls r)(hy:rd env y=s)(hn:h_ fr s=some u)(hb:fr[r]?=some (.row false tch sz es))
  (hok:eu sz u=true)(hlen:ca (es.length+u.length) v=true)(hv:es++u=vs)(hk:fC [r] fr fr1)(hf:aJ (fr1.set r (.row false true sz vs)) fr'):ae g d i env fr (.call ⟨.builtin .append,args,tys⟩) (.ls r) fr' [r]:=.r fun C=>by
 rw[hs];subst hv hy;obtain rfl:=hf.eq;obtain rfl:=hk.eq;have h1:(Nat.beq sz sz&&ca (es.length+u.length) v)=true:=by rw[hlen];simp
 have h2:Nat.beq t t=true:=by simp
 unfold bU;simp only[ha,ht,h2];unfold tR;simp only[hr,hn,hok,hx,hb,h1];rfl
def ae.o7{t n r q:Nat}{a y:Operand}{tch:Bool}{es vs:List (List AV)}{cs:List AV}{c:AV}{u:Bool}{fr':Fr}(hs:∀C:CallF,step g C d i env fr (.store t a y)=cr g C env fr (.store t a y))(ht:bh g.P t=some (u,n))(ha:rd env a=.le r 1 q 0)(hy:rd env y=.t c)(hone:dk (.t c)=true)(hn:Nat.beq 1 n=true)(hb:fr[r]?=some (.row false tch 1 es))(hk:es[q]?=some cs)(hj:cs.length=1)(hv:es.set q [c]=vs)(hf:aJ (fr.set r (.row false tch 1 vs)) fr'):ae g d i env fr (.store t a y) .dead fr' []:=by
 obtain rfl:=hf.eq;subst hv
 have e:cs.set 0 c=[c]:=by
  match cs,hj with
  |[x],_=>rfl
 have:=ae.str (effOk:=hs) ht ha hy hone hn hb hk (by rw[hj];rfl);rw[e]at this;exact this
def ae.IE{t len:Nat}{parts:Array (Nat×Operand)}{u:List Nat}{xs:List AV}{x:SV}{fr1:Fr}(hs:∀C:CallF,step g C d i env fr (.buildSlice t len parts)=cr g C env fr (.buildSlice t len parts))(hw:im (.buildSlice t len parts)=false)(h0:bG g.P fr env (.buildSlice t len parts)=none)(ht:jc (parts.toList.map (·.2))=u)(hx:cz fr (u.map fun t=>un (env t))=some xs)(hf:aJ (freeze fr (bo fr (u.map fun t=>un (env t)))) fr1)(hp:bG g.P fr1 (ow env u xs) (.buildSlice t len parts)=some x):ae g d i env fr (.buildSlice t len parts) x fr1 []:=.r fun C=>by
 rw[hs];subst ht;obtain rfl:=hf.eq;unfold cr;simp only[hw,h0];unfold tU;simp only[hx];rw[hp];rfl
def ae.IF{xt yt:TypeId}{x y:Operand}{s u:ByteArray}(hx:rd env x=.t (.str s))(hy:rd env y=.t (.str u))(h:s.size+u.size<=9223372036854775807):ae g d i env fr (.binOp .add xt x y yt) (.t (.str (s++u))) fr []:=
 .kP hx hy (by unfold gF;simp only[tn,if_pos h])
def ae.kR{xt yt:TypeId}{x y:Operand}{m n r:Int}(hx:rd env x=.t (.int .i64 m))(hy:rd env y=.t (.int .i64 n))(hn:n≠0)(h:m.tmod n=r):ae g d i env fr (.binOp .rem xt x y yt) (.t (.int .i64 r)) fr []:=
 .kP hx hy (by unfold gF;simp only[if_true,jH,if_neg hn,h])
def ae.gl{xt yt:TypeId}{x y:Operand}{m n r:Int}(hx:rd env x=.t (.int .i64 m))(hy:rd env y=.t (.int .i64 n))(hn:n≠0)(h:m.tdiv n=r)(hb : -9223372036854775808<=r/\r<=9223372036854775807):ae g d i env fr (.binOp .quo xt x y yt) (.t (.int .i64 r)) fr []:=
 .kP hx hy (by unfold gF;simp only[if_true,jH,if_neg hn,h,IntWalk.i64_in _ hb])
def ae.qe{t l h:Nat}{x lo hi:Operand}{k z:IntKind}{s v:ByteArray}(hst:lC g.P t=true)(hx:rd env x=.t (.str s))(hl:rd env lo=.t (.int k (l:Int)))(hh:rd env hi=.t (.int z (h:Int)))(hlh:l<=h)(hhs:h<=s.size)(hv:s.extract l h=v):ae g d i env fr (.slice t x (some lo) (some hi) none) (.t (.str v)) fr []:=.p rfl rfl (by
 subst hv;have h1:(decide (0<=(h:Int))&&Nat.ble (Int.toNat (h:Int)) s.size)=true:=by simp;omega
 have h2:(decide (0<=(l:Int))&&Nat.ble (Int.toNat (l:Int)) h)=true:=by simp;omega
 have u:ep (some (.t (.int z (h:Int)))) s.size s.size=some h:=by unfold ep;simp only[h1];simp
 have y:ep (some (.t (.int k (l:Int)))) 0 h=some l:=by unfold ep;simp only[h2];simp
 unfold bG nk;simp only[Option.map_none,Option.map_some,hx,hl,hh,hst];unfold j8;simp only[u,y])
def ae.B_{t n r sz q j:Nat}{y:Operand}{ro tch:Bool}{es:List (List AV)}{cs vs:List AV}(ht:bh g.P t=some (true,n))(hy:rd env y=.le r sz q j)(hb:fr[r]?=some (.row ro tch sz es))(hk:es[q]?=some cs)(hl:Nat.ble (j+n) cs.length=true)(hv:aJ ((cs.drop j).take n) vs):ae g d i env fr (.load t y) (.t (.agg vs)) fr []:=.p rfl rfl (by
 obtain rfl:=hv.eq;have h2:Nat.beq sz sz=true:=by simp
 unfold bG fv;simp only[ht,hy,hb,h2,hk,hl])
def ae.IG{t n r sz q:Nat}{y:Operand}{ro tch:Bool}{es:List (List AV)}{c:AV}(ht:bh g.P t=some (false,n))(hy:rd env y=.le r sz q 0)(hb:fr[r]?=some (.row ro tch sz es))(hk:es[q]?=some [c]):ae g d i env fr (.load t y) (.t c) fr []:=.BQ ht hy hb hk rfl
end
inductive c8 (σ:Nat->Option Nat):Fr->Fr->Prop where
 |nil:c8 σ [] []
 |own {ro:Bool} {x:AV} {fr fr':Fr} (h:c8 σ fr fr'):c8 σ (.own ro x::fr) (.own ro x::fr')
 |row {ro tch:Bool} {sz:Nat} {es:List (List AV)} {fr fr':Fr} (h:c8 σ fr fr'):c8 σ (.row ro tch sz es::fr) (.row ro false sz es::fr')
 |o6 {ro:Bool} {T:TypeId} {xs:List AV} {fr fr':Fr} (h:c8 σ fr fr'):c8 σ (.box ro T (List.map SV.t xs)::fr) (.box ro T (List.map SV.t xs)::fr')
 |box {ro:Bool} {T:TypeId} {cs ds:List SV} {fr fr':Fr} (hd:aJ (SV.cN σ cs) ds) (h:c8 σ fr fr'):c8 σ (.box ro T cs::fr) (.box ro T ds::fr')
theorem c8.eq{σ:Nat->Option Nat}{fr fr':Fr}(h:c8 σ fr fr'):fr.map (fun b=>cL (b.sub σ))=fr':=by
 induction h with
 |nil=>rfl
 |row _ ih=>rw[List.map_cons,ih];rfl
 |own _ ih=>rw[List.map_cons,ih];rfl
 |o6 _ ih=>rw[List.map_cons,ih,Lb.sub,qd];rfl
 |box hd _ ih=>rw[List.map_cons,ih,Lb.sub,hd.eq];rfl
section
variable {g:Cfg} {d:Option (List Nat)} {i:Nat} {env:Env} {fr:Fr}
def ae.Ca{c:Operand}{args:Array Operand}{tys:Array TypeId}{f n:Nat}{pa G u:List SV}{xs:List AV}{z:List SV}{r v:SV}{D y fr':Fr}(hcl:Cl g f z [] r D)(hcal:dR (rd env c)=some (f,pa,G))(hav:pa++args.toList.map (rd env)++G=u)(hx:cz fr (bi (aM g f 0 u) u)=some xs)(hh:cx [] (ew (aM g f 0 u) u)=[])(hm:cY (aX []) (aM g f 0 u) u xs=z)
  (hr:dl r=false)(hd:dI d i=false)(hq:bo fr (bi (aM g f 0 u) u)=[])(hn:fr.length=n)(hv:r.sub (dm [] n)=v)(he:c8 (dm [] n) D y)(hf:aJ (fr++y) fr'):ae g d i env fr (.call ⟨.value c,args,tys⟩) v fr' []:=.call hcl hcal hav hx hh hm (by
 subst hv hn;obtain rfl:=hf.eq;obtain rfl:=he.eq;unfold nF;rw[hr,hd,hq];rfl)
def ae.IH{c:Operand}{args:Array Operand}{tys:Array TypeId}{f h0:Nat}{ht:List Nat}(hs:List Nat){pa D u:List SV}{xs:List AV}{z:List SV}{r x:SV}{bs v fr' y:Fr}{ks:List Nat}(hcl:Cl g f z v r fr')(hdr:dI d i=false)(hcal:dR (rd env c)=some (f,pa,D))(hav:pa++args.toList.map (rd env)++D=u)(hx:cz fr (bi (aM g f 0 u) u)=some xs)(hh:cx [] (ew (aM g f 0 u) u)=h0::ht)
  (hs0:close fr 4 (h0::ht)=hs)(hf:bo fr (bi (aM g f 0 u) u)=[])(hg:dx fr hs=some bs)(hc:kz hs bs=true)(hm:cY (aX hs) (aM g f 0 u) u xs=z)(hb:bs.map (fun b=>cL (b.sub (aX hs)))=v)(hk:kindOk hs fr' fr=true)(hv:r.sub (dm hs fr.length)=x)(hl:aJ (back hs fr fr') y)(hq:c_ hs fr'=ks):ae g d i env fr (.call ⟨.value c,args,tys⟩) x y ks:=ae.BU hs hcl hdr hcal hav hx hh hs0 hf hg hc hm hb hk (by rw[hv,hl.eq,hq])
def ae.II{c:Operand}{args:Array Operand}{tys:Array TypeId}{f h0:Nat}{ht:List Nat}(hs:List Nat){pa D u:List SV}{xs:List AV}{z:List SV}{r x:SV}{bs v fr' fr1 y:Fr}{ks:List Nat}(hcl:Cl g f z v r fr')(hdr:dI d i=false)(hcal:dR (rd env c)=some (f,pa,D))(hav:pa++args.toList.map (rd env)++D=u)(hx:cz fr (bi (aM g f 0 u) u)=some xs)(hh:cx [] (ew (aM g f 0 u) u)=h0::ht)
  (hs0:close fr 4 (h0::ht)=hs)(hf:aJ (freeze fr (bo fr (bi (aM g f 0 u) u))) fr1)(hg:dx fr1 hs=some bs)(hc:kz hs bs=true)(hm:cY (aX hs) (aM g f 0 u) u xs=z)(hb:bs.map (fun b=>cL (b.sub (aX hs)))=v)(hk:kindOk hs fr' fr1=true)(hv:r.sub (dm hs fr.length)=x)(hl:aJ (back hs fr1 fr') y)(hq:c_ hs fr'=ks):ae g d i env fr (.call ⟨.value c,args,tys⟩) x y ks:=ae.BS hcl hdr hcal hav hx hh hs0 hf.eq hg hc hm hb hk (by rw[hv,hl.eq,hq])
end
section
variable {g:Cfg}
theorem Cl.ext{f:Nat}{xs:List AV}{args:List SV}{r:SV}{u:Fr}(hok:g.ok f=false)(ha:args=xs.map .t)(he:g.ext f xs=some (r,u)):Cl g f args [] r u:=by
 subst ha;refine⟨1,?_⟩;unfold cQ;have e:fY (xs.map .t)=some xs:=Ix xs;simp only[hok,e];exact he
end
section
variable {g:Cfg} {d:Option (List Nat)} {i':Nat} {env:Env} {fr:Fr}
def ae.gm{t:Nat}{x i:Operand}{k:IntKind}{m:Int}{s:ByteArray}{b:UInt8}(hx:rd env x=.t (.str s))(hi:rd env i=.t (.int k m))(hst:lC g.P t=true)(h0:0<=m)(hb:s.data.toList[m.toNat]?=some b):ae g d i' env fr (.index t x i) (.t (.int .u8 (b.toNat:Int))) fr []:=.p rfl rfl (by
 have h1:s[m.toNat]?=some b:=by
  rw[<- hb];obtain⟨⟨l⟩⟩:=s;show(if h:_ then _ else _)=_
  rcases Nat.lt_or_ge m.toNat l.length with h|h
  ·rw[dif_pos (by simpa[ByteArray.size]using h)];simp only[List.getElem?_eq_getElem h];rfl
  ·rw[dif_neg (by simpa[ByteArray.size]using h)];simp[List.getElem?_eq_none h]
 unfold bG tv;simp only[hx,hi,hst,decide_eq_true h0,h1])
def ae.r8{t:Nat}{x lo:Operand}{k:IntKind}{m:Int}{s v:ByteArray}(hst:lC g.P t=true)(hx:rd env x=.t (.str s))(hl:rd env lo=.t (.int k m))(h0:0<=m)(hls:m.toNat<=s.size)(hv:s.extract m.toNat s.size=v):ae g d i' env fr (.slice t x (some lo) none none) (.t (.str v)) fr []:=.p rfl rfl (by
 subst hv;obtain⟨l,rfl⟩:=Int.eq_ofNat_of_zero_le h0;rw[Int.toNat_natCast]at hls⊢;have h2:(decide (0<=(l:Int))&&Nat.ble (Int.toNat (l:Int)) s.size)=true:=by simp;omega
 have y:ep (some (.t (.int k (l:Int)))) 0 s.size=some l:=by unfold ep;simp only[h2];simp
 have u:ep none s.size s.size=some s.size:=rfl;unfold bG nk;simp only[Option.map_none,Option.map_some,hx,hl,hst];unfold j8;simp only[u,y])
def ae.uI{t h:Nat}{x hi:Operand}{k:IntKind}{s v:ByteArray}(hst:lC g.P t=true)(hx:rd env x=.t (.str s))(hh:rd env hi=.t (.int k (h:Int)))(hhs:h<=s.size)(hv:s.extract 0 h=v):ae g d i' env fr (.slice t x none (some hi) none) (.t (.str v)) fr []:=.p rfl rfl (by
 subst hv;have h1:(decide (0<=(h:Int))&&Nat.ble (Int.toNat (h:Int)) s.size)=true:=by simp;omega
 have u:ep (some (.t (.int k (h:Int)))) s.size s.size=some h:=by unfold ep;simp only[h1];simp
 have y:ep none 0 h=some 0:=by unfold ep;rfl
 unfold bG nk;simp only[Option.map_none,Option.map_some,hx,hh,hst];unfold j8;simp only[u,y])
def ae.IJ{u dst:Nat}{k:IntKind}{x:Operand}{m:Int}{ds:TypeDesc}(hx:rd env x=.t (.int k m))(hs:g.P.underlying u=some ds)(hd:g.P.underlying dst=some (.int .i64))(h : -9223372036854775808<=m/\m<=9223372036854775807):ae g d i' env fr (.convert u dst x) (.t (.int .i64 m)) fr []:=.p rfl rfl (by
 unfold bG rk;simp only[hx,hs,hd,IntWalk.i64_in _ h])
end
def IK(xs:List AV):∀(pre u:List AV),u.length=xs.length->kq (pre++u) pre.length xs=pre++xs:=by
 induction xs with
 |nil=>
  intro pre u h;rw[List.length_eq_zero_iff.1 h];rfl
 |cons x xs v=>
  intro pre u h
  match u,h with
  |o::u,h=>
   have e:(pre++o::u).set pre.length x=(pre++[x])++u:=by simp
   have:=v (pre++[x]) u (by simpa using h);unfold kq;rw[e,show pre.length+1=(pre++[x]).length by simp,this];simp
def IL{os xs:List AV}(h:os.length=xs.length):kq os 0 xs=xs:=IK xs [] os h
theorem Cb(fr:Fr):∀(xs:List AV),cz fr (xs.map .t)=some xs
 |[]=>rfl
 |x::xs=>by
  have u:=Cb fr xs;simp only[List.map_cons,cz,ib,deep,u]
def IM(fr:Fr)(xs:List AV):bo fr (xs.map .t)=[]:=rV (by simp[jd])
section
variable {g:Cfg} {d:Option (List Nat)} {env:Env} {fr:Fr} {i':Nat}
def ae.IP{u dst:Nat}{k:IntKind}{x:Operand}{m:Int}{ds:TypeDesc}(hx:rd env x=.t (.int k m))(hs:g.P.underlying u=some ds)(hd:g.P.underlying dst=some (.int .u64))(h:0<=m/\m<=9223372036854775807):ae g d i' env fr (.convert u dst x) (.t (.int .u64 m)) fr []:=.p rfl rfl (by
 unfold bG rk;simp only[hx,hs,hd,IntWalk.u64_in _ ⟨h.1,by omega⟩])
def ae.Cc{t n r q:Nat}{a y:Operand}{tch:Bool}{es vs:List (List AV)}{xs os:List AV}{fr':Fr}(hs:∀C:CallF,step g C d i' env fr (.store t a y)=cr g C env fr (.store t a y))(ht:bh g.P t=some (true,n))(ha:rd env a=.le r n q 0)(hy:rd env y=.t (.agg xs))(hone:(xs.map SV.t).all dk=true)(hl:xs.length=n)(hb:fr[r]?=some (.row false tch n es))(hk:es[q]?=some os)(ho:os.length=n)(hv:es.set q xs=vs)(hf:aJ (fr.set r (.row false tch n vs)) fr'):ae g d i' env fr (.store t a y) .dead fr' []:=.r fun C=>by
 obtain rfl:=hf.eq;subst hv;have h2:Nat.beq n n=true:=by simp
 have u:bB (.t (.agg xs))=xs.map .t:=rfl;have v:Nat.beq (xs.map SV.t).length n=true:=by simp[hl]
 have z:Nat.ble (0+n) os.length=true:=by rw[Nat.ble_eq];omega
 rw[hs];unfold cr;simp only[im];unfold bU;simp only;unfold gH;simp only[ht,ha,hy,u,hone,v,Bool.and_self,hb,h2,hk,z,Cb,IM,bT,List.any_nil,freeze];rw[IL (by omega)]
def ae.d_{t:Nat}{l c:Operand}{v u x:SV}{fr1 fr':Fr}(hs:∀C:CallF,step g C d i' env fr (.makeSlice t l c)=bU g C (dI d i') env fr (.makeSlice t l c))(hl:rd env l=v)(hc:rd env c=u)(hd:dI d i'=false)(hm:ik g.P fr t v u=some (x,fr1,[]))(hf:aJ fr1 fr'):ae g d i' env fr (.makeSlice t l c) x fr' []:=.r fun C=>by
 obtain rfl:=hf.eq;subst hl hc;rw[hs];unfold bU;simp only[hm,hd]
end
section
variable {g:Cfg} {d:Option (List Nat)} {env:Env} {fr:Fr} {i:Nat}
def ae.Cd{t e sz r:Nat}{x:Operand}{lo hi:Option Operand}{ro tch:Bool}{es:List (List AV)}{v u:Option SV}{y:SV}(he:eL g.P t=some (e,sz))(hx:rd env x=.ls r)(hl:lo.map (rd env)=v)(hh:hi.map (rd env)=u)(hb:fr[r]?=some (.row ro tch sz es))(hv:jI r sz 0 es.length es.length v u=some y):ae g d i env fr (.slice t x lo hi none) y fr []:=.p rfl rfl (by
 have h2:Nat.beq sz sz=true:=by simp
 subst hl hh;unfold bG nk;simp only[Option.map_none,hx,he,rf];unfold tx;simp only[he,hb,h2];exact hv)
def Ce{q dv u:Nat}{k:IntKind}(h:q<=u):ep (some (.t (.int k (q:Int)))) dv u=some q:=by
 have h1:(decide (0<=(q:Int))&&Nat.ble (Int.toNat (q:Int)) u)=true:=by simp;omega
 unfold ep;simp only[h1];simp
def Cf{dv u:Nat}:ep none dv u=some dv:=rfl
def Cg{r sz n l h:Nat}{lo hi:Option SV}(h1:ep hi n n=some h)(h2:ep lo 0 h=some l):jI r sz 0 n n lo hi=match Nat.beq (0+l) 0&&Nat.beq h n with
  |true=>some (.ls r)
  |false=>match Nat.beq (h - l) 0&&Nat.blt 0 (0+l)with
   |true=>some (.t (.arr []))
   |false=>some (.lv r sz (0+l) (h - l)):=by
 unfold jI j8;simp only[h1,h2];rfl
def yb{a b:Nat}(h:a≠b):Nat.beq a b=false:=by rw[<- Bool.not_eq_true,Nat.beq_eq];exact h
def IQ{r sz n q:Nat}{k:IntKind}(h0:0 <q)(h:q <n):jI r sz 0 n n (some (.t (.int k (q:Int)))) none=some (.lv r sz q (n - q)):=by
 rw[Cg Cf (Ce (by omega)),Nat.zero_add,yb (show q≠0 by omega),yb (show n - q≠0 by omega)];rfl
def IR{r sz n q:Nat}{k:IntKind}(h:q <n):jI r sz 0 n n none (some (.t (.int k (q:Int))))=some (.lv r sz 0 q):=by
 rw[Cg (Ce (by omega)) Cf,yb (show q≠n by omega),Nat.zero_add];have h3:Nat.blt 0 0=false:=rfl;rw[h3,Bool.and_false,Bool.and_false];rfl
end
def ah{g:Cfg}{d:Option (List Nat)}{i:Nat}{env:Env}{fr fr':Fr}{op:Op}{x:SV}{ks:List Nat}(h:ae g d i env fr op x fr' ks:=by
 first
|((with_reducible apply ae.mv);(conv=>lhs;whnf);try exact rfl)
|((with_reducible apply ae.asg);(conv=>lhs;whnf);try exact rfl)
|((with_reducible apply ae.Is);(case hc=>exact rfl);(case h=>(conv=>lhs;whnf);try exact rfl))
|((with_reducible apply ae.It);(case hc=>exact rfl);(case h=>(conv=>lhs;whnf);try exact rfl))
|((with_reducible apply ae.inc);(case hx|hy=>exact rfl);(case h=>omega))
|((with_reducible apply ae.add);(case hx|hy=>exact rfl);(case h=>omega))
|((with_reducible apply ae.sub);(case hx|hy=>exact rfl);(case h=>omega))
|((with_reducible apply ae.len);(case ha|hy|ht|hs=>exact rfl);(case hn=>first|exact List.length_map _|exact rfl))
|((with_reducible apply ae.ix);(case he=>first|(with_reducible exact pn)|(with_reducible exact el1)|(with_reducible exact po)|(with_reducible exact el3)|(with_reducible exact el4)|(with_reducible exact pz)|(with_reducible exact el6)|(with_reducible exact el7)|exact rfl);(case hx|hi=>exact rfl);(case hc=>assumption);(case hz=>exact rfl))
|((with_reducible apply ae.Iw);(case he=>first|(with_reducible exact pn)|(with_reducible exact el1)|(with_reducible exact po)|(with_reducible exact el3)|(with_reducible exact el4)|(with_reducible exact pz)|(with_reducible exact el6)|(with_reducible exact el7)|exact rfl);(case hx|hi=>exact rfl);(case hc=>assumption);(case hz=>exact rfl))
|((with_reducible apply ae.BP);(case he=>first|(with_reducible exact pn)|(with_reducible exact el1)|(with_reducible exact po)|(with_reducible exact el3)|(with_reducible exact el4)|(with_reducible exact pz)|(with_reducible exact el6)|(with_reducible exact el7)|exact rfl);(case hx|hi=>exact rfl);(case h0=>omega);(case hc=>assumption);(case hz=>exact rfl))
|((with_reducible apply ae.x_);(case hy|ho=>exact rfl);(case hn=>(conv=>lhs;whnf);try exact rfl))
|((with_reducible apply ae.Iu);(case hy|ho=>exact rfl);(case hn=>(conv=>lhs;whnf);try exact rfl))
|((with_reducible apply ae.al);(case hs=>exact fun _=>rfl);(case hz=>exact rfl);(case hc=>(repeat'(first|exact aJ.nil|((first|with_reducible apply aJ.cons|apply aJ.cons);(case h=>(conv=>lhs;whnf);try exact rfl)))));(case hn=>(first|exact oN|exact oO|exact oP|exact oQ|exact oR|exact oS|exact oT|exact oU|exact oV|exact oW|exact oX|exact oY|exact oZ|exact o4|exact o5));(case hf=>(repeat'(first|exact aJ.nil|((first|with_reducible apply aJ.cons|apply aJ.cons);(case h=>(conv=>lhs;whnf);try exact rfl))))))
|((with_reducible apply ae.B5);(case hs=>exact fun _=>rfl);(case hy=>exact rfl);(case ho=>kernel_rfl);(case hn=>(first|exact oN|exact oO|exact oP|exact oQ|exact oR|exact oS|exact oT|exact oU|exact oV|exact oW|exact oX|exact oY|exact oZ|exact o4|exact o5));(case hf=>(repeat'(first|exact aJ.nil|((first|with_reducible apply aJ.cons|apply aJ.cons);(case h=>(conv=>lhs;whnf);try exact rfl))))))
|((with_reducible apply ae.IB);(case hs=>exact fun _=>rfl);(case hy|hc=>exact rfl);(case ho=>kernel_rfl);(case hd=>(repeat'(first|exact aJ.nil|((first|with_reducible apply aJ.cons|apply aJ.cons);(case h=>(conv=>lhs;whnf);try exact rfl)))));(case hn=>(first|exact oN|exact oO|exact oP|exact oQ|exact oR|exact oS|exact oT|exact oU|exact oV|exact oW|exact oX|exact oY|exact oZ|exact o4|exact o5));(case hf=>(repeat'(first|exact aJ.nil|((first|with_reducible apply aJ.cons|apply aJ.cons);(case h=>(conv=>lhs;whnf);try exact rfl))))))
|((with_reducible apply ae.IC);(case hs=>exact fun _=>rfl);(case ha|hy=>exact rfl);(case ht=>first|(with_reducible exact sz0)|(with_reducible exact ei)|(with_reducible exact pm)|(with_reducible exact sz3)|(with_reducible exact sz4)|(with_reducible exact sz5)|(with_reducible exact sz6)|(with_reducible exact sz7)|(with_reducible exact sz8)|(with_reducible exact sz9)|exact rfl);(case ho=>kernel_rfl);(case hl=>kernel_rfl);(case hb=>exact rfl);(case hc=>kernel_rfl);(case hf=>(repeat'(first|exact aJ.nil|((first|with_reducible apply aJ.cons|apply aJ.cons);(case h=>(conv=>lhs;whnf);try exact rfl))))))
|((with_reducible apply ae.B6);(case hs=>exact fun _=>rfl);(case ha|hy=>exact rfl);(case ht=>first|(with_reducible exact sz0)|(with_reducible exact ei)|(with_reducible exact pm)|(with_reducible exact sz3)|(with_reducible exact sz4)|(with_reducible exact sz5)|(with_reducible exact sz6)|(with_reducible exact sz7)|(with_reducible exact sz8)|(with_reducible exact sz9)|exact rfl);(case hv=>exact rfl);(case ho=>kernel_rfl);(case hb=>exact rfl);(case hc=>kernel_rfl);(case hd=>(repeat'(first|exact aJ.nil|((first|with_reducible apply aJ.cons|apply aJ.cons);(case h=>(conv=>lhs;whnf);try exact rfl)))));(case hf=>(repeat'(first|exact aJ.nil|((first|with_reducible apply aJ.cons|apply aJ.cons);(case h=>(conv=>lhs;whnf);try exact rfl))))))
|((with_reducible apply ae.B7);(case hy=>exact rfl);(case ht=>first|(with_reducible exact sz0)|(with_reducible exact ei)|(with_reducible exact pm)|(with_reducible exact sz3)|(with_reducible exact sz4)|(with_reducible exact sz5)|(with_reducible exact sz6)|(with_reducible exact sz7)|(with_reducible exact sz8)|(with_reducible exact sz9));(case hb=>exact rfl);(case hl=>kernel_rfl))
|((with_reducible apply ae.B8);(case hy=>exact rfl);(case ht=>first|(with_reducible exact sz0)|(with_reducible exact ei)|(with_reducible exact pm)|(with_reducible exact sz3)|(with_reducible exact sz4)|(with_reducible exact sz5)|(with_reducible exact sz6)|(with_reducible exact sz7)|(with_reducible exact sz8)|(with_reducible exact sz9));(case hb=>exact rfl);(case hl=>kernel_rfl);(case hv=>exact rfl);(case hx=>(repeat'(first|exact lX.nil|(apply lX.cons)))))
|((with_reducible apply ae.B9);(case hy=>exact rfl);(case ht=>first|(with_reducible exact sz0)|(with_reducible exact ei)|(with_reducible exact pm)|(with_reducible exact sz3)|(with_reducible exact sz4)|(with_reducible exact sz5)|(with_reducible exact sz6)|(with_reducible exact sz7)|(with_reducible exact sz8)|(with_reducible exact sz9));(case hb=>exact rfl);(case hl=>kernel_rfl);(case hv=>(repeat'(first|exact aJ.nil|((first|with_reducible apply aJ.cons|apply aJ.cons);(case h=>(conv=>lhs;whnf);try exact rfl)))));(case hx=>(conv=>lhs;whnf);try exact rfl))
|((with_reducible apply ae.IF);(case hx|hy=>exact rfl);(case h=>first|assumption|omega))
|((with_reducible apply ae.ID);(case hs=>exact fun _=>rfl);(case hr=>first|(with_reducible exact eH)|(with_reducible exact rw1)|(with_reducible exact eI)|(with_reducible exact rw3)|(with_reducible exact rw4)|exact rfl);(case hn=>(first|exact oN|exact oO|exact oP|exact oQ|exact oR|exact oS|exact oT|exact oU|exact oV|exact oW|exact oX|exact oY|exact oZ|exact o4|exact o5));(case hf=>(repeat'(first|exact aJ.nil|((first|with_reducible apply aJ.cons|apply aJ.cons);(case h=>(conv=>lhs;whnf);try exact rfl))))))
|((with_reducible apply ae.Io);(case he=>first|(with_reducible exact pn)|(with_reducible exact el1)|(with_reducible exact po)|(with_reducible exact el3)|(with_reducible exact el4)|(with_reducible exact pz)|(with_reducible exact el6)|(with_reducible exact el7)|exact rfl);(case hx|hi|hb=>exact rfl);(case hq=>first|assumption|omega))
|((with_reducible apply ae.Ip);(case he=>first|(with_reducible exact pn)|(with_reducible exact el1)|(with_reducible exact po)|(with_reducible exact el3)|(with_reducible exact el4)|(with_reducible exact pz)|(with_reducible exact el6)|(with_reducible exact el7)|exact rfl);(case hx|hi|hb=>exact rfl);(case h0=>first|assumption|omega);(case hq=>first|assumption|omega))
|((with_reducible apply ae.IG);(case hy|ht|hb=>exact rfl);(case hk=>assumption))
|((with_reducible apply ae.B_);(case hy=>exact rfl);(case ht=>first|(with_reducible exact sz0)|(with_reducible exact ei)|(with_reducible exact pm)|(with_reducible exact sz3)|(with_reducible exact sz4)|(with_reducible exact sz5)|(with_reducible exact sz6)|(with_reducible exact sz7)|(with_reducible exact sz8)|(with_reducible exact sz9));(case hb=>exact rfl);(case hk=>assumption);(case hl=>kernel_rfl);(case hv=>(repeat'(first|exact aJ.nil|((first|with_reducible apply aJ.cons|apply aJ.cons);(case h=>(conv=>lhs;whnf);try exact rfl))))))
|((with_reducible apply ae.B7);(case hy=>exact rfl);(case ht=>first|(with_reducible exact u9)|(with_reducible exact u_)|(with_reducible exact vc)|(with_reducible exact vd)|(with_reducible exact ve)|(with_reducible exact vf)|(with_reducible exact vg)|(with_reducible exact vh)|(with_reducible exact vi)|(with_reducible exact vj)|(with_reducible exact vk)|(with_reducible exact vl)|(with_reducible exact vn)|(with_reducible exact sz23)|(with_reducible exact sz24)|(with_reducible exact vo)|(with_reducible exact vq)|(with_reducible exact vt)|(with_reducible exact vu)|(with_reducible exact vw)|(with_reducible exact sz30)|(with_reducible exact sz31)|(with_reducible exact sz32)|(with_reducible exact sz33)|(with_reducible exact sz34));(case hb=>exact rfl);(case hl=>kernel_rfl))
|((with_reducible apply ae.B8);(case hy=>exact rfl);(case ht=>first|(with_reducible exact u9)|(with_reducible exact u_)|(with_reducible exact vc)|(with_reducible exact vd)|(with_reducible exact ve)|(with_reducible exact vf)|(with_reducible exact vg)|(with_reducible exact vh)|(with_reducible exact vi)|(with_reducible exact vj)|(with_reducible exact vk)|(with_reducible exact vl)|(with_reducible exact vn)|(with_reducible exact sz23)|(with_reducible exact sz24)|(with_reducible exact vo)|(with_reducible exact vq)|(with_reducible exact vt)|(with_reducible exact vu)|(with_reducible exact vw)|(with_reducible exact sz30)|(with_reducible exact sz31)|(with_reducible exact sz32)|(with_reducible exact sz33)|(with_reducible exact sz34));(case hb=>exact rfl);(case hl=>kernel_rfl);(case hv=>exact rfl);(case hx=>(repeat'(first|exact lX.nil|(apply lX.cons)))))
|((with_reducible apply ae.B9);(case hy=>exact rfl);(case ht=>first|(with_reducible exact u9)|(with_reducible exact u_)|(with_reducible exact vc)|(with_reducible exact vd)|(with_reducible exact ve)|(with_reducible exact vf)|(with_reducible exact vg)|(with_reducible exact vh)|(with_reducible exact vi)|(with_reducible exact vj)|(with_reducible exact vk)|(with_reducible exact vl)|(with_reducible exact vn)|(with_reducible exact sz23)|(with_reducible exact sz24)|(with_reducible exact vo)|(with_reducible exact vq)|(with_reducible exact vt)|(with_reducible exact vu)|(with_reducible exact vw)|(with_reducible exact sz30)|(with_reducible exact sz31)|(with_reducible exact sz32)|(with_reducible exact sz33)|(with_reducible exact sz34));(case hb=>exact rfl);(case hl=>kernel_rfl);(case hv=>(repeat'(first|exact aJ.nil|((first|with_reducible apply aJ.cons|apply aJ.cons);(case h=>(conv=>lhs;whnf);try exact rfl)))));(case hx=>(conv=>lhs;whnf);try exact rfl))
|((with_reducible apply ae.B_);(case hy=>exact rfl);(case ht=>first|(with_reducible exact u9)|(with_reducible exact u_)|(with_reducible exact vc)|(with_reducible exact vd)|(with_reducible exact ve)|(with_reducible exact vf)|(with_reducible exact vg)|(with_reducible exact vh)|(with_reducible exact vi)|(with_reducible exact vj)|(with_reducible exact vk)|(with_reducible exact vl)|(with_reducible exact vn)|(with_reducible exact sz23)|(with_reducible exact sz24)|(with_reducible exact vo)|(with_reducible exact vq)|(with_reducible exact vt)|(with_reducible exact vu)|(with_reducible exact vw)|(with_reducible exact sz30)|(with_reducible exact sz31)|(with_reducible exact sz32)|(with_reducible exact sz33)|(with_reducible exact sz34));(case hb=>exact rfl);(case hk=>assumption);(case hl=>kernel_rfl);(case hv=>(repeat'(first|exact aJ.nil|((first|with_reducible apply aJ.cons|apply aJ.cons);(case h=>(conv=>lhs;whnf);try exact rfl))))))
|((with_reducible apply ae.BQ);(case ht|hy|hb=>exact rfl);(case hk=>assumption);(case hj=>exact rfl))
|exact ae.r fun _=>rfl
 ):ae g d i env fr op x fr' ks:=h
def leq{α:Type}{a b:List α}(h:aJ a b:=by repeat'(first|exact aJ.nil|((first|with_reducible apply aJ.cons|apply aJ.cons);(case h=>(conv=>lhs;whnf);try exact rfl)))):aJ a b:=h
def slt{e:Env}{fr:Fr}{n:Nat}{s:List Nat}{l:List (Nat×SV)}(h:lW e fr n s l:=by repeat'(first|exact lW.nil|(apply lW.cons;(case hv=>(conv=>lhs;whnf);try exact rfl)))):lW e fr n s l:=h
def Ch{fr:Fr}{n:Nat}(h:fr.length=n:=by first|exact oN|exact oO|exact oP|exact oQ|exact oR|exact oS|exact oT|exact oU|exact oV|exact oW|exact oX|exact oY|exact oZ|exact o4|exact o5):fr.length=n:=h
def Qk{σ:Nat->Option Nat}{a b:Fr}(h:c8 σ a b:=by repeat'(first|exact c8.nil|(with_reducible apply c8.row)|(with_reducible apply c8.o6)|(with_reducible apply c8.own)|((apply c8.box);(case hd=>(repeat'(first|exact aJ.nil|((first|with_reducible apply aJ.cons|apply aJ.cons);(case h=>(conv=>lhs;whnf);try exact rfl)))))))):c8 σ a b:=h
def eQ{ks:List Nat}{a b:Fr}(h:fC ks a b:=by repeat'(first|exact fC.nil|(with_reducible apply fC.row)|(with_reducible apply fC.o6)|(with_reducible apply fC.own)|((apply fC.box);(case hd=>(repeat'(first|exact aJ.nil|((first|with_reducible apply aJ.cons|apply aJ.cons);(case h=>(conv=>lhs;whnf);try exact rfl)))))))):fC ks a b:=h
def aj{p:Prop}(h:p:=by first|assumption|omega):p:=h
def aq{g:Cfg}{d:Option (List Nat)}{i:Nat}{env:Env}{fr:Fr}{c:Operand}{args:Array Operand}{tys:Array TypeId}{f:Nat}{pa y u:List SV}{xs:List AV}{v:List SV}{r:SV}{z:Fr}(hcl:Cl g f v [] r z)(hcal:dR (rd env c)=some (f,pa,y):=by exact rfl)(hav:pa++args.toList.map (rd env)++y=u:=by exact rfl)(hx:cz fr (bi (aM g f 0 u) u)=some xs:=by exact rfl)(hh:cx [] (ew (aM g f 0 u) u)=[]:=by exact rfl)(hm:cY (aX []) (aM g f 0 u) u xs=v:=by exact rfl)(hr:dl r=true:=by exact rfl):ae g d i env fr (.call ⟨.value c,args,tys⟩) r fr []:=ae.r7 (hcl:=hcl) (hcal:=hcal) (hav:=hav) (hx:=hx) (hh:=hh) (hm:=hm) (hr:=hr)
def qf{g:Cfg}{d:Option (List Nat)}{i:Nat}{env:Env}{fr:Fr}{c:Operand}{args:Array Operand}{tys:Array TypeId}{f:Nat}{pa y u:List SV}{xs:List AV}{v:List SV}{r:SV}(hcl:Cl g f v [] r [])(hcal:dR (rd env c)=some (f,pa,y):=by exact rfl)(hav:pa++args.toList.map (rd env)++y=u:=by exact rfl)(hx:cz fr (bi (aM g f 0 u) u)=some xs:=by exact rfl)(hh:cx [] (ew (aM g f 0 u) u)=[]:=by exact rfl)(hm:cY (aX []) (aM g f 0 u) u xs=v:=by exact rfl)(hn:r.refs=[]:=by exact rfl)(hr:bo fr (bi (aM g f 0 u) u)=[]:=by exact rfl):ae g d i env fr (.call ⟨.value c,args,tys⟩) r fr []:=ae.cQ (hcl:=hcl) (hcal:=hcal) (hav:=hav) (hx:=hx) (hh:=hh) (hm:=hm) (hn:=hn) (hr:=hr)
def yc{g:Cfg}{d:Option (List Nat)}{i:Nat}{env:Env}{fr:Fr}{c:Operand}{args:Array Operand}{tys:Array TypeId}{f:Nat}{pa z u:List SV}{xs:List AV}{v:List SV}{r x:SV}{y fr':Fr}(hcl:Cl g f v [] r y)(hcal:dR (rd env c)=some (f,pa,z):=by exact rfl)(hav:pa++args.toList.map (rd env)++z=u:=by exact rfl)(hx:cz fr (bi (aM g f 0 u) u)=some xs:=by exact rfl)(hh:cx [] (ew (aM g f 0 u) u)=[]:=by exact rfl)(hm:cY (aX []) (aM g f 0 u) u xs=v:=by exact rfl)(hr:nF fr (dI d i) (bo fr (bi (aM g f 0 u) u)) r y=some (x,fr',[]):=by exact rfl):ae g d i env fr (.call ⟨.value c,args,tys⟩) x fr' []:=ae.call (hcl:=hcl) (hcal:=hcal) (hav:=hav) (hx:=hx) (hh:=hh) (hm:=hm) (hr:=hr)
def mJ{g:Cfg}{d:Option (List Nat)}{i:Nat}{env:Env}{fr:Fr}{c:Operand}{args:Array Operand}{tys:Array TypeId}{f n:Nat}{pa G u:List SV}{xs:List AV}{z:List SV}{r v:SV}{D y fr':Fr}(hcl:Cl g f z [] r D)(hcal:dR (rd env c)=some (f,pa,G):=by exact rfl)(hav:pa++args.toList.map (rd env)++G=u:=by exact rfl)(hx:cz fr (bi (aM g f 0 u) u)=some xs:=by exact rfl)(hh:cx [] (ew (aM g f 0 u) u)=[]:=by exact rfl)(hm:cY (aX []) (aM g f 0 u) u xs=z:=by exact rfl)(hr:dl r=false:=by exact rfl)(hd:dI d i=false:=by exact rfl)(hq:bo fr (bi (aM g f 0 u) u)=[]:=by kernel_rfl)(hn:fr.length=n:=by(first|exact oN|exact oO|exact oP|exact oQ|exact oR|exact oS|exact oT|exact oU|exact oV|exact oW|exact oX|exact oY|exact oZ|exact o4|exact o5))(hv:r.sub (dm [] n)=v:=by(conv=>lhs;whnf);try exact rfl)(he:c8 (dm [] n) D y:=by(repeat'(first|exact c8.nil|(with_reducible apply c8.row)|(with_reducible apply c8.o6)|(with_reducible apply c8.own)|((apply c8.box);(case hd=>(repeat'(first|exact aJ.nil|((first|with_reducible apply aJ.cons|apply aJ.cons);(case h=>(conv=>lhs;whnf);try exact rfl)))))))))(hf:aJ (fr++y) fr':=by(repeat'(first|exact aJ.nil|((first|with_reducible apply aJ.cons|apply aJ.cons);(case h=>(conv=>lhs;whnf);try exact rfl))))):ae g d i env fr (.call ⟨.value c,args,tys⟩) v fr' []:=ae.Ca (hcl:=hcl) (hcal:=hcal) (hav:=hav) (hx:=hx) (hh:=hh) (hm:=hm) (hr:=hr) (hd:=hd) (hq:=hq) (hn:=hn) (hv:=hv) (he:=he) (hf:=hf)
def gp{g:Cfg}{d:Option (List Nat)}{i:Nat}{env:Env}{fr:Fr}{c:Operand}{args:Array Operand}{tys:Array TypeId}{f h0:Nat}{ht:List Nat}(hs:List Nat){pa D u:List SV}{xs:List AV}{z:List SV}{r x:SV}{bs v fr' y:Fr}{ks:List Nat}(hcl:Cl g f z v r fr')(hdr:dI d i=false:=by exact rfl)(hcal:dR (rd env c)=some (f,pa,D):=by exact rfl)(hav:pa++args.toList.map (rd env)++D=u:=by exact rfl)(hx:cz fr (bi (aM g f 0 u) u)=some xs:=by exact rfl)(hh:cx [] (ew (aM g f 0 u) u)=h0::ht:=by exact rfl)(hs0:close fr 4 (h0::ht)=hs:=by kernel_rfl)(hf:bo fr (bi (aM g f 0 u) u)=[]:=by kernel_rfl)(hg:dx fr hs=some bs:=by exact rfl)(hc:kz hs bs=true:=by kernel_rfl)(hm:cY (aX hs) (aM g f 0 u) u xs=z:=by exact rfl)(hb:bs.map (fun b=>cL (b.sub (aX hs)))=v:=by exact rfl)(hk:kindOk hs fr' fr=true:=by exact rfl)(hv:r.sub (dm hs fr.length)=x:=by(conv=>lhs;whnf);try exact rfl)(hl:aJ (back hs fr fr') y:=by(repeat'(first|exact aJ.nil|((first|with_reducible apply aJ.cons|apply aJ.cons);(case h=>(conv=>lhs;whnf);try exact rfl)))))(hq:c_ hs fr'=ks:=by exact rfl):ae g d i env fr (.call ⟨.value c,args,tys⟩) x y ks:=ae.IH (hs:=hs) (hcl:=hcl) (hdr:=hdr) (hcal:=hcal) (hav:=hav) (hx:=hx) (hh:=hh) (hs0:=hs0) (hf:=hf) (hg:=hg) (hc:=hc) (hm:=hm) (hb:=hb) (hk:=hk) (hv:=hv) (hl:=hl) (hq:=hq)
def yd{g:Cfg}{d:Option (List Nat)}{i':Nat}{env:Env}{fr:Fr}{c:Operand}{args:Array Operand}{tys:Array TypeId}{f h0:Nat}{ht:List Nat}(hs:List Nat){pa D u:List SV}{xs:List AV}{v:List SV}{r x:SV}{bs y fr' z:Fr}{ks:List Nat}(hcl:Cl g f v y r fr')(hdr:dI d i'=false:=by exact rfl)(hcal:dR (rd env c)=some (f,pa,D):=by exact rfl)(hav:pa++args.toList.map (rd env)++D=u:=by exact rfl)(hx:cz fr (bi (aM g f 0 u) u)=some xs:=by exact rfl)(hh:cx [] (ew (aM g f 0 u) u)=h0::ht:=by exact rfl)(hs0:close fr 4 (h0::ht)=hs:=by kernel_rfl)(hf:bo fr (bi (aM g f 0 u) u)=[]:=by kernel_rfl)(hg:dx fr hs=some bs:=by exact rfl)(hc:kz hs bs=true:=by kernel_rfl)(hm:cY (aX hs) (aM g f 0 u) u xs=v:=by exact rfl)(hb:bs.map (fun b=>cL (b.sub (aX hs)))=y:=by exact rfl)(hk:kindOk hs fr' fr=true:=by exact rfl)(hr:(r.sub (dm hs fr.length),back hs fr fr',c_ hs fr')=(x,z,ks):=by exact rfl):ae g d i' env fr (.call ⟨.value c,args,tys⟩) x z ks:=ae.BU (hs:=hs) (hcl:=hcl) (hdr:=hdr) (hcal:=hcal) (hav:=hav) (hx:=hx) (hh:=hh) (hs0:=hs0) (hf:=hf) (hg:=hg) (hc:=hc) (hm:=hm) (hb:=hb) (hk:=hk) (hr:=hr)
def IU{g:Cfg}{d:Option (List Nat)}{i:Nat}{env:Env}{fr:Fr}{c:Operand}{args:Array Operand}{tys:Array TypeId}{f h0:Nat}{ht:List Nat}(hs:List Nat){pa D u:List SV}{xs:List AV}{z:List SV}{r x:SV}{bs v fr' fr1 y:Fr}{ks:List Nat}(hcl:Cl g f z v r fr')(hdr:dI d i=false:=by exact rfl)(hcal:dR (rd env c)=some (f,pa,D):=by exact rfl)(hav:pa++args.toList.map (rd env)++D=u:=by exact rfl)(hx:cz fr (bi (aM g f 0 u) u)=some xs:=by exact rfl)(hh:cx [] (ew (aM g f 0 u) u)=h0::ht:=by exact rfl)(hs0:close fr 4 (h0::ht)=hs:=by kernel_rfl)(hf:aJ (freeze fr (bo fr (bi (aM g f 0 u) u))) fr1:=by(repeat'(first|exact aJ.nil|((first|with_reducible apply aJ.cons|apply aJ.cons);(case h=>(conv=>lhs;whnf);try exact rfl)))))(hg:dx fr1 hs=some bs:=by exact rfl)(hc:kz hs bs=true:=by kernel_rfl)(hm:cY (aX hs) (aM g f 0 u) u xs=z:=by exact rfl)(hb:bs.map (fun b=>cL (b.sub (aX hs)))=v:=by exact rfl)(hk:kindOk hs fr' fr1=true:=by exact rfl)(hv:r.sub (dm hs fr.length)=x:=by(conv=>lhs;whnf);try exact rfl)(hl:aJ (back hs fr1 fr') y:=by(repeat'(first|exact aJ.nil|((first|with_reducible apply aJ.cons|apply aJ.cons);(case h=>(conv=>lhs;whnf);try exact rfl)))))(hq:c_ hs fr'=ks:=by exact rfl):ae g d i env fr (.call ⟨.value c,args,tys⟩) x y ks:=ae.II (hs:=hs) (hcl:=hcl) (hdr:=hdr) (hcal:=hcal) (hav:=hav) (hx:=hx) (hh:=hh) (hs0:=hs0) (hf:=hf) (hg:=hg) (hc:=hc) (hm:=hm) (hb:=hb) (hk:=hk) (hv:=hv) (hl:=hl) (hq:=hq)
inductive ye (q:Prop):Prop where
 |mk (h:q)
def ye.out{q:Prop}(h:ye q):q:=by cases h with|mk h=>exact h
def yf{p:Prop}(h:p:=by first
  |((with_reducible apply ae.r7);(case hcal|hav|hx|hh|hm=>exact rfl);(case hcl=>first|with_reducible assumption|assumption);(case hr=>exact rfl))
  |((with_reducible apply ae.cQ);(case hcal|hav|hx|hh|hm=>exact rfl);(case hcl=>first|with_reducible assumption|assumption);(case hn|hr=>exact rfl))
  |((with_reducible apply ae.Ca);(case hcal|hav|hx|hh|hm=>exact rfl);(case hcl=>first|with_reducible assumption|assumption);(case hr|hd=>exact rfl);(case hq=>kernel_rfl);(case hn=>(first|exact oN|exact oO|exact oP|exact oQ|exact oR|exact oS|exact oT|exact oU|exact oV|exact oW|exact oX|exact oY|exact oZ|exact o4|exact o5));(case hv=>(conv=>lhs;whnf);try exact rfl);(case he=>(repeat'(first|exact c8.nil|(with_reducible apply c8.row)|(with_reducible apply c8.o6)|((apply c8.box);(case hd=>(repeat'(first|exact aJ.nil|((with_reducible apply aJ.cons);(case h=>(conv=>lhs;whnf);try exact rfl))|(apply aJ.cons;(case h=>(conv=>lhs;whnf);try exact rfl)))))))));(case hf=>(repeat'(first|exact aJ.nil|((with_reducible apply aJ.cons);(case h=>(conv=>lhs;whnf);try exact rfl))|(apply aJ.cons;(case h=>(conv=>lhs;whnf);try exact rfl))))))
  |((with_reducible apply ae.call);(case hcal|hav|hx|hh|hm=>exact rfl);(case hcl=>first|with_reducible assumption|assumption);(case hr=>exact rfl))
  |((with_reducible apply ae.gm);(case hx|hi|hst=>exact rfl);(case h0=>omega);(case hb=>assumption))
  |((with_reducible apply ae.mul);(case hx|hy=>exact rfl);(case h=>omega))
  |exact ah):p:=h
def ar{p q:Prop}(h:q)(k:ye q->p:=by
 intro v
 repeat'(first
   |(with_reducible apply ac.seq)
   |(with_reducible apply ac.block)
   |((with_reducible apply ac.text);(try case hm=>exact rfl))
   |((with_reducible apply ac.drawn);(case hm=>exact rfl))
   |((with_reducible apply ac.nE);(case hm=>exact rfl))
   |((with_reducible apply ac.oK);(case hm|he=>exact rfl))
   |(with_reducible apply aa.oL)
   |(with_reducible apply ac.skip)
   |(with_reducible apply ac.exit)
   |(with_reducible apply ac.ret)
   |(with_reducible apply az)
   |(with_reducible apply cR)
   |(with_reducible apply aV)
   |(with_reducible apply bk)
   |(with_reducible apply bq)
   |(with_reducible apply cS)
   |((with_reducible apply ya);(case hj=>exact rfl))
   |((with_reducible apply ac.aA);(case hc=>exact rfl))
   |((with_reducible apply ac.aH);(case hc=>exact rfl))
   |((with_reducible apply aa.aE);(case hp=>first|assumption|omega))
   |((with_reducible apply aa.bC);(case hp=>first|assumption|omega))
   |((with_reducible apply aa.bc)<;>intro hq)
   |((with_reducible apply aa.gN);(case hp=>first|assumption|omega))
   |((with_reducible apply aa.dS);(case hp=>first|assumption|omega))
   |((with_reducible apply aa.fP)<;>intro hq)
   |((with_reducible apply aa.cd);(case hp=>first|assumption|omega))
   |((with_reducible apply aa.cA);(case hp=>first|assumption|omega))
   |((with_reducible apply aa.bg)<;>intro hq)
   |((with_reducible apply aa.fQ);(case hp=>first|assumption|omega))
   |((with_reducible apply aa.fB);(case hp=>first|assumption|omega))
   |((with_reducible apply aa.fg)<;>intro hq)
   |(with_reducible apply aa.ap)
   |(with_reducible apply aa.bj)
   |(with_reducible apply aa.nil)
   |((with_reducible apply aa.gf);(case hW=>exact rfl))
   |((with_reducible apply aB.oM);(case hck=>kernel_rfl))
   |(with_reducible apply aB.ap)
   |((with_reducible apply aB.u);(case hfl=>kernel_rfl);(case hx=>exact yf))
   |((with_reducible apply aa.aD);(case hW=>exact rfl);(case hx=>exact yf))
   |((with_reducible apply aa.u0);(case hx=>exact yf))
   |fail)
 all_goals first
  |exact⟨.inr rfl,rfl⟩
  |exact⟨_,rfl,rfl,⟨by omega,rfl⟩,by omega⟩
  |exact⟨_,rfl,rfl,by omega,by omega⟩
  |exact⟨_,rfl,rfl,⟨by omega,by omega⟩,by omega⟩
  |exact⟨_,rfl,rfl,⟨by omega,by assumption⟩,by omega⟩
  |(refine aZ (.inr rfl) rfl ?_;first|rfl|(simp_all;done)|(simp_all;omega)|(simp;done)|(simp;omega))
  |(apply ac.kQ;(case ho|hp|hl=>exact rfl);(case hs=>exact slt);exact v.out)
  |exact v.out
 ):p:=k (.mk h)
def af{p:Prop}(h:p:=by exact ar trivial):p:=h
open Go.ChangeShapes Go.WideShapes Go.Deep
def nH(P:Program):Nat->List Field->Option Nat
 |off,[]=>some off
 |off,f::u=>match Nat.beq f.offset off with
  |true=>nH P (off+P.cellsOf f.type) u
  |false=>none
def kT(P:Program):Nat->TypeId->Bool
 |0,_=>false
 |n+1,t=>match P.underlying t with
  |some (.int _)=>true
  |some .bool=>true
  |some .string=>true
  |some (.slice e)=>Nat.ble 1 (P.cellsOf e)&&(Nat.ble 8 (P.bytesOf e)&&kT P n e)
  |some (.struct u)=>(match nH P 0 u.toList with
   |some k=>Nat.beq k (P.cellsOf t)
   |none=>false)&&u.toList.all fun f=>kT P n f.type
  |_=>false
def dJ(R:TypeId->List AV->Prop):List Field->List AV->Prop
 |[],xs=>xs=[]
 |f::y,xs=>∃u v,xs=u++v/\R f.type u/\dJ R y v
def aN(P:Program):Nat->TypeId->List AV->Prop
 |0,_,_=>False
 |n+1,t,xs=>match P.underlying t with
  |some (.int k)=>∃m,xs=[.int k m]/\(Lit.int k m).wf=true
  |some .bool=>∃b,xs=[.bool b]
  |some .string=>∃s,xs=[.str s]/\s.size<=maxLen
  |some (.slice e)=>∃u,xs=[.arr u]/\u.length<=17592186044416/\∀v∈u,aN P n e v
  |some (.struct y)=>dJ (aN P n) y.toList xs
  |_=>False
def fh(l:List Nat):Prop:=∀n∈l,n<=reachBytes
def fh.je{a b:List Nat}(h:fh (a++b)):fh a/\fh b:=⟨fun n u=>h n (by simp[u]),fun n u=>h n (by simp[u])⟩
section
variable {H:Type} {enc:TypeId×Value->H} {P:Program} {w:World}
theorem Ci{e:TypeId}:∀{l:List (DataW H)},fh (DataW.weightsAll P e l)->∀d∈l,fh (d.weights P e)
 |[],_,d,hd=>by cases hd
 |x::l,h,d,hd=>by
  have u:=fh.je h;rcases List.mem_cons.1 hd with rfl|hd
  ·exact u.1
  ·exact Ci u.2 d hd
theorem Cj:∀{y:List TypeId} {l:List (DataW H)},fh (DataW.weightsEach P y l)->∀(i:Nat) (t:TypeId) (d:DataW H),y[i]?=some t->l[i]?=some d->fh (d.weights P t)
 |[],_,_,_,_,_,v,_=>by simp at v
 |_::_,[],_,_,_,_,_,hd=>by simp at hd
 |t::y,x::l,h,i,u,d,v,hd=>by
  have z:=fh.je h
  cases i with
  |zero=>simp at v hd;subst v hd;exact z.1
  |succ i=>exact Cj z.2 i u d (by simpa using v) (by simpa using hd)
def Vs(w:World)(xs:List AV)(cs:List Value):Prop:=xs.length=cs.length/\∀(j:Nat) (x:AV) (u:Value),xs[j]?=some x->cs[j]?=some u->VR (fun _=>True) w x u
def Vs.one{x:AV}{u:Value}(h:VR (fun _=>True) w x u):Vs w [x] [u]:=⟨rfl,fun j y v z D=>by
 cases j with
 |zero=>simp at z D;subst z D;exact h
 |succ j=>simp at z⟩
def Vs.je{xs ys:List AV}{cs ds:List Value}(h1:Vs w xs cs)(h2:Vs w ys ds):Vs w (xs++ys) (cs++ds):=by
 refine⟨by simp[h1.1,h2.1],fun j x u z y=>?_⟩;rcases Nat.lt_or_ge j xs.length with v|v
 ·rw[List.getElem?_append_left v]at z;rw[List.getElem?_append_left (by rw[<- h1.1];exact v)]at y;exact h1.2 j x u z y
 ·rw[List.getElem?_append_right v]at z;rw[List.getElem?_append_right (by rw[<- h1.1];exact v),<- h1.1]at y;exact h2.2 _ x u z y
theorem Ck{R:TypeId->List AV->Prop}{cs:List Value}{tot:Nat}(D:cs.length=tot):∀(fs:List Field) (v:Nat),v<=tot->nH P v fs=some tot->
  (∀f∈fs,∀c,(cs.drop f.offset).take (P.cellsOf f.type)=c->c.length=P.cellsOf f.type->∃ys,R f.type ys/\Vs w ys c)->∃xs,dJ R fs xs/\Vs w xs (cs.drop v)
 |[],v,Z,z,_=>by
  unfold nH at z;cases z;refine⟨[],rfl,?_,?_⟩
  ·simp[D]
  ·intro j x u hx;simp at hx
 |f::fs,v,Z,z,h=>by
  unfold nH at z;split at z
  ·rename_i y;have y:f.offset=v:=by simpa using y
   have G:∀(fs:List Field) (o:Nat),nH P o fs=some tot->o<=tot:=by
    intro fs
    induction fs with
    |nil=>intro o h;unfold nH at h;cases h;exact Nat.le_refl _
    |cons g gs ih=>
     intro o h;unfold nH at h;split at h
     ·have:=ih _ h;omega
     ·cases h
   have h1:=G _ _ z;obtain⟨U,hz,J⟩:=Ck D fs (v+P.cellsOf f.type) h1 z fun g V=>h g (List.mem_cons_of_mem _ V);obtain⟨ys,hy,I⟩:=h f List.mem_cons_self _ rfl (by rw[List.length_take,List.length_drop,y];omega);refine⟨ys++U,⟨ys,U,rfl,hy,hz⟩,?_⟩;have:=I.je J;rw[y]at this
   have e:(cs.drop v).take (P.cellsOf f.type)++cs.drop (v+P.cellsOf f.type)=cs.drop v:=by
    rw[<- List.drop_drop,List.take_append_drop]
   rwa[e]at this
  ·cases z
theorem yg:∀(n:Nat) (t:TypeId),kT P n t=true->∀(Z:Nat) (cs:List Value) (d:DataW H) (ps:List MemPlace),DataW.trod enc P w 0 (fun _=>true) true Z t cs=some (d,ps)->fh (d.weights P t)->∃xs,aN P n t xs/\Vs w xs cs
 |0,t,h=>by unfold kT at h;cases h
 |n+1,t,h=>by
  intro Z cs d ps ht V;unfold kT at h;unfold aN;split at h
  ·rename_i k y
   try simp only[y]
   obtain⟨m,rfl,_,be⟩:=DataW.trod_int y ht;exact⟨_,⟨m,rfl,be⟩,.one (.int k m)⟩
  ·rename_i y
   try simp only[y]
   obtain⟨b,rfl,_⟩:=DataW.trod_bool y ht;exact⟨_,⟨b,rfl⟩,.one (.bool b)⟩
  ·rename_i y
   try simp only[y]
   obtain⟨s,rfl,_,hs⟩:=DataW.trod_string y ht;exact⟨_,⟨s,rfl,hs⟩,.one (.str s)⟩
  ·rename_i e y
   try simp only[y]
   rw[Bool.and_eq_true,Bool.and_eq_true]at h;obtain⟨ak,al,aw⟩:=h;have ak:1<=P.cellsOf e:=by simpa using ak
   have al:8<=P.bytesOf e:=by simpa using al
   rcases open_slice y ht with⟨rfl,_⟩|⟨a,len,cap,m,k,D,Pl,rfl,_,hl,_,hm,hx,hi⟩
   ·exact⟨_,⟨[],rfl,by simp,fun cs ap=>by cases ap⟩,.one (.bO none 0)⟩
   ·simp only[if_true]at hm;subst hm;simp only[Prod.mk.injEq]at hx;rw[hx.1]at V;clear hx ht;rw[DataW.weights]at V;simp only[y]at V
    have ad:m*8<=reachBytes:=by
     have:=V _ (List.mem_cons_self);simp only[List.length_map,List.length_range]at this;have h2:m*8<=m*P.bytesOf e:=Nat.mul_le_mul_left _ al;have h3:len+(m - len)=m:=by omega
     rw[h3]at this;omega
    have bd:∀i,i <len->fh ((D i).weights P e):=by
     intro i I;have h2:fh (DataW.weightsAll P e ((List.range len).map D)):=fun n hn=>V n (List.mem_cons_of_mem _ (List.mem_append_left _ hn));exact Ci h2 _ (List.mem_map_of_mem (List.mem_range.2 I))
    have aS:∀i,i <len->∃z:List Value×List AV,w.cells? 0 (a.add (i*P.cellsOf e)) (P.cellsOf e)=some z.1/\aN P n e z.2/\Vs w z.2 z.1:=by
     intro i I;obtain⟨aL,hc,bc⟩:=hi i (by omega);obtain⟨ys,h1,h2⟩:=yg n e aw _ _ _ _ bc (bd i I);exact⟨(aL,ys),hc,h1,h2⟩
    obtain⟨f,hf⟩:=choose_lt aS
    have G:∀i,i <len->(f i).1.length=P.cellsOf e/\∀(j:Nat),j <P.cellsOf e->w.cell? ((a.add (i*P.cellsOf e)).add j)=some ((f i).1.getD j undef):=by
     intro i I;obtain⟨_,ao,aR⟩:=World.cells?_some (hf i I).1;refine⟨ao,fun j hj=>?_⟩;rw[aR j hj,List.getD_eq_getElem?_getD,List.getElem?_eq_getElem (by omega)];rfl
    have u:((List.range len).map fun i=>(f i).2).length=len:=by simp
    have aA:∀(k:Nat) (cs:List AV),((List.range len).map fun i=>(f i).2)[k]?=some cs->k <len/\cs=(f k).2:=by
     intro k cs U;have v:k <len:=by have:=aF U;simpa using this
     rw[List.getElem?_map,List.getElem?_range v]at U;exact⟨v,by simpa using U.symm⟩
    refine⟨[.arr ((List.range len).map fun i=>(f i).2)],⟨_,rfl,?_,?_⟩,.one ?_⟩
    ·rw[u];unfold reachBytes at ad;omega
    ·intro cs ap;obtain⟨i,I,rfl⟩:=List.mem_map.1 ap;exact(hf i (List.mem_range.1 I)).2.1
    ·rcases Nat.eq_zero_or_pos len with h0|h0
     ·subst h0;exact .bO _ _
     ·have an:=(G 0 h0).2 0 (by omega);obtain⟨b,o,sp⟩:=a;have hs:sp=none:=by simpa[Addr.add]using World.cell?_spot an
      subst hs
      have ab:∀i j:Nat,((⟨b,o,none⟩:Addr).add i).add j=⟨b,o+(i+j),none⟩:=by
       intro i j;unfold Addr.add;by_cases a6:i=0 <;>by_cases bb:j=0 <;>simp[a6,bb,Nat.add_assoc]
      have hb:b <w.heap.size:=by
       have:=ab 0 0;rw[Nat.zero_mul,this]at an;exact World.block_lt_of_cell? w _ an
      have:=VR.arr (M:=fun _=>True) (w:=w) b o m (P.cellsOf e) ((List.range len).map fun i=>(f i).2) (fun k j=>(f k).1.getD j undef) (by intro h;rw[h]at u;simp at u;omega) (by rw[u];unfold reachBytes at ad;omega) (by rw[u];exact hl) hb trivial
       (fun k cs U=>by
        obtain⟨v,rfl⟩:=aA k cs U;rw[(hf k v).2.2.1,(G k v).1])
       (fun k j U hj=>by
        rw[u]at U;rw[<- ab];exact(G k U).2 j hj)
       (fun k j cs x U hj=>by
        obtain⟨v,rfl⟩:=aA k cs U;have a_:j <(f k).1.length:=by rw[<- (hf k v).2.2.1];exact aF hj
        refine(hf k v).2.2.2 j x _ hj ?_;rw[List.getD_eq_getElem?_getD,List.getElem?_eq_getElem a_];rfl)
      rw[u]at this;exact this
  ·rename_i fs y
   try simp only[y]
   rw[Bool.and_eq_true]at h;obtain⟨J,ay⟩:=h;obtain⟨xs,k,_,hx,ao,bf,hf⟩:=DataW.trod_struct y ht;simp only[Prod.mk.injEq]at hx;rw[hx.1]at V;rw[DataW.weights]at V;simp only[y]at V;split at J
   ·rename_i tot aH;have au:tot=P.cellsOf t:=by simpa using J
    obtain⟨ys,h1,h2⟩:=Ck (w:=w) (R:=aN P n) (cs:=cs) (tot:=tot) (by rw[ao,au]) fs.toList 0 (Nat.zero_le _) aH (fun f aD c hc bg=>by
     obtain⟨i,hi,a1⟩:=List.mem_iff_getElem.1 aD
     have ag:fs[i]?=some f:=by
      rw[<- a1];simp at hi;simp[hi]
     have aI:=hf i f ag;have aE:i <xs.length:=by rw[bf];simpa using hi
     rw[List.getElem?_eq_getElem aE,hc]at aI;have aw:kT P n f.type=true:=List.all_eq_true.1 ay f aD;refine yg n f.type aw _ _ _ _ aI ?_;refine Cj V i f.type _ ?_ ?_
     ·rw[List.getElem?_map];simp[ag]
     ·rw[List.getElem?_map,List.getElem?_eq_getElem aE];rfl)
    exact⟨ys,h1,by simpa using h2⟩
   ·cases J
  ·cases h
end
section
variable {H:Type} {enc:TypeId×Value->H} {P:Program}
def IV{f:Func}{s:ChangeSpec}{apart fresh y V:Bool}{W W':World}{args:Array Value}{v:Value}{ds gs:List (DataW H)}{u pa pv:List MemPlace}
  (hW:DataW.Whole enc P f.params.toList s.vars apart W args.toList ds gs u)
  (U:∀(b:Nat) (Z:Nat->Bool) (hd:Bool),DataW.TrodAll enc P W' b Z hd f.resultTypes.toList (v.resultList f.resultTypes.size) (s.fn H (ds++gs)).results [])
  (z:∀Z:Nat->Bool,(∀p∈u,Z p.block=true)->DataW.TrodAll enc P W' 0 Z true f.params.toList args.toList (s.fn H (ds++gs)).args pa)
  (G:∀Z:Nat->Bool,(∀p∈u,Z p.block=true)->DataW.TrodVars enc P W' Z s.vars (s.fn H (ds++gs)).vars pv)
  (I:u=pa++pv)(hb:Below W.heap.size W W')
  (hok:∀(j:Nat) (t:TypeId) (r:Value),f.resultTypes[j]?=some t->(v.resultList f.resultTypes.size)[j]?=some r->Value.okWide P W' .any 0 t r):
  s.post enc P f apart fresh y V W args v W':=by
 have ad:∀p∈u,p.block <W.heap.size:=fun p D=>hW.lt p D;have J:∀p∈u,(fun b=>decide (b <W.heap.size)) p.block=true:=fun p D=>by simpa using ad p D
 refine⟨ds,gs,u,[],pa,pv,hW,U _ _ _,z _ J,G _ J,World.keptBut_mono (fun p D=>⟨D,?_⟩) (hb.frame (·∈u)),fun _=>?_⟩
 ·rw[I,List.mem_append]at D;exact Or.inr D
 ·obtain⟨_,_,_,_,_,hz,hn⟩:=hW;refine⟨hok,_,_,([]++pa)++pv,⟨[]++pa,pv,trodAll_append (z _ (fun _ _=>rfl)) (U _ _ _),G _ (fun _ _=>rfl),rfl,?_,?_⟩,?_⟩
  ·intro b ag D;have ab:MemPlace.cell b ag∈u:=by rw[I];simpa using D
   rw[hb.frozen (ad _ ab)];exact hz b ag ab
  ·intro ha;have:=hn ha;rw[I]at this;simpa using this
  ·intro p D _;rw[I];simpa using D
end
def dT(w:World)(e:Ending)(w':World):Prop:=e=.returned (.bool true)/\Below w.heap.size w w'
def dT.mk{w w':World}(h:Below w.heap.size w w'):dT w (.returned (.bool true)) w':=⟨rfl,h⟩
section
variable {H:Type} {enc:TypeId×Value->H}
def laidOut:laidOutB Tryz.prog=true:=by kernel_rfl
def IW{P:Program}(V:laidOutB P=true){W W':World}(hb:Below W.heap.size W W')(sp:Nat->Bool)(J:List TypeId):∀(vs:List Value) (ds:List (DataW H)) (z:List MemPlace),
  (∀t∈J,P.readableRec t=true/\t <P.types.size)->(∀x∈z,x.block <W.heap.size)->(∀p∈z,sp p.block=true)->
  DataW.TrodAll enc P W 0 (fun _=>true) true J vs ds z->DataW.TrodAll enc P W' 0 sp true J vs ds z:=by
 induction J with
 |nil=>
  intro vs ds z _ _ _ h;obtain⟨rfl,rfl,rfl⟩:=trodAll_nil h;exact trodAll_mk0
 |cons t J ih=>
  intro vs ds z ht D G h;obtain⟨v,Z,d,U,p,q,rfl,rfl,rfl,h0,hr⟩:=trodAll_cons h;have I:=ht t (by simp)
  exact trodAll_cons_mk (WideElems.Trod_stays V I.1 I.2 h0 (fun x y=>hb.same (D x (by simp[y]))) (fun x y=>G x (by simp[y])))
   (ih Z U q (fun u hu=>ht u (by simp[hu])) (fun x y=>D x (by simp[y])) (fun x y=>G x (by simp[y])) hr)
def IX:Value.resultList 1 (Value.bool true)=[Value.bool true]:=by kernel_rfl
set_option maxRecDepth 100000 in
theorem IY {F:FuncId} {f:Func} {s:ChangeSpec} {W:World} {args:Array Value} {ds gs:List (DataW H)} {z:List MemPlace} (y:s.vars=[]) (I:f.resultTypes=#[4])
  (G:(f.params.toList.all fun t=>Tryz.prog.readableRec t && decide (t < Tryz.prog.types.size))=true) (U:s.fn H ds={ results:=[.lit (.bool true)],args:=ds })
  (hW:DataW.Whole enc Tryz.prog f.params.toList s.vars false W args.toList ds gs z) (h:Calls Tryz.prog F args W (dT W)) :
  Calls Tryz.prog F args W fun e W'=>∃ v,e=.returned v/\s.post enc Tryz.prog f false true false false W args v W':=by
 refine h.mono fun e W' ⟨he,hb⟩=>⟨_,he,?_⟩;have D:=hW;obtain ⟨p,q,hA,hV,rfl,ab,ad⟩:=hW;have V:∀ x∈p++q,x.block < W.heap.size:=fun x J=>D.lt x J;rw [y] at hV;obtain ⟨rfl,rfl⟩:=trodVars_none hV;have u:s.fn H (ds++[])={ results:=[.lit (.bool true)],args:=ds }:=by rw [List.append_nil];exact U
 refine IV (pa:=p) (pv:=[]) D ?_ ?_ ?_ rfl hb ?_
 ·intro b sp hd;rw [u,I];exact trodAll_mk1 (shut_bool Tryz.underlying4 true)
 ·intro sp Z;rw [u];exact IW laidOut hb sp _ _ _ _ (fun t ht=>by have:=List.all_eq_true.1 G t ht;rw [Bool.and_eq_true] at this;exact ⟨this.1,of_decide_eq_true this.2⟩) (fun x J=>V x (by simp [J])) (fun x J=>Z x (by simp [J])) hA
 ·intro sp _;rw [u,y];rfl
 ·exact ok_one I IX (okWide_bool_mk Tryz.underlying4 true)
end
def yh(W:World):Ctx:=⟨fun _=>True,fun _=>False,fun _=>False,W,fun _=>none⟩
def IZ{γ:Glob}{W:World}(u:γ.G W)(hn:γ.n<=W.heap.size):av γ (yh W) [] (yh W).L W where
 glob:=u
 gn:=hn
 gx:=fun _ h=>h.elim
 fresh:=fun _ _=>trivial
 os:=rfl
 tape:=rfl
 output:=rfl
 size:=Nat.le_refl _
 kept:=fun _ _ _=>rfl
 lim:=fun _ _ h=>by cases h
 new:=fun _ _ _ _ h=>by cases h
 dis:=fun _ _ _ _ _ h=>by cases h
 hand:=fun _ _ h=>by cases h
 blk:=fun i v h=>by simp at h
def I0{g:Cfg}{γ:Glob}(hW:Wf g γ){F:Nat}{xs:List AV}{us:Array Value}{W:World}(hc:Cl g F (xs.map .t) [] (.t (.bool true)) [])(U:γ.G W)(hn:γ.n<=W.heap.size)(hv:Vs W xs us.toList):Calls g.P F us W (dT W):=by
 obtain⟨n,I⟩:=hc
 have h:=((sound hW n).1 F _ _ _ _ I).2 (yh W) W us (IZ U hn) rfl (by rw[List.length_map,hv.1];simp) (fun j x u D hu=>by
  rw[List.getElem?_map]at D
  cases J:xs[j]? with
  |none=>rw[J]at D;cases D
  |some y=>
   rw[J]at D;cases D;exact .t _ _ ((hv.2 j y u J (by simpa using hu)).on (Nat.le_refl _) fun b _ _=>⟨⟨trivial,fun⟨i,v,lb,h1,_⟩=>by cases h1⟩,rfl⟩))
 refine h.mono fun e w' ⟨v,L',Z,z,V⟩=>⟨?_,⟨z.os,z.tape,z.output,z.size,fun k hk=>z.kept k hk id⟩⟩;rw[Z]
 cases V with
 |t x v h=>cases h;rfl
def I1{H:Type}{P:Program}{v us:List TypeId}{ds y:List (DataW H)}(h:(DataW.weightsEach P (v++us) (ds++y)).all (·<=reachBytes)=true):fh (DataW.weightsEach P v ds):=by
 have z:fh (DataW.weightsEach P (v++us) (ds++y)):=fun n u=>by simpa using List.all_eq_true.1 h n u
 clear h
 induction v generalizing ds with
 |nil=>intro n u;simp[DataW.weightsEach]at u
 |cons t v D=>
  cases ds with
  |nil=>intro n u;simp[DataW.weightsEach]at u
  |cons d ds=>
   simp only[List.cons_append,DataW.weightsEach]at z⊢;have h1:=fh.je z;intro n u;rcases List.mem_append.1 u with h|h
   ·exact h1.1 n h
   ·exact D h1.2 n h
def Arg(P:Program)(m:Nat)(t:TypeId)(x:AV):Prop:=∃xs,aN P m t xs/\(match P.underlying t with
 |some (.struct _)=>x=.agg xs
 |_=>xs=[x])
def r9(P:Program)(m:Nat):List TypeId->List AV->Prop
 |[],xs=>xs=[]
 |t::v,xs=>∃x u,xs=x::u/\Arg P m t x/\r9 P m v u
def I2{W:World}{xs:List AV}{v:Value}(h:Vs W xs [v]):∃x,xs=[x]/\VR (fun _=>True) W x v:=by
 match xs,h with
 |[x],h=>exact⟨x,rfl,h.2 0 x v rfl rfl⟩
 |[],h=>simp[Vs]at h
 |_::_::_,h=>simp[Vs]at h
section
variable {H:Type} {enc:TypeId×Value->H} {P:Program} {W:World}
def I3{m b0:Nat}{t:TypeId}{v:Value}{d:DataW H}{Z:List MemPlace}(z:kT P m t=true)(hv:Value.okWide P W .any b0 t v)(h:DataW.Trod enc P W 0 (fun _=>true) true t v d Z)(hs:fh (d.weights P t)):∃x,Arg P m t x/\VR (fun _=>True) W x v:=by
 obtain⟨G,hf⟩:=h;obtain⟨xs,h1,h2⟩:=yg m t z G _ d Z hf hs
 have one:∀u,v.cells.toList=[u]->v=u->(∀D,P.underlying t≠some (.struct D))->∃x,Arg P m t x/\VR (fun _=>True) W x v:=fun u hc y J=>by
  rw[hc]at h2;obtain⟨x,rfl,V⟩:=I2 h2;refine⟨x,⟨[x],h1,?_⟩,y ▸ V⟩;split
  ·rename_i D I;exact absurd I (J D)
  ·rfl
 cases m with
 |zero=>unfold kT at z;cases z
 |succ m=>
  unfold kT at z;split at z
  ·rename_i k y;obtain⟨n,rfl⟩:=okWide_int y hv;exact one _ rfl rfl fun D h=>by rw[y]at h;cases h
  ·rename_i y;obtain⟨n,rfl⟩:=okWide_bool y hv;exact one _ rfl rfl fun D h=>by rw[y]at h;cases h
  ·rename_i y;obtain⟨n,rfl⟩:=okWide_string y hv;exact one _ rfl rfl fun D h=>by rw[y]at h;cases h
  ·rename_i e y;obtain⟨a,l,c,rfl⟩:=okWide_slice y hv;exact one _ rfl rfl fun D h=>by rw[y]at h;cases h
  ·rename_i D y;obtain⟨cs,rfl,_⟩:=okWide_struct y hv;refine⟨.agg xs,⟨xs,h1,by rw[y]⟩,.agg xs cs (by have:=h2.1;simp[Value.cells]at this;omega) fun j x u V U=>h2.2 j x u V (by simpa[Value.cells]using U)⟩
  ·cases z
theorem Cm{m b0:Nat}:∀(y:List TypeId) (vs:List Value) (ds:List (DataW H)) (Z:List MemPlace),(y.all fun t=>kT P m t)=true->(∀(j:Nat) t v,y[j]?=some t->vs[j]?=some v->Value.okWide P W .any b0 t v)->DataW.TrodAll enc P W 0 (fun _=>true) true y vs ds Z->fh (DataW.weightsEach P y ds)->ds.length=y.length/\∃xs,r9 P m y xs/\Vs W xs vs
 |[],vs,ds,Z,_,_,h,_=>by
  obtain⟨rfl,rfl,rfl⟩:=trodAll_nil h;exact⟨rfl,[],rfl,rfl,fun j x u J=>by simp at J⟩
 |t::y,vs,ds,Z,z,hv,h,hs=>by
  obtain⟨v,ab,d,D,p,q,rfl,rfl,rfl,h0,hr⟩:=trodAll_cons h;rw[List.all_cons,Bool.and_eq_true]at z;have G:=fh.je (show fh (d.weights P t++DataW.weightsEach P y D) from hs);obtain⟨x,J,U⟩:=I3 z.1 (hv 0 t v rfl rfl) h0 G.1;obtain⟨hl,ys,hy,V⟩:=Cm y ab D q z.2 (fun j t v ht I=>hv (j+1) t v (by simpa using ht) (by simpa using I)) hr G.2;exact⟨by simp[hl],x::ys,⟨x,ys,rfl,J,hy⟩,(Vs.one U).je V⟩
set_option maxRecDepth 100000 in
theorem Co {m b0:Nat} {g:Cfg} {γ:Glob} (hP:g.P=Tryz.prog) (V:Wf g γ) {F:FuncId} {f:Func} {s:ChangeSpec} {args:Array Value} {ds gs:List (DataW H)} {u:List MemPlace} {ts:List TypeId} (y:s.vars=[]) (ab:f.resultTypes=#[4])
  (D:(f.params.toList.all fun t=>Tryz.prog.readableRec t && decide (t < Tryz.prog.types.size))=true) (ag:(f.params.toList.all fun t=>kT Tryz.prog m t)=true) (Z:∀ ds:List (DataW H),ds.length=f.params.toList.length->s.fn H ds={ results:=[.lit (.bool true)],args:=ds })
  (I:∀ (j:Nat) t v,f.params[j]?=some t->args[j]?=some v->Value.okWide Tryz.prog W .any b0 t v)
  (hW:DataW.Whole enc Tryz.prog f.params.toList s.vars false W args.toList ds gs u) (ad:(DataW.weightsEach Tryz.prog (f.params.toList++ts) (ds++gs)).all (·<=reachBytes)=true)
  (hG:γ.G W) (hn:γ.n<=W.heap.size) (z:∀ xs,r9 Tryz.prog m f.params.toList xs->Cl g F (xs.map .t) [] (.t (.bool true)) []) :
  Calls Tryz.prog F args W fun e W'=>∃ v,e=.returned v/\s.post enc Tryz.prog f false true false false W args v W':=by
 have U:=hW;obtain ⟨p,q,J,hV,rfl,al,an⟩:=hW;have hA:DataW.TrodAll enc Tryz.prog W 0 (fun _=>true) true f.params.toList args.toList ds p:=J;obtain ⟨hl,xs,hx,ak⟩:=Cm f.params.toList args.toList ds p ag (fun j t v h1 h2=>I j t v (by simpa using h1) (by simpa using h2)) hA (I1 ad);refine IY y ab D (Z ds hl) U ?_;rw [<- hP];exact I0 V (z xs hx) hG hn ak
end
structure Ql (P:Program) (f:Nat):Prop where
 known:gh P f
 some:∀(blk off cap:Nat) (zs:List Int) (w:World),Sort.Holds (Value.int .i64) w blk off zs.toArray->blk <w.heap.size->zs.length <4611686018427387904->
  Calls P f #[.slice (some ⟨blk,off,none⟩) zs.length cap] w fun e w'=>e=.returned (.tuple #[])/\∃n os,w'=Sort.grow (Sort.putRow (Value.int .i64) (Sort.ahead w n) blk off (zs.mergeSort fun x y=>decide (x<=y)).toArray) os
 none:∀(p:Option Addr) (cap:Nat) (w:World),Calls P f #[.slice p 0 cap] w fun e w'=>e=.returned (.tuple #[])/\w'=w
end Go.Proofs.YtjolgbkkocjpgaaGreatDoor
