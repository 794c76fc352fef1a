/- The tree evaluator,22: rules for operations whose. No condition. -/
import Derived.Test.YtgbfedgghjcdcaaGreatDoorTC
import Derived.ProofKit
import Derived.OpenShut
import Derived.Deep.Slices
import Derived.SizedLaws
import Derived.ChangeSame
import Derived.Carry
import Derived.Deep.DeepHandedRow
import Derived.Lib.LaidTab
import Derived.LaidMore
import Derived.LaidSub
import Derived.Lib.SmallJoins
import Derived.Sort.OwnSortedInts
set_option linter.all false
namespace Go.Proofs.YtgbfedgghjcdcaaGreatDoor
open Go.RowKit
section
variable {ops:Array Oper} {env:Env} {j d:Nat} {W b:Bool}
end
section
variable {g:Cfg} {d:Option (List Nat)} {i:Nat} {env:Env} {fr:Fr}
def H3{C:CallF}{op:Op}{x:SV}(hw:fA op=false)(hc:jE op=false)(h:bt g.P fr env op=some x):step g C d i env fr op=some (x,fr,[]):=by
 unfold step
 cases d with
 |none=>simp only[bJ,hw,h]
 |some effs=>
  simp only
  cases bi effs i with
  |true=>simp only[bJ,hw,h]
  |false=>simp only[eX,hc,h];rfl
def ah.p{op:Op}{x:SV}(hw:fA op=false)(hc:jE op=false)(h:bt g.P fr env op=some x):ah g d i env fr op x fr []:=.r fun _=>H3 hw hc h
def ah.or{c x y:Operand}{b z:Bool}(hc:rd env c=.t (.bool b))(hx:rd env x=.t (.bool true))(hy:cE env y=tx (!b) (.t (.bool z))):ah g d i env fr (.pick c x y) (.t (.bool (b ||z))) fr []:=.p rfl rfl (by
 unfold bt
 cases b with
 |true=>simp only[hc];exact congrArg some hx
 |false=>simp only[hc];show some (un (cE env y))=_;rw[hy];rfl)
def ah.and{c x y:Operand}{b z:Bool}(hc:rd env c=.t (.bool b))(hx:cE env x=tx b (.t (.bool z)))(hy:rd env y=.t (.bool false)):ah g d i env fr (.pick c x y) (.t (.bool (b&&z))) fr []:=.p rfl rfl (by
 unfold bt
 cases b with
 |false=>simp only[hc];exact congrArg some hy
 |true=>simp only[hc];show some (un (cE env x))=_;rw[hx];rfl)
def ah.jl{b:BinOp}{xt yt:TypeId}{x y:Operand}{s s':SV}{r:AV}(hx:rd env x=s)(hy:rd env y=s')(h:gy g.P b xt (iT x ||iT y) s s'=some r):ah g d i env fr (.binOp b xt x y yt) (.t r) fr []:=.p rfl rfl (by unfold bt;simp only[hx,hy,h])
theorem ah.add{xt yt:TypeId}{x y:Operand}{m n:Int}(hx:rd env x=.t (.int .i64 m))(hy:rd env y=.t (.int .i64 n))(h : -9223372036854775808<=m+n/\m+n<=9223372036854775807):ah g d i env fr (.binOp .add xt x y yt) (.t (.int .i64 (m+n))) fr []:=
 .jl hx hy (by unfold gy;simp only[if_true,j9,IntWalk.i64_in _ h])
theorem ah.sub{xt yt:TypeId}{x y:Operand}{m n:Int}(hx:rd env x=.t (.int .i64 m))(hy:rd env y=.t (.int .i64 n))(h : -9223372036854775808<=m - n/\m - n<=9223372036854775807):ah g d i env fr (.binOp .sub xt x y yt) (.t (.int .i64 (m - n))) fr []:=
 .jl hx hy (by unfold gy;simp only[if_true,j9,IntWalk.i64_in _ h])
theorem ah.mul{xt yt:TypeId}{x y:Operand}{m n:Int}(hx:rd env x=.t (.int .i64 m))(hy:rd env y=.t (.int .i64 n))(h : -9223372036854775808<=m*n/\m*n<=9223372036854775807):ah g d i env fr (.binOp .mul xt x y yt) (.t (.int .i64 (m*n))) fr []:=
 .jl hx hy (by unfold gy;simp only[if_true,j9,IntWalk.i64_in _ h])
def ah.inc{xt yt:TypeId}{x y:Operand}{k:Nat}(hx:rd env x=.t (.int .i64 (k:Int)))(hy:rd env y=.t (.int .i64 1))(h:k<=9223372036854775806):ah g d i env fr (.binOp .add xt x y yt) (.t (.int .i64 ((k+1:Nat):Int))) fr []:=by
 have:=ah.add (g:=g) (d:=d) (i:=i) (env:=env) (fr:=fr) (xt:=xt) (yt:=yt) hx hy (by omega);exact this
def w8{sz:Nat}{es:List (List AV)}{m:Int}{c:AV}{cs:List AV}(h0:0<=m)(hc:es[m.toNat]?=some (c::cs))(hz:Nat.beq sz (cs.length+1)=true):elemAt sz es m=some (.t (.tp (c::cs))):=by
 unfold elemAt;rw[decide_eq_true h0];simp only[hc,hz]
def ah.xN{t e sz:Nat}{x y:Operand}{k:IntKind}{m:Int}{es:List (List AV)}{c:AV}{cs:List AV}(he:da g.P t=some (e,sz))(hx:rd env x=.t (.arr es))(hi:rd env y=.t (.int k m))(h0:0<=m)(hc:es[m.toNat]?=some (c::cs))(hz:Nat.beq sz (cs.length+1)=true):
  ah g d i env fr (.indexAddr t x y) (.t (.tp (c::cs))) fr []:=.p rfl rfl (by unfold bt gK;simp only[he,hx,hi,w8 h0 hc hz])
def ah.ix{t e sz:Nat}{x y:Operand}{k:IntKind}{q:Nat}{es:List (List AV)}{c:AV}{cs:List AV}(he:da g.P t=some (e,sz))(hx:rd env x=.t (.arr es))(hi:rd env y=.t (.int k (q:Int)))(hc:es[q]?=some (c::cs))(hz:Nat.beq sz (cs.length+1)=true):
  ah g d i env fr (.indexAddr t x y) (.t (.tp (c::cs))) fr []:=.xN he hx hi (by omega) (by rw[Int.toNat_natCast];exact hc) hz
def ah.Ep{t e sz r:Nat}{x y:Operand}{k:IntKind}{q:Nat}{ro tch:Bool}{es:List (List AV)}(he:da g.P t=some (e,sz))(hx:rd env x=.ls r)(hi:rd env y=.t (.int k (q:Int)))(hb:fr[r]?=some (.row ro tch sz es))(hq:q <es.length):
  ah g d i env fr (.indexAddr t x y) (.le r sz q 0) fr []:=.p rfl rfl (by
 have h1:gJ (q:Int) es.length=true:=by
  unfold gJ;rw[Int.toNat_natCast,Bool.and_eq_true,Nat.blt_eq];exact⟨decide_eq_true (by omega),hq⟩
 have h2:Nat.beq sz sz=true:=by simp
 unfold bt gK;simp only[he,hx,hi,hb,h1,h2,Int.toNat_natCast])
def ah.Er{t e sz r:Nat}{x y:Operand}{k:IntKind}{m:Int}{ro tch:Bool}{es:List (List AV)}(he:da g.P t=some (e,sz))(hx:rd env x=.ls r)(hi:rd env y=.t (.int k m))(hb:fr[r]?=some (.row ro tch sz es))(h0:0<=m)(hq:m.toNat <es.length):
  ah g d i env fr (.indexAddr t x y) (.le r sz m.toNat 0) fr []:=.p rfl rfl (by
 have h1:gJ m es.length=true:=by
  unfold gJ;rw[Bool.and_eq_true,Nat.blt_eq];exact⟨decide_eq_true h0,hq⟩
 have h2:Nat.beq sz sz=true:=by simp
 unfold bt gK;simp only[he,hx,hi,hb,h1,h2])
def ah.ya{t n r sz q j:Nat}{y:Operand}{ro tch:Bool}{es:List (List AV)}{cs:List AV}{c:AV}(ht:bm g.P t=some (false,n))(hy:rd env y=.le r sz q j)(hb:fr[r]?=some (.row ro tch sz es))(hk:es[q]?=some cs)(hj:cs[j]?=some c):ah g d i env fr (.load t y) (.t c) fr []:=.p rfl rfl (by
 have h2:Nat.beq sz sz=true:=by simp
 unfold bt eK;simp only[ht,hy,hb,h2,hk,hj])
def EY{P:Program}{t:Nat}{s:SV}{es:List (List AV)}(hs:gL P t=true)(hy:gT fr s=some es):l_ P fr (some t) s=some (.t (.int .i64 es.length)):=by
 have u:∀q,s≠.t (.str q):=fun q h=>by subst h;unfold gT at hy;simp at hy
 unfold l_
 cases s with
 |t x=>cases x <;>first|(exact absurd rfl (u _))|(simp only[hs,hy])
 |_=>simp only[hs,hy]
theorem ah.len{y:Operand}{tys:Array TypeId}{t:Nat}{args:Array Operand}{es:List (List AV)}{n:Nat}(ha:args.toList=[y])(hy:gT fr (rd env y)=some es)(ht:tys[0]?=some t)(hs:gL g.P t=true)(hn:es.length=n):ah g d i env fr (.call ⟨.builtin .len,args,tys⟩) (.t (.int .i64 (n:Int))) fr []:=.p rfl rfl (by
 subst hn;unfold bt oL;simp only[ha,ht];exact EY hs hy)
def ah.str{t n r sz q j:Nat}{a y:Operand}{tch:Bool}{es:List (List AV)}{cs:List AV}{c:AV}{v:Bool}{effOk:∀C:CallF,step g C d i env fr (.store t a y)=bJ g C env fr (.store t a y)}(ht:bm g.P t=some (v,n))(ha:rd env a=.le r sz q j)(hy:rd env y=.t c)(hone:cQ (.t c)=true)(hn:Nat.beq 1 n=true)(hb:fr[r]?=some (.row false tch sz es))(hk:es[q]?=some cs)(hj:Nat.ble (j+1) cs.length=true):ah g d i env fr (.store t a y) .dead (fr.set r (.row false tch sz (es.set q (cs.set j c)))) []:=.r fun C=>by
 obtain rfl:1=n:=by simpa using hn
 have h2:Nat.beq sz sz=true:=by simp
 have u:bo (.t c)=[.t c]:=by cases c <;>first|rfl|(simp[cQ]at hone)
 rw[effOk C];unfold bJ;simp only[fA];unfold bu;simp only;unfold fW;simp only[ht,ha,hy,u,List.all_cons,hone,List.all_nil,Bool.and_self,List.length_cons,List.length_nil,hb,h2,hk,hj,bZ,fJ,deep,bg,kG,bi,List.any_nil,iX,freeze];rfl
def lK(fr:Fr)(y:Bool)(v:List Nat)(r:SV)(u:Fr):Option cT:=match cI r with
 |true=>some (r,fr,[])
 |false=>match y with
  |false=>some (r.sub (cC [] fr.length),freeze fr v++u.map (fun b=>b6 (b.sub (cC [] fr.length))),[])
  |true=>match o_ fr v with
   |true=>match r.refs with
    |[]=>some (r,fr,[])
    |_=>match fJ u deep r with
     |some x=>some (.t x,fr,[])
     |none=>none
   |false=>none
def B9{C:CallF}{v:Bool}{f:Nat}{args:List SV}{xs:List AV}{u:List SV}{r:SV}{y:Fr}(hx:bZ fr (a8 (aK g f 0 args) args)=some xs)(hh:bR [] (du (aK g f 0 args) args)=[])(hm:cy (aT []) (aK g f 0 args) args xs=u)(hc:C f u []=some (r,y)):
  fu g C v fr f args=lK fr v (bg fr (a8 (aK g f 0 args) args)) r y:=by
 subst hm;unfold fu lK;simp only[hx,hh,hc];cases cI r <;>rfl
def cX:Option (List Nat)->Nat->Bool
 |none,_=>false
 |some e,i=>!bi e i
def Aq{C:CallF}{c:Operand}{args:Array Operand}{tys:Array TypeId}:step g C d i env fr (.call ⟨.value c,args,tys⟩)=bu g C (cX d i) env fr (.call ⟨.value c,args,tys⟩):=by
 cases d with
 |none=>rfl
 |some e=>
  unfold step cX;simp only;cases bi e i <;>rfl
theorem ah.call{c:Operand}{args:Array Operand}{tys:Array TypeId}{f:Nat}{pa z u:List SV}{xs:List AV}{v:List SV}{r x:SV}{y fr':Fr}(hcl:Cl g f v [] r y)(hcal:c8 (rd env c)=some (f,pa,z))(hav:pa++args.toList.map (rd env)++z=u)(hx:bZ fr (a8 (aK g f 0 u) u)=some xs)(hh:bR [] (du (aK g f 0 u) u)=[])(hm:cy (aT []) (aK g f 0 u) u xs=v)
  (hr:lK fr (cX d i) (bg fr (a8 (aK g f 0 u) u)) r y=some (x,fr',[])):ah g d i env fr (.call ⟨.value c,args,tys⟩) x fr' []:=by
 obtain⟨n,D⟩:=hcl;refine⟨n,?_⟩;subst hav;rw[Aq];unfold bu;simp only;unfold jY;simp only[hcal];rw[B9 hx hh hm D];exact hr
end
section
variable {g:Cfg} {f:Nat} {env:Env} {fr:Fr} {d:Option (List Nat)} {ops:Array Oper} {i i':Nat} {K':Env->Fr->Prop} {l:List Oper} {dst:Option Tmp} {op:Op} {ty:TypeId} {pos:String} {after:Array Edge} {fr':Fr}
def ab.u0{x:SV}(hx:ah g d i env fr op x fr' [])(h:ab g d ops (i+1) l (aD env dst x) fr' K'):ab g d ops i (⟨dst,op,ty,pos,after,none⟩::l) env fr K':=ab.u hx h
def ab.au{j:Nat}{u:Bool}{x:SV}(hW:db ops env j u=some true)(hx:ah g d i env fr op x fr' [])(h:ab g d ops (i+1) l (aD env dst (.aN x)) fr' K'):ab g d ops i (⟨dst,op,ty,pos,after,some (j,u)⟩::l) env fr K':=ab.gt hW hx h
def ah.mv{y:Operand}{v:SV}(h:rd env y=v):ah g d i env fr (.move y) v fr []:=.p rfl rfl (by unfold bt;simp only[h])
def ah.asg{y:Operand}{v:SV}(h:rd env y=v):ah g d i env fr (.assign y) v fr []:=.p rfl rfl (by unfold bt;simp only[h])
def ah.F3{c x y:Operand}{v:SV}(hc:rd env c=.t (.bool true))(h:rd env x=v):ah g d i env fr (.pick c x y) v fr []:=.p rfl rfl (by unfold bt;simp only[hc,h])
def ah.F0{c x y:Operand}{v:SV}(hc:rd env c=.t (.bool false))(h:rd env y=v):ah g d i env fr (.pick c x y) v fr []:=.p rfl rfl (by unfold bt;simp only[hc,h])
def ah.Dx{z v i j u n:Nat}{y:Operand}(hy:rd env y=.lp i j)(ho:o4 g.P z v=some u)(hn:j+u=n):ah g d i' env fr (.fieldAddr z y v) (.lp i n) fr []:=.p rfl rfl (by
 subst hn;unfold bt o0;simp only[ho,hy])
def ah.Dw{z v r sz k j u n:Nat}{y:Operand}(hy:rd env y=.le r sz k j)(ho:o4 g.P z v=some u)(hn:j+u=n):ah g d i' env fr (.fieldAddr z y v) (.le r sz k n) fr []:=.p rfl rfl (by
 subst hn;unfold bt o0;simp only[ho,hy])
def ah.eqs{t:Nat}{x y:Operand}{yt:TypeId}{cs ds:List AV}{n:Nat}{r:Bool}(hx:rd env x=.t (.agg cs))(hy:rd env y=.t (.agg ds))(hg:g.P.eqGuardType g.P.depth t=false)(ht:bm g.P t=some (true,n))(hr:gF g.P 20 t cs ds=some r):ah g d i' env fr (.binOp .eql t x y yt) (.t (.bool r)) fr []:=.jl hx hy (by unfold gy oE;simp only[hg,ht,hr,eA])
def ah.yB{t:Nat}{x y:Operand}{yt:TypeId}{cs ds:List AV}{n:Nat}{r:Bool}(hx:rd env x=.t (.agg cs))(hy:rd env y=.t (.agg ds))(hg:g.P.eqGuardType g.P.depth t=false)(ht:bm g.P t=some (true,n))(hr:gF g.P 20 t cs ds=some r):ah g d i' env fr (.binOp .neq t x y yt) (.t (.bool (!r))) fr []:=.jl hx hy (by unfold gy oE;simp only[hg,ht,hr,eA])
def ah.oJ{t len:Nat}{parts:Array (Nat×Operand)}{es:List (List AV)}(hw:fA (.buildSlice t len parts)=false)(ho:(parts.toList.all fun p=>(bo (rd env p.2)).all cQ)=true)(h:oK g.P t len (parts.toList.map fun p=>(p.1,rd env p.2))=some es):ah g d i' env fr (.buildSlice t len parts) (.tc es) fr []:=.p hw rfl (by unfold bt;simp only[ho,h])
def ah.lk{t e:Nat}{u:TypeDesc}{x k:Operand}{ok:Bool}{v:AV}{ks:List AV}{vs:List SV}{z:SV}(hm:iy g.P t=some (e,u))(hk:rd env k=.t v)(ho:mapOf fr (rd env x)=some (ks,vs))(hf:dY u v ks 0=some none)(hz:mB g.P e=some z):ah g d i' env fr (.lookup t x k ok) (iz ok z false) fr []:=.p rfl rfl (by unfold bt ma;simp only[hm,hk,ho,hf,hz])
def ah.kx{t e j:Nat}{u:TypeDesc}{x k:Operand}{ok:Bool}{v:AV}{ks:List AV}{vs:List SV}{z:SV}(hm:iy g.P t=some (e,u))(hk:rd env k=.t v)(ho:mapOf fr (rd env x)=some (ks,vs))(hf:dY u v ks 0=some (some j))(hz:vs[j]?=some z):ah g d i' env fr (.lookup t x k ok) (iz ok z true) fr []:=.p rfl rfl (by unfold bt ma;simp only[hm,hk,ho,hf,hz])
def ah.wI{c:Operand}{args:Array Operand}{tys:Array TypeId}{f h0:Nat}{ht hs:List Nat}{pa D u:List SV}{xs:List AV}{v:List SV}{r x:SV}{fr1 bs y fr' z:Fr}{ks:List Nat}(hcl:Cl g f v y r fr')(hdr:cX d i'=false)(hcal:c8 (rd env c)=some (f,pa,D))(hav:pa++args.toList.map (rd env)++D=u)(hx:bZ fr (a8 (aK g f 0 u) u)=some xs)(hh:bR [] (du (aK g f 0 u) u)=h0::ht)
  (hs0:close fr 4 (h0::ht)=hs)(hf:freeze fr (bg fr (a8 (aK g f 0 u) u))=fr1)(hg:cJ fr1 hs=some bs)(hc:iM hs bs=true)(hm:cy (aT hs) (aK g f 0 u) u xs=v)(hb:bs.map (fun b=>b6 (b.sub (aT hs)))=y)(hk:kindOk hs fr' fr1=true)(hr:(r.sub (cC hs fr.length),back hs fr1 fr',cA hs fr')=(x,z,ks)):ah g d i' env fr (.call ⟨.value c,args,tys⟩) x z ks:=by
 obtain⟨n,G⟩:=hcl;refine⟨n,?_⟩;subst hav hs0 hf hm hb;rw[Aq,hdr];unfold bu;simp only;unfold jY;simp only[hcal];unfold fu;simp only[hx,hh,hg,hc,G,hk,hr]
def ab.mL{o:Oper}{u l2:List Oper}(h:ab g d ops i (o::List.append u l2) env fr K'):ab g d ops i (List.append (o::u) l2) env fr K':=h
def ab.mM{l2:List Oper}(h:ab g d ops i l2 env fr K'):ab g d ops i (List.append [] l2) env fr K':=h
def ab.oH{u l2 v:List Oper}(h:ab g d ops i (List.append u (List.append l2 v)) env fr K'):ab g d ops i (List.append (List.append u l2) v) env fr K':=by
 have e:List.append (List.append u l2) v=List.append u (List.append l2 v):=List.append_assoc u l2 v;rw[e];exact h
def ah.jm{t:Nat}{parts:Array (Nat×Operand)}{cs:List SV}{v:SV}(ho:(parts.toList.all fun p=>(bo (rd env p.2)).all cQ)=true)(h:qi g.P t (parts.toList.map fun p=>(p.1,rd env p.2))=some cs)(hv:jk cs=v):ah g d i' env fr (.build t parts) v fr []:=.p rfl rfl (by unfold bt;simp only[ho,h,hv])
def ah.wJ{c:Operand}{args:Array Operand}{tys:Array TypeId}{f h0:Nat}{ht:List Nat}(hs:List Nat){pa D u:List SV}{xs:List AV}{v:List SV}{r x:SV}{bs y fr' z:Fr}{ks:List Nat}(hcl:Cl g f v y r fr')(hdr:cX d i'=false)(hcal:c8 (rd env c)=some (f,pa,D))(hav:pa++args.toList.map (rd env)++D=u)(hx:bZ fr (a8 (aK g f 0 u) u)=some xs)(hh:bR [] (du (aK g f 0 u) u)=h0::ht)
  (hs0:close fr 4 (h0::ht)=hs)(hf:bg fr (a8 (aK g f 0 u) u)=[])(hg:cJ fr hs=some bs)(hc:iM hs bs=true)(hm:cy (aT hs) (aK g f 0 u) u xs=v)(hb:bs.map (fun b=>b6 (b.sub (aT hs)))=y)(hk:kindOk hs fr' fr=true)(hr:(r.sub (cC hs fr.length),back hs fr fr',cA hs fr')=(x,z,ks)):ah g d i' env fr (.call ⟨.value c,args,tys⟩) x z ks:=ah.wI hcl hdr hcal hav hx hh hs0 (by rw[hf];rfl) hg hc hm hb hk hr
def ab.eN{j:Nat}{t:Tmp}{b:Bool}(ht:b=true->ab g d ops j l (aD env (some t) (.t (.bool true))) fr K')(hf:b=false->ab g d ops j l (aD env (some t) (.t (.bool false))) fr K'):ab g d ops j l (aD env (some t) (.t (.bool b))) fr K':=by
 cases b with
 |true=>exact ht rfl
 |false=>exact hf rfl
def ab.e_{j:Nat}{t:Tmp}{b:Bool}(ht:b=true->ab g d ops j l (aD env (some t) (.aN (.t (.bool true)))) fr K')(hf:b=false->ab g d ops j l (aD env (some t) (.aN (.t (.bool false)))) fr K'):ab g d ops j l (aD env (some t) (.aN (.t (.bool b)))) fr K':=by
 cases b with
 |true=>exact ht rfl
 |false=>exact hf rfl
section
variable {j:Nat} {t:Tmp} {p:Prop} [Decidable p]
def ab.ao(hp:p)(h:ab g d ops j l (aD env (some t) (.t (.bool true))) fr K'):ab g d ops j l (aD env (some t) (.t (.bool (decide p)))) fr K':=.eN (fun _=>h) (fun h=>absurd hp (of_decide_eq_false h))
def ab.aw(hp:¬p)(h:ab g d ops j l (aD env (some t) (.t (.bool false))) fr K'):ab g d ops j l (aD env (some t) (.t (.bool (decide p)))) fr K':=.eN (fun h=>absurd (of_decide_eq_true h) hp) (fun _=>h)
def ab.aU(ht:p->ab g d ops j l (aD env (some t) (.t (.bool true))) fr K')(hf:¬p->ab g d ops j l (aD env (some t) (.t (.bool false))) fr K'):ab g d ops j l (aD env (some t) (.t (.bool (decide p)))) fr K':=.eN (fun h=>ht (of_decide_eq_true h)) (fun h=>hf (of_decide_eq_false h))
def ab.bh(hp:p)(h:ab g d ops j l (aD env (some t) (.aN (.t (.bool true)))) fr K'):ab g d ops j l (aD env (some t) (.aN (.t (.bool (decide p))))) fr K':=.e_ (fun _=>h) (fun h=>absurd hp (of_decide_eq_false h))
def ab.aV(hp:¬p)(h:ab g d ops j l (aD env (some t) (.aN (.t (.bool false)))) fr K'):ab g d ops j l (aD env (some t) (.aN (.t (.bool (decide p))))) fr K':=.e_ (fun h=>absurd (of_decide_eq_true h) hp) (fun _=>h)
def ab.a_(ht:p->ab g d ops j l (aD env (some t) (.aN (.t (.bool true)))) fr K')(hf:¬p->ab g d ops j l (aD env (some t) (.aN (.t (.bool false)))) fr K'):ab g d ops j l (aD env (some t) (.aN (.t (.bool (decide p))))) fr K':=.e_ (fun h=>ht (of_decide_eq_true h)) (fun h=>hf (of_decide_eq_false h))
def ab.fa(hp:¬p)(h:ab g d ops j l (aD env (some t) (.t (.bool true))) fr K'):ab g d ops j l (aD env (some t) (.t (.bool (!decide p)))) fr K':=by rw[decide_eq_false hp];exact h
def ab.cz(hp:p)(h:ab g d ops j l (aD env (some t) (.t (.bool false))) fr K'):ab g d ops j l (aD env (some t) (.t (.bool (!decide p)))) fr K':=by rw[decide_eq_true hp];exact h
def ab.fV(ht:¬p->ab g d ops j l (aD env (some t) (.t (.bool true))) fr K')(hf:p->ab g d ops j l (aD env (some t) (.t (.bool false))) fr K'):ab g d ops j l (aD env (some t) (.t (.bool (!decide p)))) fr K':=if h:p then .cz h (hf h)else .fa h (ht h)
def ab.dQ(hp:¬p)(h:ab g d ops j l (aD env (some t) (.aN (.t (.bool true)))) fr K'):ab g d ops j l (aD env (some t) (.aN (.t (.bool (!decide p))))) fr K':=by rw[decide_eq_false hp];exact h
def ab.dF(hp:p)(h:ab g d ops j l (aD env (some t) (.aN (.t (.bool false)))) fr K'):ab g d ops j l (aD env (some t) (.aN (.t (.bool (!decide p))))) fr K':=by rw[decide_eq_true hp];exact h
def ab.ed(ht:¬p->ab g d ops j l (aD env (some t) (.aN (.t (.bool true)))) fr K')(hf:p->ab g d ops j l (aD env (some t) (.aN (.t (.bool false)))) fr K'):ab g d ops j l (aD env (some t) (.aN (.t (.bool (!decide p))))) fr K':=if h:p then .dF h (hf h)else .dQ h (ht h)
end
def ab.af{P:Env->Fr->Prop}{K:Out->Env->Fr->Prop}(h:P env fr):ab g d ops i [] env fr (fun e r=>gW P K .normal e r):=ab.nil h
def ab.bM{id:Nat}{K:Out->Env->Fr->Prop}(h:K .normal env fr):ab g d ops i [] env fr (fun e r=>jn id K .normal e r):=ab.nil h
variable {effs:List Nat}
def ax.mL{o:Oper}{u l2:List Oper}(h:ax g effs ops i (o::List.append u l2) env fr K'):ax g effs ops i (List.append (o::u) l2) env fr K':=h
def ax.mM{l2:List Oper}(h:ax g effs ops i l2 env fr K'):ax g effs ops i (List.append [] l2) env fr K':=h
def ax.oH{u l2 v:List Oper}(h:ax g effs ops i (List.append u (List.append l2 v)) env fr K'):ax g effs ops i (List.append (List.append u l2) v) env fr K':=by
 have e:List.append (List.append u l2) v=List.append u (List.append l2 v):=List.append_assoc u l2 v;rw[e];exact h
def ax.eN{j:Nat}{t:Tmp}{b:Bool}(ht:b=true->ax g effs ops j l (aD env (some t) (.t (.bool true))) fr K')(hf:b=false->ax g effs ops j l (aD env (some t) (.t (.bool false))) fr K'):ax g effs ops j l (aD env (some t) (.t (.bool b))) fr K':=by
 cases b with
 |true=>exact ht rfl
 |false=>exact hf rfl
def ax.e_{j:Nat}{t:Tmp}{b:Bool}(ht:b=true->ax g effs ops j l (aD env (some t) (.aN (.t (.bool true)))) fr K')(hf:b=false->ax g effs ops j l (aD env (some t) (.aN (.t (.bool false)))) fr K'):ax g effs ops j l (aD env (some t) (.aN (.t (.bool b)))) fr K':=by
 cases b with
 |true=>exact ht rfl
 |false=>exact hf rfl
section
variable {j:Nat} {t:Tmp} {p:Prop} [Decidable p]
def ax.ao(hp:p)(h:ax g effs ops j l (aD env (some t) (.t (.bool true))) fr K'):ax g effs ops j l (aD env (some t) (.t (.bool (decide p)))) fr K':=.eN (fun _=>h) (fun h=>absurd hp (of_decide_eq_false h))
def ax.aw(hp:¬p)(h:ax g effs ops j l (aD env (some t) (.t (.bool false))) fr K'):ax g effs ops j l (aD env (some t) (.t (.bool (decide p)))) fr K':=.eN (fun h=>absurd (of_decide_eq_true h) hp) (fun _=>h)
def ax.aU(ht:p->ax g effs ops j l (aD env (some t) (.t (.bool true))) fr K')(hf:¬p->ax g effs ops j l (aD env (some t) (.t (.bool false))) fr K'):ax g effs ops j l (aD env (some t) (.t (.bool (decide p)))) fr K':=.eN (fun h=>ht (of_decide_eq_true h)) (fun h=>hf (of_decide_eq_false h))
def ax.bh(hp:p)(h:ax g effs ops j l (aD env (some t) (.aN (.t (.bool true)))) fr K'):ax g effs ops j l (aD env (some t) (.aN (.t (.bool (decide p))))) fr K':=.e_ (fun _=>h) (fun h=>absurd hp (of_decide_eq_false h))
def ax.aV(hp:¬p)(h:ax g effs ops j l (aD env (some t) (.aN (.t (.bool false)))) fr K'):ax g effs ops j l (aD env (some t) (.aN (.t (.bool (decide p))))) fr K':=.e_ (fun h=>absurd (of_decide_eq_true h) hp) (fun _=>h)
def ax.a_(ht:p->ax g effs ops j l (aD env (some t) (.aN (.t (.bool true)))) fr K')(hf:¬p->ax g effs ops j l (aD env (some t) (.aN (.t (.bool false)))) fr K'):ax g effs ops j l (aD env (some t) (.aN (.t (.bool (decide p))))) fr K':=.e_ (fun h=>ht (of_decide_eq_true h)) (fun h=>hf (of_decide_eq_false h))
def ax.fa(hp:¬p)(h:ax g effs ops j l (aD env (some t) (.t (.bool true))) fr K'):ax g effs ops j l (aD env (some t) (.t (.bool (!decide p)))) fr K':=by rw[decide_eq_false hp];exact h
def ax.cz(hp:p)(h:ax g effs ops j l (aD env (some t) (.t (.bool false))) fr K'):ax g effs ops j l (aD env (some t) (.t (.bool (!decide p)))) fr K':=by rw[decide_eq_true hp];exact h
def ax.fV(ht:¬p->ax g effs ops j l (aD env (some t) (.t (.bool true))) fr K')(hf:p->ax g effs ops j l (aD env (some t) (.t (.bool false))) fr K'):ax g effs ops j l (aD env (some t) (.t (.bool (!decide p)))) fr K':=if h:p then .cz h (hf h)else .fa h (ht h)
def ax.dQ(hp:¬p)(h:ax g effs ops j l (aD env (some t) (.aN (.t (.bool true)))) fr K'):ax g effs ops j l (aD env (some t) (.aN (.t (.bool (!decide p))))) fr K':=by rw[decide_eq_false hp];exact h
def ax.dF(hp:p)(h:ax g effs ops j l (aD env (some t) (.aN (.t (.bool false)))) fr K'):ax g effs ops j l (aD env (some t) (.aN (.t (.bool (!decide p))))) fr K':=by rw[decide_eq_true hp];exact h
def ax.ed(ht:¬p->ax g effs ops j l (aD env (some t) (.aN (.t (.bool true)))) fr K')(hf:p->ax g effs ops j l (aD env (some t) (.aN (.t (.bool false)))) fr K'):ax g effs ops j l (aD env (some t) (.aN (.t (.bool (!decide p))))) fr K':=if h:p then .dF h (hf h)else .dQ h (ht h)
end
def ax.mb{u:Nat}{ds:List Nat}{P:Env->Fr->Prop}{K:Out->Env->Fr->Prop}(hck:lT u ds env fr=true)(h:P env fr):ax g effs ops i [] env fr (fun e r=>lT u ds e r=true/\gW P K .normal e r):=.nil ⟨hck,h⟩
def ax.yF{u:Nat}{ds:List Nat}{K:Env->Fr->Prop}(hck:lT u ds env fr=true)(h:K env fr):ax g effs ops i [] env fr (fun e r=>lT u ds e r=true/\K e r):=.nil ⟨hck,h⟩
def ax.af{P:Env->Fr->Prop}{K:Out->Env->Fr->Prop}(h:P env fr):ax g effs ops i [] env fr (fun e r=>gW P K .normal e r):=ax.nil h
def ax.bM{id:Nat}{K:Out->Env->Fr->Prop}(h:K .normal env fr):ax g effs ops i [] env fr (fun e r=>jn id K .normal e r):=ax.nil h
variable {K:Out->Env->Fr->Prop}
def aa.am{c:Operand}{a b:Code}(hc:rd env c=.t (.bool true))(ha:aa g f a env fr K):aa g f (.cond c a b) env fr K:=aa.cond hc (fun _=>ha) (fun h=>nomatch h)
def aa.ak{c:Operand}{a b:Code}(hc:rd env c=.t (.bool false))(ha:aa g f b env fr K):aa g f (.cond c a b) env fr K:=aa.cond hc (fun h=>nomatch h) (fun _=>ha)
def ai{P:Env->Fr->Prop}(h:P env fr):gW P K .normal env fr:=h
def aA{P:Env->Fr->Prop}{id:Nat}(h:K (.exit id) env fr):gW P K (.exit id) env fr:=h
def ay{P:Env->Fr->Prop}(h:K .ret env fr):gW P K .ret env fr:=h
def aG{id:Nat}(h:K .normal env fr):jn id K .normal env fr:=h
def aO{id:Nat}(h:K .ret env fr):jn id K .ret env fr:=h
def az{id:Nat}(h:K .normal env fr):jn id K (.exit id) env fr:=by
 unfold jn;have:Nat.beq id id=true:=by simp
 simp only[this];exact h
def mQ{id j:Nat}(hj:Nat.beq j id=false)(h:K (.exit j) env fr):jn id K (.exit j) env fr:=by
 unfold jn;simp only[hj];exact h
inductive jh (env:Env) (fr:Fr) (h:Nat):List Nat->List (Nat×SV)->Prop where
 |nil:jh env fr h [] []
 |cons {t:Nat} {v:SV} {sl:List Nat} {vs:List (Nat×SV)} (hv:kV fr h (Go.Proofs.YtgbfedgghjcdcaaGreatDoor.un (env t))=v) (ht:jh env fr h sl vs):jh env fr h (t::sl) ((t,v)::vs)
def jh.eq{h:Nat}{u:List Nat}{vs:List (Nat×SV)}(hs:jh env fr h u vs):u.map (fun t=>(t,kV fr h (Go.Proofs.YtgbfedgghjcdcaaGreatDoor.un (env t))))=vs:=by
 induction hs with
 |nil=>rfl
 |cons hv _ ih=>rw[List.map_cons,hv,ih]
def Iw:trim fr.length fr=fr:=by
 unfold trim;have:Nat.ble fr.length fr.length=true:=by simp
 simp only[this]
def aa.aM{b:Code}{vs:List (Nat×SV)}{u:List Nat}{own:List (Nat×Nat)}{env':Env}{fr':Fr}(ho:g.own f (ck b)=own)(hp:eM own env fr=(env',fr'))(hl:g.lv f (ck b)=some u)(hs:jh env' fr' fr'.length u vs)(h:aI g f b (dZ vs) fr' K):aa g f (.loop b) env fr K:=by
 refine aa.loop (p:=(env',fr')) (by rw[ho];exact hp) (q:=(dZ vs,fr')) ?_ h;rw[hl];show(dZ (u.map fun t=>(t,kV fr' (il u fr'.length fr') (Go.Proofs.YtgbfedgghjcdcaaGreatDoor.un (env' t)))),trim (il u fr'.length fr') fr')=_
 rw[DZ,hs.eq,Iw]
def aI.ind{b:Code}{base:List (Nat×SV)}{σ:Type}(V:σ->List (Nat×SV))(I:σ->Prop)(μ:σ->Nat)(v:σ)(he:env=dZ (V v++base))(h0:I v)
  (hs:∀s,I s->aa g f b (dZ (V s++base)) fr (gW (fun e r=>∃s',(head (g.lv f (ck b)) fr.length e r).1=dZ (V s'++base)/\(head (g.lv f (ck b)) fr.length e r).2=fr/\I s'/\μ s' <μ s) K)):aI g f b env fr K:=by
 subst he
 have u:∀(n:Nat) (s:σ),μ s <n->I s->aI g f b (dZ (V s++base)) fr K:=by
  intro n
  induction n with
  |zero=>intro s h;omega
  |succ n z=>
   intro s D y;refine aI.step ?_;refine(hs s y).post ?_;intro o e r h
   cases o with
   |normal=>
    obtain⟨s',h1,h2,h3,h4⟩:=h;show aI g f b _ _ K
    rw[h1,h2];exact z s' (by omega) h3
   |exit id=>exact h
   |ret=>exact h
 exact u _ v (Nat.lt_succ_self _) h0
def aI.cd{b:Code}{base:List (Nat×SV)}{σ:Type}(V:σ->List (Nat×SV))(F:σ->Fr)(I:σ->Prop)(μ:σ->Nat)(u:σ)(he:env=dZ (V u++base))(y:fr=F u)(h0:I u)
  (hs:∀s,I s->aa g f b (dZ (V s++base)) (F s) (gW (fun e r=>∃s',(head (g.lv f (ck b)) (F s).length e r).1=dZ (V s'++base)/\(head (g.lv f (ck b)) (F s).length e r).2=F s'/\I s'/\μ s' <μ s) K)):aI g f b env fr K:=by
 subst he y
 have v:∀(n:Nat) (s:σ),μ s <n->I s->aI g f b (dZ (V s++base)) (F s) K:=by
  intro n
  induction n with
  |zero=>intro s h;omega
  |succ n D=>
   intro s G z;refine aI.step ?_;refine(hs s z).post ?_;intro o e r h
   cases o with
   |normal=>
    obtain⟨s',h1,h2,h3,h4⟩:=h;show aI g f b _ _ K
    rw[h1,h2];exact D s' (by omega) h3
   |exit id=>exact h
   |ret=>exact h
 exact v _ u (Nat.lt_succ_self _) h0
def aS{o:Out}{m:Nat}{s:Option SV}{b u:Bool}{fr':Fr}(ho:o=.normal\/o=.ret)(h:eH m s fr=some (.t (.bool b),fr'))(e:b=u):(o=.normal\/o=.ret)/\eH m s fr=some (.t (.bool u),fr'):=⟨ho,by rw[h,e]⟩
def DC{o:Out}{m:Nat}{s:Option SV}{k:IntKind}{b u:Int}{fr':Fr}(ho:o=.normal\/o=.ret)(h:eH m s fr=some (.t (.int k b),fr'))(e:b=u):(o=.normal\/o=.ret)/\eH m s fr=some (.t (.int k u),fr'):=⟨ho,by rw[h,e]⟩
def xj{o:Out}{m:Nat}{s:Option SV}{k j:IntKind}{b u c v:Int}{fr':Fr}(ho:o=.normal\/o=.ret)(h:eH m s fr=some (.aL [.t (.int k b),.t (.int j c)],fr'))(e:b=u/\c=v):(o=.normal\/o=.ret)/\eH m s fr=some (.aL [.t (.int k u),.t (.int j v)],fr'):=⟨ho,by rw[h,e.1,e.2]⟩
end
mutual
theorem SV.vN{σ:Nat->Option Nat}:∀x:SV,x.refs=[]->SV.sub σ x=x
 | .t x,_=>by rw[SV.sub]
 | .nil,_=>by rw[SV.sub]
 | .tc es,_=>by rw[SV.sub]
 | .nn es,_=>by rw[SV.sub]
 | .lp i j,h=>by simp[SV.refs]at h
 | .ls i,h=>by simp[SV.refs]at h
 | .lv i sz a n,h=>by simp[SV.refs]at h
 | .le i sz k j,h=>by simp[SV.refs]at h
 | .lm i,h=>by simp[SV.refs]at h
 | .lo i p,h=>by simp[SV.refs]at h
 | .lr i p k,h=>by simp[SV.refs]at h
 | .agg u,h=>by rw[SV.sub,SV.r5 u (by simpa[SV.refs]using h)]
 | .aL u,h=>by rw[SV.sub,SV.r5 u (by simpa[SV.refs]using h)]
 | .fn f v u,h=>by rw[SV.sub,SV.r5 u (by simpa[SV.refs]using h)]
 | .aN s,h=>by rw[SV.sub,SV.vN s (by simpa[SV.refs]using h)]
 | .no,_=>by rw[SV.sub]
 | .dead,_=>by rw[SV.sub]
theorem SV.r5{σ:Nat->Option Nat}:∀cs:List SV,SV.fH cs=[]->SV.ca σ cs=cs
 |[],_=>by rw[SV.ca]
 |c::cs,h=>by
  rw[SV.fH,List.append_eq_nil_iff]at h;rw[SV.ca,SV.vN c h.1,SV.r5 cs h.2]
end
section
variable {g:Cfg} {f:Nat} {env:Env} {fr:Fr} {K:Out->Env->Fr->Prop} {c:Operand} {a b:Code} {p:Prop} [Decidable p]
end
def wk(p:Prop):Prop:=p
def wk.go{p:Prop}(h:p):wk p:=h
section
variable {g:Cfg} {d:Option (List Nat)} {i:Nat} {env:Env} {fr:Fr}
def ah.qj{c:Operand}{args:Array Operand}{tys:Array TypeId}{f:Nat}{pa y u:List SV}{xs:List AV}{v:List SV}{r:SV}{z:Fr}(hcl:Cl g f v [] r z)(hcal:c8 (rd env c)=some (f,pa,y))(hav:pa++args.toList.map (rd env)++y=u)(hx:bZ fr (a8 (aK g f 0 u) u)=some xs)(hh:bR [] (du (aK g f 0 u) u)=[])(hm:cy (aT []) (aK g f 0 u) u xs=v)
  (hr:cI r=true):ah g d i env fr (.call ⟨.value c,args,tys⟩) r fr []:=.call hcl hcal hav hx hh hm (by unfold lK;rw[hr])
def ah.b9{c:Operand}{args:Array Operand}{tys:Array TypeId}{f:Nat}{pa y u:List SV}{xs:List AV}{v:List SV}{r:SV}(hcl:Cl g f v [] r [])(hcal:c8 (rd env c)=some (f,pa,y))(hav:pa++args.toList.map (rd env)++y=u)(hx:bZ fr (a8 (aK g f 0 u) u)=some xs)(hh:bR [] (du (aK g f 0 u) u)=[])(hm:cy (aT []) (aK g f 0 u) u xs=v)
  (hn:r.refs=[])(hr:bg fr (a8 (aK g f 0 u) u)=[]):ah g d i env fr (.call ⟨.value c,args,tys⟩) r fr []:=.call hcl hcal hav hx hh hm (by
 unfold lK;rw[hr]
 cases cI r with
 |true=>rfl
 |false=>
  cases cX d i with
  |false=>simp only[SV.vN r hn];simp[freeze]
  |true=>simp only[show o_ fr []=true from rfl,hn])
def ah.Es{t e sz:Nat}{x y:Operand}{k:IntKind}{q:Nat}{es:List (List AV)}{c:AV}{cs:List AV}(he:da g.P t=some (e,sz))(hx:rd env x=.tc es)(hi:rd env y=.t (.int k (q:Int)))(hc:es[q]?=some (c::cs))(hz:Nat.beq sz (cs.length+1)=true):ah g d i env fr (.indexAddr t x y) (.t (.tp (c::cs))) fr []:=.p rfl rfl (by
 have h:=w8 (sz:=sz) (es:=es) (m:=(q:Int)) (by omega) (by rw[Int.toNat_natCast];exact hc) hz;unfold bt gK;simp only[he,hx,hi,h])
def ah.Ai{t e sz k:Nat}{x h:Operand}{u:IntKind}{es vs:List (List AV)}(he:da g.P t=some (e,sz))(hx:rd env x=.t (.arr es))(hi:rd env h=.t (.int u (k:Int)))(hn:k<=es.length)(hz:mh sz es=true)(hv:es.take k=vs):ah g d i env fr (.slice t x none (some h) none) (.t (.arr vs)) fr []:=.p rfl rfl (by
 subst hv;have h1:(decide (0<=(k:Int))&&Nat.ble (Int.toNat (k:Int)) es.length)=true:=by simp;omega
 unfold bt n8;simp only[Option.map_none,Option.map_some,hx,hi,he,pR,hz];unfold j2 fq;simp only[h1];simp[fq])
section
variable {α:Type} {x0 x1 x2 x3 x4 x5 x6 x7 x8 x9 x10 x11 x12 x13:α}
def nz:([]:List α).length=0:=rfl
def nA:[x0].length=1:=rfl
def nG:[x0,x1].length=2:=rfl
def nH:[x0,x1,x2].length=3:=rfl
def nI:[x0,x1,x2,x3].length=4:=rfl
def nJ:[x0,x1,x2,x3,x4].length=5:=rfl
def nK:[x0,x1,x2,x3,x4,x5].length=6:=rfl
def nL:[x0,x1,x2,x3,x4,x5,x6].length=7:=rfl
def nM:[x0,x1,x2,x3,x4,x5,x6,x7].length=8:=rfl
def nN:[x0,x1,x2,x3,x4,x5,x6,x7,x8].length=9:=rfl
def nB:[x0,x1,x2,x3,x4,x5,x6,x7,x8,x9].length=10:=rfl
def nC:[x0,x1,x2,x3,x4,x5,x6,x7,x8,x9,x10].length=11:=rfl
def nD:[x0,x1,x2,x3,x4,x5,x6,x7,x8,x9,x10,x11].length=12:=rfl
def nE:[x0,x1,x2,x3,x4,x5,x6,x7,x8,x9,x10,x11,x12].length=13:=rfl
def nF:[x0,x1,x2,x3,x4,x5,x6,x7,x8,x9,x10,x11,x12,x13].length=14:=rfl
end
inductive aH {α:Type}:List α->List α->Prop where
 |nil:aH [] []
 |cons {a b:α} {us bs:List α} (h:a=b) (ht:aH us bs):aH (a::us) (b::bs)
def aH.eq{α:Type}{us bs:List α}(h:aH us bs):us=bs:=by
 induction h with
 |nil=>rfl
 |cons h _ ih=>rw[h,ih]
inductive gp:List SV->List AV->Prop where
 |nil:gp [] []
 |cons {x:AV} {us:List SV} {bs:List AV} (ht:gp us bs):gp (.t x::us) (x::bs)
def gp.eq{us:List SV}{bs:List AV}(h:gp us bs):us=bs.map .t:=by
 induction h with
 |nil=>rfl
 |cons _ ih=>rw[ih];rfl
def F7(xs:List AV):e7 (xs.map .t)=some xs:=by
 induction xs with
 |nil=>rfl
 |cons x xs u=>rw[List.map_cons];unfold e7;rw[u]
def F8(xs:List AV):ml (xs.map .t)=some xs:=by
 induction xs with
 |nil=>rfl
 |cons x xs u=>rw[List.map_cons];unfold ml;rw[u]
def wm(xs:List AV):jk (xs.map .t)=.t (.agg xs):=by unfold jk;rw[F8]
def Gc(xs:List SV):∀(pre u:List SV),u.length=xs.length->gP (pre++u) pre.length xs=pre++xs:=by
 induction xs with
 |nil=>intro pre u h;obtain rfl:=List.length_eq_zero_iff.1 h;rfl
 |cons x xs v=>
  intro pre u h
  cases u with
  |nil=>simp at h
  |cons o u=>
   unfold gP;have e:(pre++o::u).set pre.length x=(pre++[x])++u:=by simp
   have:=v (pre++[x]) u (by simpa using h);rw[e];simpa using this
def Gb{cs xs:List SV}(h:cs.length=xs.length):gP cs 0 xs=xs:=Gc xs [] cs h
def ah.al{T n:Nat}{zs cs:List SV}{fr':Fr}(hs:∀C:CallF,step g C d i env fr (.alloc T)=bu g C (cX d i) env fr (.alloc T))(hz:kK g.P T=some zs)(hc:aH zs cs)(hn:fr.length=n)(hf:aH (fr++[.box false T cs]) fr'):ah g d i env fr (.alloc T) (.lp n 0) fr' []:=.r fun C=>by
 rw[hs];subst hn;obtain rfl:=hf.eq;obtain rfl:=hc.eq;unfold bu;simp only[hz]
def ah.B3{T n:Nat}{y:Operand}{s:SV}{cs ds:List SV}{fr':Fr}(hs:∀C:CallF,step g C d i env fr (.box T y)=bu g C (cX d i) env fr (.box T y))(hy:rd env y=s)(hc:bo s=cs)(ho:cs.all cQ=true)(hd:aH cs ds)(hn:fr.length=n)(hf:aH (fr++[.box false T ds]) fr'):ah g d i env fr (.box T y) (.lp n 0) fr' []:=.r fun C=>by
 rw[hs];subst hn hc hy;obtain rfl:=hf.eq;obtain rfl:=hd.eq;unfold bu;simp only[ho]
def ah.B4{T n:Nat}{y:Operand}{xs:List AV}{fr':Fr}(hs:∀C:CallF,step g C d i env fr (.box T y)=bu g C (cX d i) env fr (.box T y))(hy:rd env y=.t (.agg xs))(ho:(xs.map SV.t).all cQ=true)(hn:fr.length=n)(hf:aH (fr++[.box false T (xs.map .t)]) fr'):ah g d i env fr (.box T y) (.lp n 0) fr' []:=.r fun C=>by
 rw[hs];subst hn;obtain rfl:=hf.eq;unfold bu;simp only[hy];have e:bo (.t (.agg xs))=xs.map .t:=rfl;simp only[e,ho]
def ah.H_{t n r T:Nat}{a y:Operand}{u:Bool}{xs:List AV}{cs:List SV}{fr':Fr}(hs:∀C:CallF,step g C d i env fr (.store t a y)=bJ g C env fr (.store t a y))(ht:bm g.P t=some (u,n))(ha:rd env a=.lp r 0)(hy:rd env y=.t (.agg xs))(ho:(xs.map SV.t).all cQ=true)(hl:xs.length=n)(hb:fr[r]?=some (.box false T cs))(hc:cs.length=n)(hf:aH (fr.set r (.box false T (xs.map .t))) fr'):ah g d i env fr (.store t a y) .dead fr' []:=.r fun C=>by
 rw[hs];obtain rfl:=hf.eq;subst hl;have e:bo (.t (.agg xs))=xs.map .t:=rfl;have h1:Nat.beq (xs.map SV.t).length xs.length=true:=by simp
 have h2:Nat.ble (0+xs.length) cs.length=true:=by simp;omega
 have h3:gP cs 0 (xs.map .t)=xs.map .t:=Gb (by simpa using hc);unfold bJ;simp only[fA];unfold bu;simp only;unfold fW;simp only[ht,ha,hy,e,ho,h1,Bool.and_self,hb,h2,h3]
def ah.H4{t n r j T:Nat}{a y:Operand}{u:Bool}{s:SV}{cs ds vs:List SV}{fr':Fr}(hs:∀C:CallF,step g C d i env fr (.store t a y)=bJ g C env fr (.store t a y))(ht:bm g.P t=some (u,n))(ha:rd env a=.lp r j)(hy:rd env y=s)(hv:bo s=vs)(ho:(vs.all cQ&&Nat.beq vs.length n)=true)(hb:fr[r]?=some (.box false T cs))(hc:Nat.ble (j+n) cs.length=true)(hd:aH (gP cs j vs) ds)(hf:aH (fr.set r (.box false T ds)) fr'):ah g d i env fr (.store t a y) .dead fr' []:=.r fun C=>by
 rw[hs];obtain rfl:=hf.eq;obtain rfl:=hd.eq;subst hv hy;unfold bJ;simp only[fA];unfold bu;simp only;unfold fW;simp only[ht,ha,ho,hb,hc]
def ah.yc{t n r T:Nat}{y:Operand}{ro:Bool}{xs:List AV}(ht:bm g.P t=some (true,n))(hy:rd env y=.lp r 0)(hb:fr[r]?=some (.box ro T (List.map SV.t xs)))(hl:xs.length=n):ah g d i env fr (.load t y) (.t (.agg xs)) fr []:=.p rfl rfl (by
 subst hl;unfold bt eK;have h1:Nat.ble (0+xs.length) (xs.map SV.t).length=true:=by simp
 have h2:((xs.map SV.t).drop 0).take xs.length=xs.map .t:=by rw[List.drop_zero];exact List.take_of_length_le (by simp)
 simp only[ht,hy,hb,h1,h2,wm])
def ah.uG{t n r j T:Nat}{y:Operand}{ro:Bool}{cs vs:List SV}{xs:List AV}(ht:bm g.P t=some (true,n))(hy:rd env y=.lp r j)(hb:fr[r]?=some (.box ro T cs))(hl:Nat.ble (j+n) cs.length=true)(hv:(cs.drop j).take n=vs)(hx:gp vs xs):ah g d i env fr (.load t y) (.t (.agg xs)) fr []:=.p rfl rfl (by
 unfold bt eK;simp only[ht,hy,hb,hl,hv,hx.eq,wm])
def ah.x_{t n r j T:Nat}{y:Operand}{ro:Bool}{cs vs:List SV}{v:SV}(ht:bm g.P t=some (true,n))(hy:rd env y=.lp r j)(hb:fr[r]?=some (.box ro T cs))(hl:Nat.ble (j+n) cs.length=true)(hv:aH ((cs.drop j).take n) vs)(hx:jk vs=v):ah g d i env fr (.load t y) v fr []:=.p rfl rfl (by
 unfold bt eK;simp only[ht,hy,hb,hl,hv.eq,hx])
end
inductive dU (ks:List Nat):Fr->Fr->Prop where
 |nil:dU ks [] []
 |own {ro:Bool} {x:AV} {fr fr':Fr} (h:dU ks fr fr'):dU ks (.own ro x::fr) (.own ro x::fr')
 |row {ro tch:Bool} {sz:Nat} {es:List (List AV)} {fr fr':Fr} (h:dU ks fr fr'):dU ks (.row ro tch sz es::fr) (.row ro tch sz es::fr')
 |mT {ro:Bool} {T:TypeId} {xs:List AV} {fr fr':Fr} (h:dU ks fr fr'):dU ks (.box ro T (List.map SV.t xs)::fr) (.box ro T (List.map SV.t xs)::fr')
 |box {ro:Bool} {T:TypeId} {cs ds:List SV} {fr fr':Fr} (hd:aH (SV.ca (cM ks) cs) ds) (h:dU ks fr fr'):dU ks (.box ro T cs::fr) (.box ro T ds::fr')
def r6{σ:Nat->Option Nat}(xs:List AV):SV.ca σ (xs.map .t)=xs.map .t:=by
 induction xs with
 |nil=>rfl
 |cons x xs u=>rw[List.map_cons,SV.ca,SV.sub,u]
theorem dU.eq{ks:List Nat}{fr fr':Fr}(h:dU ks fr fr'):fr.map (Lb.sub (cM ks))=fr':=by
 induction h with
 |nil=>rfl
 |row _ ih=>rw[List.map_cons,ih];rfl
 |own _ ih=>rw[List.map_cons,ih];rfl
 |mT _ ih=>rw[List.map_cons,ih,Lb.sub,r6]
 |box hd _ ih=>rw[List.map_cons,ih,Lb.sub,hd.eq]
section
variable {g:Cfg} {d:Option (List Nat)} {i:Nat} {env:Env} {fr:Fr}
def ah.BS{t T sz u n:Nat}{fr':Fr}(hs:∀C:CallF,step g C d i env fr (.buildSlice t 0 #[])=bu g C (cX d i) env fr (.buildSlice t 0 #[]))(hr:iC g.P t=some (T,sz,u))(hn:fr.length=n)(hf:aH (fr++[.row false false sz []]) fr'):ah g d i env fr (.buildSlice t 0 #[]) (.ls n) fr' []:=.r fun C=>by
 rw[hs];subst hn;obtain rfl:=hf.eq;unfold bu;simp only[hr]
def ah.dI{t T r sz v:Nat}{a y:Operand}{args:Array Operand}{tys:Array TypeId}{s:SV}{es u vs:List (List AV)}{tch:Bool}{fr1 fr':Fr}(hs:∀C:CallF,step g C d i env fr (.call ⟨.builtin .append,args,tys⟩)=bu g C (cX d i) env fr (.call ⟨.builtin .append,args,tys⟩))(ha:args.toList=[a,y])(ht:tys.toList=[t,t])(hr:iC g.P t=some (T,sz,v))(hx:rd env a=.ls r)(hy:rd env y=s)(hn:gT fr s=some u)(hb:fr[r]?=some (.row false tch sz es))
  (hok:cP sz u=true)(hlen:bD (es.length+u.length) v=true)(hv:es++u=vs)(hk:dU [r] fr fr1)(hf:aH (fr1.set r (.row false true sz vs)) fr'):ah g d i env fr (.call ⟨.builtin .append,args,tys⟩) (.ls r) fr' [r]:=.r fun C=>by
 rw[hs];subst hv hy;obtain rfl:=hf.eq;obtain rfl:=hk.eq;have h1:(Nat.beq sz sz&&bD (es.length+u.length) v)=true:=by rw[hlen];simp
 have h2:Nat.beq t t=true:=by simp
 unfold bu;simp only[ha,ht,h2];unfold oI;simp only[hr,hn,hok,hx,hb,h1];rfl
def ah.vM{t n r q:Nat}{a y:Operand}{tch:Bool}{es vs:List (List AV)}{cs:List AV}{c:AV}{u:Bool}{fr':Fr}(hs:∀C:CallF,step g C d i env fr (.store t a y)=bJ g C env fr (.store t a y))(ht:bm g.P t=some (u,n))(ha:rd env a=.le r 1 q 0)(hy:rd env y=.t c)(hone:cQ (.t c)=true)(hn:Nat.beq 1 n=true)(hb:fr[r]?=some (.row false tch 1 es))(hk:es[q]?=some cs)(hj:cs.length=1)(hv:es.set q [c]=vs)(hf:aH (fr.set r (.row false tch 1 vs)) fr'):ah g d i env fr (.store t a y) .dead fr' []:=by
 obtain rfl:=hf.eq;subst hv
 have e:cs.set 0 c=[c]:=by
  match cs,hj with
  |[x],_=>rfl
 have:=ah.str (effOk:=hs) ht ha hy hone hn hb hk (by rw[hj];rfl);rw[e]at this;exact this
def ah.Bc{xt yt:TypeId}{x y:Operand}{s u:ByteArray}(hx:rd env x=.t (.str s))(hy:rd env y=.t (.str u))(h:s.size+u.size<=9223372036854775807):ah g d i env fr (.binOp .add xt x y yt) (.t (.str (s++u))) fr []:=
 .jl hx hy (by unfold gy;simp only[rY,if_pos h])
def ah.zm{xt yt:TypeId}{x y:Operand}{m n r:Int}(hx:rd env x=.t (.int .i64 m))(hy:rd env y=.t (.int .i64 n))(hn:n≠0)(h:m.tmod n=r):ah g d i env fr (.binOp .rem xt x y yt) (.t (.int .i64 r)) fr []:=
 .jl hx hy (by unfold gy;simp only[if_true,j9,if_neg hn,h])
def ah.Gd{xt yt:TypeId}{x y:Operand}{m n r:Int}(hx:rd env x=.t (.int .i64 m))(hy:rd env y=.t (.int .i64 n))(hn:n≠0)(h:m.tdiv n=r)(hb : -9223372036854775808<=r/\r<=9223372036854775807):ah g d i env fr (.binOp .quo xt x y yt) (.t (.int .i64 r)) fr []:=
 .jl hx hy (by unfold gy;simp only[if_true,j9,if_neg hn,h,IntWalk.i64_in _ hb])
def ah.n9{t l h:Nat}{x lo hi:Operand}{k z:IntKind}{s v:ByteArray}(hst:k7 g.P t=true)(hx:rd env x=.t (.str s))(hl:rd env lo=.t (.int k (l:Int)))(hh:rd env hi=.t (.int z (h:Int)))(hlh:l<=h)(hhs:h<=s.size)(hv:s.extract l h=v):ah g d i env fr (.slice t x (some lo) (some hi) none) (.t (.str v)) fr []:=.p rfl rfl (by
 subst hv;have h1:(decide (0<=(h:Int))&&Nat.ble (Int.toNat (h:Int)) s.size)=true:=by simp;omega
 have h2:(decide (0<=(l:Int))&&Nat.ble (Int.toNat (l:Int)) h)=true:=by simp;omega
 have u:fq (some (.t (.int z (h:Int)))) s.size s.size=some h:=by unfold fq;simp only[h1];simp
 have y:fq (some (.t (.int k (l:Int)))) 0 h=some l:=by unfold fq;simp only[h2];simp
 unfold bt n8;simp only[Option.map_none,Option.map_some,hx,hl,hh,hst];unfold j2;simp only[u,y])
def ah.yb{t n r sz q j:Nat}{y:Operand}{ro tch:Bool}{es:List (List AV)}{cs vs:List AV}(ht:bm g.P t=some (true,n))(hy:rd env y=.le r sz q j)(hb:fr[r]?=some (.row ro tch sz es))(hk:es[q]?=some cs)(hl:Nat.ble (j+n) cs.length=true)(hv:aH ((cs.drop j).take n) vs):ah g d i env fr (.load t y) (.t (.agg vs)) fr []:=.p rfl rfl (by
 obtain rfl:=hv.eq;have h2:Nat.beq sz sz=true:=by simp
 unfold bt eK;simp only[ht,hy,hb,h2,hk,hl])
def ah.ER{t n r sz q:Nat}{y:Operand}{ro tch:Bool}{es:List (List AV)}{c:AV}(ht:bm g.P t=some (false,n))(hy:rd env y=.le r sz q 0)(hb:fr[r]?=some (.row ro tch sz es))(hk:es[q]?=some [c]):ah g d i env fr (.load t y) (.t c) fr []:=.ya ht hy hb hk rfl
end
inductive cU (σ:Nat->Option Nat):Fr->Fr->Prop where
 |nil:cU σ [] []
 |own {ro:Bool} {x:AV} {fr fr':Fr} (h:cU σ fr fr'):cU σ (.own ro x::fr) (.own ro x::fr')
 |row {ro tch:Bool} {sz:Nat} {es:List (List AV)} {fr fr':Fr} (h:cU σ fr fr'):cU σ (.row ro tch sz es::fr) (.row ro false sz es::fr')
 |mT {ro:Bool} {T:TypeId} {xs:List AV} {fr fr':Fr} (h:cU σ fr fr'):cU σ (.box ro T (List.map SV.t xs)::fr) (.box ro T (List.map SV.t xs)::fr')
 |box {ro:Bool} {T:TypeId} {cs ds:List SV} {fr fr':Fr} (hd:aH (SV.ca σ cs) ds) (h:cU σ fr fr'):cU σ (.box ro T cs::fr) (.box ro T ds::fr')
theorem cU.eq{σ:Nat->Option Nat}{fr fr':Fr}(h:cU σ fr fr'):fr.map (fun b=>b6 (b.sub σ))=fr':=by
 induction h with
 |nil=>rfl
 |row _ ih=>rw[List.map_cons,ih];rfl
 |own _ ih=>rw[List.map_cons,ih];rfl
 |mT _ ih=>rw[List.map_cons,ih,Lb.sub,r6];rfl
 |box hd _ ih=>rw[List.map_cons,ih,Lb.sub,hd.eq];rfl
section
variable {g:Cfg} {d:Option (List Nat)} {i:Nat} {env:Env} {fr:Fr}
def ah.Cb{c:Operand}{args:Array Operand}{tys:Array TypeId}{f n:Nat}{pa G u:List SV}{xs:List AV}{z:List SV}{r v:SV}{D y fr':Fr}(hcl:Cl g f z [] r D)(hcal:c8 (rd env c)=some (f,pa,G))(hav:pa++args.toList.map (rd env)++G=u)(hx:bZ fr (a8 (aK g f 0 u) u)=some xs)(hh:bR [] (du (aK g f 0 u) u)=[])(hm:cy (aT []) (aK g f 0 u) u xs=z)
  (hr:cI r=false)(hd:cX d i=false)(hq:bg fr (a8 (aK g f 0 u) u)=[])(hn:fr.length=n)(hv:r.sub (cC [] n)=v)(he:cU (cC [] n) D y)(hf:aH (fr++y) fr'):ah g d i env fr (.call ⟨.value c,args,tys⟩) v fr' []:=.call hcl hcal hav hx hh hm (by
 subst hv hn;obtain rfl:=hf.eq;obtain rfl:=he.eq;unfold lK;rw[hr,hd,hq];rfl)
def ah.B5{c:Operand}{args:Array Operand}{tys:Array TypeId}{f h0:Nat}{ht:List Nat}(hs:List Nat){pa D u:List SV}{xs:List AV}{z:List SV}{r x:SV}{bs v fr' y:Fr}{ks:List Nat}(hcl:Cl g f z v r fr')(hdr:cX d i=false)(hcal:c8 (rd env c)=some (f,pa,D))(hav:pa++args.toList.map (rd env)++D=u)(hx:bZ fr (a8 (aK g f 0 u) u)=some xs)(hh:bR [] (du (aK g f 0 u) u)=h0::ht)
  (hs0:close fr 4 (h0::ht)=hs)(hf:bg fr (a8 (aK g f 0 u) u)=[])(hg:cJ fr hs=some bs)(hc:iM hs bs=true)(hm:cy (aT hs) (aK g f 0 u) u xs=z)(hb:bs.map (fun b=>b6 (b.sub (aT hs)))=v)(hk:kindOk hs fr' fr=true)(hv:r.sub (cC hs fr.length)=x)(hl:aH (back hs fr fr') y)(hq:cA hs fr'=ks):ah g d i env fr (.call ⟨.value c,args,tys⟩) x y ks:=ah.wJ hs hcl hdr hcal hav hx hh hs0 hf hg hc hm hb hk (by rw[hv,hl.eq,hq])
def ah.Ca{c:Operand}{args:Array Operand}{tys:Array TypeId}{f h0:Nat}{ht:List Nat}(hs:List Nat){pa D u:List SV}{xs:List AV}{z:List SV}{r x:SV}{bs v fr' fr1 y:Fr}{ks:List Nat}(hcl:Cl g f z v r fr')(hdr:cX d i=false)(hcal:c8 (rd env c)=some (f,pa,D))(hav:pa++args.toList.map (rd env)++D=u)(hx:bZ fr (a8 (aK g f 0 u) u)=some xs)(hh:bR [] (du (aK g f 0 u) u)=h0::ht)
  (hs0:close fr 4 (h0::ht)=hs)(hf:aH (freeze fr (bg fr (a8 (aK g f 0 u) u))) fr1)(hg:cJ fr1 hs=some bs)(hc:iM hs bs=true)(hm:cy (aT hs) (aK g f 0 u) u xs=z)(hb:bs.map (fun b=>b6 (b.sub (aT hs)))=v)(hk:kindOk hs fr' fr1=true)(hv:r.sub (cC hs fr.length)=x)(hl:aH (back hs fr1 fr') y)(hq:cA hs fr'=ks):ah g d i env fr (.call ⟨.value c,args,tys⟩) x y ks:=ah.wI hcl hdr hcal hav hx hh hs0 hf.eq hg hc hm hb hk (by rw[hv,hl.eq,hq])
end
section
variable {g:Cfg}
theorem Cl.ext{f:Nat}{xs:List AV}{args:List SV}{r:SV}{u:Fr}(hok:g.ok f=false)(ha:args=xs.map .t)(he:g.ext f xs=some (r,u)):Cl g f args [] r u:=by
 subst ha;refine⟨1,?_⟩;unfold b9;have e:e7 (xs.map .t)=some xs:=F7 xs;simp only[hok,e];exact he
end
section
variable {g:Cfg} {d:Option (List Nat)} {i':Nat} {env:Env} {fr:Fr}
def ah.cZ{t:Nat}{x i:Operand}{k:IntKind}{m:Int}{s:ByteArray}{b:UInt8}(hx:rd env x=.t (.str s))(hi:rd env i=.t (.int k m))(hst:k7 g.P t=true)(h0:0<=m)(hb:s.data.toList[m.toNat]?=some b):ah g d i' env fr (.index t x i) (.t (.int .u8 (b.toNat:Int))) fr []:=.p rfl rfl (by
 have h1:s[m.toNat]?=some b:=by
  rw[<- hb];obtain⟨⟨l⟩⟩:=s;show(if h:_ then _ else _)=_
  rcases Nat.lt_or_ge m.toNat l.length with h|h
  ·rw[dif_pos (by simpa[ByteArray.size]using h)];simp only[List.getElem?_eq_getElem h];rfl
  ·rw[dif_neg (by simpa[ByteArray.size]using h)];simp[List.getElem?_eq_none h]
 unfold bt qR;simp only[hx,hi,hst,decide_eq_true h0,h1])
def ah.CV{u dst:Nat}{k:IntKind}{x:Operand}{m:Int}{ds:TypeDesc}(hx:rd env x=.t (.int k m))(hs:g.P.underlying u=some ds)(hd:g.P.underlying dst=some (.int .i64))(h : -9223372036854775808<=m/\m<=9223372036854775807):ah g d i' env fr (.convert u dst x) (.t (.int .i64 m)) fr []:=.p rfl rfl (by
 unfold bt qp;simp only[hx,hs,hd,IntWalk.i64_in _ h])
end
def Ga(xs:List AV):∀(pre u:List AV),u.length=xs.length->iX (pre++u) pre.length xs=pre++xs:=by
 induction xs with
 |nil=>
  intro pre u h;rw[List.length_eq_zero_iff.1 h];rfl
 |cons x xs v=>
  intro pre u h
  match u,h with
  |o::u,h=>
   have e:(pre++o::u).set pre.length x=(pre++[x])++u:=by simp
   have:=v (pre++[x]) u (by simpa using h);unfold iX;rw[e,show pre.length+1=(pre++[x]).length by simp,this];simp
def F_{os xs:List AV}(h:os.length=xs.length):iX os 0 xs=xs:=Ga xs [] os h
theorem AB(fr:Fr):∀(xs:List AV),bZ fr (xs.map .t)=some xs
 |[]=>rfl
 |x::xs=>by
  have u:=AB fr xs;simp only[List.map_cons,bZ,fJ,deep,u]
def Gj(fr:Fr)(xs:List AV):bg fr (xs.map .t)=[]:=pB (by simp[eI])
section
variable {g:Cfg} {d:Option (List Nat)} {env:Env} {fr:Fr} {i':Nat}
def ah.rb{t e u n:Nat}{x k:Operand}{ok:Bool}{cs:List AV}{ks:List AV}{vs:List SV}{z v:SV}(h0:iy g.P t=none)(hm:la g.P t=some (e,u,n))(hk:rd env k=.t (.agg cs))(hn:Nat.beq cs.length n=true)(ho:mapOf fr (rd env x)=some (ks,vs))(hf:fx g.P u cs ks 0=some none)(hz:mB g.P e=some z)(hv:iz ok z false=v):ah g d i' env fr (.lookup t x k ok) v fr []:=.p rfl rfl (by
 subst hv;unfold bt ma;simp only[h0];unfold po;simp only[hm,hk,hn,ho,hf,hz])
def ah.ra{t e u n j:Nat}{x k:Operand}{ok:Bool}{cs:List AV}{ks:List AV}{vs:List SV}{z v:SV}(h0:iy g.P t=none)(hm:la g.P t=some (e,u,n))(hk:rd env k=.t (.agg cs))(hn:Nat.beq cs.length n=true)(ho:mapOf fr (rd env x)=some (ks,vs))(hf:fx g.P u cs ks 0=some (some j))(hz:vs[j]?=some z)(hv:iz ok z true=v):ah g d i' env fr (.lookup t x k ok) v fr []:=.p rfl rfl (by
 subst hv;unfold bt ma;simp only[h0];unfold po;simp only[hm,hk,hn,ho,hf,hz])
def ah.H7{t n r q:Nat}{a y:Operand}{tch:Bool}{es vs:List (List AV)}{xs os:List AV}{fr':Fr}(hs:∀C:CallF,step g C d i' env fr (.store t a y)=bJ g C env fr (.store t a y))(ht:bm g.P t=some (true,n))(ha:rd env a=.le r n q 0)(hy:rd env y=.t (.agg xs))(hone:(xs.map SV.t).all cQ=true)(hl:xs.length=n)(hb:fr[r]?=some (.row false tch n es))(hk:es[q]?=some os)(ho:os.length=n)(hv:es.set q xs=vs)(hf:aH (fr.set r (.row false tch n vs)) fr'):ah g d i' env fr (.store t a y) .dead fr' []:=.r fun C=>by
 obtain rfl:=hf.eq;subst hv;have h2:Nat.beq n n=true:=by simp
 have u:bo (.t (.agg xs))=xs.map .t:=rfl;have v:Nat.beq (xs.map SV.t).length n=true:=by simp[hl]
 have z:Nat.ble (0+n) os.length=true:=by rw[Nat.ble_eq];omega
 rw[hs];unfold bJ;simp only[fA];unfold bu;simp only;unfold fW;simp only[ht,ha,hy,u,hone,v,Bool.and_self,hb,h2,hk,z,AB,Gj,bi,List.any_nil,freeze];rw[F_ (by omega)]
def ah.iW{t:Nat}{l c:Operand}{v u x:SV}{fr1 fr':Fr}(hs:∀C:CallF,step g C d i' env fr (.makeSlice t l c)=bu g C (cX d i') env fr (.makeSlice t l c))(hl:rd env l=v)(hc:rd env c=u)(hd:cX d i'=false)(hm:ky g.P fr t v u=some (x,fr1,[]))(hf:aH fr1 fr'):ah g d i' env fr (.makeSlice t l c) x fr' []:=.r fun C=>by
 obtain rfl:=hf.eq;subst hl hc;rw[hs];unfold bu;simp only[hm,hd]
def ah.Fq{t e v n i:Nat}{m k y:Operand}{cs:List AV}{ks ks':List AV}{vs u:List SV}{x:SV}{fr':Fr}(hs:∀C:CallF,step g C d i' env fr (.mapUpdate t m k y)=bu g C (cX d i') env fr (.mapUpdate t m k y))(h0:iy g.P t=none)(hm:la g.P t=some (e,v,n))(ha:rd env m=.lm i)(hk:rd env k=.t (.agg cs))(hn:Nat.beq cs.length n=true)(hy:rd env y=x)(hb:fr[i]?=some (.map false ks vs))(hf:fx g.P v cs ks 0=some none)(hks:ks++[.agg cs]=ks')(hvs:vs++[x]=u)(hfr:aH (fr.set i (.map false ks' u)) fr'):ah g d i' env fr (.mapUpdate t m k y) .dead fr' []:=.r fun C=>by
 rw[hs];obtain rfl:=hfr.eq;subst hks hvs hy;unfold bu nq;simp only[h0];unfold qS;simp only[hm,ha,hk,hb,hn,hf]
end
section
variable {g:Cfg} {d:Option (List Nat)} {env:Env} {fr:Fr} {i:Nat}
def ah.mq{t e sz r:Nat}{x:Operand}{lo hi:Option Operand}{ro tch:Bool}{es:List (List AV)}{v u:Option SV}{y:SV}(he:da g.P t=some (e,sz))(hx:rd env x=.ls r)(hl:lo.map (rd env)=v)(hh:hi.map (rd env)=u)(hb:fr[r]?=some (.row ro tch sz es))(hv:gh r sz 0 es.length es.length v u=some y):ah g d i env fr (.slice t x lo hi none) y fr []:=.p rfl rfl (by
 have h2:Nat.beq sz sz=true:=by simp
 subst hl hh;unfold bt n8;simp only[Option.map_none,hx,he,pR];unfold rV;simp only[he,hb,h2];exact hv)
def tf{q dv u:Nat}{k:IntKind}(h:q<=u):fq (some (.t (.int k (q:Int)))) dv u=some q:=by
 have h1:(decide (0<=(q:Int))&&Nat.ble (Int.toNat (q:Int)) u)=true:=by simp;omega
 unfold fq;simp only[h1];simp
def tg{dv u:Nat}:fq none dv u=some dv:=rfl
def v6{r sz n l h:Nat}{lo hi:Option SV}(h1:fq hi n n=some h)(h2:fq lo 0 h=some l):gh r sz 0 n n lo hi=match Nat.beq (0+l) 0&&Nat.beq h n with
  |true=>some (.ls r)
  |false=>match Nat.beq (h - l) 0&&Nat.blt 0 (0+l)with
   |true=>some (.t (.arr []))
   |false=>some (.lv r sz (0+l) (h - l)):=by
 unfold gh j2;simp only[h1,h2];rfl
def s_{a b:Nat}(h:a≠b):Nat.beq a b=false:=by rw[<- Bool.not_eq_true,Nat.beq_eq];exact h
def BF{a b:Nat}(h:a=b):Nat.beq a b=true:=by rw[Nat.beq_eq];exact h
def vZ{r sz n q:Nat}{k:IntKind}(h0:0 <q)(h:q <n):gh r sz 0 n n (some (.t (.int k (q:Int)))) none=some (.lv r sz q (n - q)):=by
 rw[v6 tg (tf (by omega)),Nat.zero_add,s_ (show q≠0 by omega),s_ (show n - q≠0 by omega)];rfl
def I6{r sz n:Nat}{k:IntKind}:gh r sz 0 n n (some (.t (.int k 0))) none=some (.ls r):=by
 have:=v6 (r:=r) (sz:=sz) (n:=n) (l:=0) (lo:=some (.t (.int k ((0:Nat):Int)))) (hi:=none) tg (tf (by omega));rw[BF (show n=n by rfl)]at this;exact this
def sL{r sz n q:Nat}{k:IntKind}(h:q <n):gh r sz 0 n n none (some (.t (.int k (q:Int))))=some (.lv r sz 0 q):=by
 rw[v6 (tf (by omega)) tg,s_ (show q≠n by omega),Nat.zero_add];have h3:Nat.blt 0 0=false:=rfl;rw[h3,Bool.and_false,Bool.and_false];rfl
def yi{fr:Fr}{r sz a n:Nat}{ro tch:Bool}{es vs:List (List AV)}(hb:fr[r]?=some (.row ro tch sz es))(hl:a+n<=es.length)(hv:(es.drop a).take n=vs):gT fr (.lv r sz a n)=some vs:=by
 subst hv;show eZ fr r sz a n=_
 unfold eZ;rw[hb];have h2:Nat.ble (a+n) es.length=true:=by rw[Nat.ble_eq];exact hl
 simp[h2]
end
def ac{g:Cfg}{d:Option (List Nat)}{i:Nat}{env:Env}{fr fr':Fr}{op:Op}{x:SV}{ks:List Nat}(h:ah g d i env fr op x fr' ks:=by
 first
|((with_reducible apply ah.mv);(conv=>lhs;whnf);try exact rfl)
|((with_reducible apply ah.asg);(conv=>lhs;whnf);try exact rfl)
|((with_reducible apply ah.F3);(case hc=>exact rfl);(case h=>(conv=>lhs;whnf);try exact rfl))
|((with_reducible apply ah.F0);(case hc=>exact rfl);(case h=>(conv=>lhs;whnf);try exact rfl))
|((with_reducible apply ah.inc);(case hx|hy=>exact rfl);(case h=>omega))
|((with_reducible apply ah.add);(case hx|hy=>exact rfl);(case h=>omega))
|((with_reducible apply ah.sub);(case hx|hy=>exact rfl);(case h=>omega))
|((with_reducible apply ah.len);(case ha|hy|ht|hs=>exact rfl);(case hn=>first|exact List.length_map _|exact rfl))
|((with_reducible apply ah.ix);(case he=>first|(with_reducible exact eT)|(with_reducible exact el1)|(with_reducible exact eU)|(with_reducible exact el3)|(with_reducible exact el4)|(with_reducible exact eV)|(with_reducible exact el6)|(with_reducible exact eW)|exact rfl);(case hx|hi=>exact rfl);(case hc=>assumption);(case hz=>exact rfl))
|((with_reducible apply ah.Es);(case he=>first|(with_reducible exact eT)|(with_reducible exact el1)|(with_reducible exact eU)|(with_reducible exact el3)|(with_reducible exact el4)|(with_reducible exact eV)|(with_reducible exact el6)|(with_reducible exact eW)|exact rfl);(case hx|hi=>exact rfl);(case hc=>assumption);(case hz=>exact rfl))
|((with_reducible apply ah.xN);(case he=>first|(with_reducible exact eT)|(with_reducible exact el1)|(with_reducible exact eU)|(with_reducible exact el3)|(with_reducible exact el4)|(with_reducible exact eV)|(with_reducible exact el6)|(with_reducible exact eW)|exact rfl);(case hx|hi=>exact rfl);(case h0=>omega);(case hc=>assumption);(case hz=>exact rfl))
|((with_reducible apply ah.Dx);(case hy|ho=>exact rfl);(case hn=>(conv=>lhs;whnf);try exact rfl))
|((with_reducible apply ah.Dw);(case hy|ho=>exact rfl);(case hn=>(conv=>lhs;whnf);try exact rfl))
|((with_reducible apply ah.al);(case hs=>exact fun _=>rfl);(case hz=>exact rfl);(case hc=>(repeat'(first|exact aH.nil|((first|with_reducible apply aH.cons|apply aH.cons);(case h=>(conv=>lhs;whnf);try exact rfl)))));(case hn=>(first|exact nz|exact nA|exact nG|exact nH|exact nI|exact nJ|exact nK|exact nL|exact nM|exact nN|exact nB|exact nC|exact nD|exact nE|exact nF));(case hf=>(repeat'(first|exact aH.nil|((first|with_reducible apply aH.cons|apply aH.cons);(case h=>(conv=>lhs;whnf);try exact rfl))))))
|((with_reducible apply ah.B4);(case hs=>exact fun _=>rfl);(case hy=>exact rfl);(case ho=>kernel_rfl);(case hn=>(first|exact nz|exact nA|exact nG|exact nH|exact nI|exact nJ|exact nK|exact nL|exact nM|exact nN|exact nB|exact nC|exact nD|exact nE|exact nF));(case hf=>(repeat'(first|exact aH.nil|((first|with_reducible apply aH.cons|apply aH.cons);(case h=>(conv=>lhs;whnf);try exact rfl))))))
|((with_reducible apply ah.B3);(case hs=>exact fun _=>rfl);(case hy|hc=>exact rfl);(case ho=>kernel_rfl);(case hd=>(repeat'(first|exact aH.nil|((first|with_reducible apply aH.cons|apply aH.cons);(case h=>(conv=>lhs;whnf);try exact rfl)))));(case hn=>(first|exact nz|exact nA|exact nG|exact nH|exact nI|exact nJ|exact nK|exact nL|exact nM|exact nN|exact nB|exact nC|exact nD|exact nE|exact nF));(case hf=>(repeat'(first|exact aH.nil|((first|with_reducible apply aH.cons|apply aH.cons);(case h=>(conv=>lhs;whnf);try exact rfl))))))
|((with_reducible apply ah.H_);(case hs=>exact fun _=>rfl);(case ha|hy=>exact rfl);(case ht=>first|(with_reducible exact sz0)|(with_reducible exact dG)|(with_reducible exact oe)|(with_reducible exact sz3)|(with_reducible exact og)|(with_reducible exact sz5)|(with_reducible exact sz6)|(with_reducible exact sz7)|(with_reducible exact sz8)|(with_reducible exact sz9)|exact rfl);(case ho=>kernel_rfl);(case hl=>kernel_rfl);(case hb=>exact rfl);(case hc=>kernel_rfl);(case hf=>(repeat'(first|exact aH.nil|((first|with_reducible apply aH.cons|apply aH.cons);(case h=>(conv=>lhs;whnf);try exact rfl))))))
|((with_reducible apply ah.H4);(case hs=>exact fun _=>rfl);(case ha|hy=>exact rfl);(case ht=>first|(with_reducible exact sz0)|(with_reducible exact dG)|(with_reducible exact oe)|(with_reducible exact sz3)|(with_reducible exact og)|(with_reducible exact sz5)|(with_reducible exact sz6)|(with_reducible exact sz7)|(with_reducible exact sz8)|(with_reducible exact sz9)|exact rfl);(case hv=>exact rfl);(case ho=>kernel_rfl);(case hb=>exact rfl);(case hc=>kernel_rfl);(case hd=>(repeat'(first|exact aH.nil|((first|with_reducible apply aH.cons|apply aH.cons);(case h=>(conv=>lhs;whnf);try exact rfl)))));(case hf=>(repeat'(first|exact aH.nil|((first|with_reducible apply aH.cons|apply aH.cons);(case h=>(conv=>lhs;whnf);try exact rfl))))))
|((with_reducible apply ah.yc);(case hy=>exact rfl);(case ht=>first|(with_reducible exact sz0)|(with_reducible exact dG)|(with_reducible exact oe)|(with_reducible exact sz3)|(with_reducible exact og)|(with_reducible exact sz5)|(with_reducible exact sz6)|(with_reducible exact sz7)|(with_reducible exact sz8)|(with_reducible exact sz9));(case hb=>exact rfl);(case hl=>kernel_rfl))
|((with_reducible apply ah.uG);(case hy=>exact rfl);(case ht=>first|(with_reducible exact sz0)|(with_reducible exact dG)|(with_reducible exact oe)|(with_reducible exact sz3)|(with_reducible exact og)|(with_reducible exact sz5)|(with_reducible exact sz6)|(with_reducible exact sz7)|(with_reducible exact sz8)|(with_reducible exact sz9));(case hb=>exact rfl);(case hl=>kernel_rfl);(case hv=>exact rfl);(case hx=>(repeat'(first|exact gp.nil|(apply gp.cons)))))
|((with_reducible apply ah.x_);(case hy=>exact rfl);(case ht=>first|(with_reducible exact sz0)|(with_reducible exact dG)|(with_reducible exact oe)|(with_reducible exact sz3)|(with_reducible exact og)|(with_reducible exact sz5)|(with_reducible exact sz6)|(with_reducible exact sz7)|(with_reducible exact sz8)|(with_reducible exact sz9));(case hb=>exact rfl);(case hl=>kernel_rfl);(case hv=>(repeat'(first|exact aH.nil|((first|with_reducible apply aH.cons|apply aH.cons);(case h=>(conv=>lhs;whnf);try exact rfl)))));(case hx=>(conv=>lhs;whnf);try exact rfl))
|((with_reducible apply ah.Bc);(case hx|hy=>exact rfl);(case h=>first|assumption|omega))
|((with_reducible apply ah.BS);(case hs=>exact fun _=>rfl);(case hr=>first|(with_reducible exact dB)|(with_reducible exact dC)|(with_reducible exact dD)|(with_reducible exact rw3)|(with_reducible exact rw4)|exact rfl);(case hn=>(first|exact nz|exact nA|exact nG|exact nH|exact nI|exact nJ|exact nK|exact nL|exact nM|exact nN|exact nB|exact nC|exact nD|exact nE|exact nF));(case hf=>(repeat'(first|exact aH.nil|((first|with_reducible apply aH.cons|apply aH.cons);(case h=>(conv=>lhs;whnf);try exact rfl))))))
|((with_reducible apply ah.Ep);(case he=>first|(with_reducible exact eT)|(with_reducible exact el1)|(with_reducible exact eU)|(with_reducible exact el3)|(with_reducible exact el4)|(with_reducible exact eV)|(with_reducible exact el6)|(with_reducible exact eW)|exact rfl);(case hx|hi|hb=>exact rfl);(case hq=>first|assumption|omega))
|((with_reducible apply ah.Er);(case he=>first|(with_reducible exact eT)|(with_reducible exact el1)|(with_reducible exact eU)|(with_reducible exact el3)|(with_reducible exact el4)|(with_reducible exact eV)|(with_reducible exact el6)|(with_reducible exact eW)|exact rfl);(case hx|hi|hb=>exact rfl);(case h0=>first|assumption|omega);(case hq=>first|assumption|omega))
|((with_reducible apply ah.ER);(case hy|ht|hb=>exact rfl);(case hk=>assumption))
|((with_reducible apply ah.yb);(case hy=>exact rfl);(case ht=>first|(with_reducible exact sz0)|(with_reducible exact dG)|(with_reducible exact oe)|(with_reducible exact sz3)|(with_reducible exact og)|(with_reducible exact sz5)|(with_reducible exact sz6)|(with_reducible exact sz7)|(with_reducible exact sz8)|(with_reducible exact sz9));(case hb=>exact rfl);(case hk=>assumption);(case hl=>kernel_rfl);(case hv=>(repeat'(first|exact aH.nil|((first|with_reducible apply aH.cons|apply aH.cons);(case h=>(conv=>lhs;whnf);try exact rfl))))))
|((with_reducible apply ah.yc);(case hy=>exact rfl);(case ht=>first|(with_reducible exact sb)|(with_reducible exact sd)|(with_reducible exact sf)|(with_reducible exact si)|(with_reducible exact sj)|(with_reducible exact sk)|(with_reducible exact sn)|(with_reducible exact so)|(with_reducible exact sq)|(with_reducible exact ss)|(with_reducible exact su)|(with_reducible exact sw)|(with_reducible exact sx)|(with_reducible exact pO)|(with_reducible exact sz24)|(with_reducible exact sz25)|(with_reducible exact sz26)|(with_reducible exact sz27)|(with_reducible exact sz28)|(with_reducible exact sy)|(with_reducible exact sz30)|(with_reducible exact sz31)|(with_reducible exact sz32)|(with_reducible exact sz33)|(with_reducible exact sz34));(case hb=>exact rfl);(case hl=>kernel_rfl))
|((with_reducible apply ah.uG);(case hy=>exact rfl);(case ht=>first|(with_reducible exact sb)|(with_reducible exact sd)|(with_reducible exact sf)|(with_reducible exact si)|(with_reducible exact sj)|(with_reducible exact sk)|(with_reducible exact sn)|(with_reducible exact so)|(with_reducible exact sq)|(with_reducible exact ss)|(with_reducible exact su)|(with_reducible exact sw)|(with_reducible exact sx)|(with_reducible exact pO)|(with_reducible exact sz24)|(with_reducible exact sz25)|(with_reducible exact sz26)|(with_reducible exact sz27)|(with_reducible exact sz28)|(with_reducible exact sy)|(with_reducible exact sz30)|(with_reducible exact sz31)|(with_reducible exact sz32)|(with_reducible exact sz33)|(with_reducible exact sz34));(case hb=>exact rfl);(case hl=>kernel_rfl);(case hv=>exact rfl);(case hx=>(repeat'(first|exact gp.nil|(apply gp.cons)))))
|((with_reducible apply ah.x_);(case hy=>exact rfl);(case ht=>first|(with_reducible exact sb)|(with_reducible exact sd)|(with_reducible exact sf)|(with_reducible exact si)|(with_reducible exact sj)|(with_reducible exact sk)|(with_reducible exact sn)|(with_reducible exact so)|(with_reducible exact sq)|(with_reducible exact ss)|(with_reducible exact su)|(with_reducible exact sw)|(with_reducible exact sx)|(with_reducible exact pO)|(with_reducible exact sz24)|(with_reducible exact sz25)|(with_reducible exact sz26)|(with_reducible exact sz27)|(with_reducible exact sz28)|(with_reducible exact sy)|(with_reducible exact sz30)|(with_reducible exact sz31)|(with_reducible exact sz32)|(with_reducible exact sz33)|(with_reducible exact sz34));(case hb=>exact rfl);(case hl=>kernel_rfl);(case hv=>(repeat'(first|exact aH.nil|((first|with_reducible apply aH.cons|apply aH.cons);(case h=>(conv=>lhs;whnf);try exact rfl)))));(case hx=>(conv=>lhs;whnf);try exact rfl))
|((with_reducible apply ah.yb);(case hy=>exact rfl);(case ht=>first|(with_reducible exact sb)|(with_reducible exact sd)|(with_reducible exact sf)|(with_reducible exact si)|(with_reducible exact sj)|(with_reducible exact sk)|(with_reducible exact sn)|(with_reducible exact so)|(with_reducible exact sq)|(with_reducible exact ss)|(with_reducible exact su)|(with_reducible exact sw)|(with_reducible exact sx)|(with_reducible exact pO)|(with_reducible exact sz24)|(with_reducible exact sz25)|(with_reducible exact sz26)|(with_reducible exact sz27)|(with_reducible exact sz28)|(with_reducible exact sy)|(with_reducible exact sz30)|(with_reducible exact sz31)|(with_reducible exact sz32)|(with_reducible exact sz33)|(with_reducible exact sz34));(case hb=>exact rfl);(case hk=>assumption);(case hl=>kernel_rfl);(case hv=>(repeat'(first|exact aH.nil|((first|with_reducible apply aH.cons|apply aH.cons);(case h=>(conv=>lhs;whnf);try exact rfl))))))
|((with_reducible apply ah.ya);(case ht|hy|hb=>exact rfl);(case hk=>assumption);(case hj=>exact rfl))
|exact ah.r fun _=>rfl
 ):ah g d i env fr op x fr' ks:=h
def leq{α:Type}{a b:List α}(h:aH a b:=by repeat'(first|exact aH.nil|((first|with_reducible apply aH.cons|apply aH.cons);(case h=>(conv=>lhs;whnf);try exact rfl)))):aH a b:=h
def slt{e:Env}{fr:Fr}{n:Nat}{s:List Nat}{l:List (Nat×SV)}(h:jh e fr n s l:=by repeat'(first|exact jh.nil|(apply jh.cons;(case hv=>(conv=>lhs;whnf);try exact rfl)))):jh e fr n s l:=h
def JB{fr:Fr}{n:Nat}(h:fr.length=n:=by first|exact nz|exact nA|exact nG|exact nH|exact nI|exact nJ|exact nK|exact nL|exact nM|exact nN|exact nB|exact nC|exact nD|exact nE|exact nF):fr.length=n:=h
def JE{σ:Nat->Option Nat}{a b:Fr}(h:cU σ a b:=by repeat'(first|exact cU.nil|(with_reducible apply cU.row)|(with_reducible apply cU.mT)|(with_reducible apply cU.own)|((apply cU.box);(case hd=>(repeat'(first|exact aH.nil|((first|with_reducible apply aH.cons|apply aH.cons);(case h=>(conv=>lhs;whnf);try exact rfl)))))))):cU σ a b:=h
def dL{ks:List Nat}{a b:Fr}(h:dU ks a b:=by repeat'(first|exact dU.nil|(with_reducible apply dU.row)|(with_reducible apply dU.mT)|(with_reducible apply dU.own)|((apply dU.box);(case hd=>(repeat'(first|exact aH.nil|((first|with_reducible apply aH.cons|apply aH.cons);(case h=>(conv=>lhs;whnf);try exact rfl)))))))):dU ks a b:=h
def ae{p:Prop}(h:p:=by first|assumption|omega):p:=h
def aj{g:Cfg}{d:Option (List Nat)}{i:Nat}{env:Env}{fr:Fr}{c:Operand}{args:Array Operand}{tys:Array TypeId}{f:Nat}{pa y u:List SV}{xs:List AV}{v:List SV}{r:SV}{z:Fr}(hcl:Cl g f v [] r z)(hcal:c8 (rd env c)=some (f,pa,y):=by exact rfl)(hav:pa++args.toList.map (rd env)++y=u:=by exact rfl)(hx:bZ fr (a8 (aK g f 0 u) u)=some xs:=by exact rfl)(hh:bR [] (du (aK g f 0 u) u)=[]:=by exact rfl)(hm:cy (aT []) (aK g f 0 u) u xs=v:=by exact rfl)(hr:cI r=true:=by exact rfl):ah g d i env fr (.call ⟨.value c,args,tys⟩) r fr []:=ah.qj (hcl:=hcl) (hcal:=hcal) (hav:=hav) (hx:=hx) (hh:=hh) (hm:=hm) (hr:=hr)
def bX{g:Cfg}{d:Option (List Nat)}{i:Nat}{env:Env}{fr:Fr}{c:Operand}{args:Array Operand}{tys:Array TypeId}{f:Nat}{pa y u:List SV}{xs:List AV}{v:List SV}{r:SV}(hcl:Cl g f v [] r [])(hcal:c8 (rd env c)=some (f,pa,y):=by exact rfl)(hav:pa++args.toList.map (rd env)++y=u:=by exact rfl)(hx:bZ fr (a8 (aK g f 0 u) u)=some xs:=by exact rfl)(hh:bR [] (du (aK g f 0 u) u)=[]:=by exact rfl)(hm:cy (aT []) (aK g f 0 u) u xs=v:=by exact rfl)(hn:r.refs=[]:=by exact rfl)(hr:bg fr (a8 (aK g f 0 u) u)=[]:=by exact rfl):ah g d i env fr (.call ⟨.value c,args,tys⟩) r fr []:=ah.b9 (hcl:=hcl) (hcal:=hcal) (hav:=hav) (hx:=hx) (hh:=hh) (hm:=hm) (hn:=hn) (hr:=hr)
def rC{g:Cfg}{d:Option (List Nat)}{i:Nat}{env:Env}{fr:Fr}{c:Operand}{args:Array Operand}{tys:Array TypeId}{f:Nat}{pa z u:List SV}{xs:List AV}{v:List SV}{r x:SV}{y fr':Fr}(hcl:Cl g f v [] r y)(hcal:c8 (rd env c)=some (f,pa,z):=by exact rfl)(hav:pa++args.toList.map (rd env)++z=u:=by exact rfl)(hx:bZ fr (a8 (aK g f 0 u) u)=some xs:=by exact rfl)(hh:bR [] (du (aK g f 0 u) u)=[]:=by exact rfl)(hm:cy (aT []) (aK g f 0 u) u xs=v:=by exact rfl)(hr:lK fr (cX d i) (bg fr (a8 (aK g f 0 u) u)) r y=some (x,fr',[]):=by exact rfl):ah g d i env fr (.call ⟨.value c,args,tys⟩) x fr' []:=ah.call (hcl:=hcl) (hcal:=hcal) (hav:=hav) (hx:=hx) (hh:=hh) (hm:=hm) (hr:=hr)
def dy{g:Cfg}{d:Option (List Nat)}{i:Nat}{env:Env}{fr:Fr}{c:Operand}{args:Array Operand}{tys:Array TypeId}{f n:Nat}{pa G u:List SV}{xs:List AV}{z:List SV}{r v:SV}{D y fr':Fr}(hcl:Cl g f z [] r D)(hcal:c8 (rd env c)=some (f,pa,G):=by exact rfl)(hav:pa++args.toList.map (rd env)++G=u:=by exact rfl)(hx:bZ fr (a8 (aK g f 0 u) u)=some xs:=by exact rfl)(hh:bR [] (du (aK g f 0 u) u)=[]:=by exact rfl)(hm:cy (aT []) (aK g f 0 u) u xs=z:=by exact rfl)(hr:cI r=false:=by exact rfl)(hd:cX d i=false:=by exact rfl)(hq:bg fr (a8 (aK g f 0 u) u)=[]:=by kernel_rfl)(hn:fr.length=n:=by(first|exact nz|exact nA|exact nG|exact nH|exact nI|exact nJ|exact nK|exact nL|exact nM|exact nN|exact nB|exact nC|exact nD|exact nE|exact nF))(hv:r.sub (cC [] n)=v:=by(conv=>lhs;whnf);try exact rfl)(he:cU (cC [] n) D y:=by(repeat'(first|exact cU.nil|(with_reducible apply cU.row)|(with_reducible apply cU.mT)|(with_reducible apply cU.own)|((apply cU.box);(case hd=>(repeat'(first|exact aH.nil|((first|with_reducible apply aH.cons|apply aH.cons);(case h=>(conv=>lhs;whnf);try exact rfl)))))))))(hf:aH (fr++y) fr':=by(repeat'(first|exact aH.nil|((first|with_reducible apply aH.cons|apply aH.cons);(case h=>(conv=>lhs;whnf);try exact rfl))))):ah g d i env fr (.call ⟨.value c,args,tys⟩) v fr' []:=ah.Cb (hcl:=hcl) (hcal:=hcal) (hav:=hav) (hx:=hx) (hh:=hh) (hm:=hm) (hr:=hr) (hd:=hd) (hq:=hq) (hn:=hn) (hv:=hv) (he:=he) (hf:=hf)
def ld{g:Cfg}{d:Option (List Nat)}{i:Nat}{env:Env}{fr:Fr}{c:Operand}{args:Array Operand}{tys:Array TypeId}{f h0:Nat}{ht:List Nat}(hs:List Nat){pa D u:List SV}{xs:List AV}{z:List SV}{r x:SV}{bs v fr' y:Fr}{ks:List Nat}(hcl:Cl g f z v r fr')(hdr:cX d i=false:=by exact rfl)(hcal:c8 (rd env c)=some (f,pa,D):=by exact rfl)(hav:pa++args.toList.map (rd env)++D=u:=by exact rfl)(hx:bZ fr (a8 (aK g f 0 u) u)=some xs:=by exact rfl)(hh:bR [] (du (aK g f 0 u) u)=h0::ht:=by exact rfl)(hs0:close fr 4 (h0::ht)=hs:=by kernel_rfl)(hf:bg fr (a8 (aK g f 0 u) u)=[]:=by kernel_rfl)(hg:cJ fr hs=some bs:=by exact rfl)(hc:iM hs bs=true:=by kernel_rfl)(hm:cy (aT hs) (aK g f 0 u) u xs=z:=by exact rfl)(hb:bs.map (fun b=>b6 (b.sub (aT hs)))=v:=by exact rfl)(hk:kindOk hs fr' fr=true:=by exact rfl)(hv:r.sub (cC hs fr.length)=x:=by(conv=>lhs;whnf);try exact rfl)(hl:aH (back hs fr fr') y:=by(repeat'(first|exact aH.nil|((first|with_reducible apply aH.cons|apply aH.cons);(case h=>(conv=>lhs;whnf);try exact rfl)))))(hq:cA hs fr'=ks:=by exact rfl):ah g d i env fr (.call ⟨.value c,args,tys⟩) x y ks:=ah.B5 (hs:=hs) (hcl:=hcl) (hdr:=hdr) (hcal:=hcal) (hav:=hav) (hx:=hx) (hh:=hh) (hs0:=hs0) (hf:=hf) (hg:=hg) (hc:=hc) (hm:=hm) (hb:=hb) (hk:=hk) (hv:=hv) (hl:=hl) (hq:=hq)
def uV{g:Cfg}{d:Option (List Nat)}{i':Nat}{env:Env}{fr:Fr}{c:Operand}{args:Array Operand}{tys:Array TypeId}{f h0:Nat}{ht:List Nat}(hs:List Nat){pa D u:List SV}{xs:List AV}{v:List SV}{r x:SV}{bs y fr' z:Fr}{ks:List Nat}(hcl:Cl g f v y r fr')(hdr:cX d i'=false:=by exact rfl)(hcal:c8 (rd env c)=some (f,pa,D):=by exact rfl)(hav:pa++args.toList.map (rd env)++D=u:=by exact rfl)(hx:bZ fr (a8 (aK g f 0 u) u)=some xs:=by exact rfl)(hh:bR [] (du (aK g f 0 u) u)=h0::ht:=by exact rfl)(hs0:close fr 4 (h0::ht)=hs:=by kernel_rfl)(hf:bg fr (a8 (aK g f 0 u) u)=[]:=by kernel_rfl)(hg:cJ fr hs=some bs:=by exact rfl)(hc:iM hs bs=true:=by kernel_rfl)(hm:cy (aT hs) (aK g f 0 u) u xs=v:=by exact rfl)(hb:bs.map (fun b=>b6 (b.sub (aT hs)))=y:=by exact rfl)(hk:kindOk hs fr' fr=true:=by exact rfl)(hr:(r.sub (cC hs fr.length),back hs fr fr',cA hs fr')=(x,z,ks):=by exact rfl):ah g d i' env fr (.call ⟨.value c,args,tys⟩) x z ks:=ah.wJ (hs:=hs) (hcl:=hcl) (hdr:=hdr) (hcal:=hcal) (hav:=hav) (hx:=hx) (hh:=hh) (hs0:=hs0) (hf:=hf) (hg:=hg) (hc:=hc) (hm:=hm) (hb:=hb) (hk:=hk) (hr:=hr)
def yV{g:Cfg}{d:Option (List Nat)}{i:Nat}{env:Env}{fr:Fr}{c:Operand}{args:Array Operand}{tys:Array TypeId}{f h0:Nat}{ht:List Nat}(hs:List Nat){pa D u:List SV}{xs:List AV}{z:List SV}{r x:SV}{bs v fr' fr1 y:Fr}{ks:List Nat}(hcl:Cl g f z v r fr')(hdr:cX d i=false:=by exact rfl)(hcal:c8 (rd env c)=some (f,pa,D):=by exact rfl)(hav:pa++args.toList.map (rd env)++D=u:=by exact rfl)(hx:bZ fr (a8 (aK g f 0 u) u)=some xs:=by exact rfl)(hh:bR [] (du (aK g f 0 u) u)=h0::ht:=by exact rfl)(hs0:close fr 4 (h0::ht)=hs:=by kernel_rfl)(hf:aH (freeze fr (bg fr (a8 (aK g f 0 u) u))) fr1:=by(repeat'(first|exact aH.nil|((first|with_reducible apply aH.cons|apply aH.cons);(case h=>(conv=>lhs;whnf);try exact rfl)))))(hg:cJ fr1 hs=some bs:=by exact rfl)(hc:iM hs bs=true:=by kernel_rfl)(hm:cy (aT hs) (aK g f 0 u) u xs=z:=by exact rfl)(hb:bs.map (fun b=>b6 (b.sub (aT hs)))=v:=by exact rfl)(hk:kindOk hs fr' fr1=true:=by exact rfl)(hv:r.sub (cC hs fr.length)=x:=by(conv=>lhs;whnf);try exact rfl)(hl:aH (back hs fr1 fr') y:=by(repeat'(first|exact aH.nil|((first|with_reducible apply aH.cons|apply aH.cons);(case h=>(conv=>lhs;whnf);try exact rfl)))))(hq:cA hs fr'=ks:=by exact rfl):ah g d i env fr (.call ⟨.value c,args,tys⟩) x y ks:=ah.Ca (hs:=hs) (hcl:=hcl) (hdr:=hdr) (hcal:=hcal) (hav:=hav) (hx:=hx) (hh:=hh) (hs0:=hs0) (hf:=hf) (hg:=hg) (hc:=hc) (hm:=hm) (hb:=hb) (hk:=hk) (hv:=hv) (hl:=hl) (hq:=hq)
inductive wg (q:Prop):Prop where
 |mk (h:q)
def wg.out{q:Prop}(h:wg q):q:=by cases h with|mk h=>exact h
open Go.ChangeShapes Go.WideShapes Go.Deep
def k9(P:Program):Nat->List Field->Option Nat
 |off,[]=>some off
 |off,f::u=>match Nat.beq f.offset off with
  |true=>k9 P (off+P.cellsOf f.type) u
  |false=>none
def jc(P:Program):Nat->TypeId->Bool
 |0,_=>false
 |n+1,t=>match P.underlying t with
  |some (.int _)=>true
  |some .bool=>true
  |some .string=>true
  |some (.slice e)=>Nat.ble 1 (P.cellsOf e)&&(Nat.ble 8 (P.bytesOf e)&&jc P n e)
  |some (.struct u)=>(match k9 P 0 u.toList with
   |some k=>Nat.beq k (P.cellsOf t)
   |none=>false)&&u.toList.all fun f=>jc P n f.type
  |_=>false
def eh(R:TypeId->List AV->Prop):List Field->List AV->Prop
 |[],xs=>xs=[]
 |f::y,xs=>∃u v,xs=u++v/\R f.type u/\eh R y v
def aP(P:Program):Nat->TypeId->List AV->Prop
 |0,_,_=>False
 |n+1,t,xs=>match P.underlying t with
  |some (.int k)=>∃m,xs=[.int k m]/\(Lit.int k m).wf=true
  |some .bool=>∃b,xs=[.bool b]
  |some .string=>∃s,xs=[.str s]/\s.size<=maxLen
  |some (.slice e)=>∃u,xs=[.arr u]/\u.length<=17592186044416/\∀v∈u,aP P n e v
  |some (.struct y)=>eh (aP P n) y.toList xs
  |_=>False
def dH(l:List Nat):Prop:=∀n∈l,n<=reachBytes
def dH.fp{a b:List Nat}(h:dH (a++b)):dH a/\dH b:=⟨fun n u=>h n (by simp[u]),fun n u=>h n (by simp[u])⟩
section
variable {H:Type} {enc:TypeId×Value->H} {P:Program} {w:World}
theorem Ak{e:TypeId}:∀{l:List (DataW H)},dH (DataW.weightsAll P e l)->∀d∈l,dH (d.weights P e)
 |[],_,d,u=>by cases u
 |x::l,h,d,u=>by
  have v:=dH.fp h;rcases List.mem_cons.1 u with rfl|u
  ·exact v.1
  ·exact Ak v.2 d u
theorem Am:∀{z:List TypeId} {l:List (DataW H)},dH (DataW.weightsEach P z l)->∀(i:Nat) (t:TypeId) (d:DataW H),z[i]?=some t->l[i]?=some d->dH (d.weights P t)
 |[],_,_,_,_,_,y,_=>by simp at y
 |_::_,[],_,_,_,_,_,v=>by simp at v
 |t::z,x::l,h,i,u,d,y,v=>by
  have D:=dH.fp h
  cases i with
  |zero=>simp at y v;subst y v;exact D.1
  |succ i=>exact Am D.2 i u d (by simpa using y) (by simpa using v)
def Vs(w:World)(xs:List AV)(cs:List Value):Prop:=xs.length=cs.length/\∀(j:Nat) (x:AV) (u:Value),xs[j]?=some x->cs[j]?=some u->VR (fun _=>True) w x u
def Vs.one{x:AV}{u:Value}(h:VR (fun _=>True) w x u):Vs w [x] [u]:=⟨rfl,fun j y v z D=>by
 cases j with
 |zero=>simp at z D;subst z D;exact h
 |succ j=>simp at z⟩
def Vs.fp{xs D:List AV}{cs ds:List Value}(h1:Vs w xs cs)(h2:Vs w D ds):Vs w (xs++D) (cs++ds):=by
 refine⟨by simp[h1.1,h2.1],fun j x u z y=>?_⟩;rcases Nat.lt_or_ge j xs.length with v|v
 ·rw[List.getElem?_append_left v]at z;rw[List.getElem?_append_left (by rw[<- h1.1];exact v)]at y;exact h1.2 j x u z y
 ·rw[List.getElem?_append_right v]at z;rw[List.getElem?_append_right (by rw[<- h1.1];exact v),<- h1.1]at y;exact h2.2 _ x u z y
theorem Ae{R:TypeId->List AV->Prop}{cs:List Value}{tot:Nat}(D:cs.length=tot):∀(fs:List Field) (v:Nat),v<=tot->k9 P v fs=some tot->
  (∀f∈fs,∀c,(cs.drop f.offset).take (P.cellsOf f.type)=c->c.length=P.cellsOf f.type->∃I,R f.type I/\Vs w I c)->∃xs,eh R fs xs/\Vs w xs (cs.drop v)
 |[],v,V,z,_=>by
  unfold k9 at z;cases z;refine⟨[],rfl,?_,?_⟩
  ·simp[D]
  ·intro j x u Z;simp at Z
 |f::fs,v,V,z,h=>by
  unfold k9 at z;split at z
  ·rename_i y;have y:f.offset=v:=by simpa using y
   have G:∀(fs:List Field) (o:Nat),k9 P o fs=some tot->o<=tot:=by
    intro fs
    induction fs with
    |nil=>intro o h;unfold k9 at h;cases h;exact Nat.le_refl _
    |cons g gs ih=>
     intro o h;unfold k9 at h;split at h
     ·have:=ih _ h;omega
     ·cases h
   have h1:=G _ _ z;obtain⟨Q,hz,O⟩:=Ae D fs (v+P.cellsOf f.type) h1 z fun g U=>h g (List.mem_cons_of_mem _ U);obtain⟨I,hy,J⟩:=h f List.mem_cons_self _ rfl (by rw[List.length_take,List.length_drop,y];omega);refine⟨I++Q,⟨I,Q,rfl,hy,hz⟩,?_⟩;have:=J.fp O;rw[y]at this
   have e:(cs.drop v).take (P.cellsOf f.type)++cs.drop (v+P.cellsOf f.type)=cs.drop v:=by
    rw[<- List.drop_drop,List.take_append_drop]
   rwa[e]at this
  ·cases z
theorem vX:∀(n:Nat) (t:TypeId),jc P n t=true->∀(V:Nat) (cs:List Value) (d:DataW H) (ps:List MemPlace),DataW.trod enc P w 0 (fun _=>true) true V t cs=some (d,ps)->dH (d.weights P t)->∃xs,aP P n t xs/\Vs w xs cs
 |0,t,h=>by unfold jc at h;cases h
 |n+1,t,h=>by
  intro V cs d ps ht U;unfold jc at h;unfold aP;split at h
  ·rename_i k G
   try simp only[G]
   obtain⟨m,rfl,_,a_⟩:=DataW.trod_int G ht;exact⟨_,⟨m,rfl,a_⟩,.one (.int k m)⟩
  ·rename_i G
   try simp only[G]
   obtain⟨b,rfl,_⟩:=DataW.trod_bool G ht;exact⟨_,⟨b,rfl⟩,.one (.bool b)⟩
  ·rename_i G
   try simp only[G]
   obtain⟨s,rfl,_,hs⟩:=DataW.trod_string G ht;exact⟨_,⟨s,rfl,hs⟩,.one (.str s)⟩
  ·rename_i e G
   try simp only[G]
   rw[Bool.and_eq_true,Bool.and_eq_true]at h;obtain⟨ag,ak,aq⟩:=h;have ag:1<=P.cellsOf e:=by simpa using ag
   have ak:8<=P.bytesOf e:=by simpa using ak
   rcases open_slice G ht with⟨rfl,_⟩|⟨a,u,cap,m,k,D,Pl,rfl,_,hl,_,hm,hx,hi⟩
   ·exact⟨_,⟨[],rfl,by simp,fun cs an=>by cases an⟩,.one (.bj none 0)⟩
   ·simp only[if_true]at hm;subst hm;simp only[Prod.mk.injEq]at hx;rw[hx.1]at U;clear hx ht;rw[DataW.weights]at U;simp only[G]at U
    have ad:m*8<=reachBytes:=by
     have:=U _ (List.mem_cons_self);simp only[List.length_map,List.length_range]at this;have h2:m*8<=m*P.bytesOf e:=Nat.mul_le_mul_left _ ak;have h3:u+(m - u)=m:=by omega
     rw[h3]at this;omega
    have a7:∀i,i <u->dH ((D i).weights P e):=by
     intro i J;have h2:dH (DataW.weightsAll P e ((List.range u).map D)):=fun n hn=>U n (List.mem_cons_of_mem _ (List.mem_append_left _ hn));exact Ak h2 _ (List.mem_map_of_mem (List.mem_range.2 J))
    have aQ:∀i,i <u->∃z:List Value×List AV,w.cells? 0 (a.add (i*P.cellsOf e)) (P.cellsOf e)=some z.1/\aP P n e z.2/\Vs w z.2 z.1:=by
     intro i J;obtain⟨aM,hc,a6⟩:=hi i (by omega);obtain⟨ys,h1,h2⟩:=vX n e aq _ _ _ _ a6 (a7 i J);exact⟨(aM,ys),hc,h1,h2⟩
    obtain⟨f,hf⟩:=choose_lt aQ
    have I:∀i,i <u->(f i).1.length=P.cellsOf e/\∀(j:Nat),j <P.cellsOf e->w.cell? ((a.add (i*P.cellsOf e)).add j)=some ((f i).1.getD j undef):=by
     intro i J;obtain⟨_,am,aN⟩:=World.cells?_some (hf i J).1;refine⟨am,fun j hj=>?_⟩;rw[aN j hj,List.getD_eq_getElem?_getD,List.getElem?_eq_getElem (by omega)];rfl
    have v:((List.range u).map fun i=>(f i).2).length=u:=by simp
    have aw:∀(k:Nat) (cs:List AV),((List.range u).map fun i=>(f i).2)[k]?=some cs->k <u/\cs=(f k).2:=by
     intro k cs Q;have y:k <u:=by have:=aC Q;simpa using this
     rw[List.getElem?_map,List.getElem?_range y]at Q;exact⟨y,by simpa using Q.symm⟩
    refine⟨[.arr ((List.range u).map fun i=>(f i).2)],⟨_,rfl,?_,?_⟩,.one ?_⟩
    ·rw[v];unfold reachBytes at ad;omega
    ·intro cs an;obtain⟨i,J,rfl⟩:=List.mem_map.1 an;exact(hf i (List.mem_range.1 J)).2.1
    ·rcases Nat.eq_zero_or_pos u with h0|h0
     ·subst h0;exact .bj _ _
     ·have al:=(I 0 h0).2 0 (by omega);obtain⟨b,o,sp⟩:=a;have hs:sp=none:=by simpa[Addr.add]using World.cell?_spot al
      subst hs
      have Z:∀i j:Nat,((⟨b,o,none⟩:Addr).add i).add j=⟨b,o+(i+j),none⟩:=by
       intro i j;unfold Addr.add;by_cases aV:i=0 <;>by_cases a1:j=0 <;>simp[aV,a1,Nat.add_assoc]
      have hb:b <w.heap.size:=by
       have:=Z 0 0;rw[Nat.zero_mul,this]at al;exact World.block_lt_of_cell? w _ al
      have:=VR.arr (M:=fun _=>True) (w:=w) b o m (P.cellsOf e) ((List.range u).map fun i=>(f i).2) (fun k j=>(f k).1.getD j undef) (by intro h;rw[h]at v;simp at v;omega) (by rw[v];unfold reachBytes at ad;omega) (by rw[v];exact hl) hb trivial
       (fun k cs Q=>by
        obtain⟨y,rfl⟩:=aw k cs Q;rw[(hf k y).2.2.1,(I k y).1])
       (fun k j Q hj=>by
        rw[v]at Q;rw[<- Z];exact(I k Q).2 j hj)
       (fun k j cs x Q hj=>by
        obtain⟨y,rfl⟩:=aw k cs Q;have aY:j <(f k).1.length:=by rw[<- (hf k y).2.2.1];exact aC hj
        refine(hf k y).2.2.2 j x _ hj ?_;rw[List.getD_eq_getElem?_getD,List.getElem?_eq_getElem aY];rfl)
      rw[v]at this;exact this
  ·rename_i fs G
   try simp only[G]
   rw[Bool.and_eq_true]at h;obtain⟨O,au⟩:=h;obtain⟨xs,k,_,hx,am,bb,hf⟩:=DataW.trod_struct G ht;simp only[Prod.mk.injEq]at hx;rw[hx.1]at U;rw[DataW.weights]at U;simp only[G]at U;split at O
   ·rename_i tot aJ;have ao:tot=P.cellsOf t:=by simpa using O
    obtain⟨ys,h1,h2⟩:=Ae (w:=w) (R:=aP P n) (cs:=cs) (tot:=tot) (by rw[am,ao]) fs.toList 0 (Nat.zero_le _) aJ (fun f aB c hc bc=>by
     obtain⟨i,hi,aU⟩:=List.mem_iff_getElem.1 aB
     have af:fs[i]?=some f:=by
      rw[<- aU];simp at hi;simp[hi]
     have aL:=hf i f af;have aE:i <xs.length:=by rw[bb];simpa using hi
     rw[List.getElem?_eq_getElem aE,hc]at aL;have aq:jc P n f.type=true:=List.all_eq_true.1 au f aB;refine vX n f.type aq _ _ _ _ aL ?_;refine Am U i f.type _ ?_ ?_
     ·rw[List.getElem?_map];simp[af]
     ·rw[List.getElem?_map,List.getElem?_eq_getElem aE];rfl)
    exact⟨ys,h1,by simpa using h2⟩
   ·cases O
  ·cases h
end
section
variable {H:Type} {enc:TypeId×Value->H} {P:Program}
def F6{f:Func}{s:ChangeSpec}{apart U y Q:Bool}{W Z:World}{args:Array Value}{v:Value}{ds gs:List (DataW H)}{u pa pv:List MemPlace}
  (hW:DataW.Whole enc P f.params.toList s.vars apart W args.toList ds gs u)
  (O:∀(b:Nat) (V:Nat->Bool) (hd:Bool),DataW.TrodAll enc P Z b V hd f.resultTypes.toList (v.resultList f.resultTypes.size) (s.fn H (ds++gs)).results [])
  (z:∀V:Nat->Bool,(∀p∈u,V p.block=true)->DataW.TrodAll enc P Z 0 V true f.params.toList args.toList (s.fn H (ds++gs)).args pa)
  (G:∀V:Nat->Bool,(∀p∈u,V p.block=true)->DataW.TrodVars enc P Z V s.vars (s.fn H (ds++gs)).vars pv)
  (I:u=pa++pv)(hb:Below W.heap.size W Z)
  (hok:∀(j:Nat) (t:TypeId) (r:Value),f.resultTypes[j]?=some t->(v.resultList f.resultTypes.size)[j]?=some r->Value.okWide P Z .any 0 t r):
  s.post enc P f apart U y Q W args v Z:=by
 have af:∀p∈u,p.block <W.heap.size:=fun p D=>hW.lt p D;have J:∀p∈u,(fun b=>decide (b <W.heap.size)) p.block=true:=fun p D=>by simpa using af p D
 refine⟨ds,gs,u,[],pa,pv,hW,O _ _ _,z _ J,G _ J,World.keptBut_mono (fun p D=>⟨D,?_⟩) (hb.frame (·∈u)),fun _=>?_⟩
 ·rw[I,List.mem_append]at D;exact Or.inr D
 ·obtain⟨_,_,_,_,_,hz,hn⟩:=hW;refine⟨hok,_,_,([]++pa)++pv,⟨[]++pa,pv,trodAll_append (z _ (fun _ _=>rfl)) (O _ _ _),G _ (fun _ _=>rfl),rfl,?_,?_⟩,?_⟩
  ·intro b ag D;have ad:MemPlace.cell b ag∈u:=by rw[I];simpa using D
   rw[hb.frozen (af _ ad)];exact hz b ag ad
  ·intro ha;have:=hn ha;rw[I]at this;simpa using this
  ·intro p D _;rw[I];simpa using D
end
def ci(w:World)(e:Ending)(w':World):Prop:=e=.returned (.bool true)/\Below w.heap.size w w'
def ci.mk{w w':World}(h:Below w.heap.size w w'):ci w (.returned (.bool true)) w':=⟨rfl,h⟩
section
variable {H:Type} {enc:TypeId×Value->H}
def laidOut:laidOutB Tryz.prog=true:=by kernel_rfl
def Ix{P:Program}(Q:laidOutB P=true){W V:World}(hb:Below W.heap.size W V)(sp:Nat->Bool)(J:List TypeId):∀(vs:List Value) (ds:List (DataW H)) (z:List MemPlace),
  (∀t∈J,P.readableRec t=true/\t <P.types.size)->(∀x∈z,x.block <W.heap.size)->(∀p∈z,sp p.block=true)->
  DataW.TrodAll enc P W 0 (fun _=>true) true J vs ds z->DataW.TrodAll enc P V 0 sp true J vs ds z:=by
 induction J with
 |nil=>
  intro vs ds z _ _ _ h;obtain⟨rfl,rfl,rfl⟩:=trodAll_nil h;exact trodAll_mk0
 |cons t J ih=>
  intro vs ds z Z D G h;obtain⟨v,U,d,O,p,q,rfl,rfl,rfl,h0,hr⟩:=trodAll_cons h;have I:=Z t (by simp)
  exact trodAll_cons_mk (WideElems.Trod_stays Q I.1 I.2 h0 (fun x y=>hb.same (D x (by simp[y]))) (fun x y=>G x (by simp[y])))
   (ih U O q (fun u hu=>Z u (by simp[hu])) (fun x y=>D x (by simp[y])) (fun x y=>G x (by simp[y])) hr)
def BN:Value.resultList 1 (Value.bool true)=[Value.bool true]:=by kernel_rfl
set_option maxRecDepth 100000 in
theorem EI {F:FuncId} {f:Func} {s:ChangeSpec} {W:World} {args:Array Value} {ds gs:List (DataW H)} {z:List MemPlace} (y:s.vars=[]) (I:f.resultTypes=#[4])
  (G:(f.params.toList.all fun t=>Tryz.prog.readableRec t && decide (t < Tryz.prog.types.size))=true) (O:s.fn H ds={ results:=[.lit (.bool true)],args:=ds })
  (hW:DataW.Whole enc Tryz.prog f.params.toList s.vars false W args.toList ds gs z) (h:Calls Tryz.prog F args W (ci W)) :
  Calls Tryz.prog F args W fun e Z=>∃ v,e=.returned v/\s.post enc Tryz.prog f false true false false W args v Z:=by
 refine h.mono fun e Z ⟨he,hb⟩=>⟨_,he,?_⟩;have D:=hW;obtain ⟨p,q,hA,hV,rfl,ad,af⟩:=hW;have Q:∀ x∈p++q,x.block < W.heap.size:=fun x J=>D.lt x J;rw [y] at hV;obtain ⟨rfl,rfl⟩:=trodVars_none hV;have u:s.fn H (ds++[])={ results:=[.lit (.bool true)],args:=ds }:=by rw [List.append_nil];exact O
 refine F6 (pa:=p) (pv:=[]) D ?_ ?_ ?_ rfl hb ?_
 ·intro b V hd;rw [u,I];exact trodAll_mk1 (shut_bool Tryz.underlying4 true)
 ·intro V U;rw [u];exact Ix laidOut hb V _ _ _ _ (fun t ht=>by have:=List.all_eq_true.1 G t ht;rw [Bool.and_eq_true] at this;exact ⟨this.1,of_decide_eq_true this.2⟩) (fun x J=>Q x (by simp [J])) (fun x J=>U x (by simp [J])) hA
 ·intro V _;rw [u,y];rfl
 ·exact ok_one I BN (okWide_bool_mk Tryz.underlying4 true)
end
def tB(W:World):Ctx:=⟨fun _=>True,fun _=>False,fun _=>False,W,fun _=>none⟩
def CU{γ:Glob}{W:World}(u:γ.G W)(hn:γ.n<=W.heap.size):ar γ (tB W) [] (tB W).L W where
 bN:=u
 gn:=hn
 gx:=fun _ h=>h.elim
 fresh:=fun _ _=>trivial
 os:=rfl
 tape:=rfl
 output:=rfl
 size:=Nat.le_refl _
 kept:=fun _ _ _=>rfl
 lim:=fun _ _ h=>by cases h
 new:=fun _ _ _ _ h=>by cases h
 bW:=fun _ _ _ _ _ h=>by cases h
 hand:=fun _ _ h=>by cases h
 blk:=fun i v h=>by simp at h
def EM{g:Cfg}{γ:Glob}(hW:Wf g γ){F:Nat}{xs:List AV}{us:Array Value}{W:World}(hc:Cl g F (xs.map .t) [] (.t (.bool true)) [])(O:γ.G W)(hn:γ.n<=W.heap.size)(hv:Vs W xs us.toList):Calls g.P F us W (ci W):=by
 obtain⟨n,I⟩:=hc
 have h:=((sound hW n).1 F _ _ _ _ I).2 (tB W) W us (CU O hn) rfl (by rw[List.length_map,hv.1];simp) (fun j x u D Z=>by
  rw[List.getElem?_map]at D
  cases J:xs[j]? with
  |none=>rw[J]at D;cases D
  |some y=>
   rw[J]at D;cases D;exact .t _ _ ((hv.2 j y u J (by simpa using Z)).on (Nat.le_refl _) fun b _ _=>⟨⟨trivial,fun⟨i,v,lb,h1,_⟩=>by cases h1⟩,rfl⟩))
 refine h.mono fun e w' ⟨v,L',U,z,Q⟩=>⟨?_,⟨z.os,z.tape,z.output,z.size,fun k V=>z.kept k V id⟩⟩;rw[U]
 cases Q with
 |t x v h=>cases h;rfl
def HV{H:Type}{P:Program}{v us:List TypeId}{ds y:List (DataW H)}(h:(DataW.weightsEach P (v++us) (ds++y)).all (·<=reachBytes)=true):dH (DataW.weightsEach P v ds):=by
 have z:dH (DataW.weightsEach P (v++us) (ds++y)):=fun n u=>by simpa using List.all_eq_true.1 h n u
 clear h
 induction v generalizing ds with
 |nil=>intro n u;simp[DataW.weightsEach]at u
 |cons t v D=>
  cases ds with
  |nil=>intro n u;simp[DataW.weightsEach]at u
  |cons d ds=>
   simp only[List.cons_append,DataW.weightsEach]at z⊢;have h1:=dH.fp z;intro n u;rcases List.mem_append.1 u with h|h
   ·exact h1.1 n h
   ·exact D h1.2 n h
def Arg(P:Program)(m:Nat)(t:TypeId)(x:AV):Prop:=∃xs,aP P m t xs/\(match P.underlying t with
 |some (.struct _)=>x=.agg xs
 |_=>xs=[x])
def pY(P:Program)(m:Nat):List TypeId->List AV->Prop
 |[],xs=>xs=[]
 |t::v,xs=>∃x u,xs=x::u/\Arg P m t x/\pY P m v u
def I8{W:World}{xs:List AV}{v:Value}(h:Vs W xs [v]):∃x,xs=[x]/\VR (fun _=>True) W x v:=by
 match xs,h with
 |[x],h=>exact⟨x,rfl,h.2 0 x v rfl rfl⟩
 |[],h=>simp[Vs]at h
 |_::_::_,h=>simp[Vs]at h
section
variable {H:Type} {enc:TypeId×Value->H} {P:Program} {W:World}
def Bv{m V:Nat}{t:TypeId}{v:Value}{d:DataW H}{U:List MemPlace}(z:jc P m t=true)(hv:Value.okWide P W .any V t v)(h:DataW.Trod enc P W 0 (fun _=>true) true t v d U)(hs:dH (d.weights P t)):∃x,Arg P m t x/\VR (fun _=>True) W x v:=by
 obtain⟨G,hf⟩:=h;obtain⟨xs,h1,h2⟩:=vX m t z G _ d U hf hs
 have one:∀u,v.cells.toList=[u]->v=u->(∀D,P.underlying t≠some (.struct D))->∃x,Arg P m t x/\VR (fun _=>True) W x v:=fun u hc y J=>by
  rw[hc]at h2;obtain⟨x,rfl,Q⟩:=I8 h2;refine⟨x,⟨[x],h1,?_⟩,y ▸ Q⟩;split
  ·rename_i D I;exact absurd I (J D)
  ·rfl
 cases m with
 |zero=>unfold jc at z;cases z
 |succ m=>
  unfold jc at z;split at z
  ·rename_i k y;obtain⟨n,rfl⟩:=okWide_int y hv;exact one _ rfl rfl fun D h=>by rw[y]at h;cases h
  ·rename_i y;obtain⟨n,rfl⟩:=okWide_bool y hv;exact one _ rfl rfl fun D h=>by rw[y]at h;cases h
  ·rename_i y;obtain⟨n,rfl⟩:=okWide_string y hv;exact one _ rfl rfl fun D h=>by rw[y]at h;cases h
  ·rename_i e y;obtain⟨a,l,c,rfl⟩:=okWide_slice y hv;exact one _ rfl rfl fun D h=>by rw[y]at h;cases h
  ·rename_i D y;obtain⟨Z,rfl,_⟩:=okWide_struct y hv;refine⟨.agg xs,⟨xs,h1,by rw[y]⟩,.agg xs Z (by have:=h2.1;simp[Value.cells]at this;omega) fun j x u Q O=>h2.2 j x u Q (by simpa[Value.cells]using O)⟩
  ·cases z
theorem wq{m b0:Nat}:∀(y:List TypeId) (vs:List Value) (ds:List (DataW H)) (U:List MemPlace),(y.all fun t=>jc P m t)=true->(∀(j:Nat) t v,y[j]?=some t->vs[j]?=some v->Value.okWide P W .any b0 t v)->DataW.TrodAll enc P W 0 (fun _=>true) true y vs ds U->dH (DataW.weightsEach P y ds)->ds.length=y.length/\∃xs,pY P m y xs/\Vs W xs vs
 |[],vs,ds,U,_,_,h,_=>by
  obtain⟨rfl,rfl,rfl⟩:=trodAll_nil h;exact⟨rfl,[],rfl,rfl,fun j x u J=>by simp at J⟩
 |t::y,vs,ds,U,z,Z,h,hs=>by
  obtain⟨v,V,d,D,p,q,rfl,rfl,rfl,h0,hr⟩:=trodAll_cons h;rw[List.all_cons,Bool.and_eq_true]at z;have G:=dH.fp (show dH (d.weights P t++DataW.weightsEach P y D) from hs);obtain⟨x,J,O⟩:=Bv z.1 (Z 0 t v rfl rfl) h0 G.1;obtain⟨hl,ys,hy,Q⟩:=wq y V D q z.2 (fun j t v ht I=>Z (j+1) t v (by simpa using ht) (by simpa using I)) hr G.2;exact⟨by simp[hl],x::ys,⟨x,ys,rfl,J,hy⟩,(Vs.one O).fp Q⟩
set_option maxRecDepth 100000 in
theorem EH {m b0:Nat} {g:Cfg} {γ:Glob} (hP:g.P=Tryz.prog) (Q:Wf g γ) {F:FuncId} {f:Func} {s:ChangeSpec} {args:Array Value} {ds gs:List (DataW H)} {u:List MemPlace} {ts:List TypeId} (y:s.vars=[]) (V:f.resultTypes=#[4])
  (D:(f.params.toList.all fun t=>Tryz.prog.readableRec t && decide (t < Tryz.prog.types.size))=true) (ad:(f.params.toList.all fun t=>jc Tryz.prog m t)=true) (U:∀ ds:List (DataW H),ds.length=f.params.toList.length->s.fn H ds={ results:=[.lit (.bool true)],args:=ds })
  (I:∀ (j:Nat) t v,f.params[j]?=some t->args[j]?=some v->Value.okWide Tryz.prog W .any b0 t v)
  (hW:DataW.Whole enc Tryz.prog f.params.toList s.vars false W args.toList ds gs u) (Z:(DataW.weightsEach Tryz.prog (f.params.toList++ts) (ds++gs)).all (·<=reachBytes)=true)
  (hG:γ.G W) (hn:γ.n<=W.heap.size) (z:∀ xs,pY Tryz.prog m f.params.toList xs->Cl g F (xs.map .t) [] (.t (.bool true)) []) :
  Calls Tryz.prog F args W fun e W'=>∃ v,e=.returned v/\s.post enc Tryz.prog f false true false false W args v W':=by
 have O:=hW;obtain ⟨p,q,J,hV,rfl,ag,ak⟩:=hW;have hA:DataW.TrodAll enc Tryz.prog W 0 (fun _=>true) true f.params.toList args.toList ds p:=J;obtain ⟨hl,xs,hx,af⟩:=wq f.params.toList args.toList ds p ad (fun j t v h1 h2=>I j t v (by simpa using h1) (by simpa using h2)) hA (HV Z);refine EI y V D (U ds hl) O ?_;rw [<- hP];exact EM Q (z xs hx) hG hn af
end
structure wj (P:Program) (f:Nat):Prop where
 known:eS P f
 some:∀(blk off cap:Nat) (zs:List Int) (w:World),Sort.Holds (Value.int .i64) w blk off zs.toArray->blk <w.heap.size->zs.length <4611686018427387904->
  Calls P f #[.slice (some ⟨blk,off,none⟩) zs.length cap] w fun e w'=>e=.returned (.tuple #[])/\∃n os,w'=Sort.grow (Sort.putRow (Value.int .i64) (Sort.ahead w n) blk off (zs.mergeSort fun x y=>decide (x<=y)).toArray) os
 none:∀(p:Option Addr) (cap:Nat) (w:World),Calls P f #[.slice p 0 cap] w fun e w'=>e=.returned (.tuple #[])/\w'=w
def intOf:List AV->Option Int
 |[.int .i64 n]=>some n
 |_=>none
def l7:List (List AV)->Option (List Int)
 |[]=>some []
 |c::r=>match intOf c,l7 r with
  |some n,some l=>some (n::l)
  |_,_=>none
def jA(l:List Int):List (List AV):=l.map fun n=>[.int .i64 n]
def Ej{c:List AV}{n:Int}(h:intOf c=some n):c=[.int .i64 n]:=by
 unfold intOf at h;split at h
 ·cases h;rfl
 ·cases h
theorem xJ:∀{es:List (List AV)} {l:List Int},l7 es=some l->es=jA l
 |[],l,h=>by cases h;rfl
 |c::r,l,h=>by
  unfold l7 at h;split at h
  ·rename_i n m h1 h2;cases h;rw[Ej h1,xJ h2];rfl
  ·cases h
def Ao:Lb->Option Lb
 | .row false u 1 v=>match l7 v with
  |some l=>some (.row false u 1 (jA (l.mergeSort fun x y=>decide (x<=y))))
  |none=>none
 |_=>none
def vI:List SV->Fr->Option (SV×Fr)
 |[.ls 0],[b]=>match Ao b with
  |some u=>some (.aL [],[u])
  |none=>none
 |_,_=>none
def H0{P:Program}{γ:Glob}{F:Nat}(hP:wj P F){args:List SV}{fr:Fr}{r:SV}{fr':Fr}(h:vI args fr=some (r,fr')):eS P F/\∀(κ:Ctx) (w:World) (us:Array Value),ar γ κ fr κ.L w->κ.W=w->us.size=args.length->(∀(j:Nat) (x:SV) (u:Value),args[j]?=some x->us[j]?=some u->SR (MA κ.M fr κ.L) κ.L w x u)->
  Calls P F us w fun e w'=>∃v L',e=.returned v/\ar γ κ fr' L' w'/\SR (MA κ.M fr' L') L' w' r v:=by
 refine⟨hP.known,fun κ w us D hw aB hr=>?_⟩;unfold vI at h;split at h
 rotate_left
 ·cases h
 rename_i b;split at h
 rotate_left
 ·cases h
 rename_i b' hb;cases h;unfold Ao at hb;split at hb
 rotate_left
 ·cases hb
 rename_i aN es;split at hb
 rotate_left
 ·cases hb
 rename_i l hl;cases hb;obtain rfl:=xJ hl;have aw:us.size=1:=aB
 obtain⟨u,rfl⟩:∃u,us=#[u]:=⟨us[0],by
  apply Array.ext
  ·simp[aw]
  ·intro i h1 h2;have:i=0:=by simp at h2;omega
   subst this;rfl⟩
 have hu:=hr 0 (.ls 0) u rfl rfl;obtain⟨T,v,vs,hL,J,I,aQ,an⟩:=D.blk 0 _ rfl
 obtain rfl:u=v:=by
  cases hu with
  |ls _ _ h2 _=>rw[hL]at h2;exact(Option.some.inj h2).symm
 have O:(jA l).length=l.length:=List.length_map _;have aE:=J.len;rw[O,Nat.mul_one]at aE
 have aJ:vs=l.map (Value.int .i64):=by
  apply List.ext_getElem?;intro k;rcases Nat.lt_or_ge k l.length with z|z
  ·obtain⟨n,ak⟩:=av z;obtain⟨x,U,aM⟩:=an k 0 [.int .i64 n] (.int .i64 n) (by unfold jA;rw[List.getElem?_map,ak];rfl) rfl;rw[Nat.mul_one,Nat.add_zero]at U;rw[U,List.getElem?_map,ak];cases aM;rfl
  ·rw[List.getElem?_eq_none (by omega),List.getElem?_eq_none (by simpa using z)]
 obtain⟨S,hS⟩:∃S,(l.mergeSort fun x y=>decide (x<=y))=S:=⟨_,rfl⟩;have V:S.length=l.length:=by rw[<- hS];exact List.length_mergeSort _
 rw[hS];have al:(jA S).length=l.length:=by unfold jA;rw[List.length_map,V]
 rcases Nat.eq_zero_or_pos l.length with h0|h0
 ·obtain rfl:l=[]:=List.eq_nil_of_length_eq_zero h0;obtain rfl:S=[]:=List.eq_nil_of_length_eq_zero (by rw[V];rfl);obtain⟨q,c,rfl⟩:=J.form;refine(hP.none q c w).mono fun e w' ⟨he,Q⟩=>?_;subst Q;exact⟨_,κ.L,he,D,.aL [] #[] rfl fun j x u U=>by simp at U⟩
 ·have am:=J.own (by rw[O];exact h0);rcases am.2 with⟨_,hz⟩|⟨g,cap,aU,rfl,_,hg,af,ao,aq,ad⟩
  ·rw[O]at hz;omega
  ·rw[O]at af ad;rw[Nat.mul_one,aJ]at ad;obtain⟨cap,rfl⟩:∃c,cap=c+1:=⟨cap - 1,by omega⟩;have au:g <w.heap.size:=(Array.getElem?_eq_some_iff.1 hg).1;have hH:=holds_of_blockI hg ad;rw[O];refine(hP.some g 0 (cap+1) l w hH au (by rw[O]at I;omega)).mono fun e w' ⟨he,n,os,Q⟩=>?_;rw[hS]at Q;have G:=grownBy_sortedI (w:=w) (g:=g) (n:=n) (os:=os) S.toArray;have Z:=ownsRow_sortedI (w:=w) (base:=0) (n:=n) (os:=os) V (Nat.zero_le _) hg af ao aq;rw[<- Q]at G Z;rw[<- O]at Z;obtain⟨p1,p2,p3,p4⟩:=D.new 0 _ g _ hL (.one rfl) rfl;have ag:=p4 rfl
   have aY:γ.n<=g:=by
    rcases ag with h|h
    ·have:=D.gn;omega
    ·exact(D.gx g h).1
   have aV:∀i v b lb,κ.L i=some v->Bk v b->([.row false aN 1 (jA l)]:Fr)[i]?=some lb->i=0/\b=g:=fun i v b lb h1 h2 h3=>by
    have:=aC h3;obtain rfl:i=0:=by simpa using this
    rw[hL]at h1;cases h1;exact⟨rfl,(Option.some.inj (h2.of rfl)).symm⟩
   refine⟨_,κ.L,he,?_,.aL [] #[] rfl fun j x u U=>by simp at U⟩
   exact{
    bN:=γ.stays _ _ D.bN fun k z=>G.block k (by omega) (by simp;omega)
    gn:=D.gn
    gx:=D.gx
    fresh:=D.fresh
    os:=G.os.trans D.os
    tape:=G.tape.trans D.tape
    output:=G.output.trans D.output
    size:=Nat.le_trans D.size G.size
    kept:=fun k z U=>by
     refine(G.block k (Nat.lt_of_lt_of_le z D.size) ?_).trans (D.kept k z U);intro e;cases e;rcases ag with h|h
     ·omega
     ·exact U h
    lim:=fun i v hi=>D.lim i v hi
    new:=fun i v b lb h1 h2 h3=>by
     have:=aC h3;obtain rfl:i=0:=by simpa using this
     cases h3;obtain⟨q1,q2,q3,q4⟩:=D.new 0 v b _ h1 h2 rfl;exact⟨Nat.lt_of_lt_of_le q1 G.size,q2,q3,fun _=>q4 rfl⟩
    bW:=D.bW
    hand:=fun j v hj=>by
     obtain⟨lb,h1,h2⟩:=D.hand j v hj;have:=aC h1;obtain rfl:j=0:=by simpa using this
     cases h1;exact⟨_,rfl,h2⟩
    blk:=fun i lb hi=>by
     have:=aC hi;obtain rfl:i=0:=by simpa using this
     cases hi;refine⟨T,_,S.map (Value.int .i64),hL,.inr (by rw[al,<- O];exact Z),by rw[al];rw[O]at I;exact I,fun k cs z=>?_,fun k j cs x z hj=>?_⟩
     ·unfold jA at z;rw[List.getElem?_map]at z
      cases hs:S[k]? with
      |none=>rw[hs]at z;cases z
      |some m=>rw[hs]at z;cases z;rfl
     ·unfold jA at z;rw[List.getElem?_map]at z
      cases hs:S[k]? with
      |none=>rw[hs]at z;cases z
      |some m=>
       rw[hs]at z;cases z;have:j=0:=by have:=aC hj;simpa using this
       subst this;cases hj;exact⟨.int .i64 m,by rw[Nat.mul_one,Nat.add_zero,List.getElem?_map,hs];rfl,.int _ _⟩}
end Go.Proofs.YtgbfedgghjcdcaaGreatDoor
