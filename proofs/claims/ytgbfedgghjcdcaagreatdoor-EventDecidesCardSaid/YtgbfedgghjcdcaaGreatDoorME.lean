/- The reference's models,part by part,as contracts:. No condition. -/
import Derived.Test.YtgbfedgghjcdcaaGreatDoorMC
set_option linter.all false
namespace Go.Proofs.YtgbfedgghjcdcaaGreatDoor
open Go.RowKit
set_option maxRecDepth 100000
set_option maxHeartbeats 16000000
section
variable {g:Cfg} {d:Option (List Nat)} {env:Env} {fr:Fr} {i:Nat}
def ah.nQ{t:TypeId}{x:Operand}{m:Int}(hx:rd env x=.t (.int .i64 m))(h : -9223372036854775808<=0 - m/\0 - m<=9223372036854775807):ah g d i env fr (.unOp .neg t x) (.t (.int .i64 (0 - m))) fr []:=.p rfl rfl (by
 unfold bt;simp only[hx,sF,IntWalk.i64_in _ h])
def ah.r_{xt yt:TypeId}{x y:Operand}{m n:Int}(hx:rd env x=.t (.int .i64 m))(hy:rd env y=.t (.int .i64 n)):ah g d i env fr (.binOp .sub xt x y yt) (.t (.int .i64 (IntKind.wrap .i64 (m - n)))) fr []:=
 .jl hx hy (by unfold gy;simp only[if_true,j9])
end
def AA:ap.P.eqGuardType ap.P.depth 178=false:=by kernel_rfl
def Az(a b u v:Int):gF ap.P 20 178 [.int .i64 a,.int .i64 b] [.int .i64 u,.int .i64 v]=some (decide (a=u)&&(decide (b=v)&&true)):=by kernel_rfl
def G6{A B:List Tm}(O:A.length<=140737488351232)(Q:B.length<=140737488351232):Cl ap 173 [.t (.arr (f_ A)),.t (.arr (f_ B))] [] (.t (.bool (decide (A=B)))) []:=by
 refine Cl.aE rfl Tryz.func173 rfl rfl rfl ?_;have D:=sC A;have G:=sC B;by_cases hl:A.length=B.length
 ·
  have J:decide (A=B)=decide (A.drop 0=B.drop 0):=rfl
  repeat'(first
|(with_reducible first|apply aa.seq|apply aa.block)
|((with_reducible apply aa.text);(try case hm=>exact rfl))
|(with_reducible first|apply aa.skip|apply ai)
|((with_reducible apply aa.ak);(case hc=>exact rfl))
|((with_reducible apply ab.cz);(case hp=>exact ae))
|(with_reducible apply ab.af)
|((with_reducible apply ab.u0);(case hx=>exact ac))
|fail)
  apply aa.aM
  case ho=>exact rfl
  case hp=>exact rfl
  case hl=>exact rfl
  case hs=>exact slt
  refine aI.ind (fun q:Nat=>[(5,.t (.int .i64 (q:Int)))]) (fun q=>q<=A.length/\decide (A=B)=decide (A.drop q=B.drop q)) (fun q=>A.length - q) 0 rfl ⟨by omega,rfl⟩ (fun q I=>?_);obtain⟨h1,h2⟩:=I;rw[h2];rcases Nat.lt_or_ge q A.length with h3|h3
  ·
   obtain⟨x,hx⟩:=av h3;obtain⟨y,hy⟩:=av (xs:=B) (k:=q) (by omega);have hc:=sB hx;have U:=sB hy;by_cases z:x=y
   ·
    have u:decide (A.drop q=B.drop q)=decide (A.drop (q+1)=B.drop (q+1)):=by rw[cx hx,cx hy,z];simp
    have v:gF ap.P 20 178 [.int .i64 x.cell,.int .i64 x.gH] [.int .i64 y.cell,.int .i64 y.gH]=some true:=by rw[Az,z];simp
    repeat'(first
|(with_reducible first|apply aa.seq|apply aa.block)
|((with_reducible apply aa.text);(try case hm=>exact rfl))
|((with_reducible apply aa.drawn);(case hm=>exact rfl))
|(with_reducible first|apply aa.skip|apply ai|apply aG)
|((with_reducible apply aa.am);(case hc=>exact rfl))
|((with_reducible apply aa.ak);(case hc=>exact rfl))
|((with_reducible apply ab.ao);(case hp=>exact ae))
|(with_reducible apply ab.af)
|((with_reducible apply ab.u0);(case hx=>first
|((with_reducible apply ah.yB);(case hx|hy=>exact rfl);(case hg=>exact AA);(case ht=>exact rfl);(case hr=>exact v))
|exact ac))
|fail)
    exact⟨q+1,rfl,rfl,⟨by omega,u⟩,by omega⟩
   ·
    have u:decide (A.drop q=B.drop q)=false:=by rw[cx hx,cx hy];simp[z]
    have v:gF ap.P 20 178 [.int .i64 x.cell,.int .i64 x.gH] [.int .i64 y.cell,.int .i64 y.gH]=some false:=by
     rw[Az];obtain⟨x1,x2⟩:=x;obtain⟨V,Z⟩:=y;simp at z⊢;exact z
    rw[u]
    repeat'(first
|(with_reducible first|apply aa.seq|apply aa.block)
|((with_reducible apply aa.text);(try case hm=>exact rfl))
|((with_reducible apply aa.drawn);(case hm=>exact rfl))
|(with_reducible first|apply aa.skip|apply aa.ret|apply ai|apply ay|apply aO)
|((with_reducible apply aa.am);(case hc=>exact rfl))
|((with_reducible apply ab.ao);(case hp=>exact ae))
|(with_reducible apply ab.af)
|((with_reducible apply ab.u0);(case hx=>first
|((with_reducible apply ah.yB);(case hx|hy=>exact rfl);(case hg=>exact AA);(case ht=>exact rfl);(case hr=>exact v))
|exact ac))
|fail)
    exact⟨.inr rfl,rfl⟩
  ·
   have u:decide (A.drop q=B.drop q)=true:=by rw[gC h3,gC (l:=B) (by omega)];rfl
   rw[u]
   repeat'(first
|(with_reducible apply aa.seq)
|((with_reducible apply aa.text);(try case hm=>exact rfl))
|(with_reducible first|apply aa.exit|apply aa.ret|apply ai|apply aA|apply az)
|((with_reducible apply aa.ak);(case hc=>exact rfl))
|((with_reducible apply ab.aw);(case hp=>exact ae))
|(with_reducible apply ab.af)
|((with_reducible apply ab.u0);(case hx=>exact ac))
|fail)
   exact⟨.inr rfl,rfl⟩
 ·
  have u:decide (A=B)=false:=by simp;intro h;exact hl (by rw[h])
  rw[u]
  repeat'(first
|(with_reducible apply aa.seq)
|((with_reducible apply aa.text);(try case hm=>exact rfl))
|(with_reducible first|apply aa.ret|apply ay)
|((with_reducible apply aa.am);(case hc=>exact rfl))
|((with_reducible apply ab.fa);(case hp=>exact ae))
|(with_reducible apply ab.af)
|((with_reducible apply ab.u0);(case hx=>exact ac))
|fail)
  exact⟨.inr rfl,rfl⟩
def zL{A B:Rw}(D:A.dm.length<=140737488351232)(G:B.dm.length<=140737488351232):Cl ap 145 [.t (.agg (kH A)),.t (.agg (kH B))] [] (.t (.bool (decide (A=B)))) []:=by
 obtain⟨T,n⟩:=A;obtain⟨U,m⟩:=B;have v:=G6 (A:=T) (B:=U) D G;have y:kH ⟨T,n⟩=[.arr (f_ T),.int .i64 n]:=rfl;have z:kH ⟨U,m⟩=[.arr (f_ U),.int .i64 m]:=rfl;rw[y,z];refine Cl.aE rfl Tryz.func145 rfl rfl rfl ?_;by_cases h1:n=m
 ·
  have u:decide ((⟨T,n⟩:Rw)=⟨U,m⟩)=decide (T=U):=by simp[h1]
  rw[u];obtain⟨b,I⟩:∃b,decide (T=U)=b:=⟨_,rfl⟩;rw[I]at v⊢
  cases b with
  |true=>
   repeat'(first
|(with_reducible apply aa.seq)
|((with_reducible apply aa.text);(try case hm=>exact rfl))
|(with_reducible apply aa.ret)
|((with_reducible apply ab.ao);(case hp=>exact ae))
|(with_reducible apply ab.af)
|((with_reducible apply ab.au);(case hW=>exact rfl);(case hx=>first
|(exact aj v)
|exact ac))
|((with_reducible apply ab.u0);(case hx=>exact ac))
|fail)
   exact⟨.inr rfl,rfl⟩
  |false=>
   repeat'(first
|(with_reducible apply aa.seq)
|((with_reducible apply aa.text);(try case hm=>exact rfl))
|(with_reducible apply aa.ret)
|((with_reducible apply ab.ao);(case hp=>exact ae))
|(with_reducible apply ab.af)
|((with_reducible apply ab.au);(case hW=>exact rfl);(case hx=>first
|(exact aj v)
|exact ac))
|((with_reducible apply ab.u0);(case hx=>exact ac))
|fail)
   exact⟨.inr rfl,rfl⟩
 ·
  have u:decide ((⟨T,n⟩:Rw)=⟨U,m⟩)=false:=by simp[h1]
  rw[u]
  repeat'(first
|(with_reducible apply aa.seq)
|((with_reducible apply aa.text);(try case hm=>exact rfl))
|(with_reducible apply aa.ret)
|((with_reducible apply ab.aw);(case hp=>exact ae))
|(with_reducible apply ab.af)
|((with_reducible apply ab.gf);(case hW=>exact rfl))
|((with_reducible apply ab.u0);(case hx=>exact ac))
|fail)
  exact⟨.inr rfl,rfl⟩
def yP(L:List ByteArray):mh 1 (d_ L)=true:=by
 cases L <;>rfl
def Ay(L:List ByteArray)(k:Nat):(d_ L).take k=(L.take k).map fun s=>[.str s]:=by simp[d_,List.map_take]
def C0{L:List ByteArray}{q:Nat}{s:ByteArray}(h:L[q]?=some s)(hb:¬(jH s=true/\((L.take q).any fun u=>decide (u=s))=false)):bE (jr L) q (L.drop q)=false:=by
 rw[oF h]
 have:jr L q s=false:=by
  rw[<- Bool.not_eq_true];intro v;simp only[jr,Bool.and_eq_true,Bool.not_eq_true']at v;exact hb v
 rw[this];rfl
def C1{L:List ByteArray}{q:Nat}{s:ByteArray}(h:L[q]?=some s)(h1:jH s=true)(h2:((L.take q).any fun u=>decide (u=s))=false):bE (jr L) q (L.drop q)=bE (jr L) (q+1) (L.drop (q+1)):=by
 rw[oF h];unfold jr;rw[h1,h2];rfl
def zk{L:List ByteArray}(hl:L.length<=140737488351232):Cl ap 98 [.t (.arr (d_ L))] [] (.t (.bool (lQ L))) []:=by
 have I:=ru L;have J:lQ L=bE (jr L) 0 (L.drop 0):=rfl;rw[J];refine Cl.aE rfl Tryz.func98 rfl rfl rfl ?_
 repeat'(first
|(with_reducible first|apply aa.seq|apply aa.block)
|((with_reducible apply aa.text);(try case hm=>exact rfl))
|(with_reducible apply ab.af)
|((with_reducible apply ab.u0);(case hx=>exact ac))
|fail)
 apply aa.aM
 case ho=>exact rfl
 case hp=>exact rfl
 case hl=>exact rfl
 case hs=>exact slt
 refine aI.ind (fun q:Nat=>[(3,.t (.int .i64 (q:Int)))]) (fun q=>q<=L.length/\bE (jr L) 0 (L.drop 0)=bE (jr L) q (L.drop q)) (fun q=>L.length - q) 0 rfl ⟨by omega,rfl⟩ (fun q O=>?_);obtain⟨h1,h2⟩:=O;rw[h2];rcases Nat.lt_or_ge q L.length with h3|h3
 ·
  obtain⟨s,hs⟩:=av h3;have hc:=FC hs;have y:=zv s;have D:=zo (L:=L.take q) (s:=s) (by simp;omega);have v:=C0 hs;have G:=C1 hs
  cases hn:jH s with
  |false=>
   rw[hn]at y;rw[v (fun h=>by rw[hn]at h;cases h.1)]
   repeat'(first
|(with_reducible first|apply aa.seq|apply aa.block)
|((with_reducible apply aa.text);(try case hm=>exact rfl))
|((with_reducible apply aa.drawn);(case hm=>exact rfl))
|(with_reducible first|apply aa.skip|apply aa.ret|apply ai|apply ay|apply aO)
|((with_reducible apply aa.am);(case hc=>exact rfl))
|((with_reducible apply ab.ao);(case hp=>exact ae))
|(with_reducible apply ab.af)
|((with_reducible apply ab.gf);(case hW=>exact rfl))
|((with_reducible apply ab.u0);(case hx=>first
|(exact aj y)
|exact ac))
|fail)
   exact⟨.inr rfl,rfl⟩
  |true=>
   rw[hn]at y
   cases z:(L.take q).any fun u=>decide (u=s)with
   |true=>
    rw[z]at D;rw[v (fun h=>by rw[z]at h;cases h.2)]
    repeat'(first
|(with_reducible first|apply aa.seq|apply aa.block)
|((with_reducible apply aa.text);(try case hm=>exact rfl))
|((with_reducible apply aa.drawn);(case hm=>exact rfl))
|(with_reducible first|apply aa.skip|apply aa.ret|apply ai|apply ay|apply aO)
|((with_reducible apply aa.am);(case hc=>exact rfl))
|((with_reducible apply ab.ao);(case hp=>exact ae))
|(with_reducible apply ab.af)
|((with_reducible apply ab.au);(case hW=>exact rfl);(case hx=>first
|((with_reducible apply ah.Ai);(case he|hx|hi=>exact rfl);(case hn=>(rw[I];omega));(case hz=>exact yP _);(case hv=>exact Ay _ _))
|(exact aj D)
|exact ac))
|((with_reducible apply ab.u0);(case hx=>first
|(exact aj y)
|exact ac))
|fail)
    exact⟨.inr rfl,rfl⟩
   |false=>
    rw[z]at D
    repeat'(first
|(with_reducible first|apply aa.seq|apply aa.block)
|((with_reducible apply aa.text);(try case hm=>exact rfl))
|((with_reducible apply aa.drawn);(case hm=>exact rfl))
|(with_reducible first|apply aa.skip|apply ai|apply aG)
|((with_reducible apply aa.am);(case hc=>exact rfl))
|((with_reducible apply aa.ak);(case hc=>exact rfl))
|((with_reducible apply ab.ao);(case hp=>exact ae))
|(with_reducible apply ab.af)
|((with_reducible apply ab.au);(case hW=>exact rfl);(case hx=>first
|((with_reducible apply ah.Ai);(case he|hx|hi=>exact rfl);(case hn=>(rw[I];omega));(case hz=>exact yP _);(case hv=>exact Ay _ _))
|(exact aj D)
|exact ac))
|((with_reducible apply ab.u0);(case hx=>first
|(exact aj y)
|exact ac))
|fail)
    exact⟨q+1,rfl,rfl,⟨by omega,G hn z⟩,by omega⟩
 ·
  rw[jV h3]
  repeat'(first
|(with_reducible apply aa.seq)
|((with_reducible apply aa.text);(try case hm=>exact rfl))
|(with_reducible first|apply aa.exit|apply aa.ret|apply ai|apply aA|apply az)
|((with_reducible apply aa.ak);(case hc=>exact rfl))
|((with_reducible apply ab.aw);(case hp=>exact ae))
|(with_reducible apply ab.af)
|((with_reducible apply ab.u0);(case hx=>exact ac))
|fail)
  exact⟨.inr rfl,rfl⟩
def Gh(n:Int):Cl ap 148 [.t (.int .i64 n),.t (.int .i64 1000)] [] (.t (.bool (eF n 1000))) []:=by
 refine Cl.aE rfl Tryz.func148 rfl rfl rfl ?_
 repeat'(first
|(with_reducible apply aa.seq)
|((with_reducible apply aa.text);(try case hm=>exact rfl))
|(with_reducible apply aa.ret)
|((with_reducible apply ab.aU)<;>intro u)
|((with_reducible apply ab.a_)<;>intro u)
|(with_reducible apply ab.af)
|((with_reducible apply ab.gf);(case hW=>exact rfl))
|((with_reducible apply ab.au);(case hW=>exact rfl);(case hx=>exact ac))
|((with_reducible apply ab.u0);(case hx=>first
|((with_reducible apply ah.nQ);(case hx=>exact rfl);(case h=>omega))
|exact ac))
|fail)
 all_goals(refine aS (.inr rfl) rfl ?_;unfold eF;first|(simp_all;done)|(simp_all;omega))
def Gi(n:Int):Cl ap 148 [.t (.int .i64 n),.t (.int .i64 9999)] [] (.t (.bool (eF n 9999))) []:=by
 refine Cl.aE rfl Tryz.func148 rfl rfl rfl ?_
 repeat'(first
|(with_reducible apply aa.seq)
|((with_reducible apply aa.text);(try case hm=>exact rfl))
|(with_reducible apply aa.ret)
|((with_reducible apply ab.aU)<;>intro u)
|((with_reducible apply ab.a_)<;>intro u)
|(with_reducible apply ab.af)
|((with_reducible apply ab.gf);(case hW=>exact rfl))
|((with_reducible apply ab.au);(case hW=>exact rfl);(case hx=>exact ac))
|((with_reducible apply ab.u0);(case hx=>first
|((with_reducible apply ah.nQ);(case hx=>exact rfl);(case h=>omega))
|exact ac))
|fail)
 all_goals(refine aS (.inr rfl) rfl ?_;unfold eF;first|(simp_all;done)|(simp_all;omega))
def zf(n:Int):Cl ap 148 [.t (.int .i64 n),.t (.int .i64 1000000000)] [] (.t (.bool (eF n 1000000000))) []:=by
 refine Cl.aE rfl Tryz.func148 rfl rfl rfl ?_
 repeat'(first
|(with_reducible apply aa.seq)
|((with_reducible apply aa.text);(try case hm=>exact rfl))
|(with_reducible apply aa.ret)
|((with_reducible apply ab.aU)<;>intro u)
|((with_reducible apply ab.a_)<;>intro u)
|(with_reducible apply ab.af)
|((with_reducible apply ab.gf);(case hW=>exact rfl))
|((with_reducible apply ab.au);(case hW=>exact rfl);(case hx=>exact ac))
|((with_reducible apply ab.u0);(case hx=>first
|((with_reducible apply ah.nQ);(case hx=>exact rfl);(case h=>omega))
|exact ac))
|fail)
 all_goals(refine aS (.inr rfl) rfl ?_;unfold eF;first|(simp_all;done)|(simp_all;omega))
def Il{n:Int}{l:List Tm}{i:Nat}{t:Tm}:lw n l i t=true↔(0<=t.cell/\t.cell <n)/\(i=0\/(l.getD (i - 1) ⟨0,0⟩).cell <t.cell)/\t.gH≠0/\eF t.gH 1000=true:=by
 unfold lw;simp only[Bool.and_eq_true,Bool.or_eq_true,Bool.not_eq_true',decide_eq_true_eq,decide_eq_false_iff_not,ne_eq]
section
variable {α:Type} {p:Nat->α->Bool} {l:List α} {q:Nat} {x:α}
def lH(h:l[q]?=some x)(hb:¬p q x=true):bE p q (l.drop q)=false:=by
 rw[oF h,Bool.not_eq_true _ |>.mp hb];rfl
def lI(h:l[q]?=some x)(hb:p q x=true):bE p q (l.drop q)=bE p (q+1) (l.drop (q+1)):=by
 rw[oF h,hb];rfl
end
def zK{n:Int}{r:Rw}(hl:r.dm.length<=140737488351232):Cl ap 146 [.t (.agg (kH r)),.t (.int .i64 n)] [] (.t (.bool (gR n r))) []:=by
 obtain⟨T,B⟩:=r;have Z:kH ⟨T,B⟩=[.arr (f_ T),.int .i64 B]:=rfl;have e2:gR n ⟨T,B⟩=(bE (lw n T) 0 (T.drop 0)&&eF B 1000000000):=rfl;rw[Z,e2];have hl:T.length<=140737488351232:=hl;have hT:=sC T;have kB:=zf B;refine Cl.aE rfl Tryz.func146 rfl rfl rfl ?_
 repeat'(first
|(with_reducible first|apply aa.seq|apply aa.block)
|((with_reducible apply aa.text);(try case hm=>exact rfl))
|(with_reducible apply ab.af)
|((with_reducible apply ab.u0);(case hx=>exact ac))
|fail)
 apply aa.aM
 case ho=>exact rfl
 case hp=>exact rfl
 case hl=>exact rfl
 case hs=>exact slt
 refine aI.ind (fun q:Nat=>[(5,.t (.int .i64 (q:Int)))]) (fun q=>q<=T.length/\bE (lw n T) 0 (T.drop 0)=bE (lw n T) q (T.drop q)) (fun q=>T.length - q) 0 rfl ⟨by omega,rfl⟩ (fun q z=>?_);obtain⟨h1,h2⟩:=z;rw[h2];rcases Nat.lt_or_ge q T.length with h3|h3
 ·
  obtain⟨t,O⟩:=av h3;have hc:=sB O;have D:=Gh t.gH;have v:=lH (p:=lw n T) O;have y:=lI (p:=lw n T) O;rw[Il]at v y;obtain⟨Q,G⟩:∃b,eF t.gH 1000=b:=⟨_,rfl⟩;rw[G]at D v y
  cases q with
  |zero=>
   cases Q with
   |false=>
    rw[v (fun h=>by cases h.2.2.2)]
    repeat'(first
|(with_reducible first|apply aa.seq|apply aa.block)
|((with_reducible apply aa.text);(try case hm=>exact rfl))
|((with_reducible apply aa.drawn);(case hm=>exact rfl))
|(with_reducible first|apply aa.skip|apply aa.ret|apply ai|apply ay|apply aO)
|((with_reducible apply aa.am);(case hc=>exact rfl))
|((with_reducible apply ab.ao);(case hp=>exact ae))
|((with_reducible apply ab.aU)<;>intro z)
|((with_reducible apply ab.aV);(case hp=>exact ae))
|((with_reducible apply ab.a_)<;>intro z)
|(with_reducible apply ab.af)
|((with_reducible apply ab.gf);(case hW=>exact rfl))
|((with_reducible apply ab.au);(case hW=>exact rfl);(case hx=>first
|(exact aj D)
|exact ac))
|((with_reducible apply ab.u0);(case hx=>exact ac))
|fail)
    all_goals exact⟨.inr rfl,rfl⟩
   |true=>
    repeat'(first
|(with_reducible first|apply aa.seq|apply aa.block)
|((with_reducible apply aa.text);(try case hm=>exact rfl))
|((with_reducible apply aa.drawn);(case hm=>exact rfl))
|(with_reducible first|apply aa.skip|apply aa.ret|apply ai|apply ay|apply aG|apply aO)
|((with_reducible apply aa.am);(case hc=>exact rfl))
|((with_reducible apply aa.ak);(case hc=>exact rfl))
|((with_reducible apply ab.ao);(case hp=>exact ae))
|((with_reducible apply ab.aU)<;>intro z)
|((with_reducible apply ab.aV);(case hp=>exact ae))
|((with_reducible apply ab.a_)<;>intro z)
|(with_reducible apply ab.af)
|((with_reducible apply ab.gf);(case hW=>exact rfl))
|((with_reducible apply ab.au);(case hW=>exact rfl);(case hx=>first
|(exact aj D)
|exact ac))
|((with_reducible apply ab.u0);(case hx=>exact ac))
|fail)
    all_goals first
     |exact aS (.inr rfl) rfl (by rw[v (fun h=>by obtain⟨_,_,_,_⟩:=h;omega)];rfl)
     |exact⟨0+1,rfl,rfl,⟨by omega,y ⟨by omega,.inl rfl,by omega,rfl⟩⟩,by omega⟩
  |succ k=>
   obtain⟨u,V⟩:=av (xs:=T) (k:=k) (by omega);have I:=sB V;have U:(f_ T)[((k+1:Nat) - 1:Int).toNat]?=some [.int .i64 u.cell,.int .i64 u.gH]:=by rw[show((k+1:Nat) - 1:Int).toNat=k by omega];exact I
   have J:T.getD (k+1 - 1) ⟨0,0⟩=u:=by rw[Nat.add_sub_cancel,List.getD_eq_getElem?_getD,V];rfl
   rw[J]at v y
   cases Q with
   |false=>
    rw[v (fun h=>by cases h.2.2.2)]
    repeat'(first
|(with_reducible first|apply aa.seq|apply aa.block)
|((with_reducible apply aa.text);(try case hm=>exact rfl))
|((with_reducible apply aa.drawn);(case hm=>exact rfl))
|(with_reducible first|apply aa.skip|apply aa.ret|apply ai|apply ay|apply aO)
|((with_reducible apply aa.am);(case hc=>exact rfl))
|((with_reducible apply ab.ao);(case hp=>exact ae))
|((with_reducible apply ab.aU)<;>intro z)
|((with_reducible apply ab.bh);(case hp=>exact ae))
|((with_reducible apply ab.a_)<;>intro z)
|(with_reducible apply ab.af)
|((with_reducible apply ab.gf);(case hW=>exact rfl))
|((with_reducible apply ab.au);(case hW=>exact rfl);(case hx=>first
|(exact aj D)
|exact ac))
|((with_reducible apply ab.u0);(case hx=>exact ac))
|fail)
    all_goals exact⟨.inr rfl,rfl⟩
   |true=>
    repeat'(first
|(with_reducible first|apply aa.seq|apply aa.block)
|((with_reducible apply aa.text);(try case hm=>exact rfl))
|((with_reducible apply aa.drawn);(case hm=>exact rfl))
|(with_reducible first|apply aa.skip|apply aa.ret|apply ai|apply ay|apply aG|apply aO)
|((with_reducible apply aa.am);(case hc=>exact rfl))
|((with_reducible apply aa.ak);(case hc=>exact rfl))
|((with_reducible apply ab.ao);(case hp=>exact ae))
|((with_reducible apply ab.aU)<;>intro z)
|((with_reducible apply ab.bh);(case hp=>exact ae))
|((with_reducible apply ab.a_)<;>intro z)
|(with_reducible apply ab.af)
|((with_reducible apply ab.gf);(case hW=>exact rfl))
|((with_reducible apply ab.au);(case hW=>exact rfl);(case hx=>first
|(exact aj D)
|exact ac))
|((with_reducible apply ab.u0);(case hx=>exact ac))
|fail)
    all_goals first
     |exact aS (.inr rfl) rfl (by rw[v (fun h=>by obtain⟨_,_,_,_⟩:=h;omega)];rfl)
     |exact⟨k+1+1,rfl,rfl,⟨by omega,y ⟨by omega,.inr (by omega),by omega,rfl⟩⟩,by omega⟩
 ·
  rw[jV h3]
  repeat'(first
|(with_reducible apply aa.seq)
|((with_reducible apply aa.text);(try case hm=>exact rfl))
|(with_reducible first|apply aa.exit|apply aa.ret|apply ai|apply aA|apply az)
|((with_reducible apply aa.ak);(case hc=>exact rfl))
|((with_reducible apply ab.aw);(case hp=>exact ae))
|(with_reducible apply ab.af)
|((with_reducible apply ab.u0);(case hx=>first
|(exact aj kB)
|exact ac))
|fail)
  exact⟨.inr rfl,rfl⟩
end Go.Proofs.YtgbfedgghjcdcaaGreatDoor
