/- The reference's scanning of a word,as contracts. No condition. -/
import Derived.Test.YtgbfedgghjcdcaaGreatDoorMA
set_option linter.all false
namespace Go.Proofs.YtgbfedgghjcdcaaGreatDoor
open Go.RowKit
set_option maxRecDepth 100000
set_option maxHeartbeats 16000000
def vS(t:Tok):List AV:=[.int .i64 t.kind,.int .i64 (t.nk:Int),.int .i64 (t.at_:Int),.int .i64 (t.m_:Int)]
def jb(l:List Tok):List (List AV):=l.map vS
def G2{l:List UInt8}(hl:l.length<=4096):Cl ap 208 [.t (.str (bs l))] [] (.aL [.ls 0,.t (.int .i64 0)]) [.row false false 4 (jb (nY l))]:=by
 have O:(bs l).size=l.length:=kT l;refine Cl.aE rfl Tryz.func208 rfl rfl rfl ?_
 repeat'(first
|(with_reducible first|apply aa.seq|apply aa.block)
|((with_reducible apply aa.text);(try case hm=>exact rfl))
|(with_reducible first|apply aa.skip|apply ai)
|((with_reducible apply aa.ak);(case hc=>exact rfl))
|((with_reducible apply ab.aw);(case hp=>exact ae))
|(with_reducible apply ab.af)
|((with_reducible apply ab.u0);(case hx=>exact ac))
|fail)
 apply aa.aM
 case ho=>exact rfl
 case hp=>exact rfl
 case hl=>exact rfl
 case hs=>exact slt
 refine aI.cd (fun s:Nat×Bool×List Tok=>[(4,.ls 0),(5,.t (.int .i64 (s.1:Int)))]) (fun s=>[.row false s.2.1 4 (jb s.2.2)]) (fun s=>s.1<=l.length/\s.2.2.length<=s.1/\s.2.2++nZ l s.1=nY l) (fun s=>l.length - s.1) (0,false,[]) rfl rfl ⟨by simp,by simp,rfl⟩ (fun s D=>?_);obtain⟨q,Q,T⟩:=s;dsimp only at D⊢;obtain⟨h1,h2,h3⟩:=D;have ks:=G4 (q0:=q) (l:=l) (by omega) h1;have ha:=s8 h1;have z:(jb T).length=T.length:=by simp[jb]
 rcases Nat.lt_or_ge (bV l q) l.length with h4|h4
 ·
  have G:=G7 (l:=l) (by omega) h4;have J:=tQ h4;have I:bV l q+(eC (l.drop (bV l q))).2=gE l q:=rfl;rw[I]at G;have v:jb T++[[.int .i64 (eC (l.drop (bV l q))).1,.int .i64 (q:Int),.int .i64 (bV l q:Int),.int .i64 (gE l q:Int)]]=jb (T++[⟨(eC (l.drop (bV l q))).1,q,bV l q,gE l q⟩]):=by simp[jb,vS]
  have y:=Hd h1 h4
  repeat'(first
|(with_reducible first|apply aa.seq|apply aa.block)
|((with_reducible apply aa.text);(try case hm=>exact rfl))
|(with_reducible first|apply aa.skip|apply ai)
|((with_reducible apply aa.am);(case hc=>exact rfl))
|((with_reducible apply ab.ao);(case hp=>exact ae))
|(with_reducible first|apply ab.af|apply ab.bM)
|((with_reducible apply ab.u);(case hx=>((with_reducible apply ah.dI);(case hs=>exact fun _=>rfl);(case ha|ht=>exact rfl);(case hr=>first|(with_reducible exact dB)|(with_reducible exact dC)|(with_reducible exact dD)|(with_reducible exact rw3)|(with_reducible exact rw4)|exact rfl);(case hx|hy|hn|hb|hok=>exact rfl);(case hlen=>exact yf (by rw[z];simp;omega) (by decide));(case hv=>exact v);(case hk=>exact dL);(case hf=>exact leq))))
|((with_reducible apply ab.u0);(case hx=>first
|(exact aj ks)
|(exact aj G)
|exact ac))
|fail)
  refine⟨(gE l q,true,T++[⟨(eC (l.drop (bV l q))).1,q,bV l q,gE l q⟩]),rfl,rfl,⟨J.2,by simp;omega,?_⟩,by dsimp only;omega⟩;dsimp only;rw[List.append_assoc,List.singleton_append,<- y];exact h3
 ·
  have y:=Hc h1 (by omega);have v:jb T++[[.int .i64 0,.int .i64 (q:Int),.int .i64 (l.length:Int),.int .i64 (l.length:Int)]]=jb (nY l):=by rw[<- h3,y];simp[jb,vS]
  repeat'(first
|(with_reducible apply aa.seq)
|((with_reducible apply aa.text);(try case hm=>exact rfl))
|(with_reducible first|apply aa.exit|apply aa.ret|apply ai|apply aA|apply az)
|((with_reducible apply aa.ak);(case hc=>exact rfl))
|((with_reducible apply ab.aw);(case hp=>exact ae))
|(with_reducible apply ab.af)
|((with_reducible apply ab.u);(case hx=>((with_reducible apply ah.dI);(case hs=>exact fun _=>rfl);(case ha|ht=>exact rfl);(case hr=>first|(with_reducible exact dB)|(with_reducible exact dC)|(with_reducible exact dD)|(with_reducible exact rw3)|(with_reducible exact rw4)|exact rfl);(case hx|hy|hn|hb|hok=>exact rfl);(case hlen=>exact yf (by rw[z];simp;omega) (by decide));(case hv=>exact v);(case hk=>exact dL);(case hf=>exact leq))))
|((with_reducible apply ab.u0);(case hx=>first
|(exact aj ks)
|exact ac))
|fail)
  exact⟨.inr rfl,rfl⟩
def G1{l:List UInt8}(hl:4096 <l.length):Cl ap 208 [.t (.str (bs l))] [] (.aL [.nil,.t (.int .i64 8)]) []:=by
 have u:(bs l).size=l.length:=kT l;refine Cl.aE rfl Tryz.func208 rfl rfl rfl ?_
 repeat'(first
|(with_reducible apply aa.seq)
|((with_reducible apply aa.text);(try case hm=>exact rfl))
|(with_reducible first|apply aa.ret|apply ay)
|((with_reducible apply aa.am);(case hc=>exact rfl))
|((with_reducible apply ab.ao);(case hp=>exact ae))
|(with_reducible apply ab.af)
|((with_reducible apply ab.u0);(case hx=>exact ac))
|fail)
 exact⟨.inr rfl,rfl⟩
def ph(n:Nat):List Tok->Int
 |[t,_]=>if t.at_=0/\t.m_=n then t.kind else 0
 |_=>0
def xQ(l:List UInt8):pg l=if 4096 <l.length then 0 else ph l.length (nY l):=by
 unfold pg;split
 ·rfl
 ·unfold ph;split <;>simp_all
def EB{n:Nat}{T:List Tok}(h:T.length≠2):ph n T=0:=
 match T,h with
 |[],_=>rfl
 |[_],_=>rfl
 |_::_::_::_,_=>rfl
def GH{l:List UInt8}:Cl ap 171 [.t (.str (bs l))] [] (.t (.int .i64 (pg l))) []:=by
 have O:(bs l).size=l.length:=kT l;refine Cl.aE rfl Tryz.func171 rfl rfl rfl ?_;by_cases h4:4096 <l.length
 ·
  have ks:=G1 h4;have I:pg l=0:=by rw[xQ,if_pos h4]
  rw[I]
  repeat'(first
|(with_reducible apply aa.seq)
|((with_reducible apply aa.text);(try case hm=>exact rfl))
|(with_reducible first|apply aa.ret|apply ay)
|((with_reducible apply aa.am);(case hc=>exact rfl))
|((with_reducible apply ab.fa);(case hp=>exact ae))
|(with_reducible apply ab.af)
|((with_reducible apply ab.gf);(case hW=>exact rfl))
|((with_reducible apply ab.u0);(case hx=>first
|(exact aj ks)
|exact ac))
|fail)
  exact⟨.inr rfl,rfl⟩
 ·
  have ks:=G2 (l:=l) (by omega);rw[xQ,if_neg h4];obtain⟨T,D⟩:∃T,nY l=T:=⟨_,rfl⟩;rw[D]at ks⊢;by_cases u:T.length=2
  ·
   obtain⟨a,b,rfl⟩:∃a b,T=[a,b]:=match T,u with|[a,b],_=>⟨a,b,rfl⟩
   have y:(([a,b]:List Tok).length:Int)=2:=rfl;have G:(jb [a,b])[0]?=some [.int .i64 a.kind,.int .i64 (a.nk:Int),.int .i64 (a.at_:Int),.int .i64 (a.m_:Int)]:=rfl;have v:ph l.length [a,b]=if a.at_=0/\a.m_=l.length then a.kind else 0:=rfl
   rw[v];by_cases h1:a.at_=0
   ·
    by_cases h2:a.m_=l.length
    ·
     rw[if_pos ⟨h1,h2⟩]
     repeat'(first
|(with_reducible apply aa.seq)
|((with_reducible apply aa.text);(try case hm=>exact rfl))
|(with_reducible first|apply aa.skip|apply aa.ret|apply ai)
|((with_reducible apply aa.ak);(case hc=>exact rfl))
|((with_reducible apply ab.cz);(case hp=>exact ae))
|((with_reducible apply ab.dF);(case hp=>exact ae))
|(with_reducible apply ab.af)
|((with_reducible apply ab.au);(case hW=>exact rfl);(case hx=>exact ac))
|((with_reducible apply ab.u0);(case hx=>first
|(exact dy ks)
|exact ac))
|fail)
     exact⟨.inr rfl,rfl⟩
    ·
     rw[if_neg (fun h=>h2 h.2)]
     repeat'(first
|(with_reducible apply aa.seq)
|((with_reducible apply aa.text);(try case hm=>exact rfl))
|(with_reducible first|apply aa.ret|apply ay)
|((with_reducible apply aa.am);(case hc=>exact rfl))
|((with_reducible apply ab.cz);(case hp=>exact ae))
|((with_reducible apply ab.dQ);(case hp=>exact ae))
|((with_reducible apply ab.dF);(case hp=>exact ae))
|(with_reducible apply ab.af)
|((with_reducible apply ab.au);(case hW=>exact rfl);(case hx=>exact ac))
|((with_reducible apply ab.u0);(case hx=>first
|(exact dy ks)
|exact ac))
|fail)
     exact⟨.inr rfl,rfl⟩
   ·
    rw[if_neg (fun h=>h1 h.1)]
    repeat'(first
|(with_reducible apply aa.seq)
|((with_reducible apply aa.text);(try case hm=>exact rfl))
|(with_reducible first|apply aa.ret|apply ay)
|((with_reducible apply aa.am);(case hc=>exact rfl))
|((with_reducible apply ab.cz);(case hp=>exact ae))
|((with_reducible apply ab.dQ);(case hp=>exact ae))
|((with_reducible apply ab.dF);(case hp=>exact ae))
|(with_reducible apply ab.af)
|((with_reducible apply ab.gf);(case hW=>exact rfl))
|((with_reducible apply ab.au);(case hW=>exact rfl);(case hx=>exact ac))
|((with_reducible apply ab.u0);(case hx=>first
|(exact dy ks)
|exact ac))
|fail)
    exact⟨.inr rfl,rfl⟩
  ·
   have z:ph l.length T=0:=EB u;rw[z];have J:¬((T.length:Int)=2):=by omega
   repeat'(first
|(with_reducible apply aa.seq)
|((with_reducible apply aa.text);(try case hm=>exact rfl))
|(with_reducible first|apply aa.ret|apply ay)
|((with_reducible apply aa.am);(case hc=>exact rfl))
|((with_reducible apply ab.cz);(case hp=>exact ae))
|((with_reducible apply ab.dQ);(case hp=>exact ae))
|(with_reducible apply ab.af)
|((with_reducible apply ab.gf);(case hW=>exact rfl))
|((with_reducible apply ab.au);(case hW=>exact rfl);(case hx=>exact ac))
|((with_reducible apply ab.u0);(case hx=>first
|(exact dy ks)
|exact ac))
|fail)
   exact⟨.inr rfl,rfl⟩
def zv(s:ByteArray):Cl ap 141 [.t (.str s)] [] (.t (.bool (jH s))) []:=by
 rw[<- BU s];generalize s.data.toList=l;have y:(bs l).size=l.length:=kT l;have u:jH (bs l)=uP l:=by unfold jH;simp[bs]
 rw[u];have z:=GH (l:=l);refine Cl.aE rfl Tryz.func141 rfl rfl rfl ?_
 repeat'(first
|(with_reducible apply aa.seq)
|((with_reducible apply aa.text);(try case hm=>exact rfl))
|(with_reducible apply aa.ret)
|((with_reducible apply ab.aU)<;>intro v)
|((with_reducible apply ab.a_)<;>intro v)
|(with_reducible apply ab.af)
|((with_reducible apply ab.gf);(case hW=>exact rfl))
|((with_reducible apply ab.au);(case hW=>exact rfl);(case hx=>exact ac))
|((with_reducible apply ab.u0);(case hx=>first
|(exact aj z)
|exact ac))
|fail)
 all_goals(refine aS (.inr rfl) rfl ?_;unfold uP;simp_all <;>omega)
end Go.Proofs.YtgbfedgghjcdcaaGreatDoor
