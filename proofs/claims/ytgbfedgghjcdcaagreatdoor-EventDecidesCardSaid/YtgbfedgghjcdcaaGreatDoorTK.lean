/- Law 32: the order of events. No condition. -/
import Derived.Test.YtgbfedgghjcdcaaGreatDoorTKA
import Derived.Test.YtgbfedgghjcdcaaGreatDoorTS
set_option linter.all false
namespace Go.Proofs.YtgbfedgghjcdcaaGreatDoor
open Go.RowKit
set_option maxRecDepth 100000
set_option maxHeartbeats 16000000
def yA(n:Int):Cl ap 137 [.t (.int .i64 n)] [] (.t (.bool false)) []:=by
 refine Cl.aE rfl Tryz.func137 rfl rfl rfl ?_
 repeat'(first
|(with_reducible apply aa.seq)
|((with_reducible apply aa.text);(try case hm=>exact rfl))
|(with_reducible apply aa.ret)
|((with_reducible apply ab.cz);(case hp=>exact ae))
|(with_reducible apply ab.af)
|((with_reducible apply ab.u0);(case hx=>exact ac))
|fail)
 all_goals first
  |exact⟨.inr rfl,rfl⟩
  |(refine aS (.inr rfl) rfl ?_;simp)
def wX(a b:Int):Cl ap 90 [.t (.int .i64 a),.t (.int .i64 b)] [] (.t (.int .i64 (sg a b))) []:=by
 refine Cl.aE rfl Tryz.func90 rfl rfl rfl ?_;have u:=yA a;have v:=yA b
 repeat'(first
|(with_reducible apply aa.seq)
|((with_reducible apply aa.text);(try case hm=>exact rfl))
|(with_reducible first|apply aa.skip|apply aa.ret|apply ai|apply ay)
|((with_reducible apply aa.am);(case hc=>exact rfl))
|((with_reducible apply aa.ak);(case hc=>exact rfl))
|((with_reducible apply ab.aU)<;>intro y)
|(with_reducible apply ab.af)
|((with_reducible apply ab.u0);(case hx=>first
|(exact aj u)
|(exact aj v)
|exact ac))
|fail)
 all_goals(refine DC (.inr rfl) rfl ?_;unfold sg;first|rw[if_pos (by omega)]|rw[if_neg (by omega),if_pos (by omega)]|rw[if_neg (by omega),if_neg (by omega)])
def FV{l:List Int}{q:Nat}{x:Int}(h:l[q]?=some x):gO (l.drop q)=if x=0 then gO (l.drop (q+1))else x:=by rw[cx h];rfl
def FU{l:List Int}(hl:l.length<=1000):Cl ap 89 [.t (aF l)] [] (.t (.int .i64 (gO l))) []:=by
 refine Cl.aE rfl Tryz.func89 rfl rfl rfl ?_;have v:=bC l
 repeat'(first
|(with_reducible first|apply aa.seq|apply aa.block)
|((with_reducible apply aa.text);(try case hm=>exact rfl))
|(with_reducible apply ab.af)
|((with_reducible apply ab.u0);(case hx=>exact ac))
|fail)
 apply aa.aM
 case ho=>exact rfl
 case hp=>exact rfl
 case hl=>exact rfl
 case hs=>exact slt
 refine aI.ind (fun q:Nat=>[(8,.t (.int .i64 (q:Int)))]) (fun q=>q<=l.length/\gO l=gO (l.drop q)) (fun q=>l.length - q) 0 rfl ⟨by omega,rfl⟩ (fun q y=>?_);obtain⟨h1,h2⟩:=y;rw[h2];rcases Nat.lt_or_ge q l.length with h3|h3
 ·
  obtain⟨x,hx⟩:=av h3;have hc:=bB hx;have ho:=FV hx;by_cases u:x=0
  ·
   rw[if_pos u]at ho
   repeat'(first
|(with_reducible first|apply aa.seq|apply aa.block)
|((with_reducible apply aa.text);(try case hm=>exact rfl))
|(with_reducible first|apply aa.skip|apply ai|apply aG)
|((with_reducible apply aa.am);(case hc=>exact rfl))
|((with_reducible apply aa.ak);(case hc=>exact rfl))
|((with_reducible apply ab.ao);(case hp=>exact ae))
|((with_reducible apply ab.cz);(case hp=>exact ae))
|(with_reducible apply ab.af)
|((with_reducible apply ab.u0);(case hx=>exact ac))
|fail)
   exact⟨q+1,rfl,rfl,⟨by omega,ho⟩,by omega⟩
  ·
   rw[if_neg u]at ho;rw[ho]
   repeat'(first
|(with_reducible first|apply aa.seq|apply aa.block)
|((with_reducible apply aa.text);(try case hm=>exact rfl))
|(with_reducible first|apply aa.skip|apply aa.ret|apply ai|apply ay|apply aO)
|((with_reducible apply aa.am);(case hc=>exact rfl))
|((with_reducible apply ab.ao);(case hp=>exact ae))
|((with_reducible apply ab.fa);(case hp=>exact ae))
|(with_reducible apply ab.af)
|((with_reducible apply ab.u0);(case hx=>exact ac))
|fail)
   exact⟨.inr rfl,rfl⟩
 ·
  rw[gC h3]
  repeat'(first
|(with_reducible apply aa.seq)
|((with_reducible apply aa.text);(try case hm=>exact rfl))
|(with_reducible first|apply aa.exit|apply aa.ret|apply ai|apply aA|apply az)
|((with_reducible apply aa.ak);(case hc=>exact rfl))
|((with_reducible apply ab.aw);(case hp=>exact ae))
|(with_reducible apply ab.af)
|((with_reducible apply ab.u0);(case hx=>exact ac))
|fail)
  exact⟨.inr rfl,rfl⟩
set_option maxHeartbeats 32000000
end Go.Proofs.YtgbfedgghjcdcaaGreatDoor
