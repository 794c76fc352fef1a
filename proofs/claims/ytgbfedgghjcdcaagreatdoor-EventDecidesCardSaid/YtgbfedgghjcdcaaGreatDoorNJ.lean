/- Law 32: EventForms. No condition. -/
import Derived.Test.YtgbfedgghjcdcaaGreatDoorNI
import Derived.Test.YtgbfedgghjcdcaaGreatDoorTKC
import Derived.Test.YtgbfedgghjcdcaaGreatDoorTE
import Derived.Test.YtgbfedgghjcdcaaGreatDoorKTA
import Derived.Test.YtgbfedgghjcdcaaGreatDoorMD
set_option linter.all false
namespace Go.Proofs.YtgbfedgghjcdcaaGreatDoor
open Go.RowKit
set_option maxRecDepth 100000
set_option maxHeartbeats 32000000
def eP(m:Md)(n:Int)(e:Ev):Bool:=bU e&&(decide ((e.past.length:Int)=n)&&(!decide (e.k=0)||decide (e.a <m.aJ.length)))
def xe{m:Md}(hm:cW m)(n:Int)(e:Ev)(he:e.past.length<=140737488351232):Cl ap 14 [.t (di m),.t (.int .i64 n),.t (dX e)] [] (.t (.bool (eP m n e))) []:=by
 have u:=xu e he;have z:=mH m.aJ;have D:=bC e.past;rw[cO];refine Cl.aE rfl Tryz.func14 rfl rfl rfl ?_;obtain⟨b,v⟩:∃b,bU e=b:=⟨_,rfl⟩;have y:eP m n e=(b&&(decide ((e.past.length:Int)=n)&&(!decide (e.k=0)||decide (e.a <m.aJ.length)))):=by unfold eP;rw[v]
 rw[v]at u;rw[y]
 cases b with
 |false=>
  repeat'(first
|(with_reducible apply aa.seq)
|((with_reducible apply aa.text);(try case hm=>exact rfl))
|(with_reducible first|apply aa.ret|apply ab.af)
|((with_reducible apply ab.gf);(case hW=>exact rfl))
|((with_reducible apply ab.u0);(case hx=>first
|(exact aj u)
|exact ac))
|fail)
  exact⟨.inr rfl,rfl⟩
 |true=>
  repeat'(first
|(with_reducible apply aa.seq)
|((with_reducible apply aa.text);(try case hm=>exact rfl))
|(with_reducible apply aa.ret)
|((with_reducible apply ab.a_)<;>intro G)
|((with_reducible apply ab.ed)<;>intro G)
|(with_reducible apply ab.af)
|((with_reducible apply ab.gf);(case hW=>exact rfl))
|((with_reducible apply ab.au);(case hW=>exact rfl);(case hx=>exact ac))
|((with_reducible apply ab.u0);(case hx=>first
|(exact aj u)
|exact ac))
|fail)
  all_goals(refine aS (.inr rfl) rfl ?_;first|(simp_all;done)|(simp_all;omega))
section
variable {g:Cfg} {d:Option (List Nat)} {env:Env} {fr:Fr} {i:Nat}
end
end Go.Proofs.YtgbfedgghjcdcaaGreatDoor
