/- Law 52: acts checked,the program's. No condition. -/
import Derived.Test.YtjdhnoffoknlnaaGreatDoorTW
set_option linter.unusedSimpArgs false
set_option linter.unusedVariables false
set_option linter.unusedSectionVars false
namespace Go.Proofs.YtjdhnoffoknlnaaGreatDoor
open Go.RowKit
set_option maxRecDepth 100000
set_option maxHeartbeats 4000000
theorem write_c (e:Ev) (n:Int) (hl:e.past.length≤140737488351232):Cl cfg 33 [.t (evA e),.t (.int .i64 n)] [] (.t (.bool (formB e && decide ((e.past.length:Int)=n)))) []:=by
 refine Cl.of_body rfl Tryz.func33 rfl rfl rfl ?_
 repeat' (first
|(with_reducible apply EvK.seq)
|((with_reducible apply EvK.text);(try case hm=>exact rfl))
|(with_reducible apply EvK.ret)
|((with_reducible apply EvO.spb (b:=formB _)) <;> intro hq)
|((with_reducible apply EvO.spd_y) <;> intro hq)
|(with_reducible apply EvO.nilT)
|((with_reducible apply EvO.gf);(case hW=>exact rfl))
|((with_reducible apply EvO.gt0);(case hW=>exact rfl);(case hx=>exact opq))
|((with_reducible apply EvO.u0);(case hx=>first
|(exact oqF (formed_c e hl))
|exact opq))
|fail)
 all_goals (refine fin_b (.inr rfl) rfl ?_;simp [*])
end Go.Proofs.YtjdhnoffoknlnaaGreatDoor
