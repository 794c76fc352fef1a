/- Law 32: EventForms. No condition. -/
import Derived.Test.YtgbfedgghjcdcaaGreatDoorNI
import Derived.Test.YtgbfedgghjcdcaaGreatDoorTKC
import Derived.Test.YtgbfedgghjcdcaaGreatDoorTE
import Derived.Test.YtgbfedgghjcdcaaGreatDoorKTA
import Derived.Test.YtgbfedgghjcdcaaGreatDoorMD
set_option linter.unusedSimpArgs false
set_option linter.unusedVariables false
set_option linter.unusedSectionVars false
namespace Go.Proofs.YtgbfedgghjcdcaaGreatDoor
open Go.RowKit
set_option maxRecDepth 100000
set_option maxHeartbeats 32000000
def validE (m:Md) (n:Int) (e:Ev):Bool:=formB e && (decide ((e.past.length:Int)=n) && (!decide (e.k=0) || decide (e.a < m.acts.length)))
theorem evalid_c {m:Md} (hm:MdL m) (n:Int) (e:Ev) (he:e.past.length≤140737488351232):Cl cfg 14 [.t (mdA m),.t (.int .i64 n),.t (evA e)] [] (.t (.bool (validE m n e))) []:=by
 have kf:=formed_c e he
 have hlA:=acE_len m.acts
 have hle:=intsE_len e.past
 rw [mdA_eq]
 refine Cl.of_body rfl Tryz.func14 rfl rfl rfl ?_
 obtain ⟨b,hb⟩:∃ b,formB e=b:=⟨_,rfl⟩
 have e0:validE m n e=(b && (decide ((e.past.length:Int)=n) && (!decide (e.k=0) || decide (e.a < m.acts.length)))):=by unfold validE;rw [hb]
 rw [hb] at kf
 rw [e0]
 cases b with
 | false=>
  repeat' (first
|(with_reducible apply EvK.seq)
|((with_reducible apply EvK.text);(try case hm=>exact rfl))
|(with_reducible first|apply EvK.ret|apply EvO.nilT)
|((with_reducible apply EvO.gf);(case hW=>exact rfl))
|((with_reducible apply EvO.u0);(case hx=>first
|(exact oqF kf)
|exact opq))
|fail)
  exact ⟨.inr rfl,rfl⟩
 | true=>
  repeat' (first
|(with_reducible apply EvK.seq)
|((with_reducible apply EvK.text);(try case hm=>exact rfl))
|(with_reducible apply EvK.ret)
|((with_reducible apply EvO.spd_y) <;> intro hq)
|((with_reducible apply EvO.spn_y) <;> intro hq)
|(with_reducible apply EvO.nilT)
|((with_reducible apply EvO.gf);(case hW=>exact rfl))
|((with_reducible apply EvO.gt0);(case hW=>exact rfl);(case hx=>exact opq))
|((with_reducible apply EvO.u0);(case hx=>first
|(exact oqF kf)
|exact opq))
|fail)
  all_goals (refine fin_b (.inr rfl) rfl ?_;first|(simp_all;done)|(simp_all;omega))
section
variable {g:Cfg} {d:Option (List Nat)} {env:Env} {fr:Fr} {i:Nat}
end
end Go.Proofs.YtgbfedgghjcdcaaGreatDoor
