/- Law 52: new sessions;what the reference adds. No condition. -/
import Derived.Test.YtjdhnoffoknlnaaGreatDoorWV
import Derived.Test.YtjdhnoffoknlnaaGreatDoorTW
import Derived.Test.YtjdhnoffoknlnaaGreatDoorWM
set_option linter.unusedSimpArgs false
set_option linter.unusedVariables false
set_option linter.unusedSectionVars false
namespace Go.Proofs.YtjdhnoffoknlnaaGreatDoor
open Go.RowKit
set_option maxRecDepth 100000
set_option maxHeartbeats 4000000
def zs (n:Int):List Int:=List.replicate n.toNat 0
theorem zs_len {n:Int} (h:1≤n):((zs n).length:Int)=n:=by simp [zs];omega
theorem zs_valid {n:Int} (h0:1≤n) (h1:n≤5):validB (zs n)=true:=by
 simp [validB,zs,ok1];omega
theorem five {n:Int} (h0:1≤n) (h1:n≤5):n=1∨n=2∨n=3∨n=4∨n=5:=by omega
theorem new_ok {n:Int} (h0:1≤n) (h1:n≤5):Cl cfg 9 [.t (.int .i64 n)] [] (.tup [.lp 0 0,.t (.int .i64 0)]) [sesB (zs n)]:=by
 rcases five h0 h1 with rfl|rfl|rfl|rfl|rfl <;> exact ⟨12,by kernel_rfl⟩
theorem zero_bad {n:Int} (h:n < 1∨5 < n):Cl cfg 29 [.t (.int .i64 n)] [] .nil []:=by
 refine Cl.of_body rfl Tryz.func29 rfl rfl rfl ?_
 repeat' (first
|(with_reducible apply EvK.seq)
|((with_reducible apply EvK.text);(try case hm=>exact rfl))
|(with_reducible first|apply EvK.ret|apply thenK_r)
|((with_reducible apply EvK.cond_t);(case hc=>exact rfl))
|((with_reducible apply EvO.spd) <;> intro hq)
|((with_reducible apply EvO.spd_yt);(case hp=>exact fao))
|(with_reducible apply EvO.nilT)
|((with_reducible apply EvO.gf);(case hW=>exact rfl))
|((with_reducible apply EvO.gt0);(case hW=>exact rfl);(case hx=>exact opq))
|((with_reducible apply EvO.u0);(case hx=>exact opq))
|fail)
 all_goals first
  | exact ⟨.inr rfl,rfl⟩
  | (exfalso;omega)
theorem new_bad {n:Int} (h:n < 1∨5 < n):Cl cfg 9 [.t (.int .i64 n)] [] (.tup [.t (.lit (.pointer none)),.t (.int .i64 1)]) []:=by
 refine Cl.of_body rfl Tryz.func9 rfl rfl rfl ?_
 have hv:=valid_c (xs:=[]) (by simp)
 repeat' (first
|(with_reducible apply EvK.seq)
|((with_reducible apply EvK.text);(try case hm=>exact rfl))
|(with_reducible first|apply EvK.ret|apply thenK_r)
|((with_reducible apply EvK.cond_t);(case hc=>exact rfl))
|(with_reducible apply EvO.nilT)
|((with_reducible apply EvO.u0);(case hx=>first
|(exact oqF (zero_bad h))
|(exact oqF hv)
|exact opq))
|fail)
 exact ⟨.inr rfl,rfl⟩
end Go.Proofs.YtjdhnoffoknlnaaGreatDoor
