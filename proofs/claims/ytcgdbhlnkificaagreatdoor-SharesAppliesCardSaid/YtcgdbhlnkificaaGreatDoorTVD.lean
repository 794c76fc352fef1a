/- The tree evaluator,32: a row that is handed over,elements. No condition. -/
import Derived.Test.YtcgdbhlnkificaaGreatDoorTD
import Derived.Lib.SliceRun
import Derived.Shelf.RegionOpenPlain
import Derived.Deep.RegionLaw
set_option linter.all false
namespace Go.Proofs.YtcgdbhlnkificaaGreatDoor
open Go.RowKit
set_option maxRecDepth 100000
set_option maxHeartbeats 4000000
def QG(P:Program)(t sz:Nat):Bool:=match P.underlying t with
 |some (.slice e)=>match P.info? e with
  |some i=>match i.zero with
   |some z=>Nat.beq i.size sz&&(Nat.beq z.cells.size sz&&(Nat.ble 1 sz&&z.cells.all eB))
   |none=>false
  |none=>false
 |_=>false
structure QJ (P:Program) (f t sz:Nat):Prop where
 known:gR P f
 zero:QG P t sz=true
 walk:∀(e:Nat) (i:TypeInfo),P.underlying t=some (.slice e)->P.info? e=some i->i.size=sz->∀(g cap n a b:Nat) (us:List Value) (w W2:World),a <b->b<=n->n<=cap->cap<=9223372036854775807->us.length=n*sz->(∀q u,us[q]?=some u->w.cell? ⟨g,q,none⟩=some u)->(∀q,w.frozen? ⟨g,q,none⟩=false)->(∀u∈us,u.oneCell'=true)->
  (∀ty cc,(Builtin.clear_ #[t] ty #[.slice (some ⟨g,(a+(n - b))*sz,none⟩) (n - (a+(n - b))) cc]).run P (w.drew.setCells g (a*sz) (us.drop (b*sz)))=.ok (.tuple #[]) W2)->
  Calls P f #[.slice (some ⟨g,0,none⟩) n cap,.int .i64 a,.int .i64 b] w fun e w'=>e=.returned (.slice (some ⟨g,0,none⟩) (n - (b - a)) cap)/\w'=W2
end Go.Proofs.YtcgdbhlnkificaaGreatDoor
