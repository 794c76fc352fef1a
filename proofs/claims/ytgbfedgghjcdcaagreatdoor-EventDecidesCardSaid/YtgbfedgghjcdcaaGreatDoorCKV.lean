/- What the claims of this seat share: the settled program's closed facts,the listed variables. Conditions: the form's own reach. -/
import Derived.Test.YtgbfedgghjcdcaaGreatDoorXQ
import Derived.Test.YtgbfedgghjcdcaaGreatDoorCards
import Derived.Test.YtgbfedgghjcdcaaGreatDoorTie
import Derived.Stop.LaidErr
import Derived.ChangeBears2
import Derived.Lib.LaidU8
set_option linter.all false
namespace Go.Proofs.YtgbfedgghjcdcaaGreatDoor
open Go.ChangeShapes Go.WideShapes Go.ChangeAt Go.RowKit
def own:ownKnob Tryz.prog.godebug=none:=by kernel_rfl
def DW:(Tryz.prog.globals[3]?).map (·.type)=some 252:=by kernel_rfl
def Ch:Tryz.prog.cellsOf 252=20:=by kernel_rfl
def Ci:Tryz.prog.cellsOf 220=1:=by kernel_rfl
def Ij{W :World}{l :List (String×DataW Unit)}(hl :(l.filter fun x=>x.1== "internal/strconv.uint64pow10")=[("internal/strconv.uint64pow10",Rows.laid_internal_strconv_uint64pow10)])(h :laidMetH Tryz.prog l W):iK W :=by
 have h1 :=laidMetH.filter (fun x=>x.1== "internal/strconv.uint64pow10") h
 rw[hl]at h1;exact Lib.tabIs_of_head (rest:=[]) uu DW Tryz.underlying252 Tryz.underlying220 Ci Ch h1
def star : "*" ++ "errors.errorString" = "*errors.errorString" :=by decide
def zI(u :TypeId)(h :Tryz.prog.typeName? 3 u=some "*errors.errorString"):u=263 :=
 typeName_ptr_named (nm := "errors.errorString") (by rw[star];kernel_rfl) (by kernel_rfl) (by decide) u (by rw[star];exact h)
def AQ{W:World}{n:String}{g:Nat}{v:Value}(hg:Tryz.prog.globalNamed n=some g)(h:W.var? Tryz.prog n=some #[v]):W.cell? ⟨g,0,none⟩=some v:=by
 unfold World.var? at h;rw[hg]at h;simp only[Option.bind_some]at h;unfold World.cell?
 cases u:W.heap[g]? with
 |none=>rw[u]at h;cases h
 |some o=>
  rw[u]at h;cases o <;>simp_all
def AR{l:List (String×DataW Unit)}{W:World}(hl:l=Rows.eventReturnsRow.laid)(h:laidMetH Tryz.prog l W)(z:W.ShapedOpen Tryz.prog):p_ W:=by
 subst hl;have y:laidMet Tryz.prog Rows.eventReturnsRow.laid W:=h;have h4:=y.tail.tail.tail.tail;obtain⟨D,I,u,_⟩:=laid_sentinel (g:=2) h4 (by kernel_rfl) (by kernel_rfl) Tryz.underlying141 zI Tryz.underlying263 Tryz.underlying265 rfl rfl Tryz.underlying9 (by kernel_rfl) (by kernel_rfl);obtain⟨G,J,v,_⟩:=laid_sentinel (g:=1) h4.tail (by kernel_rfl) (by kernel_rfl) Tryz.underlying141 zI Tryz.underlying263 Tryz.underlying265 rfl rfl Tryz.underlying9 (by kernel_rfl) (by kernel_rfl);refine⟨⟨_,AQ (by kernel_rfl) v,.inr ⟨_,_,rfl⟩⟩,⟨_,AQ (by kernel_rfl) u,.inr ⟨_,_,rfl⟩⟩,Tryz.laysM146.s1_3 W z⟩
noncomputable def uE(os:Os):World:=
 {World.doorLaid Tryz.prog 4000 os with heap:=(World.doorLaid Tryz.prog 4000 os).heap.modify 4 fun
  | .cells _ t frozen=>.cells (Lib.firstTab.map fun z=>Value.int .u8 z).toArray t frozen
  |o=>o}
def FF{W:World}(u:iK W)(v:p_ W):j7.n<=W.heap.size:=by
 obtain⟨⟨y,h1,_⟩,⟨z,h2,_⟩,m,h3⟩:=v;have a:=World.block_lt_of_cell? W _ h1;have b:=World.block_lt_of_cell? W _ h2;have c:=World.block_lt_of_cell? W _ h3;have d:=Ii u;show nV<=_
 unfold nV;simp only at a b c;omega
end Go.Proofs.YtgbfedgghjcdcaaGreatDoor
