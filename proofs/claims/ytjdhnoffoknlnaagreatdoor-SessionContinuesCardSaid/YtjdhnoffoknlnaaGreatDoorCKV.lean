/- What the claims of this seat share: the settled program's closed facts,the listed variables. Conditions: the form's own reach. -/
import Derived.Test.YtjdhnoffoknlnaaGreatDoorXQ
import Derived.Test.YtjdhnoffoknlnaaGreatDoorCards
import Derived.Test.YtjdhnoffoknlnaaGreatDoorTie
import Derived.Stop.LaidErr
import Derived.ChangeBears2
import Derived.Lib.LaidU8
set_option linter.unusedSimpArgs false
set_option linter.unusedVariables false
set_option linter.unusedSectionVars false
namespace Go.Proofs.YtjdhnoffoknlnaaGreatDoor
open Go.ChangeShapes Go.WideShapes Go.ChangeAt Go.RowKit
theorem own:ownKnob Tryz.prog.godebug=none:=by kernel_rfl
theorem gTabType:(Tryz.prog.globals[3]?).map (·.type)=some 156:=by kernel_rfl
theorem cellsTab:Tryz.prog.cellsOf 156=20:=by kernel_rfl
theorem cellsU64:Tryz.prog.cellsOf 134=1:=by kernel_rfl
theorem tab_of_laid {W : World} {l : List (String × DataW Unit)} (hl : (l.filter fun x => x.1 == "internal/strconv.uint64pow10") = [("internal/strconv.uint64pow10", Rows.laid_internal_strconv_uint64pow10)]) (h : laidMetH Tryz.prog l W) : Tab W := by
 have h1 := laidMetH.filter (fun x => x.1 == "internal/strconv.uint64pow10") h
 rw [hl] at h1
 exact Lib.tabIs_of_head (rest:=[]) gTab gTabType Tryz.underlying156 Tryz.underlying134 cellsU64 cellsTab h1
theorem star : "*" ++ "errors.errorString" = "*errors.errorString" := by decide
theorem row_err (u : TypeId) (h : Tryz.prog.typeName? 3 u = some "*errors.errorString") : u = 152 :=
 typeName_ptr_named (nm := "errors.errorString") (by rw [star]; kernel_rfl) (by kernel_rfl) (by decide) u (by rw [star]; exact h)
theorem var_cell {W:World} {n:String} {g:Nat} {v:Value} (hg:Tryz.prog.globalNamed n=some g) (h:W.var? Tryz.prog n=some #[v]):W.cell? ⟨g,0,none⟩=some v:=by
 unfold World.var? at h
 rw [hg] at h
 simp only [Option.bind_some] at h
 unfold World.cell?
 cases hx:W.heap[g]? with
 | none=>rw [hx] at h;cases h
 | some o=>
  rw [hx] at h
  cases o <;> simp_all
theorem vars_of {l:List (String×DataW Unit)} {W:World} (hl:l=Rows.sessionAcknowledgesRow.laid) (h:laidMetH Tryz.prog l W) (hS:W.ShapedOpen Tryz.prog):Vars W:=by
 subst hl
 have h0:laidMet Tryz.prog Rows.sessionAcknowledgesRow.laid W:=h
 have h4:=h0.tail.tail.tail.tail
 obtain ⟨a0,t0,hv0,_⟩:=laid_sentinel (g:=1) h4 (by kernel_rfl) (by kernel_rfl) Tryz.underlying89 row_err Tryz.underlying152 Tryz.underlying154 rfl rfl Tryz.underlying9 (by kernel_rfl) (by kernel_rfl)
 obtain ⟨a1,t1,hv1,_⟩:=laid_sentinel (g:=0) h4.tail (by kernel_rfl) (by kernel_rfl) Tryz.underlying89 row_err Tryz.underlying152 Tryz.underlying154 rfl rfl Tryz.underlying9 (by kernel_rfl) (by kernel_rfl)
 refine ⟨⟨_,var_cell (by kernel_rfl) hv1,.inr ⟨_,_,rfl⟩⟩,⟨_,var_cell (by kernel_rfl) hv0,.inr ⟨_,_,rfl⟩⟩,Tryz.laysM146.s1_3 W hS⟩
noncomputable def laidWorld (os:Os):World:=
 { World.doorLaid Tryz.prog 4000 os with heap:=(World.doorLaid Tryz.prog 4000 os).heap.modify 4 fun
  | .cells _ t frozen=>.cells (Lib.firstTab.map fun z=>Value.int .u8 z).toArray t frozen
  | o=>o }
theorem nv_le {W:World} (hT:Tab W) (hV:Vars W):gamV.n≤W.heap.size:=by
 obtain ⟨⟨e1,h1,_⟩,⟨e2,h2,_⟩,m,h3⟩:=hV
 have a:=World.block_lt_of_cell? W _ h1
 have b:=World.block_lt_of_cell? W _ h2
 have c:=World.block_lt_of_cell? W _ h3
 have d:=tab_lt hT
 show nV≤_
 unfold nV
 simp only at a b c
 omega
end Go.Proofs.YtjdhnoffoknlnaaGreatDoor
