/- From what the rows say of the listed table to the table's cells; a world that meets it. No condition. -/
import Derived.Test.YtkkhpdkfploodaaGreatDoorRows
import Derived.Test.YtkkhpdkfploodaaGreatDoorK5
import Derived.Test.YtkkhpdkfploodaaGreatDoorK2
import Derived.ChangeSame
import Derived.ChangeVars
import Derived.JoinedOf
import Derived.RowKit
import Derived.LaidLaws
import Derived.LaidHandle
namespace Go.Proofs.YtkkhpdkfploodaaGreatDoor
open Go.ChangeShapes Go.WideShapes Go.RowKit Go.EG
abbrev laidL : List (String × DataW Unit) := [("math/bits.deBruijn64tab", Rows.laid_math_bits_deBruijn64tab)]
theorem tabName : Tryz.prog.globalNamed "math/bits.deBruijn64tab" = some 0 := by kernel_rfl
theorem tabType : (Tryz.prog.globals[0]?).map (·.type) = some 181 := by kernel_rfl
theorem tabCells : Tryz.prog.cellsOf 5 = 1 := by kernel_rfl
theorem tabData : Rows.laid_math_bits_deBruijn64tab = (DataW.agg (tabI.map fun n => DataW.lit (.int .u8 n)) : DataW Unit) := rfl
theorem tab_of_laid {W : World} (h : laidMetH Tryz.prog laidL W) : Tab W := by
  have h' : laidMet Tryz.prog laidL W := by
    rw [← show laidMetH Tryz.prog laidL W = laidMet Tryz.prog laidL W from rfl]; exact h
  obtain ⟨ps,⟨g,t,cs,fuel,p,q,hg,ht,hvar,hd,_,_⟩,_⟩ := h'
  obtain rfl := Option.some.inj (tabName.symm.trans hg)
  obtain rfl := Option.some.inj (tabType.symm.trans ht)
  obtain ⟨xs,m,_,hx,hlen,hxl,hat⟩ := DataW.trod_array Tryz.underlying181 hd
  obtain ⟨hx1,_⟩ := Prod.mk.inj hx
  rw [tabData] at hx1
  simp only [DataW.agg.injEq] at hx1
  have hcell : ∀ i,i < 64 → cs[i]? = some (.int .u8 (tabI.getD i 0)) := fun i hi => by
    have h1 := hat i hi
    rw [tabCells,Nat.mul_one] at h1
    have hxi : ∃ y,xs[i]? = some y := ⟨xs[i],by simp [hxl,hi]⟩
    obtain ⟨y,hy⟩ := hxi
    rw [hy] at h1
    obtain ⟨n,hn,hyn,_⟩ := DataW.trod_int Tryz.underlying5 h1
    subst hyn
    have h2 := congrArg (fun l => l[i]?) hx1
    simp only [List.getElem?_map,hy,Option.map_some] at h2
    have h3 : tabI[i]? = some (tabI.getD i 0) := by
      rw [List.getD_eq_getElem?_getD]
      have : i < tabI.length := by rw [tabI_length]; exact hi
      simp [this]
    rw [h3] at h2
    simp only [Option.map_some,Option.some.injEq,DataW.lit.injEq,Lit.int.injEq,true_and] at h2
    rw [h2]
    have h4 := congrArg (fun l => l[0]?) hn
    simp only [List.getElem?_take,List.getElem?_drop,Nat.add_zero,List.getElem?_cons_zero,Nat.zero_lt_one,if_true] at h4
    rw [← h4]
    simp
  refine .inr ⟨0,0,rfl,?_,by simp,fun j v hv => ?_⟩
  · have h0 := World.var?_cell hg hvar 0
    rw [hcell 0 (by decide)] at h0
    unfold World.cell? at h0
    rcases Nat.lt_or_ge 0 W.heap.size with h | h
    · exact h
    · rw [Array.getElem?_eq_none h] at h0
      simp at h0
  · have hj : j < 64 := by
      have := (List.getElem?_eq_some_iff.1 hv).1
      rw [ints_length,tabI_length] at this
      exact this
    rw [ints_getD (by rw [tabI_length]; exact hj)] at hv
    rw [Nat.zero_add,World.var?_cell hg hvar j,hcell j hj]
    exact hv
noncomputable def laidWorld (os : Os) : World :=
  let w0 := World.holding Tryz.prog os ⟨#[],#[],[]⟩
  { w0 with heap := w0.heap.modify 0 fun
      | .cells _ t frozen => .cells (ints .u8 tabI).toArray t frozen
      | o => o }
theorem laidWorld_met (os : Os) (args : Array Value) : laidMetH Tryz.prog laidL ((laidWorld os).forCall (fun _ _ => 0) ⟨#[],args,[]⟩).memory :=
  laidMetH_of_parts (laidMet_of_run' 8 (by kernel_rfl) (by kernel_rfl)) (by kernel_rfl)
end Go.Proofs.YtkkhpdkfploodaaGreatDoor
