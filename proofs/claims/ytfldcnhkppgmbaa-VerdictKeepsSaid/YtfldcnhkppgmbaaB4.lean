/-
  slices.Sort and slices.Compact at numbers: own slices.
-/
import Derived.Test.YtfldcnhkppgmbaaM1
import Derived.Test.YtfldcnhkppgmbaaKD
import Derived.Shelf.Lay
import Derived.Shelf.LaySoft
import Derived.Shelf.Sort.Plain
import Derived.Ground.NamesProg
import Derived.Ground.Names2Prog
import Derived.Shelf.Slices.In.SortNone
import Derived.Shelf.Slices.CompactI
set_option linter.unusedSimpArgs false
set_option linter.unusedVariables false
namespace Go.Proofs
open Go.Shelf
shelf_lay Lays.n189 Nm 189 at Try as Try.lays189
shelf_lay Lays2.n20 Nm2 20 at Try as Try.lays2_20
end Go.Proofs
namespace Go.Proofs.Ytfldcnhkppgmbaa.K
open Go.RowKit Go.Shelf
def sp_slices_Sort_int_int : Ent := specS [.ms 50000] [.arr 3 tI] (fun _ y => (lenOk y.1)) (fun _ _ => .tu []) (fun _ y => [.arr 3 tI (sortI y.1)])
theorem en_slices_Sort_int_int : Entered Try.prog 74 := .inr ⟨by decide, _, Try.func74, by kernel_rfl, by kernel_rfl⟩
def sp_slices_Compact_int_int : Ent := specS [.ms 50000] [.arr 3 tI] (fun _ y => (lenOk y.1)) (fun _ y => .t (.sl tI) (Lib.compact y.1)) (fun _ _ => [.no])
theorem en_slices_Compact_int_int : Entered Try.prog 75 := .inr ⟨by decide, _, Try.func75, by kernel_rfl, by kernel_rfl⟩
theorem ms_slices_Sort_int_int : Meets Try.prog 74 (strip sp_slices_Sort_int_int) :=
  meets_sortI (by decide) (Any.slices_Sort_int Try.lays189) (Any.slices_Sort_int_none Try.lays189)
theorem ms_slices_Compact_int_int : Meets Try.prog 75 (strip sp_slices_Compact_int_int) :=
  meets_compactI (by decide) (Any.slices_Compact_int Try.lays2_20) (Any.slices_Compact_int_empty Try.lays2_20)
end Go.Proofs.Ytfldcnhkppgmbaa.K
