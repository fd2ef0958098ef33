/-
 Printing as a word: the answer's and the program's.
-/
import Derived.Test.YtkkoedniahnneaaDoorA25
set_option linter.unusedSimpArgs false
set_option linter.unusedVariables false
namespace Go.Proofs.YtkkoedniahnneaaDoor.K
open Go.RowKit
noncomputable section
def sp_f26 : Ent := spec (.pr (.sl tySetting) .nil) (fun x => (prOk x.1)) (fun x => (.tu [(.t .str ((prnF x.1).1)), (.t tI ((prnF x.1).2))]))
theorem en_f26 : Entered Tryd.prog 26 := .inr ⟨by decide, _, Tryd.func26, by kernel_rfl, by kernel_rfl⟩
theorem ms_f26 : Meets Tryd.prog 26 (strip sp_f26) := by
 unfold sp_f26
 refine meets_calls (fun x hok X w σ vs hfin hc => ?_)
 obtain ⟨l, u⟩ := x
 have hc : Cs X w σ [(V.t (.sl tySetting) l).d] vs := hc
 simp only [Cs] at hc
 obtain ⟨v1, r1, rfl, c1, rfl⟩ := hc
 obtain ⟨A, c, rfl, hL⟩ := set_at c1
 refine (print_any A c l w hL hok).mono ?_
 rintro e w' ⟨rfl, hb⟩
 refine ⟨_, rfl, ?_, hb⟩
 show C X w' σ (.tu [.v (.string (prnF l).1), .v (.int .i64 (prnF l).2)]) _
 simp only [C, Cs]
 exact ⟨_, rfl, _, _, rfl, ⟨rfl, rfl⟩, _, _, rfl, ⟨rfl, rfl⟩, rfl⟩
-- loop 0: (x0 : (List Setting)) (x4 : Int); out: ('ret',) (x2 : ByteArray) (x3 : Int); ('exit', 0) (x0 : (List Setting))
-- loop 1: (x0 : (List Setting)) (x5 : Int); out: ('ret',) (x2 : ByteArray) (x3 : Int); ('exit', 2) (x0 : (List Setting))
-- loop 2: (x0 : (List Setting)) (x6 : ByteArray) (x7 : ByteArray) (x8 : Int); out: ('ret',) (x2 : ByteArray) (x3 : Int); ('exit', 4) (x6 : ByteArray)
end
end Go.Proofs.YtkkoedniahnneaaDoor.K
