/-
  The strength of a use, by the program and by its answer.
-/
import Derived.Test.YtfehjdaielifiaaV5
set_option linter.unusedSimpArgs false
set_option linter.unusedVariables false
namespace Go.Proofs.Ytfehjdaielifiaa.K
open Go.RowKit
def amongF (b : Int) (s t : List Int) : Int := match idxN b s with | some k => t.getD k 0 | none => 0
def singleF (a : Int) : Int := if a = 1 then 18 else if a = 2 then 60 else if a = 3 ∨ a = 8 ∨ a = 21 then 128 else if a = 4 then 192 else if a = 18 ∨ a = 22 then 256 else if a = 19 then 64 else if a = 20 then 80 else 0
def modulusF (b : Int) : Int := if b < 512 ∨ 16384 < b then 0 else modF b
def curveF (b : Int) : Int := if hasF [160, 224, 256, 384, 521] b then iquo .i64 b 2 else 0
def strF (u : Keep) : Int :=
  if u.1 = 5 ∨ u.1 = 6 ∨ u.1 = 10 ∨ u.1 = 11 then modulusF u.2.1
  else if u.1 = 7 ∨ u.1 = 12 then curveF u.2.1
  else if u.1 = 9 then amongF u.2.1 [44, 65, 87] [128, 192, 256]
  else if u.1 = 13 then amongF u.2.1 [512, 768, 1024] [128, 192, 256]
  else if u.1 = 14 then amongF u.2.1 [40, 128] [40, 60]
  else if u.1 = 15 then amongF u.2.1 [112, 168] [80, 112]
  else if u.1 = 16 ∨ u.1 = 17 then amongF u.2.1 [128, 256] [128, 256]
  else amongF u.2.1 [0] [singleF u.1]
def validF (u : Keep) : Bool := decide (strF u > 0)
/-- cipherplan/catalog.Strength -/
def tc_catalog_Strength : TC := (.sq (.reg [(.mk (some 1) none (.m (.box (.t 0)))), (.mk (some 2) none (.m (.pu (.mv (.c (.v (.int .i64 0)))))))]) (.sq (.reg [(.mk (some 7) none (.m (.pu (.fa 0 (.t 1))))), (.mk (some 8) none (.m (.ld false 1 (.t 7)))), (.mk (some 9) none (.call 56 [(.t 8)])), (.mk (some 6) none (.m (.pu (.mv (.t 9))))), (.mk (some 10) none (.m (.pu (.ext 0 (.t 6))))), (.mk (some 11) none (.m (.pu (.ext 1 (.t 6))))), (.mk (some 3) none (.m (.new [(.v (.string (ByteArray.mk #[]))), (.v (.int .i64 0)), (.v (.int .i64 0)), (.v (.slice none 0 0)), (.v (.slice none 0 0))]))), (.mk none none (.m (.st 5 (.t 3) (.t 10)))), (.mk (some 4) none (.m (.pu (.mv (.t 11)))))]) (.sq (.sq (.reg [(.mk (some 12) none (.m (.pu (.mv (.t 4))))), (.mk (some 13) none (.m (.pu (.nt (.t 12)))))]) (.cd (.t 13) (.sq (.reg [(.mk (some 2) none (.m (.pu (.mv (.c (.v (.int .i64 0)))))))]) .rt) .sk)) (.sq (.sq (.reg [(.mk (some 14) none (.m (.pu (.fa 2 (.t 3))))), (.mk (some 15) none (.m (.ld false 1 (.t 14))))]) (.bk 0 (.sq (.reg [(.mk (some 17) none (.m (.pu (.bin false .eql (.t 15) (.c (.v (.int .i64 0))))))), (.mk (some 16) none (.m (.pu (.mv (.t 17)))))]) (.cd (.t 16) (.sq (.reg [(.mk (some 18) none (.m (.pu (.fa 1 (.t 1))))), (.mk (some 19) none (.m (.ld false 1 (.t 18)))), (.mk (some 20) none (.m (.pu (.bin false .eql (.t 19) (.c (.v (.int .i64 0)))))))]) (.cd (.t 20) (.sq (.reg [(.mk (some 21) none (.m (.pu (.fa 4 (.t 3))))), (.mk (some 22) none (.m (.ld false 1 (.t 21)))), (.mk (some 23) none (.m (.pu (.ix 1 (.t 22) (.c (.v (.int .i64 0))))))), (.mk (some 24) none (.m (.ld false 1 (.t 23)))), (.mk (some 2) none (.m (.pu (.mv (.t 24)))))]) .rt) .sk)) (.sq (.reg [(.mk (some 26) none (.m (.pu (.bin false .eql (.t 15) (.c (.v (.int .i64 1))))))), (.mk (some 25) none (.m (.pu (.mv (.t 26)))))]) (.cd (.t 25) (.sq (.reg [(.mk (some 27) none (.m (.pu (.fa 1 (.t 1))))), (.mk (some 28) none (.m (.ld false 1 (.t 27)))), (.mk (some 29) none (.m (.pu (.bin false .geq (.t 28) (.c (.v (.int .i64 512))))))), (.mk (some 30) none (.m (.pu (.mv (.t 29))))), (.mk (some 31) (some (30, true)) (.m (.pu (.fa 1 (.t 1))))), (.mk (some 32) (some (30, true)) (.m (.ld false 1 (.t 31)))), (.mk (some 33) (some (30, true)) (.m (.pu (.bin false .leq (.t 32) (.c (.v (.int .i64 16384))))))), (.mk (some 34) none (.m (.pu (.pick (.t 30) (.t 33) (.c (.v (.bool false)))))))]) (.cd (.t 34) (.sq (.reg [(.mk (some 35) none (.m (.pu (.fa 1 (.t 1))))), (.mk (some 36) none (.m (.ld false 1 (.t 35)))), (.mk (some 37) none (.call 57 [(.t 36)])), (.mk (some 2) none (.m (.pu (.mv (.t 37)))))]) .rt) .sk)) (.sq (.reg [(.mk (some 39) none (.m (.pu (.bin false .eql (.t 15) (.c (.v (.int .i64 2))))))), (.mk (some 38) none (.m (.pu (.mv (.t 39)))))]) (.cd (.t 38) (.sq (.reg [(.mk (some 40) none (.m (.bs 3 1 5 [(.v (.int .i64 0)), (.v (.int .i64 0)), (.v (.int .i64 0)), (.v (.int .i64 0)), (.v (.int .i64 0))] [(0, 1, (.c (.v (.int .i64 160)))), (1, 1, (.c (.v (.int .i64 224)))), (2, 1, (.c (.v (.int .i64 256)))), (3, 1, (.c (.v (.int .i64 384)))), (4, 1, (.c (.v (.int .i64 521))))]))), (.mk (some 41) none (.m (.pu (.fa 1 (.t 1))))), (.mk (some 42) none (.m (.ld false 1 (.t 41)))), (.mk (some 43) none (.call 58 [(.t 40), (.t 42)]))]) (.cd (.t 43) (.sq (.reg [(.mk (some 44) none (.m (.pu (.fa 1 (.t 1))))), (.mk (some 45) none (.m (.ld false 1 (.t 44)))), (.mk (some 46) none (.m (.pu (.bin false .quo (.t 45) (.c (.v (.int .i64 2))))))), (.mk (some 2) none (.m (.pu (.mv (.t 46)))))]) .rt) .sk)) (.sq (.reg [(.mk (some 48) none (.m (.pu (.bin false .eql (.t 15) (.c (.v (.int .i64 3))))))), (.mk (some 47) none (.m (.pu (.mv (.t 48)))))]) (.cd (.t 47) (.sq (.reg [(.mk (some 49) none (.m (.pu (.fa 3 (.t 3))))), (.mk (some 50) none (.m (.ld false 1 (.t 49)))), (.mk (some 51) none (.m (.pu (.fa 1 (.t 1))))), (.mk (some 52) none (.m (.ld false 1 (.t 51)))), (.mk (some 53) none (.call 59 [(.t 50), (.t 52)])), (.mk (some 5) none (.m (.pu (.mv (.t 53)))))]) (.sq (.reg [(.mk (some 54) none (.m (.pu (.mv (.t 5))))), (.mk (some 55) none (.m (.pu (.bin false .geq (.t 54) (.c (.v (.int .i64 0)))))))]) (.cd (.t 55) (.sq (.reg [(.mk (some 56) none (.m (.pu (.fa 4 (.t 3))))), (.mk (some 57) none (.m (.ld false 1 (.t 56)))), (.mk (some 58) none (.m (.pu (.mv (.t 5))))), (.mk (some 59) none (.m (.pu (.ix 1 (.t 57) (.t 58))))), (.mk (some 60) none (.m (.ld false 1 (.t 59)))), (.mk (some 2) none (.m (.pu (.mv (.t 60)))))]) .rt) .sk))) .sk)))))))))) (.sq (.reg [(.mk (some 2) none (.m (.pu (.mv (.c (.v (.int .i64 0)))))))]) .rt)))))
def rv_catalog_Strength : List (RV × Option Ty) := [((.t 2), some tI)]
def g_catalog_Strength : G := ⟨TYs, [], 61, EL [(56, sp_catalog_of), (57, sp_catalog_modulus), (58, sp_slices_Contains_int_int), (59, sp_slices_Index_int_int)], keeps, (fun _ _ => none), IL [], RL []⟩
def r_catalog_Strength (p0 : Keep) : Option (V × List VO) :=
  br ((!((ofF p0.1).2)))
    (some (.t tI 0, []))
    (br ((ieq (((((ofF p0.1).1).2).2).1) 0))
      (br ((ieq p0.2.1 0))
        (br (cIx (((((((ofF p0.1).1).2).2).2).2).1) 0)
          (some (.t tI (lgt tI (((((((ofF p0.1).1).2).2).2).2).1) (Int.toNat 0)), []))
          (none))
        (some (.t tI 0, [])))
      (br ((ieq (((((ofF p0.1).1).2).2).1) 1))
        (br ((ige p0.2.1 512))
          (br ((ile p0.2.1 16384))
            (some (.t tI (modF p0.2.1), []))
            (some (.t tI 0, [])))
          (some (.t tI 0, [])))
        (br ((ieq (((((ofF p0.1).1).2).2).1) 2))
          (br ((idxOk1 ([160, 224, 256, 384, 521]) p0.2.1))
            (br ((hasF ([160, 224, 256, 384, 521]) p0.2.1))
              (br (cNz 2)
                (some (.t tI (iquo .i64 p0.2.1 2), []))
                (none))
              (some (.t tI 0, [])))
            (none))
          (br ((ieq (((((ofF p0.1).1).2).2).1) 3))
            (br ((idxOk1 ((((((ofF p0.1).1).2).2).2).1) p0.2.1))
              (br ((ige (idxF ((((((ofF p0.1).1).2).2).2).1) p0.2.1) 0))
                (br (cIx (((((((ofF p0.1).1).2).2).2).2).1) (idxF ((((((ofF p0.1).1).2).2).2).1) p0.2.1))
                  (some (.t tI (lgt tI (((((((ofF p0.1).1).2).2).2).2).1) (Int.toNat (idxF ((((((ofF p0.1).1).2).2).2).1) p0.2.1))), []))
                  (none))
                (some (.t tI 0, [])))
              (none))
            (some (.t tI 0, []))))))
theorem e_catalog_Strength (p0 : Keep) : runF g_catalog_Strength tc_catalog_Strength rv_catalog_Strength false [.t tyKeep p0] [] = r_catalog_Strength p0 := by kernel_rfl
theorem ok_catalog_Strength : Option.map (trC Try.prog) Try.f42.body = some tc_catalog_Strength.er := by kernel_rfl
theorem rok_catalog_Strength : trVs Try.prog Try.f42.results.toList = some (rv_catalog_Strength.map Prod.fst) := by kernel_rfl
theorem en_catalog_Strength : Entered Try.prog 42 := .inr ⟨by decide, _, Try.func42, by kernel_rfl, by kernel_rfl⟩
theorem gk_catalog_Strength : GOk Try.prog g_catalog_Strength := gok_of _ (by
  intro p hp
  simp only [List.mem_cons, List.not_mem_nil, or_false] at hp
  rcases hp with rfl | rfl | rfl | rfl
  · exact ⟨en_catalog_of, ms_catalog_of⟩
  · exact ⟨en_catalog_modulus, ms_catalog_modulus⟩
  · exact ⟨en_slices_Contains_int_int, ms_slices_Contains_int_int⟩
  · exact ⟨en_slices_Index_int_int, ms_slices_Index_int_int⟩)
theorem lk_catalog_Strength : tc_catalog_Strength.lok g_catalog_Strength := by repeat (first | exact trivial | refine ⟨?_, ?_⟩)
theorem str_bad (u : Keep) (h1 : (ofF u.1).2 = false) : r_catalog_Strength u = some (.t tI 0, []) := by
  simp only [r_catalog_Strength, h1, Bool.not_false, br_true]
theorem str_once (u : Keep) {v : Int} (h1 : (ofF u.1).2 = true) (h2 : (ofF u.1).1.2.2.1 = 0) (h3 : (ofF u.1).1.2.2.2.2.1 = [v]) : r_catalog_Strength u = some (.t tI (amongF u.2.1 [0] [v]), []) := by
  simp only [r_catalog_Strength, h1, h2, h3, Bool.not_true, br_false, show ieq 0 0 = true from rfl, br_true, show cIx [v] 0 = true from rfl]
  simp only [amongF, idxN, ieq]
  have hc : ((0 : Int) == u.2.1) = (u.2.1 == 0) := Bool.beq_comm
  rw [hc]
  cases u.2.1 == 0 <;> rfl
theorem str_mod (u : Keep) (h1 : (ofF u.1).2 = true) (h2 : (ofF u.1).1.2.2.1 = 1) : r_catalog_Strength u = some (.t tI (modulusF u.2.1), []) := by
  simp only [r_catalog_Strength, h1, h2, Bool.not_true, br_false, show ieq 1 0 = false from rfl, show ieq 1 1 = true from rfl, br_true, modulusF]
  refine br_intro (fun g1 => br_intro (fun g2 => ?_) (fun g2 => ?_)) (fun g1 => ?_)
  · rw [if_neg]
    simp [ige, ile] at g1 g2
    omega
  · rw [if_pos]
    simp [ige, ile] at g1 g2
    omega
  · rw [if_pos]
    simp [ige] at g1
    omega
theorem str_curve (u : Keep) (h1 : (ofF u.1).2 = true) (h2 : (ofF u.1).1.2.2.1 = 2) : r_catalog_Strength u = some (.t tI (curveF u.2.1), []) := by
  simp only [r_catalog_Strength, h1, h2, Bool.not_true, br_false, show ieq 2 0 = false from rfl, show ieq 2 1 = false from rfl, show ieq 2 2 = true from rfl, br_true, curveF, show idxOk1 [160, 224, 256, 384, 521] u.2.1 = true from rfl, show cNz 2 = true from rfl]
  cases hasF [160, 224, 256, 384, 521] u.2.1 <;> rfl
theorem str_list (u : Keep) {s t : List Int} (h1 : (ofF u.1).2 = true) (h2 : (ofF u.1).1.2.2.1 = 3) (h3 : (ofF u.1).1.2.2.2.1 = s) (h4 : (ofF u.1).1.2.2.2.2.1 = t) (h5 : s.length = t.length) (h6 : s.length ≤ 100000) : r_catalog_Strength u = some (.t tI (amongF u.2.1 s t), []) := by
  have e1 : idxOk1 s u.2.1 = true := by simp [idxOk1, h6]
  simp only [r_catalog_Strength, h1, h2, h3, h4, e1, Bool.not_true, br_false, show ieq 3 0 = false from rfl, show ieq 3 1 = false from rfl, show ieq 3 2 = false from rfl, show ieq 3 3 = true from rfl, br_true, idxF, amongF]
  cases hq : idxN u.2.1 s with
  | none => rfl
  | some k =>
    have hk := idxN_lt hq
    have e2 : ige (k : Int) 0 = true := by simp only [ige, decide_eq_true_eq]; omega
    have e3 : k < t.length := by omega
    simp only [e2, br_true, cIx_nat, e3, decide_true]
    rfl
theorem s_catalog_Strength (u : Keep) : r_catalog_Strength u = some (.t tI (strF u), []) := by
  obtain ⟨a, b, c⟩ := u
  by_cases hb : a < 1 ∨ 22 < a
  · rw [str_bad _ (by simp [ofF, hb])]
    have e1 : singleF a = 0 := by
      unfold singleF
      repeat rw [if_neg (by omega)]
    have e2 : strF (a, b, c) = 0 := by
      unfold strF
      simp only
      repeat rw [if_neg (by omega)]
      rw [e1]
      simp only [amongF, idxN]
      cases (0 : Int) == b <;> rfl
    rw [e2]
  · have hc : a = 1 ∨ a = 2 ∨ a = 3 ∨ a = 4 ∨ a = 5 ∨ a = 6 ∨ a = 7 ∨ a = 8 ∨ a = 9 ∨ a = 10 ∨ a = 11 ∨ a = 12 ∨ a = 13 ∨ a = 14 ∨ a = 15 ∨ a = 16 ∨ a = 17 ∨ a = 18 ∨ a = 19 ∨ a = 20 ∨ a = 21 ∨ a = 22 := by omega
    rcases hc with rfl | rfl | rfl | rfl | rfl | rfl | rfl | rfl | rfl | rfl | rfl | rfl | rfl | rfl | rfl | rfl | rfl | rfl | rfl | rfl | rfl | rfl
    all_goals first
      | exact str_once (v := singleF _) (_, b, c) rfl rfl rfl
      | exact str_mod (_, b, c) rfl rfl
      | exact str_curve (_, b, c) rfl rfl
      | exact str_list (_, b, c) rfl rfl rfl rfl rfl (by decide)
def sp_catalog_Strength : Ent := spec (.pr tyKeep .nil) (fun x => true) (fun x => (.t tI (strF x.1)))
theorem ms_catalog_Strength : Meets Try.prog 42 (strip sp_catalog_Strength) := by
  obtain ⟨c, hc, hi⟩ := Option.map_eq_some_iff.1 ok_catalog_Strength
  exact meets_spec (R := runF g_catalog_Strength tc_catalog_Strength rv_catalog_Strength false) (meets_of (by decide) Try.func42 hc hi Try.ntmps42 rok_catalog_Strength gk_catalog_Strength lk_catalog_Strength mixed) fun x _ => (e_catalog_Strength x.1).trans (s_catalog_Strength x.1)
/-- cipherplan/catalog.Valid -/
def tc_catalog_Valid : TC := (.sq (.reg [(.mk (some 1) none (.m (.box (.t 0)))), (.mk (some 2) none (.m (.pu (.mv (.c (.v (.bool false)))))))]) (.sq (.reg [(.mk (some 3) none (.m (.ld true 2 (.t 1)))), (.mk (some 4) none (.call 42 [(.t 3)])), (.mk (some 5) none (.m (.pu (.bin false .gtr (.t 4) (.c (.v (.int .i64 0))))))), (.mk (some 2) none (.m (.pu (.mv (.t 5)))))]) .rt))
def rv_catalog_Valid : List (RV × Option Ty) := [((.t 2), some .bool)]
def g_catalog_Valid : G := ⟨TYs, [], 6, EL [(42, sp_catalog_Strength)], keeps, (fun _ _ => none), IL [], RL []⟩
def r_catalog_Valid (p0 : Keep) : Option (V × List VO) :=
  some (.t .bool (igt (strF p0) 0), [])
theorem e_catalog_Valid (p0 : Keep) : runF g_catalog_Valid tc_catalog_Valid rv_catalog_Valid false [.t tyKeep p0] [] = r_catalog_Valid p0 := by kernel_rfl
theorem ok_catalog_Valid : Option.map (trC Try.prog) Try.f30.body = some tc_catalog_Valid.er := by kernel_rfl
theorem rok_catalog_Valid : trVs Try.prog Try.f30.results.toList = some (rv_catalog_Valid.map Prod.fst) := by kernel_rfl
theorem en_catalog_Valid : Entered Try.prog 30 := .inr ⟨by decide, _, Try.func30, by kernel_rfl, by kernel_rfl⟩
theorem gk_catalog_Valid : GOk Try.prog g_catalog_Valid := gok_of _ (by
  intro p hp
  simp only [List.mem_cons, List.not_mem_nil, or_false] at hp
  rcases hp with rfl
  · exact ⟨en_catalog_Strength, ms_catalog_Strength⟩)
theorem lk_catalog_Valid : tc_catalog_Valid.lok g_catalog_Valid := by repeat (first | exact trivial | refine ⟨?_, ?_⟩)
theorem s_catalog_Valid (u : Keep) : r_catalog_Valid u = some (.t .bool (validF u), []) := rfl
def sp_catalog_Valid : Ent := spec (.pr tyKeep .nil) (fun x => true) (fun x => (.t .bool (validF x.1)))
theorem ms_catalog_Valid : Meets Try.prog 30 (strip sp_catalog_Valid) := by
  obtain ⟨c, hc, hi⟩ := Option.map_eq_some_iff.1 ok_catalog_Valid
  exact meets_spec (R := runF g_catalog_Valid tc_catalog_Valid rv_catalog_Valid false) (meets_of (by decide) Try.func30 hc hi Try.ntmps30 rok_catalog_Valid gk_catalog_Valid lk_catalog_Valid mixed) fun x _ => (e_catalog_Valid x.1).trans (s_catalog_Valid x.1)

/-! the answer's -/
/-- cipherplan/cipherplanref02.modulus -/
def tc_ref02_modulus : TC := (.sq (.reg [(.mk (some 2) none (.m (.pu (.mv (.c (.v (.int .i64 0)))))))]) (.sq (.bk 0 (.sq (.reg [(.mk (some 4) none (.m (.pu (.mv (.t 0))))), (.mk (some 5) none (.m (.pu (.bin false .lss (.t 4) (.c (.v (.int .i64 512))))))), (.mk (some 6) none (.m (.pu (.mv (.t 5))))), (.mk (some 7) (some (6, false)) (.m (.pu (.mv (.t 0))))), (.mk (some 8) (some (6, false)) (.m (.pu (.bin false .gtr (.t 7) (.c (.v (.int .i64 16384))))))), (.mk (some 9) none (.m (.pu (.pick (.t 6) (.c (.v (.bool true))) (.t 8))))), (.mk (some 3) none (.m (.pu (.mv (.t 9)))))]) (.cd (.t 3) (.sq (.reg [(.mk (some 2) none (.m (.pu (.mv (.c (.v (.int .i64 0)))))))]) .rt) (.sq (.reg [(.mk (some 11) none (.m (.pu (.mv (.t 0))))), (.mk (some 12) none (.m (.pu (.bin false .lss (.t 11) (.c (.v (.int .i64 1024))))))), (.mk (some 10) none (.m (.pu (.mv (.t 12)))))]) (.cd (.t 10) (.sq (.reg [(.mk (some 2) none (.m (.pu (.mv (.c (.v (.int .i64 56)))))))]) .rt) (.sq (.reg [(.mk (some 14) none (.m (.pu (.mv (.t 0))))), (.mk (some 15) none (.m (.pu (.bin false .lss (.t 14) (.c (.v (.int .i64 2048))))))), (.mk (some 13) none (.m (.pu (.mv (.t 15)))))]) (.cd (.t 13) (.sq (.reg [(.mk (some 2) none (.m (.pu (.mv (.c (.v (.int .i64 80)))))))]) .rt) (.sq (.reg [(.mk (some 17) none (.m (.pu (.mv (.t 0))))), (.mk (some 18) none (.m (.pu (.bin false .lss (.t 17) (.c (.v (.int .i64 3072))))))), (.mk (some 16) none (.m (.pu (.mv (.t 18)))))]) (.cd (.t 16) (.sq (.reg [(.mk (some 2) none (.m (.pu (.mv (.c (.v (.int .i64 112)))))))]) .rt) (.sq (.reg [(.mk (some 20) none (.m (.pu (.mv (.t 0))))), (.mk (some 21) none (.m (.pu (.bin false .lss (.t 20) (.c (.v (.int .i64 7680))))))), (.mk (some 19) none (.m (.pu (.mv (.t 21)))))]) (.cd (.t 19) (.sq (.reg [(.mk (some 2) none (.m (.pu (.mv (.c (.v (.int .i64 128)))))))]) .rt) (.sq (.reg [(.mk (some 23) none (.m (.pu (.mv (.t 0))))), (.mk (some 24) none (.m (.pu (.bin false .lss (.t 23) (.c (.v (.int .i64 15360))))))), (.mk (some 22) none (.m (.pu (.mv (.t 24)))))]) (.cd (.t 22) (.sq (.reg [(.mk (some 2) none (.m (.pu (.mv (.c (.v (.int .i64 192)))))))]) .rt) .sk))))))))))))) (.sq (.reg [(.mk (some 2) none (.m (.pu (.mv (.c (.v (.int .i64 256)))))))]) .rt)))
def rv_ref02_modulus : List (RV × Option Ty) := [((.t 2), some tI)]
def g_ref02_modulus : G := ⟨TYs, [], 25, EL [], keeps, (fun _ _ => none), IL [], RL []⟩
def r_ref02_modulus (p0 : Int) : Option (V × List VO) :=
  br ((ilt p0 512))
    (some (.t tI 0, []))
    (br ((igt p0 16384))
      (some (.t tI 0, []))
      (br ((ilt p0 1024))
        (some (.t tI 56, []))
        (br ((ilt p0 2048))
          (some (.t tI 80, []))
          (br ((ilt p0 3072))
            (some (.t tI 112, []))
            (br ((ilt p0 7680))
              (some (.t tI 128, []))
              (br ((ilt p0 15360))
                (some (.t tI 192, []))
                (some (.t tI 256, []))))))))
theorem e_ref02_modulus (p0 : Int) : runF g_ref02_modulus tc_ref02_modulus rv_ref02_modulus false [.t tI p0] [] = r_ref02_modulus p0 := by kernel_rfl
theorem ok_ref02_modulus : Option.map (trC Try.prog) Try.f38.body = some tc_ref02_modulus.er := by kernel_rfl
theorem rok_ref02_modulus : trVs Try.prog Try.f38.results.toList = some (rv_ref02_modulus.map Prod.fst) := by kernel_rfl
theorem en_ref02_modulus : Entered Try.prog 38 := .inr ⟨by decide, _, Try.func38, by kernel_rfl, by kernel_rfl⟩
theorem gk_ref02_modulus : GOk Try.prog g_ref02_modulus := gok_of _ (fun p hp => by cases hp)
theorem lk_ref02_modulus : tc_ref02_modulus.lok g_ref02_modulus := by repeat (first | exact trivial | refine ⟨?_, ?_⟩)
theorem s_ref02_modulus (b : Int) : r_ref02_modulus b = some (.t tI (modulusF b), []) := by
  simp only [r_ref02_modulus]
  repeat' (refine br_intro ?_ ?_ <;> intro _)
  all_goals simp only [ilt, igt, decide_eq_true_eq, decide_eq_false_iff_not] at *
  all_goals simp only [modulusF, modF, modZ, modL, Int.toNat_zero, List.drop_zero, List.find?_cons, ilt]
  all_goals first
    | (rw [if_pos (by omega)]; done)
    | (rw [if_neg (by omega)]; repeat first | rw [dec_true (by omega)] | rw [dec_false (by omega)]
       rfl)
def sp_ref02_modulus : Ent := spec (.pr tI .nil) (fun x => true) (fun x => (.t tI (modulusF x.1)))
theorem ms_ref02_modulus : Meets Try.prog 38 (strip sp_ref02_modulus) := by
  obtain ⟨c, hc, hi⟩ := Option.map_eq_some_iff.1 ok_ref02_modulus
  exact meets_spec (R := runF g_ref02_modulus tc_ref02_modulus rv_ref02_modulus false) (meets_of (by decide) Try.func38 hc hi Try.ntmps38 rok_ref02_modulus gk_ref02_modulus lk_ref02_modulus mixed) fun x _ => (e_ref02_modulus x.1).trans (s_ref02_modulus x.1)
theorem alg_cases (a : Int) : ((∀ k : Int, decide (1 ≤ k ∧ k ≤ 22) = true → ieq a k = false) ∧ (a < 1 ∨ 22 < a)) ∨ (a = 1 ∨ a = 2 ∨ a = 3 ∨ a = 4 ∨ a = 5 ∨ a = 6 ∨ a = 7 ∨ a = 8 ∨ a = 9 ∨ a = 10 ∨ a = 11 ∨ a = 12 ∨ a = 13 ∨ a = 14 ∨ a = 15 ∨ a = 16 ∨ a = 17 ∨ a = 18 ∨ a = 19 ∨ a = 20 ∨ a = 21 ∨ a = 22) := by
  by_cases hb : a < 1 ∨ 22 < a
  · refine .inl ⟨fun k hk => ?_, hb⟩
    simp only [decide_eq_true_eq] at hk
    simp only [ieq_dec, decide_eq_false_iff_not]
    omega
  · right
    omega
/-- cipherplan/cipherplanref02.single -/
def tc_ref02_single : TC := (.sq (.reg [(.mk (some 2) none (.m (.pu (.mv (.c (.v (.int .i64 0)))))))]) (.sq (.sq (.reg [(.mk (some 3) none (.m (.pu (.mv (.t 0)))))]) (.bk 0 (.sq (.reg [(.mk (some 5) none (.m (.pu (.bin false .eql (.t 3) (.c (.v (.int .i64 1))))))), (.mk (some 4) none (.m (.pu (.mv (.t 5)))))]) (.cd (.t 4) (.sq (.reg [(.mk (some 2) none (.m (.pu (.mv (.c (.v (.int .i64 18)))))))]) .rt) (.sq (.reg [(.mk (some 7) none (.m (.pu (.bin false .eql (.t 3) (.c (.v (.int .i64 2))))))), (.mk (some 6) none (.m (.pu (.mv (.t 7)))))]) (.cd (.t 6) (.sq (.reg [(.mk (some 2) none (.m (.pu (.mv (.c (.v (.int .i64 60)))))))]) .rt) (.sq (.sq (.reg [(.mk (some 9) none (.m (.pu (.bin false .eql (.t 3) (.c (.v (.int .i64 3))))))), (.mk (some 8) none (.m (.pu (.mv (.t 9)))))]) (.cd (.t 8) .sk (.sq (.reg [(.mk (some 10) none (.m (.pu (.bin false .eql (.t 3) (.c (.v (.int .i64 8))))))), (.mk (some 8) none (.m (.pu (.mv (.t 10)))))]) (.cd (.t 8) .sk (.reg [(.mk (some 11) none (.m (.pu (.bin false .eql (.t 3) (.c (.v (.int .i64 21))))))), (.mk (some 8) none (.m (.pu (.mv (.t 11)))))]))))) (.cd (.t 8) (.sq (.reg [(.mk (some 2) none (.m (.pu (.mv (.c (.v (.int .i64 128)))))))]) .rt) (.sq (.reg [(.mk (some 13) none (.m (.pu (.bin false .eql (.t 3) (.c (.v (.int .i64 4))))))), (.mk (some 12) none (.m (.pu (.mv (.t 13)))))]) (.cd (.t 12) (.sq (.reg [(.mk (some 2) none (.m (.pu (.mv (.c (.v (.int .i64 192)))))))]) .rt) (.sq (.sq (.reg [(.mk (some 15) none (.m (.pu (.bin false .eql (.t 3) (.c (.v (.int .i64 18))))))), (.mk (some 14) none (.m (.pu (.mv (.t 15)))))]) (.cd (.t 14) .sk (.reg [(.mk (some 16) none (.m (.pu (.bin false .eql (.t 3) (.c (.v (.int .i64 22))))))), (.mk (some 14) none (.m (.pu (.mv (.t 16)))))]))) (.cd (.t 14) (.sq (.reg [(.mk (some 2) none (.m (.pu (.mv (.c (.v (.int .i64 256)))))))]) .rt) (.sq (.reg [(.mk (some 18) none (.m (.pu (.bin false .eql (.t 3) (.c (.v (.int .i64 19))))))), (.mk (some 17) none (.m (.pu (.mv (.t 18)))))]) (.cd (.t 17) (.sq (.reg [(.mk (some 2) none (.m (.pu (.mv (.c (.v (.int .i64 64)))))))]) .rt) (.sq (.reg [(.mk (some 20) none (.m (.pu (.bin false .eql (.t 3) (.c (.v (.int .i64 20))))))), (.mk (some 19) none (.m (.pu (.mv (.t 20)))))]) (.cd (.t 19) (.sq (.reg [(.mk (some 2) none (.m (.pu (.mv (.c (.v (.int .i64 80)))))))]) .rt) .sk)))))))))))))))) (.sq (.reg [(.mk (some 2) none (.m (.pu (.mv (.c (.v (.int .i64 0)))))))]) .rt)))
def rv_ref02_single : List (RV × Option Ty) := [((.t 2), some tI)]
def g_ref02_single : G := ⟨TYs, [], 21, EL [], keeps, (fun _ _ => none), IL [], RL []⟩
def r_ref02_single_2 (p0 : Int) : Option (V × List VO) :=
  br ((ieq p0 19))
    (some (.t tI 64, []))
    (br ((ieq p0 20))
      (some (.t tI 80, []))
      (some (.t tI 0, [])))
def r_ref02_single_1 (p0 : Int) : Option (V × List VO) :=
  br ((ieq p0 4))
    (some (.t tI 192, []))
    (br ((ieq p0 18))
      (br ((ieq p0 18))
        (some (.t tI 256, []))
        (r_ref02_single_2 p0))
      (br ((ieq p0 22))
        (some (.t tI 256, []))
        (r_ref02_single_2 p0)))
def r_ref02_single (p0 : Int) : Option (V × List VO) :=
  br ((ieq p0 1))
    (some (.t tI 18, []))
    (br ((ieq p0 2))
      (some (.t tI 60, []))
      (br ((ieq p0 3))
        (br ((ieq p0 3))
          (some (.t tI 128, []))
          (r_ref02_single_1 p0))
        (br ((ieq p0 8))
          (br ((ieq p0 8))
            (some (.t tI 128, []))
            (r_ref02_single_1 p0))
          (br ((ieq p0 21))
            (some (.t tI 128, []))
            (r_ref02_single_1 p0)))))
theorem e_ref02_single (p0 : Int) : runF g_ref02_single tc_ref02_single rv_ref02_single false [.t tI p0] [] = r_ref02_single p0 := by kernel_rfl
theorem ok_ref02_single : Option.map (trC Try.prog) Try.f40.body = some tc_ref02_single.er := by kernel_rfl
theorem rok_ref02_single : trVs Try.prog Try.f40.results.toList = some (rv_ref02_single.map Prod.fst) := by kernel_rfl
theorem en_ref02_single : Entered Try.prog 40 := .inr ⟨by decide, _, Try.func40, by kernel_rfl, by kernel_rfl⟩
theorem gk_ref02_single : GOk Try.prog g_ref02_single := gok_of _ (fun p hp => by cases hp)
theorem lk_ref02_single : tc_ref02_single.lok g_ref02_single := by repeat (first | exact trivial | refine ⟨?_, ?_⟩)
theorem s_ref02_single (a : Int) : r_ref02_single a = some (.t tI (singleF a), []) := by
  rcases alg_cases a with ⟨e, hb⟩ | hc
  · have e1 : singleF a = 0 := by
      unfold singleF
      repeat rw [if_neg (by omega)]
    rw [e1]
    simp only [r_ref02_single, r_ref02_single_1, r_ref02_single_2, e 1 (by decide), e 2 (by decide), e 3 (by decide), e 4 (by decide), e 8 (by decide), e 18 (by decide), e 19 (by decide), e 20 (by decide), e 21 (by decide), e 22 (by decide), br_false]
  · rcases hc with rfl | rfl | rfl | rfl | rfl | rfl | rfl | rfl | rfl | rfl | rfl | rfl | rfl | rfl | rfl | rfl | rfl | rfl | rfl | rfl | rfl | rfl <;> rfl
def sp_ref02_single : Ent := spec (.pr tI .nil) (fun x => true) (fun x => (.t tI (singleF x.1)))
theorem ms_ref02_single : Meets Try.prog 40 (strip sp_ref02_single) := by
  obtain ⟨c, hc, hi⟩ := Option.map_eq_some_iff.1 ok_ref02_single
  exact meets_spec (R := runF g_ref02_single tc_ref02_single rv_ref02_single false) (meets_of (by decide) Try.func40 hc hi Try.ntmps40 rok_ref02_single gk_ref02_single lk_ref02_single mixed) fun x _ => (e_ref02_single x.1).trans (s_ref02_single x.1)
def amongOk (_b : Int) (s t : List Int) : Bool := decide (s.length = t.length ∧ s.length ≤ 100000)
def fg_ref02_among_0 : Fg := ⟨[(0, some tI), (1, some (.sl tI)), (2, some (.sl tI)), (7, some tI)], []⟩
def tb_ref02_among_0 : TC := (.sq (.sq (.reg [(.mk (some 8) none (.m (.pu (.mv (.t 7))))), (.mk (some 9) none (.m (.pu (.mv (.t 1))))), (.mk (some 10) none (.m (.pu (.len false (.t 9))))), (.mk (some 11) none (.m (.pu (.bin false .lss (.t 8) (.t 10)))))]) (.cd (.t 11) .sk (.fg ⟨[], []⟩ (.ex 0)))) (.sq (.bk 1 (.sq (.reg [(.mk (some 14) none (.m (.pu (.mv (.t 1))))), (.mk (some 15) none (.m (.pu (.mv (.t 7))))), (.mk (some 16) none (.m (.pu (.ix 1 (.t 14) (.t 15))))), (.mk (some 17) none (.m (.ld false 1 (.t 16)))), (.mk (some 18) none (.m (.pu (.mv (.t 0))))), (.mk (some 19) none (.m (.pu (.bin false .eql (.t 17) (.t 18)))))]) (.cd (.t 19) (.sq (.reg [(.mk (some 20) none (.m (.pu (.mv (.t 2))))), (.mk (some 21) none (.m (.pu (.mv (.t 7))))), (.mk (some 22) none (.m (.pu (.ix 1 (.t 20) (.t 21))))), (.mk (some 23) none (.m (.ld false 1 (.t 22)))), (.mk (some 6) none (.m (.pu (.mv (.t 23)))))]) (.fg ⟨[(6, some tI)], []⟩ .rt)) .sk))) (.reg [(.mk (some 12) none (.m (.pu (.mv (.t 7))))), (.mk (some 13) none (.m (.pu (.bin false .add (.t 12) (.c (.v (.int .i64 1))))))), (.mk (some 7) none (.m (.pu (.mv (.t 13)))))])))
/-- cipherplan/cipherplanref02.among -/
def tc_ref02_among : TC := (.sq (.reg [(.mk (some 6) none (.m (.pu (.mv (.c (.v (.int .i64 0)))))))]) (.sq (.sq (.reg [(.mk (some 7) none (.m (.pu (.mv (.c (.v (.int .i64 0)))))))]) (.bk 0 (.lp 0 fg_ref02_among_0 tb_ref02_among_0))) (.sq (.reg [(.mk (some 6) none (.m (.pu (.mv (.c (.v (.int .i64 0)))))))]) .rt)))
def rv_ref02_among : List (RV × Option Ty) := [((.t 6), some tI)]
abbrev sh_ref02_among_0 : Sh := ⟨[(0, .ty tI), (1, .ty (.sl tI)), (2, .ty (.sl tI)), (7, .ty tI)], []⟩
def st_ref02_among_0 (x0 : Int) (x1 : (List Int)) (x2 : (List Int)) (x7 : Int) : VS := sh_ref02_among_0.st (x0, x1, x2, x7, ()) ()
abbrev sh_ref02_among_0_ret : Sh := ⟨[(6, .ty tI)], []⟩
def st_ref02_among_0_ret (x6 : Int) : VS := sh_ref02_among_0_ret.st (x6, ()) ()
abbrev sh_ref02_among_0_e0 : Sh := ⟨[], []⟩
def st_ref02_among_0_e0  : VS := sh_ref02_among_0_e0.st () ()
-- loop 0: (x0 : Int) (x1 : (List Int)) (x2 : (List Int)) (x7 : Int); out: ('ret',) (x6 : Int); ('exit', 0) 
def L_ref02_among_0 : VS → Option (Bool × List (Bool × Exit × VS)) := mkL sh_ref02_among_0 (fun x y => (decide (x.2.1.length = x.2.2.1.length ∧ x.2.1.length ≤ 100000 ∧ 0 ≤ x.2.2.2.1 ∧ x.2.2.2.1 ≤ x.2.1.length))) (fun x y => [(((idxN x.1 (x.2.1.drop x.2.2.2.1.toNat)).isSome), .ret, st_ref02_among_0_ret (x.2.2.1.getD (x.2.2.2.1.toNat + (idxN x.1 (x.2.1.drop x.2.2.2.1.toNat)).getD 0) 0)), (true, .exit 0, st_ref02_among_0_e0)])
def g_ref02_among : G := ⟨TYs, [], 24, EL [], keeps, (Ls [L_ref02_among_0]), IL [], RL []⟩
def b_ref02_among_0 (x0 : Int) (x1 : (List Int)) (x2 : (List Int)) (x7 : Int) : Option (Exit × VS) :=
  br ((ilt x7 (llen x1)))
    (br (cIx x1 x7)
      (br ((ieq (lgt tI x1 (Int.toNat x7)) x0))
        (br (cIx x2 x7)
          (some (.ret, st_ref02_among_0_ret (lgt tI x2 (Int.toNat x7))))
          (none))
        (some (.normal, st_ref02_among_0 x0 x1 x2 (iadd .i64 x7 1))))
      (none))
    (some (.exit 0, st_ref02_among_0_e0))
noncomputable def lp_ref02_among_0 (x0 : Int) (x1 : (List Int)) (x2 : (List Int)) (x7 : Int) : Option (Exit × VS) := loopF (roundF g_ref02_among fg_ref02_among_0 tb_ref02_among_0) (st_ref02_among_0 x0 x1 x2 x7)
noncomputable def n_ref02_among_0 (x0 : Int) (x1 : (List Int)) (x2 : (List Int)) (x7 : Int) : Option (Exit × VS) :=
  br ((ilt x7 (llen x1)))
    (br (cIx x1 x7)
      (br ((ieq (lgt tI x1 (Int.toNat x7)) x0))
        (br (cIx x2 x7)
          (some (.ret, st_ref02_among_0_ret (lgt tI x2 (Int.toNat x7))))
          (none))
        (lp_ref02_among_0 x0 x1 x2 (iadd .i64 x7 1)))
      (none))
    (some (.exit 0, st_ref02_among_0_e0))
def la_ref02_among_0 (x0 : Int) (x1 : (List Int)) (x2 : (List Int)) (x7 : Int) : Option (Exit × VS) := br ((idxN x0 (x1.drop x7.toNat)).isSome) (some (.ret, st_ref02_among_0_ret (x2.getD (x7.toNat + (idxN x0 (x1.drop x7.toNat)).getD 0) 0))) <| some (.exit 0, st_ref02_among_0_e0)
theorem be_ref02_among_0 (x0 : Int) (x1 : (List Int)) (x2 : (List Int)) (x7 : Int) : roundF g_ref02_among fg_ref02_among_0 tb_ref02_among_0 (st_ref02_among_0 x0 x1 x2 x7) = b_ref02_among_0 x0 x1 x2 x7 := by kernel_rfl
theorem ln_ref02_among_0 (x0 : Int) (x1 : (List Int)) (x2 : (List Int)) (x7 : Int) : lp_ref02_among_0 x0 x1 x2 x7 = n_ref02_among_0 x0 x1 x2 x7 := (loopF_nxt _ _).trans (by
  rw [be_ref02_among_0]
  simp only [b_ref02_among_0, n_ref02_among_0, nxt_br, nxt_n, nxt_r, nxt_e, nxt_0]
  rfl)
def r_ref02_among (p0 : Int) (p1 : (List Int)) (p2 : (List Int)) : Option (V × List VO) :=
  br ((decide (p1.length = p2.length ∧ p1.length ≤ 100000 ∧ 0 ≤ (0 : Int) ∧ (0 : Int) ≤ p1.length)))
    (br (((idxN p0 (p1.drop (0 : Int).toNat)).isSome))
      (some (.t tI (p2.getD ((0 : Int).toNat + (idxN p0 (p1.drop (0 : Int).toNat)).getD 0) 0), []))
      (some (.t tI 0, [])))
    (none)
theorem e_ref02_among (p0 : Int) (p1 : (List Int)) (p2 : (List Int)) : runF g_ref02_among tc_ref02_among rv_ref02_among false [.t tI p0, .t (.sl tI) p1, .t (.sl tI) p2] [] = r_ref02_among p0 p1 p2 := by kernel_rfl
theorem ok_ref02_among : Option.map (trC Try.prog) Try.f39.body = some tc_ref02_among.er := by kernel_rfl
theorem rok_ref02_among : trVs Try.prog Try.f39.results.toList = some (rv_ref02_among.map Prod.fst) := by kernel_rfl
theorem en_ref02_among : Entered Try.prog 39 := .inr ⟨by decide, _, Try.func39, by kernel_rfl, by kernel_rfl⟩
theorem gk_ref02_among : GOk Try.prog g_ref02_among := gok_of _ (fun p hp => by cases hp)
theorem l_ref02_among_0 (x0 : Int) (x1 : (List Int)) (x2 : (List Int)) (x7 : Int) (h : (decide (x1.length = x2.length ∧ x1.length ≤ 100000 ∧ 0 ≤ x7 ∧ x7 ≤ x1.length)) = true) : lp_ref02_among_0 x0 x1 x2 x7 = la_ref02_among_0 x0 x1 x2 x7 := by
  simp only [decide_eq_true_eq] at h
  obtain ⟨h1, h2, h3, h4⟩ := h
  obtain ⟨k, rfl⟩ := Int.eq_ofNat_of_zero_le h3
  refine range_ind x1 (fun k => lp_ref02_among_0 x0 x1 x2 (k : Int) = la_ref02_among_0 x0 x1 x2 (k : Int)) ?_ ?_ k (by omega)
  · rw [ln_ref02_among_0]
    simp [n_ref02_among_0, la_ref02_among_0, ilt_nat, llen, br_false, idxN]
  · intro k hk ih
    rw [ln_ref02_among_0]
    have hk2 : k < x2.length := by omega
    simp only [n_ref02_among_0, ilt_nat, llen, cIx_nat, hk, hk2, decide_true, br_true, Int.toNat_natCast, add1 (show k < 4611686018427387904 by omega), ih, lgt_get (y := tI) hk, lgt_get (y := tI) hk2]
    simp only [la_ref02_among_0, Int.toNat_natCast, List.drop_eq_getElem_cons hk, idxN, ieq]
    cases h : x1[k] == x0 with
    | true => simp [h, br_true, List.getD_eq_getElem?_getD, List.getElem?_eq_getElem hk2]
    | false =>
      simp only [h, br_false, Bool.false_eq_true, if_false]
      cases hq : idxN x0 (x1.drop (k + 1)) with
      | none => rfl
      | some j =>
        simp only [Option.map_some, Option.isSome_some, Option.getD_some, br_true]
        rw [show k + 1 + j = k + (j + 1) by omega]
theorem lo_ref02_among_0 : ∀ S l p, g_ref02_among.L 0 (fgt fg_ref02_among_0 S) = some (true, l) → pickA l = some p → loopF (roundF g_ref02_among fg_ref02_among_0 tb_ref02_among_0) S = some p :=
  lok_of (s := sh_ref02_among_0) ⟨by decide, by decide⟩ (by kernel_rfl) fun x y hok p hp => by
  simp only [pickA_br, pickA_one] at hp
  exact (l_ref02_among_0 x.1 x.2.1 x.2.2.1 x.2.2.2.1 (by simpa using hok)).trans hp
theorem lk_ref02_among : tc_ref02_among.lok g_ref02_among := by
  repeat (first | exact trivial | exact lo_ref02_among_0 | refine ⟨?_, ?_⟩)
theorem s_ref02_among (b : Int) (s t : List Int) (h : amongOk b s t = true) : r_ref02_among b s t = some (.t tI (amongF b s t), []) := by
  simp only [amongOk, decide_eq_true_eq] at h
  simp only [r_ref02_among, amongF]
  rw [dec_true ⟨h.1, h.2, Int.le_refl 0, by omega⟩, br_true]
  simp only [Int.toNat_zero, List.drop_zero, Nat.zero_add]
  cases idxN b s <;> simp [br_true, br_false]
def sp_ref02_among : Ent := spec (.pr tI (.pr (.sl tI) (.pr (.sl tI) .nil))) (fun x => (amongOk x.1 x.2.1 x.2.2.1)) (fun x => (.t tI (amongF x.1 x.2.1 x.2.2.1)))
theorem ms_ref02_among : Meets Try.prog 39 (strip sp_ref02_among) := by
  obtain ⟨c, hc, hi⟩ := Option.map_eq_some_iff.1 ok_ref02_among
  exact meets_spec (R := runF g_ref02_among tc_ref02_among rv_ref02_among false) (meets_of (by decide) Try.func39 hc hi Try.ntmps39 rok_ref02_among gk_ref02_among lk_ref02_among mixed) fun x hok => (e_ref02_among x.1 x.2.1 x.2.2.1).trans (s_ref02_among x.1 x.2.1 x.2.2.1 hok)
/-- cipherplan/cipherplanref02.Strength -/
def tc_ref02_Strength : TC := (.sq (.reg [(.mk (some 1) none (.m (.box (.t 0)))), (.mk (some 2) none (.m (.pu (.mv (.c (.v (.int .i64 0)))))))]) (.sq (.reg [(.mk (some 4) none (.m (.pu (.fa 1 (.t 1))))), (.mk (some 5) none (.m (.ld false 1 (.t 4)))), (.mk (some 3) none (.m (.pu (.mv (.t 5)))))]) (.sq (.sq (.reg [(.mk (some 6) none (.m (.pu (.fa 0 (.t 1))))), (.mk (some 7) none (.m (.ld false 1 (.t 6))))]) (.bk 0 (.sq (.sq (.reg [(.mk (some 9) none (.m (.pu (.bin false .eql (.t 7) (.c (.v (.int .i64 5))))))), (.mk (some 8) none (.m (.pu (.mv (.t 9)))))]) (.cd (.t 8) .sk (.sq (.reg [(.mk (some 10) none (.m (.pu (.bin false .eql (.t 7) (.c (.v (.int .i64 6))))))), (.mk (some 8) none (.m (.pu (.mv (.t 10)))))]) (.cd (.t 8) .sk (.sq (.reg [(.mk (some 11) none (.m (.pu (.bin false .eql (.t 7) (.c (.v (.int .i64 10))))))), (.mk (some 8) none (.m (.pu (.mv (.t 11)))))]) (.cd (.t 8) .sk (.reg [(.mk (some 12) none (.m (.pu (.bin false .eql (.t 7) (.c (.v (.int .i64 11))))))), (.mk (some 8) none (.m (.pu (.mv (.t 12)))))]))))))) (.cd (.t 8) (.sq (.reg [(.mk (some 13) none (.m (.pu (.mv (.t 3))))), (.mk (some 14) none (.call 38 [(.t 13)])), (.mk (some 2) none (.m (.pu (.mv (.t 14)))))]) .rt) (.sq (.sq (.reg [(.mk (some 16) none (.m (.pu (.bin false .eql (.t 7) (.c (.v (.int .i64 7))))))), (.mk (some 15) none (.m (.pu (.mv (.t 16)))))]) (.cd (.t 15) .sk (.reg [(.mk (some 17) none (.m (.pu (.bin false .eql (.t 7) (.c (.v (.int .i64 12))))))), (.mk (some 15) none (.m (.pu (.mv (.t 17)))))]))) (.cd (.t 15) (.sq (.sq (.reg [(.mk (some 18) none (.m (.pu (.mv (.t 3))))), (.mk (some 19) none (.m (.pu (.bin false .eql (.t 18) (.c (.v (.int .i64 160))))))), (.mk (some 20) none (.m (.pu (.mv (.t 19))))), (.mk (some 21) (some (20, false)) (.m (.pu (.mv (.t 3))))), (.mk (some 22) (some (20, false)) (.m (.pu (.bin false .eql (.t 21) (.c (.v (.int .i64 224))))))), (.mk (some 23) none (.m (.pu (.pick (.t 20) (.c (.v (.bool true))) (.t 22))))), (.mk (some 24) none (.m (.pu (.mv (.t 23))))), (.mk (some 25) (some (24, false)) (.m (.pu (.mv (.t 3))))), (.mk (some 26) (some (24, false)) (.m (.pu (.bin false .eql (.t 25) (.c (.v (.int .i64 256))))))), (.mk (some 27) none (.m (.pu (.pick (.t 24) (.c (.v (.bool true))) (.t 26))))), (.mk (some 28) none (.m (.pu (.mv (.t 27))))), (.mk (some 29) (some (28, false)) (.m (.pu (.mv (.t 3))))), (.mk (some 30) (some (28, false)) (.m (.pu (.bin false .eql (.t 29) (.c (.v (.int .i64 384))))))), (.mk (some 31) none (.m (.pu (.pick (.t 28) (.c (.v (.bool true))) (.t 30))))), (.mk (some 32) none (.m (.pu (.mv (.t 31))))), (.mk (some 33) (some (32, false)) (.m (.pu (.mv (.t 3))))), (.mk (some 34) (some (32, false)) (.m (.pu (.bin false .eql (.t 33) (.c (.v (.int .i64 521))))))), (.mk (some 35) none (.m (.pu (.pick (.t 32) (.c (.v (.bool true))) (.t 34)))))]) (.cd (.t 35) (.sq (.reg [(.mk (some 36) none (.m (.pu (.mv (.t 3))))), (.mk (some 37) none (.m (.pu (.bin false .quo (.t 36) (.c (.v (.int .i64 2))))))), (.mk (some 2) none (.m (.pu (.mv (.t 37)))))]) .rt) .sk)) (.sq (.reg [(.mk (some 2) none (.m (.pu (.mv (.c (.v (.int .i64 0)))))))]) .rt)) (.sq (.reg [(.mk (some 39) none (.m (.pu (.bin false .eql (.t 7) (.c (.v (.int .i64 9))))))), (.mk (some 38) none (.m (.pu (.mv (.t 39)))))]) (.cd (.t 38) (.sq (.reg [(.mk (some 40) none (.m (.pu (.mv (.t 3))))), (.mk (some 41) none (.m (.bs 3 1 3 [(.v (.int .i64 0)), (.v (.int .i64 0)), (.v (.int .i64 0))] [(0, 1, (.c (.v (.int .i64 44)))), (1, 1, (.c (.v (.int .i64 65)))), (2, 1, (.c (.v (.int .i64 87))))]))), (.mk (some 42) none (.m (.bs 3 1 3 [(.v (.int .i64 0)), (.v (.int .i64 0)), (.v (.int .i64 0))] [(0, 1, (.c (.v (.int .i64 128)))), (1, 1, (.c (.v (.int .i64 192)))), (2, 1, (.c (.v (.int .i64 256))))]))), (.mk (some 43) none (.call 39 [(.t 40), (.t 41), (.t 42)])), (.mk (some 2) none (.m (.pu (.mv (.t 43)))))]) .rt) (.sq (.reg [(.mk (some 45) none (.m (.pu (.bin false .eql (.t 7) (.c (.v (.int .i64 13))))))), (.mk (some 44) none (.m (.pu (.mv (.t 45)))))]) (.cd (.t 44) (.sq (.reg [(.mk (some 46) none (.m (.pu (.mv (.t 3))))), (.mk (some 47) none (.m (.bs 3 1 3 [(.v (.int .i64 0)), (.v (.int .i64 0)), (.v (.int .i64 0))] [(0, 1, (.c (.v (.int .i64 512)))), (1, 1, (.c (.v (.int .i64 768)))), (2, 1, (.c (.v (.int .i64 1024))))]))), (.mk (some 48) none (.m (.bs 3 1 3 [(.v (.int .i64 0)), (.v (.int .i64 0)), (.v (.int .i64 0))] [(0, 1, (.c (.v (.int .i64 128)))), (1, 1, (.c (.v (.int .i64 192)))), (2, 1, (.c (.v (.int .i64 256))))]))), (.mk (some 49) none (.call 39 [(.t 46), (.t 47), (.t 48)])), (.mk (some 2) none (.m (.pu (.mv (.t 49)))))]) .rt) (.sq (.reg [(.mk (some 51) none (.m (.pu (.bin false .eql (.t 7) (.c (.v (.int .i64 14))))))), (.mk (some 50) none (.m (.pu (.mv (.t 51)))))]) (.cd (.t 50) (.sq (.reg [(.mk (some 52) none (.m (.pu (.mv (.t 3))))), (.mk (some 53) none (.m (.bs 3 1 2 [(.v (.int .i64 0)), (.v (.int .i64 0))] [(0, 1, (.c (.v (.int .i64 40)))), (1, 1, (.c (.v (.int .i64 128))))]))), (.mk (some 54) none (.m (.bs 3 1 2 [(.v (.int .i64 0)), (.v (.int .i64 0))] [(0, 1, (.c (.v (.int .i64 40)))), (1, 1, (.c (.v (.int .i64 60))))]))), (.mk (some 55) none (.call 39 [(.t 52), (.t 53), (.t 54)])), (.mk (some 2) none (.m (.pu (.mv (.t 55)))))]) .rt) (.sq (.reg [(.mk (some 57) none (.m (.pu (.bin false .eql (.t 7) (.c (.v (.int .i64 15))))))), (.mk (some 56) none (.m (.pu (.mv (.t 57)))))]) (.cd (.t 56) (.sq (.reg [(.mk (some 58) none (.m (.pu (.mv (.t 3))))), (.mk (some 59) none (.m (.bs 3 1 2 [(.v (.int .i64 0)), (.v (.int .i64 0))] [(0, 1, (.c (.v (.int .i64 112)))), (1, 1, (.c (.v (.int .i64 168))))]))), (.mk (some 60) none (.m (.bs 3 1 2 [(.v (.int .i64 0)), (.v (.int .i64 0))] [(0, 1, (.c (.v (.int .i64 80)))), (1, 1, (.c (.v (.int .i64 112))))]))), (.mk (some 61) none (.call 39 [(.t 58), (.t 59), (.t 60)])), (.mk (some 2) none (.m (.pu (.mv (.t 61)))))]) .rt) (.sq (.sq (.reg [(.mk (some 63) none (.m (.pu (.bin false .eql (.t 7) (.c (.v (.int .i64 16))))))), (.mk (some 62) none (.m (.pu (.mv (.t 63)))))]) (.cd (.t 62) .sk (.reg [(.mk (some 64) none (.m (.pu (.bin false .eql (.t 7) (.c (.v (.int .i64 17))))))), (.mk (some 62) none (.m (.pu (.mv (.t 64)))))]))) (.cd (.t 62) (.sq (.reg [(.mk (some 65) none (.m (.pu (.mv (.t 3))))), (.mk (some 66) none (.m (.bs 3 1 2 [(.v (.int .i64 0)), (.v (.int .i64 0))] [(0, 1, (.c (.v (.int .i64 128)))), (1, 1, (.c (.v (.int .i64 256))))]))), (.mk (some 67) none (.m (.bs 3 1 2 [(.v (.int .i64 0)), (.v (.int .i64 0))] [(0, 1, (.c (.v (.int .i64 128)))), (1, 1, (.c (.v (.int .i64 256))))]))), (.mk (some 68) none (.call 39 [(.t 65), (.t 66), (.t 67)])), (.mk (some 2) none (.m (.pu (.mv (.t 68)))))]) .rt) .sk)))))))))))))))) (.sq (.reg [(.mk (some 69) none (.m (.pu (.mv (.t 3))))), (.mk (some 70) none (.m (.bs 3 1 1 [(.v (.int .i64 0))] [(0, 1, (.c (.v (.int .i64 0))))]))), (.mk (some 71) none (.m (.pu (.fa 0 (.t 1))))), (.mk (some 72) none (.m (.ld false 1 (.t 71)))), (.mk (some 73) none (.call 40 [(.t 72)])), (.mk (some 74) none (.m (.bs 3 1 1 [(.v (.int .i64 0))] [(0, 1, (.t 73))]))), (.mk (some 75) none (.call 39 [(.t 69), (.t 70), (.t 74)])), (.mk (some 2) none (.m (.pu (.mv (.t 75)))))]) .rt))))
def rv_ref02_Strength : List (RV × Option Ty) := [((.t 2), some tI)]
def g_ref02_Strength : G := ⟨TYs, [], 76, EL [(38, sp_ref02_modulus), (39, sp_ref02_among), (40, sp_ref02_single)], keeps, (fun _ _ => none), IL [], RL []⟩
def r_ref02_Strength_3 (p0 : Keep) : Option (V × List VO) :=
  br (cNz 2)
    (some (.t tI (iquo .i64 p0.2.1 2), []))
    (none)
def r_ref02_Strength_2 (p0 : Keep) : Option (V × List VO) :=
  br ((ieq p0.2.1 160))
    (r_ref02_Strength_3 p0)
    (br ((ieq p0.2.1 224))
      (r_ref02_Strength_3 p0)
      (br ((ieq p0.2.1 256))
        (r_ref02_Strength_3 p0)
        (br ((ieq p0.2.1 384))
          (r_ref02_Strength_3 p0)
          (br ((ieq p0.2.1 521))
            (r_ref02_Strength_3 p0)
            (some (.t tI 0, []))))))
def r_ref02_Strength_5 (p0 : Keep) : Option (V × List VO) :=
  br ((amongOk p0.2.1 ([128, 256]) ([128, 256])))
    (some (.t tI (amongF p0.2.1 ([128, 256]) ([128, 256])), []))
    (none)
def r_ref02_Strength_6 (p0 : Keep) : Option (V × List VO) :=
  br ((amongOk p0.2.1 ([0]) ([(singleF p0.1)])))
    (some (.t tI (amongF p0.2.1 ([0]) ([(singleF p0.1)])), []))
    (none)
def r_ref02_Strength_4 (p0 : Keep) : Option (V × List VO) :=
  br ((ieq p0.1 9))
    (br ((amongOk p0.2.1 ([44, 65, 87]) ([128, 192, 256])))
      (some (.t tI (amongF p0.2.1 ([44, 65, 87]) ([128, 192, 256])), []))
      (none))
    (br ((ieq p0.1 13))
      (br ((amongOk p0.2.1 ([512, 768, 1024]) ([128, 192, 256])))
        (some (.t tI (amongF p0.2.1 ([512, 768, 1024]) ([128, 192, 256])), []))
        (none))
      (br ((ieq p0.1 14))
        (br ((amongOk p0.2.1 ([40, 128]) ([40, 60])))
          (some (.t tI (amongF p0.2.1 ([40, 128]) ([40, 60])), []))
          (none))
        (br ((ieq p0.1 15))
          (br ((amongOk p0.2.1 ([112, 168]) ([80, 112])))
            (some (.t tI (amongF p0.2.1 ([112, 168]) ([80, 112])), []))
            (none))
          (br ((ieq p0.1 16))
            (br ((ieq p0.1 16))
              (r_ref02_Strength_5 p0)
              (r_ref02_Strength_6 p0))
            (br ((ieq p0.1 17))
              (r_ref02_Strength_5 p0)
              (r_ref02_Strength_6 p0))))))
def r_ref02_Strength_1 (p0 : Keep) : Option (V × List VO) :=
  br ((ieq p0.1 7))
    (br ((ieq p0.1 7))
      (r_ref02_Strength_2 p0)
      (r_ref02_Strength_4 p0))
    (br ((ieq p0.1 12))
      (r_ref02_Strength_2 p0)
      (r_ref02_Strength_4 p0))
def r_ref02_Strength (p0 : Keep) : Option (V × List VO) :=
  br ((ieq p0.1 5))
    (br ((ieq p0.1 5))
      (some (.t tI (modulusF p0.2.1), []))
      (r_ref02_Strength_1 p0))
    (br ((ieq p0.1 6))
      (br ((ieq p0.1 6))
        (some (.t tI (modulusF p0.2.1), []))
        (r_ref02_Strength_1 p0))
      (br ((ieq p0.1 10))
        (br ((ieq p0.1 10))
          (some (.t tI (modulusF p0.2.1), []))
          (r_ref02_Strength_1 p0))
        (br ((ieq p0.1 11))
          (some (.t tI (modulusF p0.2.1), []))
          (r_ref02_Strength_1 p0))))
theorem e_ref02_Strength (p0 : Keep) : runF g_ref02_Strength tc_ref02_Strength rv_ref02_Strength false [.t tyKeep p0] [] = r_ref02_Strength p0 := by kernel_rfl
theorem ok_ref02_Strength : Option.map (trC Try.prog) Try.f26.body = some tc_ref02_Strength.er := by kernel_rfl
theorem rok_ref02_Strength : trVs Try.prog Try.f26.results.toList = some (rv_ref02_Strength.map Prod.fst) := by kernel_rfl
theorem en_ref02_Strength : Entered Try.prog 26 := .inr ⟨by decide, _, Try.func26, by kernel_rfl, by kernel_rfl⟩
theorem gk_ref02_Strength : GOk Try.prog g_ref02_Strength := gok_of _ (by
  intro p hp
  simp only [List.mem_cons, List.not_mem_nil, or_false] at hp
  rcases hp with rfl | rfl | rfl
  · exact ⟨en_ref02_modulus, ms_ref02_modulus⟩
  · exact ⟨en_ref02_among, ms_ref02_among⟩
  · exact ⟨en_ref02_single, ms_ref02_single⟩)
theorem lk_ref02_Strength : tc_ref02_Strength.lok g_ref02_Strength := by repeat (first | exact trivial | refine ⟨?_, ?_⟩)
theorem s_ref02_Strength (u : Keep) : r_ref02_Strength u = some (.t tI (strF u), []) := by
  obtain ⟨a, b, c⟩ := u
  have hcv : r_ref02_Strength_2 (a, b, c) = some (.t tI (curveF b), []) := by
    have hh : hasF [160, 224, 256, 384, 521] b = (ieq b 160 || (ieq b 224 || (ieq b 256 || (ieq b 384 || ieq b 521)))) := by
      rw [Bool.eq_iff_iff]
      simp [hasF, ieq]
    simp only [r_ref02_Strength_2, r_ref02_Strength_3, show cNz 2 = true from rfl, br_true, curveF, hh]
    cases ieq b 160 <;> cases ieq b 224 <;> cases ieq b 256 <;> cases ieq b 384 <;> cases ieq b 521 <;> rfl
  rcases alg_cases a with ⟨e, hb⟩ | hc
  · have e2 : strF (a, b, c) = amongF b [0] [singleF a] := by
      unfold strF
      simp only
      repeat rw [if_neg (by omega)]
    rw [e2]
    simp only [r_ref02_Strength, r_ref02_Strength_1, r_ref02_Strength_2, r_ref02_Strength_3, r_ref02_Strength_4, r_ref02_Strength_5, r_ref02_Strength_6, e 5 (by decide), e 6 (by decide), e 7 (by decide), e 9 (by decide), e 10 (by decide), e 11 (by decide), e 12 (by decide), e 13 (by decide), e 14 (by decide), e 15 (by decide), e 16 (by decide), e 17 (by decide), br_false]
    rfl
  · rcases hc with rfl | rfl | rfl | rfl | rfl | rfl | rfl | rfl | rfl | rfl | rfl | rfl | rfl | rfl | rfl | rfl | rfl | rfl | rfl | rfl | rfl | rfl
    all_goals first
      | rfl
      | exact hcv
def sp_ref02_Strength : Ent := spec (.pr tyKeep .nil) (fun x => true) (fun x => (.t tI (strF x.1)))
theorem ms_ref02_Strength : Meets Try.prog 26 (strip sp_ref02_Strength) := by
  obtain ⟨c, hc, hi⟩ := Option.map_eq_some_iff.1 ok_ref02_Strength
  exact meets_spec (R := runF g_ref02_Strength tc_ref02_Strength rv_ref02_Strength false) (meets_of (by decide) Try.func26 hc hi Try.ntmps26 rok_ref02_Strength gk_ref02_Strength lk_ref02_Strength mixed) fun x _ => (e_ref02_Strength x.1).trans (s_ref02_Strength x.1)
/-- cipherplan/cipherplanref02.Valid -/
def tc_ref02_Valid : TC := (.sq (.reg [(.mk (some 1) none (.m (.box (.t 0)))), (.mk (some 2) none (.m (.pu (.mv (.c (.v (.bool false)))))))]) (.sq (.reg [(.mk (some 3) none (.m (.ld true 2 (.t 1)))), (.mk (some 4) none (.call 26 [(.t 3)])), (.mk (some 5) none (.m (.pu (.bin false .gtr (.t 4) (.c (.v (.int .i64 0))))))), (.mk (some 2) none (.m (.pu (.mv (.t 5)))))]) .rt))
def rv_ref02_Valid : List (RV × Option Ty) := [((.t 2), some .bool)]
def g_ref02_Valid : G := ⟨TYs, [], 6, EL [(26, sp_ref02_Strength)], keeps, (fun _ _ => none), IL [], RL []⟩
def r_ref02_Valid (p0 : Keep) : Option (V × List VO) :=
  some (.t .bool (igt (strF p0) 0), [])
theorem e_ref02_Valid (p0 : Keep) : runF g_ref02_Valid tc_ref02_Valid rv_ref02_Valid false [.t tyKeep p0] [] = r_ref02_Valid p0 := by kernel_rfl
theorem ok_ref02_Valid : Option.map (trC Try.prog) Try.f15.body = some tc_ref02_Valid.er := by kernel_rfl
theorem rok_ref02_Valid : trVs Try.prog Try.f15.results.toList = some (rv_ref02_Valid.map Prod.fst) := by kernel_rfl
theorem en_ref02_Valid : Entered Try.prog 15 := .inr ⟨by decide, _, Try.func15, by kernel_rfl, by kernel_rfl⟩
theorem gk_ref02_Valid : GOk Try.prog g_ref02_Valid := gok_of _ (by
  intro p hp
  simp only [List.mem_cons, List.not_mem_nil, or_false] at hp
  rcases hp with rfl
  · exact ⟨en_ref02_Strength, ms_ref02_Strength⟩)
theorem lk_ref02_Valid : tc_ref02_Valid.lok g_ref02_Valid := by repeat (first | exact trivial | refine ⟨?_, ?_⟩)
theorem s_ref02_Valid (u : Keep) : r_ref02_Valid u = some (.t .bool (validF u), []) := rfl
def sp_ref02_Valid : Ent := spec (.pr tyKeep .nil) (fun x => true) (fun x => (.t .bool (validF x.1)))
theorem ms_ref02_Valid : Meets Try.prog 15 (strip sp_ref02_Valid) := by
  obtain ⟨c, hc, hi⟩ := Option.map_eq_some_iff.1 ok_ref02_Valid
  exact meets_spec (R := runF g_ref02_Valid tc_ref02_Valid rv_ref02_Valid false) (meets_of (by decide) Try.func15 hc hi Try.ntmps15 rok_ref02_Valid gk_ref02_Valid lk_ref02_Valid mixed) fun x _ => (e_ref02_Valid x.1).trans (s_ref02_Valid x.1)
end Go.Proofs.Ytfehjdaielifiaa.K
