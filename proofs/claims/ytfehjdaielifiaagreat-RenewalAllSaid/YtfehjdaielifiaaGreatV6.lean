/-
 The strength of a use, by the program and by its answer.
-/
import Derived.Test.YtfehjdaielifiaaGreatV5
set_option linter.unusedSimpArgs false
set_option linter.unusedVariables false
namespace Go.Proofs.YtfehjdaielifiaaGreat.K
open Go.RowKit
def amongF (b : Int) (s t : List Int) : Int := match idxN b s with | some k => t.getD k 0 | none => 0
def singleF (a : Int) : Int := if a = 1 then 18 else if a = 2 then 60 else if a = 3 ∨ a = 8 ∨ a = 21 then 128 else if a = 4 then 192 else if a = 18 ∨ a = 22 then 256 else if a = 19 then 64 else if a = 20 then 80 else 0
def modulusF (b : Int) : Int := if b < 512 ∨ 16384 < b then 0 else modF b
def curveF (b : Int) : Int := if hasF [160, 224, 256, 384, 521] b then iquo .i64 b 2 else 0
def strF (u : Keep) : Int :=
 if u.1 = 5 ∨ u.1 = 6 ∨ u.1 = 10 ∨ u.1 = 11 then modulusF u.2.1
 else if u.1 = 7 ∨ u.1 = 12 then curveF u.2.1
 else if u.1 = 9 then amongF u.2.1 [44, 65, 87] [128, 192, 256]
 else if u.1 = 13 then amongF u.2.1 [512, 768, 1024] [128, 192, 256]
 else if u.1 = 14 then amongF u.2.1 [40, 128] [40, 60]
 else if u.1 = 15 then amongF u.2.1 [112, 168] [80, 112]
 else if u.1 = 16 ∨ u.1 = 17 then amongF u.2.1 [128, 256] [128, 256]
 else amongF u.2.1 [0] [singleF u.1]
def validF (u : Keep) : Bool := decide (strF u > 0)
def tc_f76 : TC := (.sq (.reg [(oM 1 (.box (.t 0))), (oP 2 (.mv (cI 0)))]) (.sq (.reg [(oP 7 (.fa 0 (.t 1))), (oL 8 7), (oC 9 95 [(.t 8)]), (oV 6 9), (oP 10 (.ext 0 (.t 6))), (oP 11 (.ext 1 (.t 6))), (oM 3 (.new [(.v (.string (ByteArray.mk #[]))), (.v (.int .i64 0)), (.v (.int .i64 0)), (.v (.slice none 0 0)), (.v (.slice none 0 0))])), (.mk none none (.m (.st 5 (.t 3) (.t 10)))), (oV 4 11)]) (.sq (.sq (.reg [(oV 12 4), (oP 13 (.nt (.t 12)))]) (.cd (.t 13) (.sq (.reg [(oP 2 (.mv (cI 0)))]) .rt) .sk)) (.sq (.sq (.reg [(oP 14 (.fa 2 (.t 3))), (oL 15 14)]) (.bk 0 (.sq (.reg [(oP 17 (.bin false .eql (.t 15) (cI 0))), (oV 16 17)]) (.cd (.t 16) (.sq (.reg [(oP 18 (.fa 1 (.t 1))), (oL 19 18), (oP 20 (.bin false .eql (.t 19) (cI 0)))]) (.cd (.t 20) (.sq (.reg [(oP 21 (.fa 4 (.t 3))), (oL 22 21), (oP 23 (.ix 1 (.t 22) (cI 0))), (oL 24 23), (oV 2 24)]) .rt) .sk)) (.sq (.reg [(oP 26 (.bin false .eql (.t 15) (cI 1))), (oV 25 26)]) (.cd (.t 25) (.sq (.reg [(oP 27 (.fa 1 (.t 1))), (oL 28 27), (oP 29 (.bin false .geq (.t 28) (cI 512))), (oV 30 29), (oQ 31 30 true (.fa 1 (.t 1))), (oG 32 30 true (.m (.ld false 1 (.t 31)))), (oQ 33 30 true (.bin false .leq (.t 32) (cI 16384))), (oP 34 (.pick (.t 30) (.t 33) (cB false)))]) (.cd (.t 34) (.sq (.reg [(oP 35 (.fa 1 (.t 1))), (oL 36 35), (oC 37 96 [(.t 36)]), (oV 2 37)]) .rt) .sk)) (.sq (.reg [(oP 39 (.bin false .eql (.t 15) (cI 2))), (oV 38 39)]) (.cd (.t 38) (.sq (.reg [(oM 40 (.bs 3 1 5 [(.v (.int .i64 0)), (.v (.int .i64 0)), (.v (.int .i64 0)), (.v (.int .i64 0)), (.v (.int .i64 0))] [(0, 1, (cI 160)), (1, 1, (cI 224)), (2, 1, (cI 256)), (3, 1, (cI 384)), (4, 1, (cI 521))])), (oP 41 (.fa 1 (.t 1))), (oL 42 41), (oC 43 97 [(.t 40), (.t 42)])]) (.cd (.t 43) (.sq (.reg [(oP 44 (.fa 1 (.t 1))), (oL 45 44), (oP 46 (.bin false .quo (.t 45) (cI 2))), (oV 2 46)]) .rt) .sk)) (.sq (.reg [(oP 48 (.bin false .eql (.t 15) (cI 3))), (oV 47 48)]) (.cd (.t 47) (.sq (.reg [(oP 49 (.fa 3 (.t 3))), (oL 50 49), (oP 51 (.fa 1 (.t 1))), (oL 52 51), (oC 53 98 [(.t 50), (.t 52)]), (oV 5 53)]) (.sq (.reg [(oV 54 5), (oP 55 (.bin false .geq (.t 54) (cI 0)))]) (.cd (.t 55) (.sq (.reg [(oP 56 (.fa 4 (.t 3))), (oL 57 56), (oV 58 5), (oP 59 (.ix 1 (.t 57) (.t 58))), (oL 60 59), (oV 2 60)]) .rt) .sk))) .sk)))))))))) (.sq (.reg [(oP 2 (.mv (cI 0)))]) .rt)))))
def rv_f76 : List (RV × Option Ty) := [((.t 2), some tI)]
def g_f76 : G := ⟨TYs, [], 61, EL [(95, sp_f95), (96, sp_f96), (97, sp_f97), (98, sp_f98)], keeps, (fun _ _ => none), IL [], RL []⟩
def r_f76 (p0 : Keep) : Option (V × List VO) :=
 br ((!((ofF p0.1).2)))
  (some (.t tI 0, []))
  (br ((ieq (((((ofF p0.1).1).2).2).1) 0))
   (br ((ieq p0.2.1 0))
    (br (cIx (((((((ofF p0.1).1).2).2).2).2).1) 0)
     (some (.t tI (lgt tI (((((((ofF p0.1).1).2).2).2).2).1) (Int.toNat 0)), []))
     (none))
    (some (.t tI 0, [])))
   (br ((ieq (((((ofF p0.1).1).2).2).1) 1))
    (br ((ige p0.2.1 512))
     (br ((ile p0.2.1 16384))
      (some (.t tI (modF p0.2.1), []))
      (some (.t tI 0, [])))
     (some (.t tI 0, [])))
    (br ((ieq (((((ofF p0.1).1).2).2).1) 2))
     (br ((idxOk1 ([160, 224, 256, 384, 521]) p0.2.1))
      (br ((hasF ([160, 224, 256, 384, 521]) p0.2.1))
       (br (cNz 2)
        (some (.t tI (iquo .i64 p0.2.1 2), []))
        (none))
       (some (.t tI 0, [])))
      (none))
     (br ((ieq (((((ofF p0.1).1).2).2).1) 3))
      (br ((idxOk1 ((((((ofF p0.1).1).2).2).2).1) p0.2.1))
       (br ((ige (idxF ((((((ofF p0.1).1).2).2).2).1) p0.2.1) 0))
        (br (cIx (((((((ofF p0.1).1).2).2).2).2).1) (idxF ((((((ofF p0.1).1).2).2).2).1) p0.2.1))
         (some (.t tI (lgt tI (((((((ofF p0.1).1).2).2).2).2).1) (Int.toNat (idxF ((((((ofF p0.1).1).2).2).2).1) p0.2.1))), []))
         (none))
        (some (.t tI 0, [])))
       (none))
      (some (.t tI 0, []))))))
theorem e_f76 (p0 : Keep) : runF g_f76 tc_f76 rv_f76 false [.t tyKeep p0] [] = r_f76 p0 := by kernel_rfl
theorem ok_f76 : Option.map (trC Tryz.prog) Tryz.f76.body = some tc_f76.er := by kernel_rfl
theorem rok_f76 : trVs Tryz.prog Tryz.f76.results.toList = some (rv_f76.map Prod.fst) := by kernel_rfl
theorem en_f76 : Entered Tryz.prog 76 := .inr ⟨by decide, _, Tryz.func76, by kernel_rfl, by kernel_rfl⟩
theorem gk_f76 : GOk Tryz.prog g_f76 := gok_of _ (by
 intro p hp
 simp only [List.mem_cons, List.not_mem_nil, or_false] at hp
 rcases hp with rfl | rfl | rfl | rfl
 ·exact ⟨en_f95, ms_f95⟩
 ·exact ⟨en_f96, ms_f96⟩
 ·exact ⟨en_f97, ms_f97⟩
 ·exact ⟨en_f98, ms_f98⟩)
theorem lk_f76 : tc_f76.lok g_f76 := by repeat (first | exact trivial | refine ⟨?_, ?_⟩)
theorem str_bad (u : Keep) (h1 : (ofF u.1).2 = false) : r_f76 u = some (.t tI 0, []) := by
 simp only [r_f76, h1, Bool.not_false, br_true]
theorem str_once (u : Keep) {v : Int} (h1 : (ofF u.1).2 = true) (h2 : (ofF u.1).1.2.2.1 = 0) (h3 : (ofF u.1).1.2.2.2.2.1 = [v]) : r_f76 u = some (.t tI (amongF u.2.1 [0] [v]), []) := by
 simp only [r_f76, h1, h2, h3, Bool.not_true, br_false, show ieq 0 0 = true from rfl, br_true, show cIx [v] 0 = true from rfl]
 simp only [amongF, idxN, ieq]
 have hc : ((0 : Int) == u.2.1) = (u.2.1 == 0) := Bool.beq_comm
 rw [hc]
 cases u.2.1 == 0 <;> rfl
theorem str_mod (u : Keep) (h1 : (ofF u.1).2 = true) (h2 : (ofF u.1).1.2.2.1 = 1) : r_f76 u = some (.t tI (modulusF u.2.1), []) := by
 simp only [r_f76, h1, h2, Bool.not_true, br_false, show ieq 1 0 = false from rfl, show ieq 1 1 = true from rfl, br_true, modulusF]
 refine br_intro (fun g1 => br_intro (fun g2 => ?_) (fun g2 => ?_)) (fun g1 => ?_)
 ·rw [if_neg]
  simp [ige, ile] at g1 g2
  omega
 ·rw [if_pos]
  simp [ige, ile] at g1 g2
  omega
 ·rw [if_pos]
  simp [ige] at g1
  omega
theorem str_curve (u : Keep) (h1 : (ofF u.1).2 = true) (h2 : (ofF u.1).1.2.2.1 = 2) : r_f76 u = some (.t tI (curveF u.2.1), []) := by
 simp only [r_f76, h1, h2, Bool.not_true, br_false, show ieq 2 0 = false from rfl, show ieq 2 1 = false from rfl, show ieq 2 2 = true from rfl, br_true, curveF, show idxOk1 [160, 224, 256, 384, 521] u.2.1 = true from rfl, show cNz 2 = true from rfl]
 cases hasF [160, 224, 256, 384, 521] u.2.1 <;> rfl
theorem str_list (u : Keep) {s t : List Int} (h1 : (ofF u.1).2 = true) (h2 : (ofF u.1).1.2.2.1 = 3) (h3 : (ofF u.1).1.2.2.2.1 = s) (h4 : (ofF u.1).1.2.2.2.2.1 = t) (h5 : s.length = t.length) (h6 : s.length ≤ 100000) : r_f76 u = some (.t tI (amongF u.2.1 s t), []) := by
 have e1 : idxOk1 s u.2.1 = true := by simp [idxOk1, h6]
 simp only [r_f76, h1, h2, h3, h4, e1, Bool.not_true, br_false, show ieq 3 0 = false from rfl, show ieq 3 1 = false from rfl, show ieq 3 2 = false from rfl, show ieq 3 3 = true from rfl, br_true, idxF, amongF]
 cases hq : idxN u.2.1 s with
 | none => rfl
 | some k =>
  have hk := idxN_lt hq
  have e2 : ige (k : Int) 0 = true := by simp only [ige, decide_eq_true_eq]; omega
  have e3 : k < t.length := by omega
  simp only [e2, br_true, cIx_nat, e3, decide_true]
  rfl
theorem s_f76 (u : Keep) : r_f76 u = some (.t tI (strF u), []) := by
 obtain ⟨a, b, c⟩ := u
 by_cases hb : a < 1 ∨ 22 < a
 ·rw [str_bad _ (by simp [ofF, hb])]
  have e1 : singleF a = 0 := by
   unfold singleF
   repeat rw [if_neg (by omega)]
  have e2 : strF (a, b, c) = 0 := by
   unfold strF
   simp only
   repeat rw [if_neg (by omega)]
   rw [e1]
   simp only [amongF, idxN]
   cases (0 : Int) == b <;> rfl
  rw [e2]
 ·have hc : a = 1 ∨ a = 2 ∨ a = 3 ∨ a = 4 ∨ a = 5 ∨ a = 6 ∨ a = 7 ∨ a = 8 ∨ a = 9 ∨ a = 10 ∨ a = 11 ∨ a = 12 ∨ a = 13 ∨ a = 14 ∨ a = 15 ∨ a = 16 ∨ a = 17 ∨ a = 18 ∨ a = 19 ∨ a = 20 ∨ a = 21 ∨ a = 22 := by omega
  rcases hc with rfl | rfl | rfl | rfl | rfl | rfl | rfl | rfl | rfl | rfl | rfl | rfl | rfl | rfl | rfl | rfl | rfl | rfl | rfl | rfl | rfl | rfl
  all_goals first
   | exact str_once (v := singleF _) (_, b, c) rfl rfl rfl
   | exact str_mod (_, b, c) rfl rfl
   | exact str_curve (_, b, c) rfl rfl
   | exact str_list (_, b, c) rfl rfl rfl rfl rfl (by decide)
def sp_f76 : Ent := spec (.pr tyKeep .nil) (fun x => true) (fun x => (.t tI (strF x.1)))
theorem ms_f76 : Meets Tryz.prog 76 (strip sp_f76) := by
 obtain ⟨c, hc, hi⟩ := Option.map_eq_some_iff.1 ok_f76
 exact meets_spec (R := runF g_f76 tc_f76 rv_f76 false) (meets_of (by decide) Tryz.func76 hc hi Tryz.ntmps76 rok_f76 gk_f76 lk_f76 mixed) fun x _ => (e_f76 x.1).trans (s_f76 x.1)
def tc_f52 : TC := (.sq (.reg [(oM 1 (.box (.t 0))), (oP 2 (.mv (cB false)))]) (.sq (.reg [(oM 3 (.ld true 2 (.t 1))), (oC 4 76 [(.t 3)]), (oP 5 (.bin false .gtr (.t 4) (cI 0))), (oV 2 5)]) .rt))
def rv_f52 : List (RV × Option Ty) := [((.t 2), some .bool)]
def g_f52 : G := ⟨TYs, [], 6, EL [(76, sp_f76)], keeps, (fun _ _ => none), IL [], RL []⟩
def r_f52 (p0 : Keep) : Option (V × List VO) :=
 some (.t .bool (igt (strF p0) 0), [])
theorem e_f52 (p0 : Keep) : runF g_f52 tc_f52 rv_f52 false [.t tyKeep p0] [] = r_f52 p0 := by kernel_rfl
theorem ok_f52 : Option.map (trC Tryz.prog) Tryz.f52.body = some tc_f52.er := by kernel_rfl
theorem rok_f52 : trVs Tryz.prog Tryz.f52.results.toList = some (rv_f52.map Prod.fst) := by kernel_rfl
theorem en_f52 : Entered Tryz.prog 52 := .inr ⟨by decide, _, Tryz.func52, by kernel_rfl, by kernel_rfl⟩
theorem gk_f52 : GOk Tryz.prog g_f52 := gok_of _ (by
 intro p hp
 simp only [List.mem_cons, List.not_mem_nil, or_false] at hp
 rcases hp with rfl
 ·exact ⟨en_f76, ms_f76⟩)
theorem lk_f52 : tc_f52.lok g_f52 := by repeat (first | exact trivial | refine ⟨?_, ?_⟩)
theorem s_f52 (u : Keep) : r_f52 u = some (.t .bool (validF u), []) := rfl
def sp_f52 : Ent := spec (.pr tyKeep .nil) (fun x => true) (fun x => (.t .bool (validF x.1)))
theorem ms_f52 : Meets Tryz.prog 52 (strip sp_f52) := by
 obtain ⟨c, hc, hi⟩ := Option.map_eq_some_iff.1 ok_f52
 exact meets_spec (R := runF g_f52 tc_f52 rv_f52 false) (meets_of (by decide) Tryz.func52 hc hi Tryz.ntmps52 rok_f52 gk_f52 lk_f52 mixed) fun x _ => (e_f52 x.1).trans (s_f52 x.1)
def tc_f99 : TC := (.sq (.reg [(oP 2 (.mv (cI 0)))]) (.sq (.bk 0 (.sq (.reg [(oV 4 0), (oP 5 (.bin false .lss (.t 4) (cI 512))), (oV 6 5), (oQ 7 6 false (.mv (.t 0))), (oQ 8 6 false (.bin false .gtr (.t 7) (cI 16384))), (oP 9 (.pick (.t 6) (cB true) (.t 8))), (oV 3 9)]) (.cd (.t 3) (.sq (.reg [(oP 2 (.mv (cI 0)))]) .rt) (.sq (.reg [(oV 11 0), (oP 12 (.bin false .lss (.t 11) (cI 1024))), (oV 10 12)]) (.cd (.t 10) (.sq (.reg [(oP 2 (.mv (cI 56)))]) .rt) (.sq (.reg [(oV 14 0), (oP 15 (.bin false .lss (.t 14) (cI 2048))), (oV 13 15)]) (.cd (.t 13) (.sq (.reg [(oP 2 (.mv (cI 80)))]) .rt) (.sq (.reg [(oV 17 0), (oP 18 (.bin false .lss (.t 17) (cI 3072))), (oV 16 18)]) (.cd (.t 16) (.sq (.reg [(oP 2 (.mv (cI 112)))]) .rt) (.sq (.reg [(oV 20 0), (oP 21 (.bin false .lss (.t 20) (cI 7680))), (oV 19 21)]) (.cd (.t 19) (.sq (.reg [(oP 2 (.mv (cI 128)))]) .rt) (.sq (.reg [(oV 23 0), (oP 24 (.bin false .lss (.t 23) (cI 15360))), (oV 22 24)]) (.cd (.t 22) (.sq (.reg [(oP 2 (.mv (cI 192)))]) .rt) .sk))))))))))))) (.sq (.reg [(oP 2 (.mv (cI 256)))]) .rt)))
def rv_f99 : List (RV × Option Ty) := [((.t 2), some tI)]
def g_f99 : G := ⟨TYs, [], 25, EL [], keeps, (fun _ _ => none), IL [], RL []⟩
def r_f99 (p0 : Int) : Option (V × List VO) :=
 br ((ilt p0 512))
  (some (.t tI 0, []))
  (br ((igt p0 16384))
   (some (.t tI 0, []))
   (br ((ilt p0 1024))
    (some (.t tI 56, []))
    (br ((ilt p0 2048))
     (some (.t tI 80, []))
     (br ((ilt p0 3072))
      (some (.t tI 112, []))
      (br ((ilt p0 7680))
       (some (.t tI 128, []))
       (br ((ilt p0 15360))
        (some (.t tI 192, []))
        (some (.t tI 256, []))))))))
theorem e_f99 (p0 : Int) : runF g_f99 tc_f99 rv_f99 false [.t tI p0] [] = r_f99 p0 := by kernel_rfl
theorem ok_f99 : Option.map (trC Tryz.prog) Tryz.f99.body = some tc_f99.er := by kernel_rfl
theorem rok_f99 : trVs Tryz.prog Tryz.f99.results.toList = some (rv_f99.map Prod.fst) := by kernel_rfl
theorem en_f99 : Entered Tryz.prog 99 := .inr ⟨by decide, _, Tryz.func99, by kernel_rfl, by kernel_rfl⟩
theorem gk_f99 : GOk Tryz.prog g_f99 := gok_of _ (fun p hp => by cases hp)
theorem lk_f99 : tc_f99.lok g_f99 := by repeat (first | exact trivial | refine ⟨?_, ?_⟩)
theorem s_f99 (b : Int) : r_f99 b = some (.t tI (modulusF b), []) := by
 simp only [r_f99]
 repeat' (refine br_intro ?_ ?_ <;> intro _)
 all_goals simp only [ilt, igt, decide_eq_true_eq, decide_eq_false_iff_not] at *
 all_goals simp only [modulusF, modF, modZ, modL, Int.toNat_zero, List.drop_zero, List.find?_cons, ilt]
 all_goals first
  |(rw [if_pos (by omega)]; done)
  |(rw [if_neg (by omega)]; repeat first | rw [dec_true (by omega)] | rw [dec_false (by omega)]
    rfl)
def sp_f99 : Ent := spec (.pr tI .nil) (fun x => true) (fun x => (.t tI (modulusF x.1)))
theorem ms_f99 : Meets Tryz.prog 99 (strip sp_f99) := by
 obtain ⟨c, hc, hi⟩ := Option.map_eq_some_iff.1 ok_f99
 exact meets_spec (R := runF g_f99 tc_f99 rv_f99 false) (meets_of (by decide) Tryz.func99 hc hi Tryz.ntmps99 rok_f99 gk_f99 lk_f99 mixed) fun x _ => (e_f99 x.1).trans (s_f99 x.1)
theorem alg_cases (a : Int) : ((∀ k : Int, decide (1 ≤ k ∧ k ≤ 22) = true → ieq a k = false) ∧ (a < 1 ∨ 22 < a)) ∨ (a = 1 ∨ a = 2 ∨ a = 3 ∨ a = 4 ∨ a = 5 ∨ a = 6 ∨ a = 7 ∨ a = 8 ∨ a = 9 ∨ a = 10 ∨ a = 11 ∨ a = 12 ∨ a = 13 ∨ a = 14 ∨ a = 15 ∨ a = 16 ∨ a = 17 ∨ a = 18 ∨ a = 19 ∨ a = 20 ∨ a = 21 ∨ a = 22) := by
 by_cases hb : a < 1 ∨ 22 < a
 ·refine .inl ⟨fun k hk => ?_, hb⟩
  simp only [decide_eq_true_eq] at hk
  simp only [ieq_dec, decide_eq_false_iff_not]
  omega
 ·right
  omega
def tc_f101 : TC := (.sq (.reg [(oP 2 (.mv (cI 0)))]) (.sq (.sq (.reg [(oV 3 0)]) (.bk 0 (.sq (.reg [(oP 5 (.bin false .eql (.t 3) (cI 1))), (oV 4 5)]) (.cd (.t 4) (.sq (.reg [(oP 2 (.mv (cI 18)))]) .rt) (.sq (.reg [(oP 7 (.bin false .eql (.t 3) (cI 2))), (oV 6 7)]) (.cd (.t 6) (.sq (.reg [(oP 2 (.mv (cI 60)))]) .rt) (.sq (.sq (.reg [(oP 9 (.bin false .eql (.t 3) (cI 3))), (oV 8 9)]) (.cd (.t 8) .sk (.sq (.reg [(oP 10 (.bin false .eql (.t 3) (cI 8))), (oV 8 10)]) (.cd (.t 8) .sk (.reg [(oP 11 (.bin false .eql (.t 3) (cI 21))), (oV 8 11)]))))) (.cd (.t 8) (.sq (.reg [(oP 2 (.mv (cI 128)))]) .rt) (.sq (.reg [(oP 13 (.bin false .eql (.t 3) (cI 4))), (oV 12 13)]) (.cd (.t 12) (.sq (.reg [(oP 2 (.mv (cI 192)))]) .rt) (.sq (.sq (.reg [(oP 15 (.bin false .eql (.t 3) (cI 18))), (oV 14 15)]) (.cd (.t 14) .sk (.reg [(oP 16 (.bin false .eql (.t 3) (cI 22))), (oV 14 16)]))) (.cd (.t 14) (.sq (.reg [(oP 2 (.mv (cI 256)))]) .rt) (.sq (.reg [(oP 18 (.bin false .eql (.t 3) (cI 19))), (oV 17 18)]) (.cd (.t 17) (.sq (.reg [(oP 2 (.mv (cI 64)))]) .rt) (.sq (.reg [(oP 20 (.bin false .eql (.t 3) (cI 20))), (oV 19 20)]) (.cd (.t 19) (.sq (.reg [(oP 2 (.mv (cI 80)))]) .rt) .sk)))))))))))))))) (.sq (.reg [(oP 2 (.mv (cI 0)))]) .rt)))
def rv_f101 : List (RV × Option Ty) := [((.t 2), some tI)]
def g_f101 : G := ⟨TYs, [], 21, EL [], keeps, (fun _ _ => none), IL [], RL []⟩
def r_f101_2 (p0 : Int) : Option (V × List VO) :=
 br ((ieq p0 19))
  (some (.t tI 64, []))
  (br ((ieq p0 20))
   (some (.t tI 80, []))
   (some (.t tI 0, [])))
def r_f101_1 (p0 : Int) : Option (V × List VO) :=
 br ((ieq p0 4))
  (some (.t tI 192, []))
  (br ((ieq p0 18))
   (br ((ieq p0 18))
    (some (.t tI 256, []))
    (r_f101_2 p0))
   (br ((ieq p0 22))
    (some (.t tI 256, []))
    (r_f101_2 p0)))
def r_f101 (p0 : Int) : Option (V × List VO) :=
 br ((ieq p0 1))
  (some (.t tI 18, []))
  (br ((ieq p0 2))
   (some (.t tI 60, []))
   (br ((ieq p0 3))
    (br ((ieq p0 3))
     (some (.t tI 128, []))
     (r_f101_1 p0))
    (br ((ieq p0 8))
     (br ((ieq p0 8))
      (some (.t tI 128, []))
      (r_f101_1 p0))
     (br ((ieq p0 21))
      (some (.t tI 128, []))
      (r_f101_1 p0)))))
theorem e_f101 (p0 : Int) : runF g_f101 tc_f101 rv_f101 false [.t tI p0] [] = r_f101 p0 := by kernel_rfl
theorem ok_f101 : Option.map (trC Tryz.prog) Tryz.f101.body = some tc_f101.er := by kernel_rfl
theorem rok_f101 : trVs Tryz.prog Tryz.f101.results.toList = some (rv_f101.map Prod.fst) := by kernel_rfl
theorem en_f101 : Entered Tryz.prog 101 := .inr ⟨by decide, _, Tryz.func101, by kernel_rfl, by kernel_rfl⟩
theorem gk_f101 : GOk Tryz.prog g_f101 := gok_of _ (fun p hp => by cases hp)
theorem lk_f101 : tc_f101.lok g_f101 := by repeat (first | exact trivial | refine ⟨?_, ?_⟩)
theorem s_f101 (a : Int) : r_f101 a = some (.t tI (singleF a), []) := by
 rcases alg_cases a with ⟨e, hb⟩ | hc
 ·have e1 : singleF a = 0 := by
   unfold singleF
   repeat rw [if_neg (by omega)]
  rw [e1]
  simp only [r_f101, r_f101_1, r_f101_2, e 1 (by decide), e 2 (by decide), e 3 (by decide), e 4 (by decide), e 8 (by decide), e 18 (by decide), e 19 (by decide), e 20 (by decide), e 21 (by decide), e 22 (by decide), br_false]
 ·rcases hc with rfl | rfl | rfl | rfl | rfl | rfl | rfl | rfl | rfl | rfl | rfl | rfl | rfl | rfl | rfl | rfl | rfl | rfl | rfl | rfl | rfl | rfl <;> rfl
def sp_f101 : Ent := spec (.pr tI .nil) (fun x => true) (fun x => (.t tI (singleF x.1)))
theorem ms_f101 : Meets Tryz.prog 101 (strip sp_f101) := by
 obtain ⟨c, hc, hi⟩ := Option.map_eq_some_iff.1 ok_f101
 exact meets_spec (R := runF g_f101 tc_f101 rv_f101 false) (meets_of (by decide) Tryz.func101 hc hi Tryz.ntmps101 rok_f101 gk_f101 lk_f101 mixed) fun x _ => (e_f101 x.1).trans (s_f101 x.1)
def amongOk (_b : Int) (s t : List Int) : Bool := decide (s.length = t.length ∧ s.length ≤ 100000)
def fg_f100_0 : Fg := ⟨[(0, some tI), (1, some (.sl tI)), (2, some (.sl tI)), (7, some tI)], []⟩
def tb_f100_0 : TC := (.sq (.sq (.reg [(oV 8 7), (oV 9 1), (oP 10 (.len false (.t 9))), (oP 11 (.bin false .lss (.t 8) (.t 10)))]) (.cd (.t 11) .sk (.fg ⟨[], []⟩ (.ex 0)))) (.sq (.bk 1 (.sq (.reg [(oV 14 1), (oV 15 7), (oP 16 (.ix 1 (.t 14) (.t 15))), (oL 17 16), (oV 18 0), (oP 19 (.bin false .eql (.t 17) (.t 18)))]) (.cd (.t 19) (.sq (.reg [(oV 20 2), (oV 21 7), (oP 22 (.ix 1 (.t 20) (.t 21))), (oL 23 22), (oV 6 23)]) (.fg ⟨[(6, some tI)], []⟩ .rt)) .sk))) (.reg [(oV 12 7), (oP 13 (.bin false .add (.t 12) (cI 1))), (oV 7 13)])))
def tc_f100 : TC := (.sq (.reg [(oP 6 (.mv (cI 0)))]) (.sq (.sq (.reg [(oP 7 (.mv (cI 0)))]) (.bk 0 (.lp 0 fg_f100_0 tb_f100_0))) (.sq (.reg [(oP 6 (.mv (cI 0)))]) .rt)))
def rv_f100 : List (RV × Option Ty) := [((.t 6), some tI)]
abbrev sh_f100_0 : Sh := ⟨[(0, .ty tI), (1, .ty (.sl tI)), (2, .ty (.sl tI)), (7, .ty tI)], []⟩
def st_f100_0 (x0 : Int) (x1 : (List Int)) (x2 : (List Int)) (x7 : Int) : VS := sh_f100_0.st (x0, x1, x2, x7, ()) ()
abbrev sh_f100_0_ret : Sh := ⟨[(6, .ty tI)], []⟩
def st_f100_0_ret (x6 : Int) : VS := sh_f100_0_ret.st (x6, ()) ()
abbrev sh_f100_0_e0 : Sh := ⟨[], []⟩
def st_f100_0_e0  : VS := sh_f100_0_e0.st () ()
-- loop 0: (x0 : Int) (x1 : (List Int)) (x2 : (List Int)) (x7 : Int); out: ('ret',) (x6 : Int); ('exit', 0)
def L_f100_0 : VS → Option (Bool × List (Bool × Exit × VS)) := mkL sh_f100_0 (fun x y => (decide (x.2.1.length = x.2.2.1.length ∧ x.2.1.length ≤ 100000 ∧ 0 ≤ x.2.2.2.1 ∧ x.2.2.2.1 ≤ x.2.1.length))) (fun x y => [(((idxN x.1 (x.2.1.drop x.2.2.2.1.toNat)).isSome), .ret, st_f100_0_ret (x.2.2.1.getD (x.2.2.2.1.toNat + (idxN x.1 (x.2.1.drop x.2.2.2.1.toNat)).getD 0) 0)), (true, .exit 0, st_f100_0_e0)])
def g_f100 : G := ⟨TYs, [], 24, EL [], keeps, (Ls [L_f100_0]), IL [], RL []⟩
def b_f100_0 (x0 : Int) (x1 : (List Int)) (x2 : (List Int)) (x7 : Int) : Option (Exit × VS) :=
 br ((ilt x7 (llen x1)))
  (br (cIx x1 x7)
   (br ((ieq (lgt tI x1 (Int.toNat x7)) x0))
    (br (cIx x2 x7)
     (some (.ret, st_f100_0_ret (lgt tI x2 (Int.toNat x7))))
     (none))
    (some (.normal, st_f100_0 x0 x1 x2 (iadd .i64 x7 1))))
   (none))
  (some (.exit 0, st_f100_0_e0))
noncomputable def lp_f100_0 (x0 : Int) (x1 : (List Int)) (x2 : (List Int)) (x7 : Int) : Option (Exit × VS) := loopF (roundF g_f100 fg_f100_0 tb_f100_0) (st_f100_0 x0 x1 x2 x7)
noncomputable def n_f100_0 (x0 : Int) (x1 : (List Int)) (x2 : (List Int)) (x7 : Int) : Option (Exit × VS) :=
 br ((ilt x7 (llen x1)))
  (br (cIx x1 x7)
   (br ((ieq (lgt tI x1 (Int.toNat x7)) x0))
    (br (cIx x2 x7)
     (some (.ret, st_f100_0_ret (lgt tI x2 (Int.toNat x7))))
     (none))
    (lp_f100_0 x0 x1 x2 (iadd .i64 x7 1)))
   (none))
  (some (.exit 0, st_f100_0_e0))
def la_f100_0 (x0 : Int) (x1 : (List Int)) (x2 : (List Int)) (x7 : Int) : Option (Exit × VS) := br ((idxN x0 (x1.drop x7.toNat)).isSome) (some (.ret, st_f100_0_ret (x2.getD (x7.toNat + (idxN x0 (x1.drop x7.toNat)).getD 0) 0))) <| some (.exit 0, st_f100_0_e0)
theorem be_f100_0 (x0 : Int) (x1 : (List Int)) (x2 : (List Int)) (x7 : Int) : roundF g_f100 fg_f100_0 tb_f100_0 (st_f100_0 x0 x1 x2 x7) = b_f100_0 x0 x1 x2 x7 := by kernel_rfl
theorem ln_f100_0 (x0 : Int) (x1 : (List Int)) (x2 : (List Int)) (x7 : Int) : lp_f100_0 x0 x1 x2 x7 = n_f100_0 x0 x1 x2 x7 := (loopF_nxt _ _).trans (by
 rw [be_f100_0]
 simp only [b_f100_0, n_f100_0, nxt_br, nxt_n, nxt_r, nxt_e, nxt_0]
 rfl)
def r_f100 (p0 : Int) (p1 : (List Int)) (p2 : (List Int)) : Option (V × List VO) :=
 br ((decide (p1.length = p2.length ∧ p1.length ≤ 100000 ∧ 0 ≤ (0 : Int) ∧ (0 : Int) ≤ p1.length)))
  (br (((idxN p0 (p1.drop (0 : Int).toNat)).isSome))
   (some (.t tI (p2.getD ((0 : Int).toNat + (idxN p0 (p1.drop (0 : Int).toNat)).getD 0) 0), []))
   (some (.t tI 0, [])))
  (none)
theorem e_f100 (p0 : Int) (p1 : (List Int)) (p2 : (List Int)) : runF g_f100 tc_f100 rv_f100 false [.t tI p0, .t (.sl tI) p1, .t (.sl tI) p2] [] = r_f100 p0 p1 p2 := by kernel_rfl
theorem ok_f100 : Option.map (trC Tryz.prog) Tryz.f100.body = some tc_f100.er := by kernel_rfl
theorem rok_f100 : trVs Tryz.prog Tryz.f100.results.toList = some (rv_f100.map Prod.fst) := by kernel_rfl
theorem en_f100 : Entered Tryz.prog 100 := .inr ⟨by decide, _, Tryz.func100, by kernel_rfl, by kernel_rfl⟩
theorem gk_f100 : GOk Tryz.prog g_f100 := gok_of _ (fun p hp => by cases hp)
theorem l_f100_0 (x0 : Int) (x1 : (List Int)) (x2 : (List Int)) (x7 : Int) (h : (decide (x1.length = x2.length ∧ x1.length ≤ 100000 ∧ 0 ≤ x7 ∧ x7 ≤ x1.length)) = true) : lp_f100_0 x0 x1 x2 x7 = la_f100_0 x0 x1 x2 x7 := by
 simp only [decide_eq_true_eq] at h
 obtain ⟨h1, h2, h3, h4⟩ := h
 obtain ⟨k, rfl⟩ := Int.eq_ofNat_of_zero_le h3
 refine range_ind x1 (fun k => lp_f100_0 x0 x1 x2 (k : Int) = la_f100_0 x0 x1 x2 (k : Int)) ?_ ?_ k (by omega)
 ·rw [ln_f100_0]
  simp [n_f100_0, la_f100_0, ilt_nat, llen, br_false, idxN]
 ·intro k hk ih
  rw [ln_f100_0]
  have hk2 : k < x2.length := by omega
  simp only [n_f100_0, ilt_nat, llen, cIx_nat, hk, hk2, decide_true, br_true, Int.toNat_natCast, add1 (show k < 4611686018427387904 by omega), ih, lgt_get (y := tI) hk, lgt_get (y := tI) hk2]
  simp only [la_f100_0, Int.toNat_natCast, List.drop_eq_getElem_cons hk, idxN, ieq]
  cases h : x1[k] == x0 with
  | true => simp [h, br_true, List.getD_eq_getElem?_getD, List.getElem?_eq_getElem hk2]
  | false =>
   simp only [h, br_false, Bool.false_eq_true, if_false]
   cases hq : idxN x0 (x1.drop (k + 1)) with
   | none => rfl
   | some j =>
    simp only [Option.map_some, Option.isSome_some, Option.getD_some, br_true]
    rw [show k + 1 + j = k + (j + 1) by omega]
theorem lo_f100_0 : ∀ S l p, g_f100.L 0 (fgt fg_f100_0 S) = some (true, l) → pickA l = some p → loopF (roundF g_f100 fg_f100_0 tb_f100_0) S = some p :=
 lok_of (s := sh_f100_0) ⟨by decide, by decide⟩ (by kernel_rfl) fun x y hok p hp => by
 simp only [pickA_br, pickA_one] at hp
 exact (l_f100_0 x.1 x.2.1 x.2.2.1 x.2.2.2.1 (by simpa using hok)).trans hp
theorem lk_f100 : tc_f100.lok g_f100 := by
 repeat (first | exact trivial | exact lo_f100_0 | refine ⟨?_, ?_⟩)
theorem s_f100 (b : Int) (s t : List Int) (h : amongOk b s t = true) : r_f100 b s t = some (.t tI (amongF b s t), []) := by
 simp only [amongOk, decide_eq_true_eq] at h
 simp only [r_f100, amongF]
 rw [dec_true ⟨h.1, h.2, Int.le_refl 0, by omega⟩, br_true]
 simp only [Int.toNat_zero, List.drop_zero, Nat.zero_add]
 cases idxN b s <;> simp [br_true, br_false]
def sp_f100 : Ent := spec (.pr tI (.pr (.sl tI) (.pr (.sl tI) .nil))) (fun x => (amongOk x.1 x.2.1 x.2.2.1)) (fun x => (.t tI (amongF x.1 x.2.1 x.2.2.1)))
theorem ms_f100 : Meets Tryz.prog 100 (strip sp_f100) := by
 obtain ⟨c, hc, hi⟩ := Option.map_eq_some_iff.1 ok_f100
 exact meets_spec (R := runF g_f100 tc_f100 rv_f100 false) (meets_of (by decide) Tryz.func100 hc hi Tryz.ntmps100 rok_f100 gk_f100 lk_f100 mixed) fun x hok => (e_f100 x.1 x.2.1 x.2.2.1).trans (s_f100 x.1 x.2.1 x.2.2.1 hok)
def tc_f77 : TC := (.sq (.reg [(oM 1 (.box (.t 0))), (oP 2 (.mv (cI 0)))]) (.sq (.reg [(oP 4 (.fa 1 (.t 1))), (oL 5 4), (oV 3 5)]) (.sq (.sq (.reg [(oP 6 (.fa 0 (.t 1))), (oL 7 6)]) (.bk 0 (.sq (.sq (.reg [(oP 9 (.bin false .eql (.t 7) (cI 5))), (oV 8 9)]) (.cd (.t 8) .sk (.sq (.reg [(oP 10 (.bin false .eql (.t 7) (cI 6))), (oV 8 10)]) (.cd (.t 8) .sk (.sq (.reg [(oP 11 (.bin false .eql (.t 7) (cI 10))), (oV 8 11)]) (.cd (.t 8) .sk (.reg [(oP 12 (.bin false .eql (.t 7) (cI 11))), (oV 8 12)]))))))) (.cd (.t 8) (.sq (.reg [(oV 13 3), (oC 14 99 [(.t 13)]), (oV 2 14)]) .rt) (.sq (.sq (.reg [(oP 16 (.bin false .eql (.t 7) (cI 7))), (oV 15 16)]) (.cd (.t 15) .sk (.reg [(oP 17 (.bin false .eql (.t 7) (cI 12))), (oV 15 17)]))) (.cd (.t 15) (.sq (.sq (.reg [(oV 18 3), (oP 19 (.bin false .eql (.t 18) (cI 160))), (oV 20 19), (oQ 21 20 false (.mv (.t 3))), (oQ 22 20 false (.bin false .eql (.t 21) (cI 224))), (oP 23 (.pick (.t 20) (cB true) (.t 22))), (oV 24 23), (oQ 25 24 false (.mv (.t 3))), (oQ 26 24 false (.bin false .eql (.t 25) (cI 256))), (oP 27 (.pick (.t 24) (cB true) (.t 26))), (oV 28 27), (oQ 29 28 false (.mv (.t 3))), (oQ 30 28 false (.bin false .eql (.t 29) (cI 384))), (oP 31 (.pick (.t 28) (cB true) (.t 30))), (oV 32 31), (oQ 33 32 false (.mv (.t 3))), (oQ 34 32 false (.bin false .eql (.t 33) (cI 521))), (oP 35 (.pick (.t 32) (cB true) (.t 34)))]) (.cd (.t 35) (.sq (.reg [(oV 36 3), (oP 37 (.bin false .quo (.t 36) (cI 2))), (oV 2 37)]) .rt) .sk)) (.sq (.reg [(oP 2 (.mv (cI 0)))]) .rt)) (.sq (.reg [(oP 39 (.bin false .eql (.t 7) (cI 9))), (oV 38 39)]) (.cd (.t 38) (.sq (.reg [(oV 40 3), (oM 41 (.bs 3 1 3 [(.v (.int .i64 0)), (.v (.int .i64 0)), (.v (.int .i64 0))] [(0, 1, (cI 44)), (1, 1, (cI 65)), (2, 1, (cI 87))])), (oM 42 (.bs 3 1 3 [(.v (.int .i64 0)), (.v (.int .i64 0)), (.v (.int .i64 0))] [(0, 1, (cI 128)), (1, 1, (cI 192)), (2, 1, (cI 256))])), (oC 43 100 [(.t 40), (.t 41), (.t 42)]), (oV 2 43)]) .rt) (.sq (.reg [(oP 45 (.bin false .eql (.t 7) (cI 13))), (oV 44 45)]) (.cd (.t 44) (.sq (.reg [(oV 46 3), (oM 47 (.bs 3 1 3 [(.v (.int .i64 0)), (.v (.int .i64 0)), (.v (.int .i64 0))] [(0, 1, (cI 512)), (1, 1, (cI 768)), (2, 1, (cI 1024))])), (oM 48 (.bs 3 1 3 [(.v (.int .i64 0)), (.v (.int .i64 0)), (.v (.int .i64 0))] [(0, 1, (cI 128)), (1, 1, (cI 192)), (2, 1, (cI 256))])), (oC 49 100 [(.t 46), (.t 47), (.t 48)]), (oV 2 49)]) .rt) (.sq (.reg [(oP 51 (.bin false .eql (.t 7) (cI 14))), (oV 50 51)]) (.cd (.t 50) (.sq (.reg [(oV 52 3), (oM 53 (.bs 3 1 2 [(.v (.int .i64 0)), (.v (.int .i64 0))] [(0, 1, (cI 40)), (1, 1, (cI 128))])), (oM 54 (.bs 3 1 2 [(.v (.int .i64 0)), (.v (.int .i64 0))] [(0, 1, (cI 40)), (1, 1, (cI 60))])), (oC 55 100 [(.t 52), (.t 53), (.t 54)]), (oV 2 55)]) .rt) (.sq (.reg [(oP 57 (.bin false .eql (.t 7) (cI 15))), (oV 56 57)]) (.cd (.t 56) (.sq (.reg [(oV 58 3), (oM 59 (.bs 3 1 2 [(.v (.int .i64 0)), (.v (.int .i64 0))] [(0, 1, (cI 112)), (1, 1, (cI 168))])), (oM 60 (.bs 3 1 2 [(.v (.int .i64 0)), (.v (.int .i64 0))] [(0, 1, (cI 80)), (1, 1, (cI 112))])), (oC 61 100 [(.t 58), (.t 59), (.t 60)]), (oV 2 61)]) .rt) (.sq (.sq (.reg [(oP 63 (.bin false .eql (.t 7) (cI 16))), (oV 62 63)]) (.cd (.t 62) .sk (.reg [(oP 64 (.bin false .eql (.t 7) (cI 17))), (oV 62 64)]))) (.cd (.t 62) (.sq (.reg [(oV 65 3), (oM 66 (.bs 3 1 2 [(.v (.int .i64 0)), (.v (.int .i64 0))] [(0, 1, (cI 128)), (1, 1, (cI 256))])), (oM 67 (.bs 3 1 2 [(.v (.int .i64 0)), (.v (.int .i64 0))] [(0, 1, (cI 128)), (1, 1, (cI 256))])), (oC 68 100 [(.t 65), (.t 66), (.t 67)]), (oV 2 68)]) .rt) .sk)))))))))))))))) (.sq (.reg [(oV 69 3), (oM 70 (.bs 3 1 1 [(.v (.int .i64 0))] [(0, 1, (cI 0))])), (oP 71 (.fa 0 (.t 1))), (oL 72 71), (oC 73 101 [(.t 72)]), (oM 74 (.bs 3 1 1 [(.v (.int .i64 0))] [(0, 1, (.t 73))])), (oC 75 100 [(.t 69), (.t 70), (.t 74)]), (oV 2 75)]) .rt))))
def rv_f77 : List (RV × Option Ty) := [((.t 2), some tI)]
def g_f77 : G := ⟨TYs, [], 76, EL [(99, sp_f99), (100, sp_f100), (101, sp_f101)], keeps, (fun _ _ => none), IL [], RL []⟩
def r_f77_3 (p0 : Keep) : Option (V × List VO) :=
 br (cNz 2)
  (some (.t tI (iquo .i64 p0.2.1 2), []))
  (none)
def r_f77_2 (p0 : Keep) : Option (V × List VO) :=
 br ((ieq p0.2.1 160))
  (r_f77_3 p0)
  (br ((ieq p0.2.1 224))
   (r_f77_3 p0)
   (br ((ieq p0.2.1 256))
    (r_f77_3 p0)
    (br ((ieq p0.2.1 384))
     (r_f77_3 p0)
     (br ((ieq p0.2.1 521))
      (r_f77_3 p0)
      (some (.t tI 0, []))))))
def r_f77_5 (p0 : Keep) : Option (V × List VO) :=
 br ((amongOk p0.2.1 ([128, 256]) ([128, 256])))
  (some (.t tI (amongF p0.2.1 ([128, 256]) ([128, 256])), []))
  (none)
def r_f77_6 (p0 : Keep) : Option (V × List VO) :=
 br ((amongOk p0.2.1 ([0]) ([(singleF p0.1)])))
  (some (.t tI (amongF p0.2.1 ([0]) ([(singleF p0.1)])), []))
  (none)
def r_f77_4 (p0 : Keep) : Option (V × List VO) :=
 br ((ieq p0.1 9))
  (br ((amongOk p0.2.1 ([44, 65, 87]) ([128, 192, 256])))
   (some (.t tI (amongF p0.2.1 ([44, 65, 87]) ([128, 192, 256])), []))
   (none))
  (br ((ieq p0.1 13))
   (br ((amongOk p0.2.1 ([512, 768, 1024]) ([128, 192, 256])))
    (some (.t tI (amongF p0.2.1 ([512, 768, 1024]) ([128, 192, 256])), []))
    (none))
   (br ((ieq p0.1 14))
    (br ((amongOk p0.2.1 ([40, 128]) ([40, 60])))
     (some (.t tI (amongF p0.2.1 ([40, 128]) ([40, 60])), []))
     (none))
    (br ((ieq p0.1 15))
     (br ((amongOk p0.2.1 ([112, 168]) ([80, 112])))
      (some (.t tI (amongF p0.2.1 ([112, 168]) ([80, 112])), []))
      (none))
     (br ((ieq p0.1 16))
      (br ((ieq p0.1 16))
       (r_f77_5 p0)
       (r_f77_6 p0))
      (br ((ieq p0.1 17))
       (r_f77_5 p0)
       (r_f77_6 p0))))))
def r_f77_1 (p0 : Keep) : Option (V × List VO) :=
 br ((ieq p0.1 7))
  (br ((ieq p0.1 7))
   (r_f77_2 p0)
   (r_f77_4 p0))
  (br ((ieq p0.1 12))
   (r_f77_2 p0)
   (r_f77_4 p0))
def r_f77 (p0 : Keep) : Option (V × List VO) :=
 br ((ieq p0.1 5))
  (br ((ieq p0.1 5))
   (some (.t tI (modulusF p0.2.1), []))
   (r_f77_1 p0))
  (br ((ieq p0.1 6))
   (br ((ieq p0.1 6))
    (some (.t tI (modulusF p0.2.1), []))
    (r_f77_1 p0))
   (br ((ieq p0.1 10))
    (br ((ieq p0.1 10))
     (some (.t tI (modulusF p0.2.1), []))
     (r_f77_1 p0))
    (br ((ieq p0.1 11))
     (some (.t tI (modulusF p0.2.1), []))
     (r_f77_1 p0))))
theorem e_f77 (p0 : Keep) : runF g_f77 tc_f77 rv_f77 false [.t tyKeep p0] [] = r_f77 p0 := by kernel_rfl
theorem ok_f77 : Option.map (trC Tryz.prog) Tryz.f77.body = some tc_f77.er := by kernel_rfl
theorem rok_f77 : trVs Tryz.prog Tryz.f77.results.toList = some (rv_f77.map Prod.fst) := by kernel_rfl
theorem en_f77 : Entered Tryz.prog 77 := .inr ⟨by decide, _, Tryz.func77, by kernel_rfl, by kernel_rfl⟩
theorem gk_f77 : GOk Tryz.prog g_f77 := gok_of _ (by
 intro p hp
 simp only [List.mem_cons, List.not_mem_nil, or_false] at hp
 rcases hp with rfl | rfl | rfl
 ·exact ⟨en_f99, ms_f99⟩
 ·exact ⟨en_f100, ms_f100⟩
 ·exact ⟨en_f101, ms_f101⟩)
theorem lk_f77 : tc_f77.lok g_f77 := by repeat (first | exact trivial | refine ⟨?_, ?_⟩)
theorem s_f77 (u : Keep) : r_f77 u = some (.t tI (strF u), []) := by
 obtain ⟨a, b, c⟩ := u
 have hcv : r_f77_2 (a, b, c) = some (.t tI (curveF b), []) := by
  have hh : hasF [160, 224, 256, 384, 521] b = (ieq b 160 || (ieq b 224 || (ieq b 256 || (ieq b 384 || ieq b 521)))) := by
   rw [Bool.eq_iff_iff]
   simp [hasF, ieq]
  simp only [r_f77_2, r_f77_3, show cNz 2 = true from rfl, br_true, curveF, hh]
  cases ieq b 160 <;> cases ieq b 224 <;> cases ieq b 256 <;> cases ieq b 384 <;> cases ieq b 521 <;> rfl
 rcases alg_cases a with ⟨e, hb⟩ | hc
 ·have e2 : strF (a, b, c) = amongF b [0] [singleF a] := by
   unfold strF
   simp only
   repeat rw [if_neg (by omega)]
  rw [e2]
  simp only [r_f77, r_f77_1, r_f77_2, r_f77_3, r_f77_4, r_f77_5, r_f77_6, e 5 (by decide), e 6 (by decide), e 7 (by decide), e 9 (by decide), e 10 (by decide), e 11 (by decide), e 12 (by decide), e 13 (by decide), e 14 (by decide), e 15 (by decide), e 16 (by decide), e 17 (by decide), br_false]
  rfl
 ·rcases hc with rfl | rfl | rfl | rfl | rfl | rfl | rfl | rfl | rfl | rfl | rfl | rfl | rfl | rfl | rfl | rfl | rfl | rfl | rfl | rfl | rfl | rfl
  all_goals first
   | rfl
   | exact hcv
def sp_f77 : Ent := spec (.pr tyKeep .nil) (fun x => true) (fun x => (.t tI (strF x.1)))
theorem ms_f77 : Meets Tryz.prog 77 (strip sp_f77) := by
 obtain ⟨c, hc, hi⟩ := Option.map_eq_some_iff.1 ok_f77
 exact meets_spec (R := runF g_f77 tc_f77 rv_f77 false) (meets_of (by decide) Tryz.func77 hc hi Tryz.ntmps77 rok_f77 gk_f77 lk_f77 mixed) fun x _ => (e_f77 x.1).trans (s_f77 x.1)
def tc_f54 : TC := (.sq (.reg [(oM 1 (.box (.t 0))), (oP 2 (.mv (cB false)))]) (.sq (.reg [(oM 3 (.ld true 2 (.t 1))), (oC 4 77 [(.t 3)]), (oP 5 (.bin false .gtr (.t 4) (cI 0))), (oV 2 5)]) .rt))
def rv_f54 : List (RV × Option Ty) := [((.t 2), some .bool)]
def g_f54 : G := ⟨TYs, [], 6, EL [(77, sp_f77)], keeps, (fun _ _ => none), IL [], RL []⟩
def r_f54 (p0 : Keep) : Option (V × List VO) :=
 some (.t .bool (igt (strF p0) 0), [])
theorem e_f54 (p0 : Keep) : runF g_f54 tc_f54 rv_f54 false [.t tyKeep p0] [] = r_f54 p0 := by kernel_rfl
theorem ok_f54 : Option.map (trC Tryz.prog) Tryz.f54.body = some tc_f54.er := by kernel_rfl
theorem rok_f54 : trVs Tryz.prog Tryz.f54.results.toList = some (rv_f54.map Prod.fst) := by kernel_rfl
theorem en_f54 : Entered Tryz.prog 54 := .inr ⟨by decide, _, Tryz.func54, by kernel_rfl, by kernel_rfl⟩
theorem gk_f54 : GOk Tryz.prog g_f54 := gok_of _ (by
 intro p hp
 simp only [List.mem_cons, List.not_mem_nil, or_false] at hp
 rcases hp with rfl
 ·exact ⟨en_f77, ms_f77⟩)
theorem lk_f54 : tc_f54.lok g_f54 := by repeat (first | exact trivial | refine ⟨?_, ?_⟩)
theorem s_f54 (u : Keep) : r_f54 u = some (.t .bool (validF u), []) := rfl
def sp_f54 : Ent := spec (.pr tyKeep .nil) (fun x => true) (fun x => (.t .bool (validF x.1)))
theorem ms_f54 : Meets Tryz.prog 54 (strip sp_f54) := by
 obtain ⟨c, hc, hi⟩ := Option.map_eq_some_iff.1 ok_f54
 exact meets_spec (R := runF g_f54 tc_f54 rv_f54 false) (meets_of (by decide) Tryz.func54 hc hi Tryz.ntmps54 rok_f54 gk_f54 lk_f54 mixed) fun x _ => (e_f54 x.1).trans (s_f54 x.1)
end Go.Proofs.YtfehjdaielifiaaGreat.K
