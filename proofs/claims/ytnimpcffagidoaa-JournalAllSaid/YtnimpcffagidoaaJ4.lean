/-
 The answer's journal, in types.
-/
import Derived.Test.YtnimpcffagidoaaL6
import Derived.Test.YtnimpcffagidoaaJ2
import Derived.Test.YtnimpcffagidoaaRefEncode2
import Derived.Test.YtnimpcffagidoaaDecodeR
import Derived.KernelRfl
set_option linter.unusedSimpArgs false
set_option linter.unusedVariables false
namespace Go.Proofs.Ytnimpcffagidoaa.K
open Go.RowKit
noncomputable section
def sumV (s : ByteArray) : Int := ((Go.Proofs.Ytnimpcffagidoaa.fnv s.data.toList : Nat) : Int)
def sp_f13 : Ent := spec (.pr .str .nil) (fun x => (sz6 x.1)) (fun x => (.t tI (sumV x.1)))
theorem en_f13 : Entered Try.prog 13 := .inr ⟨by decide, _, Try.func13, by kernel_rfl, by kernel_rfl⟩
theorem ms_f13 : Meets Try.prog 13 (strip sp_f13) := meets_calls fun x hok X w σ vs hfin hc => by
 simp only [sz6, decide_eq_true_eq] at hok
 simp only [Ty.canon] at hc
 obtain ⟨us, rfl, k1⟩ := arg_str hc
 simp only [V.ds, Cs] at k1
 subst k1
 refine (sum_any x.1 w (by simp only [maxLen]; omega)).mono ?_
 rintro r w' ⟨rfl, rfl⟩
 exact ⟨_, rfl, c_int _, Below.refl _ _⟩
def sp_f56 : Ent := spec (.pr .str .nil) (fun x => (sz6 x.1)) (fun x => (.t tI (sumV x.1)))
theorem en_f56 : Entered Try.prog 56 := .inr ⟨by decide, _, Try.func56, by kernel_rfl, by kernel_rfl⟩
theorem ms_f56 : Meets Try.prog 56 (strip sp_f56) := meets_calls fun x hok X w σ vs hfin hc => by
 simp only [sz6, decide_eq_true_eq] at hok
 simp only [Ty.canon] at hc
 obtain ⟨us, rfl, k1⟩ := arg_str hc
 simp only [V.ds, Cs] at k1
 subst k1
 refine (rsum_any x.1 w (by simp only [maxLen]; omega)).mono ?_
 rintro r w' ⟨rfl, rfl⟩
 exact ⟨_, rfl, c_int _, Below.refl _ _⟩
def sp_f46 : Ent := spec (.pr tyDecision .nil) (fun x => true) (fun x => (.tu [(.t .str ((encV x.1).1)), (.t tI ((encV x.1).2))]))
theorem en_f46 : Entered Try.prog 46 := .inr ⟨by decide, _, Try.func46, by kernel_rfl, by kernel_rfl⟩
theorem ms_f46 : Meets Try.prog 46 (strip sp_f46) := meets_calls fun x _ X w σ vs hfin hc => by
 simp only [Ty.canon] at hc
 obtain ⟨us, rfl, k1⟩ := arg_dec hc
 simp only [V.ds, Cs] at k1
 subst k1
 cases hv : validB (dec x.1) with
 | true =>
  refine (rencode_yes _ _ _ _ _ w hv).mono ?_
  rintro r w' ⟨rfl, hb⟩
  refine ⟨_, rfl, ?_, hb⟩
  simp only [encV, hv, if_true, V.d, V.ds, C]
  refine ⟨[_, _], rfl, ?_⟩
  simp only [Cs]
  exact ⟨_, _, rfl, ⟨rfl, rfl⟩, _, _, rfl, c_int _, rfl⟩
 | false =>
  refine (rencode_no (dec x.1) w hv).mono ?_
  rintro r w' ⟨rfl, hb⟩
  refine ⟨_, rfl, ?_, hb⟩
  simp only [encV, hv, V.d, V.ds, C]
  refine ⟨[_, _], rfl, ?_⟩
  simp only [Cs]
  exact ⟨_, _, rfl, ⟨rfl, rfl⟩, _, _, rfl, c_int _, rfl⟩
def recV (m : List UInt8) (n : Int) : Decision × Int × Int := if vl (m.drop 8) ≠ Go.Proofs.Ytnimpcffagidoaa.fnv (m.take 8) then (und zeroDec, 0, 58) else if validB (decOf m) = false then (und zeroDec, 0, 57) else (und (decOf m), n + 12, 0)
def dcdV (s : ByteArray) (n : Int) : Decision × Int × Int :=
 if n < 0 ∨ (s.size : Int) < n then (und zeroDec, 0, 2) else if s.size - n.toNat < 12 then (und zeroDec, 0, 1) else recV (rec12 s n.toNat) n
def dcdOk (s : ByteArray) (_n : Int) : Bool := sz6 s
def sp_f21 : Ent := spec (.pr .str (.pr tI .nil)) (fun x => (dcdOk x.1 x.2.1)) (fun x => (.tu [(.t tyDecision ((dcdV x.1 x.2.1).1)), (.t tI (((dcdV x.1 x.2.1).2).1)), (.t tI (((dcdV x.1 x.2.1).2).2))]))
theorem en_f21 : Entered Try.prog 21 := .inr ⟨by decide, _, Try.func21, by kernel_rfl, by kernel_rfl⟩
theorem ms_f21 : Meets Try.prog 21 (strip sp_f21) := meets_calls fun x hok X w σ vs hfin hc => by
 obtain ⟨s, n, u0⟩ := x
 have hok : s.size ≤ 1000000 := of_decide_eq_true hok
 simp only [Ty.canon] at hc
 obtain ⟨us, rfl, k1⟩ := arg_str hc
 obtain ⟨us, rfl, k2⟩ := arg_int k1
 simp only [V.ds, Cs] at k2
 subst k2
 have fin : ∀ {r : Ending} {w' : World} {d : Dec} {a b : Int}, dcdV s n = (und d, a, b) → r = .returned (.tuple #[d.val, .int .i64 a, .int .i64 b]) → Below w.heap.size w w' → ∃ u, r = .returned u ∧ C X w' σ (V.tu [.t tyDecision (dcdV s n).1, .t tI (dcdV s n).2.1, .t tI (dcdV s n).2.2]).d u ∧ Below w.heap.size w w' := by
  intro r w' d a b h1 h2 h3
  rw [h1]
  refine ⟨_, h2, ?_, h3⟩
  simp only [V.d, V.ds, C]
  refine ⟨[_, _, _], rfl, ?_⟩
  simp only [Cs]
  exact ⟨_, _, rfl, c_dec _, _, _, rfl, c_int _, _, _, rfl, c_int _, rfl⟩
 by_cases h0 : n < 0
 ·refine (decode_neg s n w h0).mono ?_
  rintro r w' ⟨h1, hb⟩
  exact fin (d := zeroDec) (by unfold dcdV; rw [if_pos (.inl h0)]) h1 hb
 ·obtain ⟨k, rfl⟩ := Int.eq_ofNat_of_zero_le (Int.not_lt.1 h0)
  by_cases h1 : s.size < k
  ·refine (decode_far s k w h1).mono ?_
   rintro r w' ⟨h1', hb⟩
   exact fin (d := zeroDec) (by unfold dcdV; rw [if_pos (.inr (by omega))]) h1' hb
  ·by_cases h2 : s.size - k < 12
   ·refine (decode_short s k w (by omega) (by omega) h2).mono ?_
    rintro r w' ⟨h1', hb⟩
    exact fin (d := zeroDec) (by unfold dcdV; rw [if_neg (by omega), Int.toNat_natCast, if_pos h2]) h1' hb
   ·refine (decode_full s k w (by omega) (by omega) (by omega)).mono ?_
    rintro r w' ⟨h1', hb⟩
    have e : dcdV s (k : Int) = recV (rec12 s k) k := by unfold dcdV; rw [if_neg (by omega), Int.toNat_natCast, if_neg h2]
    unfold decRes at h1'
    unfold recV at e
    by_cases q1 : vl ((rec12 s k).drop 8) ≠ Go.Proofs.Ytnimpcffagidoaa.fnv ((rec12 s k).take 8)
    ·rw [if_pos q1] at h1' e
     exact fin (d := zeroDec) e h1' hb
    ·rw [if_neg q1] at h1' e
     by_cases q2 : validB (decOf (rec12 s k)) = false
     ·rw [if_pos q2] at h1' e
      exact fin (d := zeroDec) e h1' hb
     ·rw [if_neg q2] at h1' e
      exact fin e h1' hb
def tc_f48 : TC := (.sq (.reg [(oM 3 (.box (.t 1))), (oP 4 (.mv (.c (.v (.string (ByteArray.mk #[])))))), (oP 5 (.mv (cI 0)))]) (.sq (.reg [(oM 9 (.ld true 5 (.t 3))), (oC 10 46 [(.t 9)]), (oV 8 10), (oP 11 (.ext 0 (.t 8))), (oP 12 (.ext 1 (.t 8))), (oV 6 11), (oV 7 12)]) (.sq (.sq (.reg [(oV 13 7), (oP 14 (.bin false .neq (.t 13) (cI 0)))]) (.cd (.t 14) (.sq (.reg [(oV 15 0), (oV 16 7), (oV 4 15), (oV 5 16)]) .rt) .sk)) (.sq (.sq (.reg [(oV 17 0), (oP 18 (.len true (.t 17))), (oV 19 6), (oP 20 (.len true (.t 19))), (oP 21 (.bin false .add (.t 18) (.t 20))), (oP 22 (.bin false .gtr (.t 21) (cI 65536)))]) (.cd (.t 22) (.sq (.reg [(oV 23 0), (oV 4 23), (oP 5 (.mv (cI 3)))]) .rt) .sk)) (.sq (.reg [(oV 24 0), (oV 25 6), (oP 26 (.bin false .add (.t 24) (.t 25))), (oV 4 26), (oP 5 (.mv (cI 0)))]) .rt)))))
def rv_f48 : List (RV × Option Ty) := [((.t 4), some .str), ((.t 5), some tI)]
def g_f48 : G := ⟨TYs, [], 27, EL [(46, sp_f46)], keeps, (fun _ _ => none), IL [], RL []⟩
def r_f48 (p0 : ByteArray) (p1 : Decision) : Option (V × List VO) :=
 br ((ine ((encV p1).2) 0))
  (some (.tu [(.t .str p0), (.t tI ((encV p1).2))], []))
  (br ((igt (iadd .i64 (slen p0) (slen ((encV p1).1))) 65536))
   (some (.tu [(.t .str p0), (.t tI 3)], []))
   (br (cCat p0 ((encV p1).1))
    (some (.tu [(.t .str (scat p0 ((encV p1).1))), (.t tI 0)], []))
    (none)))
theorem e_f48 (p0 : ByteArray) (p1 : Decision) : runF g_f48 tc_f48 rv_f48 false [.t .str p0, .t tyDecision p1] [] = r_f48 p0 p1 := by kernel_rfl
theorem ok_f48 : Option.map (trC Try.prog) Try.f48.body = some tc_f48.er := by kernel_rfl
theorem rok_f48 : trVs Try.prog Try.f48.results.toList = some (rv_f48.map Prod.fst) := by kernel_rfl
theorem en_f48 : Entered Try.prog 48 := .inr ⟨by decide, _, Try.func48, by kernel_rfl, by kernel_rfl⟩
theorem gk_f48 : GOk Try.prog g_f48 := gok_of _ (by
 intro p hp
 simp only [List.mem_cons, List.not_mem_nil, or_false] at hp
 rcases hp with rfl
 ·exact ⟨en_f46, ms_f46⟩)
theorem lk_f48 : tc_f48.lok g_f48 := by repeat (first | exact trivial | refine ⟨?_, ?_⟩)
theorem s_f48 (s : ByteArray) (d : Decision) (h : appOk s d = true) : r_f48 s d = some (.tu [.t .str (appV s d).1, .t tI (appV s d).2], []) := by
 simp only [appOk, sz6, decide_eq_true_eq] at h
 have he := enc_size d
 have e1 : iadd .i64 (slen s) (slen (encV d).1) = ((s.size + (encV d).1.size : Nat) : Int) := by
  rw [iadd_in (by simp only [slen]; omega)]
  simp only [slen]
  omega
 have e2 : cCat s (encV d).1 = true := by simp only [cCat, decide_eq_true_eq]; omega
 simp only [r_f48, e1, e2, br_true, appV]
 by_cases q1 : (encV d).2 = 0
 ·have e3 : ine (encV d).2 0 = false := by simp [ine, q1]
  rw [e3, br_false]
  by_cases q2 : 65536 < s.size + (encV d).1.size
  ·have e4 : igt ((s.size + (encV d).1.size : Nat) : Int) 65536 = true := by simp only [igt, decide_eq_true_eq]; omega
   rw [e4, br_true]
   simp [q1, q2]
  ·have e4 : igt ((s.size + (encV d).1.size : Nat) : Int) 65536 = false := by simp only [igt, decide_eq_false_iff_not]; omega
   rw [e4, br_false]
   simp [q1, q2]
 ·have e3 : ine (encV d).2 0 = true := by simp [ine, q1]
  rw [e3, br_true]
  simp [q1]
def sp_f48 : Ent := spec (.pr .str (.pr tyDecision .nil)) (fun x => (appOk x.1 x.2.1)) (fun x => (.tu [(.t .str ((appV x.1 x.2.1).1)), (.t tI ((appV x.1 x.2.1).2))]))
theorem ms_f48 : Meets Try.prog 48 (strip sp_f48) := by
 obtain ⟨c, hc, hi⟩ := Option.map_eq_some_iff.1 ok_f48
 exact meets_spec (R := runF g_f48 tc_f48 rv_f48 false) (meets_of (by decide) Try.func48 hc hi Try.ntmps48 rok_f48 gk_f48 lk_f48 mixed) fun x hok => (e_f48 x.1 x.2.1).trans (s_f48 x.1 x.2.1 hok)
def tc_f50 : TC := (.sq (.reg [(oP 6 (.mv (.c (.v (.string (ByteArray.mk #[]))))))]) (.sq (.reg [(oV 7 0), (oV 8 1), (oV 9 0), (oP 10 (.len true (.t 9))), (oP 11 (.mn (.t 8) (.t 10))), (oP 12 (.mx (cI 0) (.t 11))), (oP 13 (.sls (.t 7) none (some (.t 12)))), (oV 14 2), (oP 15 (.bin false .add (.t 13) (.t 14))), (oV 6 15)]) .rt))
def rv_f50 : List (RV × Option Ty) := [((.t 6), some .str)]
def g_f50 : G := ⟨TYs, [], 16, EL [], keeps, (fun _ _ => none), IL [], RL []⟩
def r_f50 (p0 : ByteArray) (p1 : Int) (p2 : ByteArray) : Option (V × List VO) :=
 br (cSs p0 0 (imx 0 (imn p1 (slen p0))))
  (br (cCat (ssl p0 0 (imx 0 (imn p1 (slen p0)))) p2)
   (some (.t .str (scat (ssl p0 0 (imx 0 (imn p1 (slen p0)))) p2), []))
   (none))
  (none)
theorem e_f50 (p0 : ByteArray) (p1 : Int) (p2 : ByteArray) : runF g_f50 tc_f50 rv_f50 false [.t .str p0, .t tI p1, .t .str p2] [] = r_f50 p0 p1 p2 := by kernel_rfl
theorem ok_f50 : Option.map (trC Try.prog) Try.f50.body = some tc_f50.er := by kernel_rfl
theorem rok_f50 : trVs Try.prog Try.f50.results.toList = some (rv_f50.map Prod.fst) := by kernel_rfl
theorem en_f50 : Entered Try.prog 50 := .inr ⟨by decide, _, Try.func50, by kernel_rfl, by kernel_rfl⟩
theorem gk_f50 : GOk Try.prog g_f50 := gok_of _ (fun p hp => by cases hp)
theorem lk_f50 : tc_f50.lok g_f50 := by repeat (first | exact trivial | refine ⟨?_, ?_⟩)
theorem s_f50 (s : ByteArray) (n : Int) (t : ByteArray) (h : crashOk s n t = true) : r_f50 s n t = some (.t .str (crashV s n t), []) := by
 simp only [crashOk, sz6, Bool.and_eq_true, decide_eq_true_eq] at h
 have e1 : imx 0 (imn n (slen s)) = max (min n s.size) 0 := by
  unfold imx imn slen
  split <;> split <;> omega
 have hb : 0 ≤ max (min n s.size) 0 ∧ max (min n s.size) 0 ≤ s.size := by omega
 unfold r_f50
 rw [e1]
 generalize hj : max (min n (s.size : Int)) 0 = j at hb
 have e2 : cSs s 0 j = true := by simp only [cSs, decide_eq_true_eq]; omega
 have e3 : cCat (ssl s 0 j) t = true := by
  have : (ssl s 0 j).size ≤ s.size := by
   simp only [ssl, ByteArray.size_extract]
   omega
  simp only [cCat, decide_eq_true_eq]
  omega
 rw [e2, e3, br_true, br_true]
 simp only [crashV, hj]
 rfl
def sp_f50 : Ent := spec (.pr .str (.pr tI (.pr .str .nil))) (fun x => (crashOk x.1 x.2.1 x.2.2.1)) (fun x => (.t .str (crashV x.1 x.2.1 x.2.2.1)))
theorem ms_f50 : Meets Try.prog 50 (strip sp_f50) := by
 obtain ⟨c, hc, hi⟩ := Option.map_eq_some_iff.1 ok_f50
 exact meets_spec (R := runF g_f50 tc_f50 rv_f50 false) (meets_of (by decide) Try.func50 hc hi Try.ntmps50 rok_f50 gk_f50 lk_f50 mixed) fun x hok => (e_f50 x.1 x.2.1 x.2.2.1).trans (s_f50 x.1 x.2.1 x.2.2.1 hok)
end
end Go.Proofs.Ytnimpcffagidoaa.K
