/-
  Plain laws: what is written reads back as it was, and what is read is written as it was.
-/
import Derived.Test.YtdbaaejiolibfaaG7
set_option linter.unusedSimpArgs false
set_option linter.unusedVariables false
namespace Go.Proofs.Ytdbaaejiolibfaa.K
open Go.RowKit Go.Shelf
noncomputable section
/-! numbers as bytes -/
theorem byG_nat (n k : Nat) (hk : k ≤ 7) : byG (n : Int) k = ((n / 256 ^ k % 256 : Nat) : Int) := by
  show IntKind.u8.wrap (Int.fdiv (n : Int) (2 ^ (min ((8 * k : Nat) : Int).toNat 64))) = _
  rw [Int.toNat_natCast, Nat.min_eq_left (by omega)]
  have e : ((2 : Int) ^ (8 * k)) = ((256 ^ k : Nat) : Int) := by
    rw [show (256 ^ k : Nat) = 2 ^ (8 * k) by rw [Nat.pow_mul], Int.natCast_pow]
    rfl
  rw [e, ← Int.ofNat_fdiv, IntKind.wrap_u8]
  omega
theorem numL_isB (n : Nat) : ∀ k, k ≤ 8 → (numL (n : Int) k).all isB = true
  | 0, _ => rfl
  | k + 1, h => by
    rw [numL, List.all_cons, numL_isB n k (by omega), byG_nat n k (by omega), Bool.and_true]
    have := Nat.mod_lt (n / 256 ^ k) (show 0 < 256 by omega)
    exact decide_eq_true (by omega)
theorem valN_numL (n : Nat) : ∀ k, k ≤ 8 → ∀ x, valN x (numL (n : Int) k) = x * 256 ^ k + n % 256 ^ k
  | 0, _, x => by simp [numL, valN, Nat.mod_one]
  | k + 1, h, x => by
    have ih := valN_numL n k (by omega)
    show valN (x * 256 + (byG (n : Int) k).toNat) (numL (n : Int) k) = _
    rw [ih, byG_nat n k (by omega), Int.toNat_natCast, Nat.pow_succ, Nat.mod_mul, Nat.add_mul, Nat.mul_assoc, Nat.mul_comm 256 (256 ^ k), Nat.mul_comm (n / 256 ^ k % 256) (256 ^ k)]
    omega
/-! texts and bytes -/
theorem str_bytes (s : ByteArray) : strOf (bytesL s) = s := by
  obtain ⟨⟨l⟩⟩ := s
  unfold strOf bytesL
  congr 1
  rw [List.map_map]
  have : (l.map ((fun n : Int => UInt8.ofNat n.toNat) ∘ fun b : UInt8 => (b.toNat : Int))) = l := by
    conv => rhs; rw [← List.map_id l]
    refine List.map_congr_left fun b _ => ?_
    simp
  show (l.map _).toArray = _
  rw [this]
theorem bytesL_isB (s : ByteArray) : (bytesL s).all isB = true := by
  rw [List.all_eq_true]
  intro x hx
  obtain ⟨b, _, rfl⟩ := List.mem_map.1 hx
  have := b.toNat_lt
  exact decide_eq_true (by omega)
/-! reading what was written -/
def rdr (l : List Int) : Reader := (l, (false, ()))
theorem take_app (a r : List Int) : takeV (rdr (a ++ r)) (a.length : Int) = a ∧ takeN (rdr (a ++ r)) (a.length : Int) = rdr r := by
  have hf : rdFail (rdr (a ++ r)) (a.length : Int) = false := by
    simp only [rdFail, rdr, Bool.false_or, igt, llen, List.length_append, decide_eq_false_iff_not]
    omega
  constructor
  · unfold takeV
    rw [hf]
    show (a ++ r).take ((a.length : Int)).toNat = a
    rw [Int.toNat_natCast, List.take_left' rfl]
  · unfold takeN
    rw [hf]
    show ((a ++ r).drop ((a.length : Int)).toNat, (false, ())) = _
    rw [Int.toNat_natCast, List.drop_left' rfl]
    rfl
theorem take_app' {a r : List Int} {n : Int} (h : n = a.length) : takeV (rdr (a ++ r)) n = a ∧ takeN (rdr (a ++ r)) n = rdr r := by
  subst h
  exact take_app a r
theorem rnum_app (n c : Nat) (hc : c ≤ 5) (hn : n < 256 ^ c) (r : List Int) : rnumV (rdr (numL (n : Int) c ++ r)) (c : Int) = (n : Int) ∧ rnumN (rdr (numL (n : Int) c ++ r)) (c : Int) = rdr r := by
  obtain ⟨h1, h2⟩ := take_app' (a := numL (n : Int) c) (r := r) (n := (c : Int)) (by rw [numL_len])
  refine ⟨?_, h2⟩
  unfold rnumV
  rw [h1, fold8_0 _ (numL_isB n c (by omega)) (by rw [numL_len]; exact hc), valN_numL n c (by omega), Nat.zero_mul, Nat.zero_add, Nat.mod_eq_of_lt hn]
theorem rname_app {s : ByteArray} (hs : s.size < 256) (r : List Int) : rnameV (rdr (numL (slen s) 1 ++ (bytesL s ++ r))) = s ∧ rnameN (rdr (numL (slen s) 1 ++ (bytesL s ++ r))) = rdr r := by
  obtain ⟨h1, h2⟩ := rnum_app s.size 1 (by omega) (by omega) (bytesL s ++ r)
  obtain ⟨h3, h4⟩ := take_app' (a := bytesL s) (r := r) (n := (s.size : Int)) (by rw [bytesG_len])
  have h1 : rnumV (rdr (numL (slen s) 1 ++ (bytesL s ++ r))) 1 = (s.size : Int) := h1
  have h2 : rnumN (rdr (numL (slen s) 1 ++ (bytesL s ++ r))) 1 = rdr (bytesL s ++ r) := h2
  unfold rnameV rnameN
  rw [h1, h2, h3, h4, str_bytes]
  exact ⟨rfl, rfl⟩
theorem sec_app {z : Section} (h1 : z.1.size < 256) (h2 : z.2.1.length < 65536) (r : List Int) : secV (rdr (secB z ++ r)) = z ∧ secN (rdr (secB z ++ r)) = rdr r := by
  obtain ⟨s, b, u⟩ := z
  have e : secB (s, (b, u)) ++ r = numL (slen s) 1 ++ (bytesL s ++ (numL (llen b) 2 ++ (b ++ r))) := by simp only [secB, List.append_assoc]
  obtain ⟨q1, q2⟩ := rname_app h1 (numL (llen b) 2 ++ (b ++ r))
  obtain ⟨q3, q4⟩ := rnum_app b.length 2 (by omega) (by simpa using h2) (b ++ r)
  have q3 : rnumV (rdr (numL (llen b) 2 ++ (b ++ r))) 2 = (b.length : Int) := q3
  have q4 : rnumN (rdr (numL (llen b) 2 ++ (b ++ r))) 2 = rdr (b ++ r) := q4
  obtain ⟨q5, q6⟩ := take_app b r
  unfold secV secN
  rw [e, q1, q2, q3, q4, q5, q6]
  exact ⟨rfl, rfl⟩
theorem sym_app {z : Symbol} (h1 : z.1.size < 256) (h2 : 0 ≤ z.2.1 ∧ z.2.1 < 4294967296) (r : List Int) : symV (rdr (symB z ++ r)) = z ∧ symN (rdr (symB z ++ r)) = rdr r := by
  obtain ⟨s, v, u⟩ := z
  simp only at h1 h2
  obtain ⟨n, rfl⟩ := Int.eq_ofNat_of_zero_le h2.1
  have e : symB (s, ((n : Int), u)) ++ r = numL (slen s) 1 ++ (bytesL s ++ (numL (n : Int) 4 ++ r)) := by simp only [symB, List.append_assoc]
  obtain ⟨q1, q2⟩ := rname_app h1 (numL (n : Int) 4 ++ r)
  obtain ⟨q3, q4⟩ := rnum_app n 4 (by omega) (by omega) r
  have q3 : rnumV (rdr (numL (n : Int) 4 ++ r)) 4 = (n : Int) := q3
  have q4 : rnumN (rdr (numL (n : Int) 4 ++ r)) 4 = rdr r := q4
  unfold symV symN
  rw [e, q1, q2, q3, q4]
  exact ⟨rfl, rfl⟩
theorem secs_app : ∀ (l : List Section) (r : List Int), (∀ z ∈ l, z.1.size < 256 ∧ z.2.1.length < 65536) → secsP l.length (rdr (l.flatMap secB ++ r)) = (l, rdr r)
  | [], r, _ => rfl
  | z :: l, r, h => by
    obtain ⟨h1, h2⟩ := h z (by simp)
    obtain ⟨q1, q2⟩ := sec_app h1 h2 (l.flatMap secB ++ r)
    have ih := secs_app l r fun x hx => h x (by simp [hx])
    rw [List.length_cons, List.flatMap_cons, List.append_assoc]
    show (bif false then _ else (secV (rdr (secB z ++ (l.flatMap secB ++ r))) :: (secsP l.length (secN (rdr (secB z ++ (l.flatMap secB ++ r))))).1, (secsP l.length (secN (rdr (secB z ++ (l.flatMap secB ++ r))))).2)) = _
    rw [q1, q2, ih]
    rfl
theorem syms_app : ∀ (l : List Symbol) (r : List Int), (∀ z ∈ l, z.1.size < 256 ∧ 0 ≤ z.2.1 ∧ z.2.1 < 4294967296) → symsP l.length (rdr (l.flatMap symB ++ r)) = (l, rdr r)
  | [], r, _ => rfl
  | z :: l, r, h => by
    obtain ⟨h1, h2⟩ := h z (by simp)
    obtain ⟨q1, q2⟩ := sym_app h1 h2 (l.flatMap symB ++ r)
    have ih := syms_app l r fun x hx => h x (by simp [hx])
    rw [List.length_cons, List.flatMap_cons, List.append_assoc]
    show (bif false then _ else (symV (rdr (symB z ++ (l.flatMap symB ++ r))) :: (symsP l.length (symN (rdr (symB z ++ (l.flatMap symB ++ r))))).1, (symsP l.length (symN (rdr (symB z ++ (l.flatMap symB ++ r))))).2)) = _
    rw [q1, q2, ih]
    rfl
/-- what holds of an executable without fault -/
theorem wrong_all {l : List ByteArray} (h : wrongF l = false) : ∀ s ∈ l, namedG s = true := by
  intro s hs
  obtain ⟨j, hj, rfl⟩ := List.getElem_of_mem hs
  have := List.any_eq_false.1 h j (by simpa using hj)
  simp only [List.getD_eq_getElem?_getD, List.getElem?_eq_getElem hj, Option.getD_some, Bool.or_eq_true, not_or, Bool.not_eq_true'] at this
  simpa using this.1
theorem bad_facts {x : Image} (h : badX x = false) : x.1.length ≤ 16 ∧ x.2.1.length ≤ 64 ∧ (∀ z ∈ x.1, z.1.size < 256 ∧ z.2.1.length < 65536) ∧ (∀ z ∈ x.2.1, z.1.size < 256 ∧ 0 ≤ z.2.1 ∧ z.2.1 < 4294967296) ∧ (writtenF x).length ≤ 4096 := by
  simp only [badX, Bool.or_eq_false_iff, decide_eq_false_iff_not] at h
  obtain ⟨⟨⟨⟨⟨h1, h2⟩, h3⟩, h4⟩, h5⟩, h6⟩ := h
  have hw := written_len x
  refine ⟨by omega, by omega, fun z hz => ?_, fun z hz => ?_, by omega⟩
  · have := wrong_all h3 z.1 (List.mem_map.2 ⟨z, hz, rfl⟩)
    simp only [namedG, Bool.and_eq_true, decide_eq_true_eq] at this
    have hl := flat_le secB x.1 z hz
    rw [secB_len] at hl
    omega
  · have := wrong_all h4 z.1 (List.mem_map.2 ⟨z, hz, rfl⟩)
    simp only [namedG, Bool.and_eq_true, decide_eq_true_eq] at this
    have hv := List.any_eq_false.1 h5 z hz
    simp only [badV, ilt, ige, Bool.or_eq_true, decide_eq_true_eq, not_or] at hv
    omega
theorem dec_written {x : Image} (h : badX x = false) : decX (writtenF x) = (x, 0) := by
  obtain ⟨h1, h2, h3, h4, h5⟩ := bad_facts h
  have e : writtenF x = [88, 69, 1] ++ (numL (llen x.1) 1 ++ (x.1.flatMap secB ++ (numL (llen x.2.1) 1 ++ (x.2.1.flatMap symB ++ [])))) := by simp only [writtenF, List.append_assoc, List.append_nil]
  generalize hw : writtenF x = w at e h5
  obtain ⟨q1, q2⟩ := take_app' (a := [88, 69, 1]) (r := numL (llen x.1) 1 ++ (x.1.flatMap secB ++ (numL (llen x.2.1) 1 ++ (x.2.1.flatMap symB ++ [])))) (n := 3) rfl
  obtain ⟨q3, q4⟩ := rnum_app x.1.length 1 (by omega) (by omega) (x.1.flatMap secB ++ (numL (llen x.2.1) 1 ++ (x.2.1.flatMap symB ++ [])))
  obtain ⟨q5, q6⟩ := rnum_app x.2.1.length 1 (by omega) (by omega) (x.2.1.flatMap symB ++ [])
  have q7 := secs_app x.1 (numL (llen x.2.1) 1 ++ (x.2.1.flatMap symB ++ [])) h3
  have q8 := syms_app x.2.1 [] h4
  have e0 : d0D w = rdr ([88, 69, 1] ++ (numL (llen x.1) 1 ++ (x.1.flatMap secB ++ (numL (llen x.2.1) 1 ++ (x.2.1.flatMap symB ++ []))))) := by rw [e]; rfl
  have a1 : n1D w = x.1.length := by
    show (rnumV (takeN (d0D w) 3) 1).toNat = _
    rw [e0, q2]
    show (rnumV (rdr (numL ((x.1.length : Nat) : Int) 1 ++ _)) ((1 : Nat) : Int)).toNat = _
    rw [q3, Int.toNat_natCast]
  have a2 : d1D w = rdr (x.1.flatMap secB ++ (numL (llen x.2.1) 1 ++ (x.2.1.flatMap symB ++ []))) := by
    show rnumN (takeN (d0D w) 3) 1 = _
    rw [e0, q2]
    exact q4
  have a3 : secsP (n1D w) (d1D w) = (x.1, rdr (numL (llen x.2.1) 1 ++ (x.2.1.flatMap symB ++ []))) := by rw [a1, a2, q7]
  have a4 : d2D w = rdr (numL (llen x.2.1) 1 ++ (x.2.1.flatMap symB ++ [])) := by rw [d2D, a3]
  have a5 : n2D w = x.2.1.length := by
    show (rnumV (d2D w) 1).toNat = _
    rw [a4]
    show (rnumV (rdr (numL ((x.2.1.length : Nat) : Int) 1 ++ _)) ((1 : Nat) : Int)).toNat = _
    rw [q5, Int.toNat_natCast]
  have a6 : d3D w = rdr (x.2.1.flatMap symB ++ []) := by
    show rnumN (d2D w) 1 = _
    rw [a4]
    exact q6
  have a7 : symsP (n2D w) (d3D w) = (x.2.1, rdr []) := by rw [a5, a6, q8]
  have a8 : imD w = x := by
    unfold imD
    rw [a3, a7]
  have a9 : d4D w = rdr [] := by rw [d4D, a7]
  have b1 : mgD w = false := by
    unfold mgD
    rw [e0, q1, show strOf [88, 69, 1] = ByteArray.mk #[88, 69, 1] from rfl]
    simp [sne]
  unfold decX
  rw [decide_eq_false (by omega), b1, a9, a8, h]
  rfl
end
end Go.Proofs.Ytdbaaejiolibfaa.K
