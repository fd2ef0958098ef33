/-
  Plain laws of the journal's bytes.
-/
import Derived.Test.YtnimpcffagidoaaOpen
import Derived.Test.YtnimpcffagidoaaWritten
import Derived.Test.YtnimpcffagidoaaSums
namespace Go.Proofs.Ytnimpcffagidoaa

theorem Gen.valid {a : Dec} {l : List Dec} (h : Gen a l) (n : Int) (ha : 0 ≤ a.day ∧ a.day ≤ n ∧ 0 ≤ a.known ∧ a.known ≤ n) (hn : n + 2 * l.length ≤ 400) : ∀ d ∈ l, validB d = true := by
  induction l generalizing a n with
  | nil => intro d hd; cases hd
  | cons b l ih =>
    intro d hd
    have hf := h.1
    unfold Follows at hf
    simp only [List.length_cons] at hn
    rcases List.mem_cons.1 hd with rfl | hd
    · simp only [validB, decide_eq_true_eq]
      omega
    · exact ih h.2 (n + 2) ⟨by omega, by omega, by omega, by omega⟩ (by omega) d hd
theorem Gen.valid0 {l : List Dec} (h : Gen zeroDec l) (hn : 2 * l.length ≤ 400) : ∀ d ∈ l, validB d = true := h.valid 0 (by simp [zeroDec]) (by omega)

theorem vl_be (k n : Nat) (h : n < 256 ^ k) : vl (be k n) = n := by
  induction k generalizing n with
  | zero => simp at h; subst h; rfl
  | succ k ih =>
    rw [be, vl_snoc, ih (n / 256) (by rw [Nat.pow_succ] at h; exact Nat.div_lt_of_lt_mul (by omega)), UInt8.toNat_ofNat']
    omega
theorem vl_append (a b : List UInt8) : vl (a ++ b) = vl a * 256 ^ b.length + vl b := by
  induction h : b.length generalizing b with
  | zero => simp [List.eq_nil_of_length_eq_zero h, vl]
  | succ n ih =>
    rcases List.eq_nil_or_concat b with rfl | ⟨r, c, rfl⟩
    · simp at h
    · rw [List.concat_eq_append, ← List.append_assoc, vl_snoc, vl_snoc, ih r (by simpa using h), Nat.pow_succ]
      rw [Nat.add_mul, Nat.mul_assoc]
      omega
theorem vl_set_ne (l : List UInt8) (i : Nat) (c : UInt8) (hi : i < l.length) (hc : c ≠ l[i]) : vl (l.set i c) ≠ vl l := by
  intro h
  have hl : l = l.take i ++ ([l[i]] ++ l.drop (i + 1)) := by
    rw [List.singleton_append, ← List.drop_eq_getElem_cons hi]; exact (List.take_append_drop i l).symm
  have hs : l.set i c = l.take i ++ ([c] ++ l.drop (i + 1)) := by
    rw [List.set_eq_take_append_cons_drop, if_pos hi]; rfl
  rw [hs] at h
  conv at h => rhs; rw [hl]
  rw [vl_append, vl_append, vl_append, vl_append [l[i]]] at h
  simp only [List.length_append, List.length_singleton] at h
  have h1 : vl [c] * 256 ^ (l.drop (i + 1)).length = vl [l[i]] * 256 ^ (l.drop (i + 1)).length := by omega
  have h2 := Nat.eq_of_mul_eq_mul_right (Nat.pow_pos (by decide)) h1
  have h3 : c.toNat = l[i].toNat := by simpa [vl] using h2
  exact hc (UInt8.toNat_inj.1 h3)

theorem body_len (d : Dec) : d.body.length = 8 := by simp [Dec.body, be_len]
theorem bytes_take8 (d : Dec) : d.bytes.take 8 = d.body := by unfold Dec.bytes; rw [List.take_left' (body_len d)]
theorem bytes_drop8 (d : Dec) : d.bytes.drop 8 = be 4 (fnv d.body) := by unfold Dec.bytes; rw [List.drop_left' (body_len d)]
theorem bytes_sum (d : Dec) : vl (d.bytes.drop 8) = fnv (d.bytes.take 8) := by
  rw [bytes_take8, bytes_drop8, vl_be]
  have := fnv_lt d.body
  omega
theorem bytes_dec (d : Dec) (h : validB d = true) : decOf d.bytes = d := by
  obtain ⟨a, b, c, e, f⟩ := d
  simp only [validB, decide_eq_true_eq] at h
  have hb : (Dec.mk a b c e f).bytes = be 3 a.toNat ++ (be 2 b.toNat ++ (be 1 c.toNat ++ (be 1 e.toNat ++ (be 1 f.toNat ++ be 4 (fnv (Dec.mk a b c e f).body))))) := by
    unfold Dec.bytes
    conv => lhs; lhs; unfold Dec.body
    simp only [List.append_assoc]
  rw [hb]
  generalize be 4 (fnv (Dec.mk a b c e f).body) = R
  have hd : decOf (be 3 a.toNat ++ (be 2 b.toNat ++ (be 1 c.toNat ++ (be 1 e.toNat ++ (be 1 f.toNat ++ R))))) = ⟨vl (be 3 a.toNat), vl (be 2 b.toNat), vl (be 1 c.toNat), vl (be 1 e.toNat), vl (be 1 f.toNat)⟩ := rfl
  rw [hd, vl_be _ _ (by omega), vl_be _ _ (by omega), vl_be _ _ (by omega), vl_be _ _ (by omega), vl_be _ _ (by omega)]
  simp only [Dec.mk.injEq]
  omega

theorem openL_rec (F : Nat) (d : Dec) (r : List UInt8) (h : validB d = true) : openL (F + 1) (d.bytes ++ r) = d :: openL F r := by
  have h12 := Dec.bytes_len d
  have ht : (d.bytes ++ r).take 12 = d.bytes := List.take_left' h12
  have hd : (d.bytes ++ r).drop 12 = r := List.drop_left' h12
  rw [openL, ht, hd, if_neg (by simp; omega), if_neg (by rw [bytes_sum]; simp), bytes_dec d h, h, if_neg (by simp)]
theorem openL_pre (F : Nat) (ds : List Dec) (r : List UInt8) (h : ∀ d ∈ ds, validB d = true) : openL (F + ds.length) (bytesOf ds ++ r) = ds ++ openL F r := by
  induction ds with
  | nil => rfl
  | cons d l ih =>
    have e : bytesOf (d :: l) ++ r = d.bytes ++ (bytesOf l ++ r) := by simp [bytesOf]
    rw [e, List.length_cons, ← Nat.add_assoc, openL_rec _ _ _ (h d (by simp)), ih (fun x hx => h x (by simp [hx]))]
    rfl
theorem openL_bad (F : Nat) (m r : List UInt8) (hm : m.length = 12) (h : vl (m.drop 8) ≠ fnv (m.take 8)) : openL F (m ++ r) = [] := by
  cases F with
  | zero => rfl
  | succ F =>
    have ht : (m ++ r).take 12 = m := List.take_left' hm
    rw [openL, ht, if_neg (by simp; omega), if_pos h]
theorem bad_set (d : Dec) (j : Nat) (c : UInt8) (hj : j < 12) (hc : ∀ (h : j < d.bytes.length), c ≠ d.bytes[j]) : vl ((d.bytes.set j c).drop 8) ≠ fnv ((d.bytes.set j c).take 8) := by
  have h12 := Dec.bytes_len d
  have hc' := hc (by omega)
  by_cases h8 : j < 8
  · rw [List.drop_set_of_lt (by omega), List.take_set, bytes_sum]
    refine (fnv_set_ne _ _ _ (by simp; omega) ?_).symm
    simpa using hc'
  · rw [List.take_set, List.set_eq_of_length_le (l := d.bytes.take 8) (i := j) (by simp; omega), ← bytes_sum, List.drop_set, if_neg h8]
    refine vl_set_ne _ _ _ (by simp; omega) ?_
    simp only [List.getElem_drop]
    have e : 8 + (j - 8) = j := by omega
    simp only [e]
    exact hc'

theorem bytesOf_append (a b : List Dec) : bytesOf (a ++ b) = bytesOf a ++ bytesOf b := by simp [bytesOf]
theorem bytesOf_cons (d : Dec) (b : List Dec) : bytesOf (d :: b) = d.bytes ++ bytesOf b := by simp [bytesOf]
/-- a byte of a ledger's bytes that is changed -/
theorem set_split (ds : List Dec) (i : Nat) (c : UInt8) (hi : i < (bytesOf ds).length) : ∃ d, ds[i / 12]? = some d ∧ i / 12 < ds.length ∧
    (bytesOf ds).set i c = bytesOf (ds.take (i / 12)) ++ (d.bytes.set (i % 12) c ++ bytesOf (ds.drop (i / 12 + 1))) ∧ ∀ (h : i % 12 < d.bytes.length), d.bytes[i % 12] = (bytesOf ds)[i] := by
  have hl := bytesOf_len ds
  have hk : i / 12 < ds.length := by omega
  refine ⟨ds[i / 12], List.getElem?_eq_getElem hk, hk, ?_⟩
  have hds : ds = ds.take (i / 12) ++ (ds[i / 12] :: ds.drop (i / 12 + 1)) := by
    rw [← List.drop_eq_getElem_cons hk]; exact (List.take_append_drop _ ds).symm
  have hb : bytesOf ds = bytesOf (ds.take (i / 12)) ++ (ds[i / 12].bytes ++ bytesOf (ds.drop (i / 12 + 1))) := by
    have h1 := congrArg bytesOf hds
    rw [bytesOf_append, bytesOf_cons] at h1
    exact h1
  have hp : (bytesOf (ds.take (i / 12))).length = 12 * (i / 12) := by rw [bytesOf_len, List.length_take, Nat.min_eq_left (by omega)]
  have h12 := Dec.bytes_len ds[i / 12]
  constructor
  · rw [hb, List.set_append_right _ _ (by omega), hp, show i - 12 * (i / 12) = i % 12 from by omega, List.set_append_left _ _ (by omega)]
  · intro h
    have : (bytesOf ds)[i]? = some (ds[i / 12].bytes[i % 12]) := by
      rw [hb, List.getElem?_append_right (by omega), hp, show i - 12 * (i / 12) = i % 12 from by omega, List.getElem?_append_left (by omega), List.getElem?_eq_getElem]
    rw [List.getElem?_eq_getElem hi] at this
    injection this with e
    exact e.symm

/-- what a changed byte does -/
theorem changed_facts (ds : List Dec) (hv : ∀ d ∈ ds, validB d = true) (i : Nat) (c : UInt8) (hi : i < (bytesOf ds).length) (hc : c ≠ (bytesOf ds)[i]) (n : Nat) :
    opens ⟨((bytesOf ds).set i c).toArray⟩ = ds.take (i / 12) ∧ decRes (rec12 ⟨((bytesOf ds).set i c).toArray⟩ (12 * (i / 12))) n = #[noDec, .int .i64 0, .int .i64 58] ∧
      ((bytesOf ds).set i c).take (12 * (i / 12)) = (bytesOf ds).take (12 * (i / 12)) := by
  obtain ⟨d, hd, hk, hs, hb⟩ := set_split ds i c hi
  have hl := bytesOf_len ds
  have hbad := bad_set d (i % 12) c (by omega) (fun h => by rw [hb h]; exact hc)
  have hp : (bytesOf (ds.take (i / 12))).length = 12 * (i / 12) := by rw [bytesOf_len, List.length_take, Nat.min_eq_left (by omega)]
  have hm : (d.bytes.set (i % 12) c).length = 12 := by rw [List.length_set, Dec.bytes_len]
  refine ⟨?_, ?_, ?_⟩
  · have hsz : (ByteArray.mk ((bytesOf ds).set i c).toArray).size = 12 * ds.length := by show Array.size _ = _; simp [hl]
    have htk : (ds.take (i / 12)).length = i / 12 := by rw [List.length_take, Nat.min_eq_left (by omega)]
    unfold opens
    rw [hsz, show 12 * ds.length + 1 = (12 * ds.length + 1 - i / 12) + (ds.take (i / 12)).length from by omega, hs]
    show openL _ (bytesOf (ds.take (i / 12)) ++ _) = _
    rw [openL_pre _ _ _ (fun x hx => hv x (List.mem_of_mem_take hx)), openL_bad _ _ _ hm hbad, List.append_nil]
  · have hr : rec12 ⟨((bytesOf ds).set i c).toArray⟩ (12 * (i / 12)) = d.bytes.set (i % 12) c := by
      unfold rec12
      rw [hs]
      show ((bytesOf (ds.take (i / 12)) ++ _).drop _).take 12 = _
      rw [List.drop_left' hp, List.take_left' hm]
    rw [hr]
    unfold decRes
    rw [if_pos hbad]
  · rw [List.take_set, List.set_eq_of_length_le (by simp; omega)]
end Go.Proofs.Ytnimpcffagidoaa
