/-
 The text of settings, and what it means when it is read: plain facts.
-/
import Derived.Test.YtkkoedniahnneaaDoorA21
set_option linter.unusedSimpArgs false
set_option linter.unusedVariables false
namespace Go.Proofs.YtkkoedniahnneaaDoor.K
open Go.RowKit
noncomputable section
abbrev eB : ByteArray := ByteArray.mk #[]
def stL (x : Setting) : List UInt8 := bl x.2.1 ++ 32 :: 61 :: 32 :: bl x.2.2.1
def scL (x : Setting) : List UInt8 := 91 :: (bl x.1 ++ [93])
def lnP : ByteArray → List Setting → List (List UInt8)
 | _, [] => []
 | sec, x :: r => bif seq x.1 sec then stL x :: lnP x.1 r else scL x :: stL x :: lnP x.1 r
def prL (sec : ByteArray) (l : List Setting) : List UInt8 := ((lnP sec l).map (· ++ [10])).flatten
def ordB : ByteArray → List Setting → Bool
 | _, [] => true
 | sec, x :: r => !(seq x.1 eB && !seq sec eB) && ordB x.1 r
def prnF (l : List Setting) : ByteArray × Int := bif l.all rgtB then (bif ordB eB l then (bif decide ((prL eB l).length ≤ 8192) && decide ((prL eB l).count 10 ≤ 200) then (mkB (prL eB l), 0) else (eB, 3)) else (eB, 6)) else (eB, 1)
theorem all_of_I {s : ByteArray} {p : Int → Bool} {q : UInt8 → Bool} (h : (bytesL s).all p = true) (g : ∀ c : UInt8, p ((c.toNat : Nat) : Int) = true → q c = true) : (bl s).all q = true := by
 rw [List.all_eq_true] at h ⊢
 intro c hc
 exact g c (h _ (List.mem_map.2 ⟨c, hc, rfl⟩))
def wdC (c : UInt8) : Bool := isCl c && (!isBl c && (!(c == 61) && (!(c == 35) && (!(c == 59) && (!(c == 91) && (!(c == 10) && !(c == 92)))))))
theorem wdC_tab : ((List.range 256).all fun n => !letW (n : Int) || wdC n.toUInt8) = true := by kernel_rfl
theorem wdC_of {c : UInt8} (h : letW ((c.toNat : Nat) : Int) = true) : wdC c = true := by
 have := List.all_eq_true.1 wdC_tab c.toNat (List.mem_range.2 c.toNat_lt)
 rw [h] at this
 simpa using this
theorem wrd_all {s : ByteArray} (h : wrdB s = true) : (bl s).all wdC = true := all_of_I (Bool.and_eq_true_iff.1 h).1 fun _ => wdC_of
theorem wrd_ne {s : ByteArray} (h : wrdB s = true) : bl s ≠ [] := fun e => by
 have := of_decide_eq_true (Bool.and_eq_true_iff.1 h).2
 have h2 := bl_len s
 rw [e] at h2
 simp at h2
 omega
def vlC (c : UInt8) : Bool := isCl c && !(c == 10)
theorem vlC_tab : ((List.range 256).all fun n => !isVI (n : Int) || vlC n.toUInt8) = true := by kernel_rfl
theorem vlC_of {c : UInt8} (h : isVI ((c.toNat : Nat) : Int) = true) : vlC c = true := by
 have := List.all_eq_true.1 vlC_tab c.toNat (List.mem_range.2 c.toNat_lt)
 rw [h] at this
 simpa using this
theorem val_all {s : ByteArray} (h : valB s = true) : (bl s).all vlC = true := all_of_I (Bool.and_eq_true_iff.1 h).1 fun _ => vlC_of
theorem val_tb {s : ByteArray} (h : valB s = true) : tb (bl s) = bl s := by
 have := seq_iff'.1 (Bool.and_eq_true_iff.1 (Bool.and_eq_true_iff.1 h).2).1
 rw [← tB_bl, this]
theorem val_bs {s : ByteArray} (h : valB s = true) : bsl s = false := by
 have := (Bool.and_eq_true_iff.1 (Bool.and_eq_true_iff.1 h).2).2
 simpa using this
theorem wdC_p {c : UInt8} (h : wdC c = true) : isCl c = true ∧ isBl c = false ∧ c ≠ 61 ∧ c ≠ 35 ∧ c ≠ 59 ∧ c ≠ 91 ∧ c ≠ 10 ∧ c ≠ 92 := by
 simp only [wdC, Bool.and_eq_true, Bool.not_eq_true', beq_eq_false_iff_ne] at h
 exact h
theorem tR_nb : ∀ {l : List UInt8}, (∀ c ∈ l, isBl c = false) → tR l = l
 | [], _ => rfl
 | c :: l, h => by
  rw [tR_cons, tR_nb (fun d hd => h d (List.mem_cons_of_mem _ hd)), if_neg (fun e => by rw [h c List.mem_cons_self] at e; simp at e)]
theorem tL_nb {l : List UInt8} (h : ∀ c ∈ l, isBl c = false) : tL l = l := by
 cases l with
 | nil => rfl
 | cons c l => rw [tL_cons, h c List.mem_cons_self]; rfl
theorem tb_nb {l : List UInt8} (h : ∀ c ∈ l, isBl c = false) : tb l = l := by
 unfold tb
 rw [tR_nb h, tL_nb h]
theorem tR_mid : ∀ (a : List UInt8) {c : UInt8} (b : List UInt8), isBl c = false → tR (a ++ c :: b) = a ++ c :: tR b
 | [], c, b, h => by
  rw [List.nil_append, tR_cons, if_neg (fun e => by rw [h] at e; simp at e)]
  rfl
 | x :: a, c, b, h => by
  rw [List.cons_append, tR_cons, tR_mid a b h, if_neg (fun e => by simp at e)]
  rfl
theorem tL_head {c : UInt8} {l : List UInt8} (h : isBl c = false) : tL (c :: l) = c :: l := by rw [tL_cons, h]; rfl
theorem tR_of_tb {l : List UInt8} (h : tb l = l) : tR l = l := by
 have := tR_idem (tL l)
 rw [← tLR] at this
 unfold tb at h
 rw [h] at this
 exact this
theorem tL_of_tb {l : List UInt8} (h : tb l = l) : tL l = l := by
 have := tL_idem (tR l)
 unfold tb at h
 rw [h] at this
 exact this
theorem rgt_p {x : Setting} (h : rgtB x = true) : (x.1 = eB ∨ wrdB x.1 = true) ∧ wrdB x.2.1 = true ∧ valB x.2.2.1 = true := by
 unfold rgtB at h
 obtain ⟨h1, h⟩ := Bool.and_eq_true_iff.1 h
 obtain ⟨h2, h3⟩ := Bool.and_eq_true_iff.1 h
 refine ⟨?_, h2, h3⟩
 rcases Bool.or_eq_true_iff.1 h1 with h | h
 ·exact .inl (seq_iff'.1 h)
 ·exact .inr h
def stT (x : Setting) : List UInt8 := bl x.2.1 ++ 32 :: 61 :: tR (32 :: bl x.2.2.1)
theorem name_nb {s : ByteArray} (h : wrdB s = true) : ∀ c ∈ bl s, isBl c = false := fun c hc => (wdC_p (List.all_eq_true.1 (wrd_all h) c hc)).2.1
theorem st_tb {x : Setting} (h : rgtB x = true) : tb (stL x) = stT x := by
 obtain ⟨_, h2, _⟩ := rgt_p h
 have hn := name_nb h2
 unfold tb stL stT
 rw [show bl x.2.1 ++ 32 :: 61 :: 32 :: bl x.2.2.1 = (bl x.2.1 ++ [32]) ++ 61 :: (32 :: bl x.2.2.1) by simp, tR_mid _ _ (by rfl)]
 cases hb : bl x.2.1 with
 | nil => exact absurd hb (wrd_ne h2)
 | cons c r =>
  rw [hb] at hn
  rw [List.cons_append, List.cons_append, tL_head (hn c List.mem_cons_self)]
  simp
theorem st_last {x : Setting} (h : rgtB x = true) : (stT x).getLast? ≠ some 92 := by
 obtain ⟨_, _, h3⟩ := rgt_p h
 have hb := val_bs h3
 have ht := tR_of_tb (val_tb h3)
 unfold stT
 rw [tR_cons, ht]
 by_cases he : bl x.2.2.1 = []
 ·rw [if_pos ⟨he, rfl⟩, List.getLast?_append]
  simp
 ·rw [if_neg (fun e => he e.1), show bl x.2.1 ++ 32 :: 61 :: 32 :: bl x.2.2.1 = (bl x.2.1 ++ [32, 61, 32]) ++ bl x.2.2.1 by simp, List.getLast?_append]
  unfold bsl at hb
  cases hl : (bl x.2.2.1).getLast? with
  | none => exact absurd (List.getLast?_eq_none_iff.1 hl) he
  | some c =>
   rw [hl] at hb
   intro e
   rw [Option.some_or] at e
   rw [e] at hb
   simp at hb
theorem st_tw {x : Setting} (h : rgtB x = true) : (stT x).takeWhile (fun c => !(c == 61)) = bl x.2.1 ++ [32] := by
 obtain ⟨_, h2, _⟩ := rgt_p h
 unfold stT
 rw [show bl x.2.1 ++ 32 :: 61 :: tR (32 :: bl x.2.2.1) = (bl x.2.1 ++ [32]) ++ 61 :: tR (32 :: bl x.2.2.1) by simp]
 have ha : ∀ c ∈ bl x.2.1 ++ [32], (!(c == 61)) = true := by
  intro c hc
  rcases List.mem_append.1 hc with hc | hc
  ·have := (wdC_p (List.all_eq_true.1 (wrd_all h2) c hc)).2.2.1
   simpa using this
  ·obtain rfl := List.mem_singleton.1 hc
   rfl
 rw [List.takeWhile_append_of_pos ha, List.takeWhile_cons]
 simp
theorem sgt0 {s : ByteArray} {c : UInt8} {r : List UInt8} (h : bl s = c :: r) : sgt s 0 = ((c.toNat : Nat) : Int) := by
 have h2 := sgt_bl (s := s) (k := 0) (by rw [h]; simp)
 rw [Int.natCast_zero] at h2
 rw [h2]
 simp [h]
theorem seq_no {s t : ByteArray} (h : s ≠ t) : seq s t = false := by
 cases hx : seq s t with
 | false => rfl
 | true => exact absurd (seq_iff'.1 hx) h
theorem ieq_no {c : UInt8} {i : Int} (n : Nat) (hi : i = (n : Int)) (hn : n < 256) (h : c ≠ n.toUInt8) : ieq ((c.toNat : Nat) : Int) i = false := by
 subst hi
 simp only [ieq]
 refine beq_eq_false_iff_ne.2 fun e => h ?_
 rw [← UInt8.toNat_inj]
 have : c.toNat = n := by omega
 rw [this, Nat.toUInt8_eq, UInt8.toNat_ofNat']
 omega
theorem stp_st {x : Setting} (h : rgtB x = true) (sec : ByteArray) (k : Int) (out : List Setting) (hz : (stT x).length ≤ 1000000) : stpS (mkB (stT x)) sec k out = some (sec, out ++ [(sec, (x.2.1, (x.2.2.1, (k, ()))))]) := by
 obtain ⟨_, h2, h3⟩ := rgt_p h
 have hbl : bl (mkB (stT x)) = stT x := bl_mk _
 have hsz : (mkB (stT x)).size = (stT x).length := mk_size _
 obtain ⟨c, r, hc⟩ : ∃ c r, bl x.2.1 = c :: r := by
  cases hb : bl x.2.1 with
  | nil => exact absurd hb (wrd_ne h2)
  | cons c r => exact ⟨c, r, rfl⟩
 have hw := wdC_p (List.all_eq_true.1 (wrd_all h2) c (by rw [hc]; exact List.mem_cons_self))
 have h0 : sgt (mkB (stT x)) 0 = ((c.toNat : Nat) : Int) := sgt0 (r := r ++ 32 :: 61 :: tR (32 :: bl x.2.2.1)) (by rw [hbl]; unfold stT; rw [hc]; rfl)
 have e1 : empS (mkB (stT x)) = false := by
  unfold empS
  rw [h0, ieq_no (i := 35) 35 rfl (by decide) hw.2.2.2.1, ieq_no (i := 59) 59 rfl (by decide) hw.2.2.2.2.1, seq_no (fun e => by
   have : bl (mkB (stT x)) = [] := by rw [e]
   rw [hbl] at this
   unfold stT at this
   simp at this)]
  rfl
 have e2 : brkS (mkB (stT x)) = false := by
  unfold brkS
  rw [h0, ieq_no (i := 91) 91 rfl (by decide) hw.2.2.2.2.2.1]
  rfl
 have e3 : eqI (mkB (stT x)) 0 = (((bl x.2.1).length + 1 : Nat) : Int) := by
  rw [show eqI (mkB (stT x)) 0 = (((stT x).takeWhile fun c => !(c == 61)).length : Nat) by unfold eqI; rw [hbl]; simp, st_tw h]
  simp
 have hlen : (stT x).length = (bl x.2.1).length + 2 + (tR (32 :: bl x.2.2.1)).length := by
  unfold stT
  simp only [List.length_append, List.length_cons]
  omega
 have e4 : ieq (eqI (mkB (stT x)) 0) (slen (mkB (stT x))) = false := by
  rw [e3]
  simp only [ieq, slen, hsz, hlen]
  exact beq_eq_false_iff_ne.2 (by omega)
 have e5 : nmS (mkB (stT x)) = x.2.1 := by
  refine bl_ext ?_
  unfold nmS
  rw [tB_bl, bl_ssl, hbl, e3]
  show tb ((stT x).take ((bl x.2.1).length + 1)) = _
  unfold stT
  rw [show bl x.2.1 ++ 32 :: 61 :: tR (32 :: bl x.2.2.1) = (bl x.2.1 ++ [32]) ++ 61 :: tR (32 :: bl x.2.2.1) by simp, List.take_left' (by simp)]
  unfold tb
  rw [tR_snoc, if_pos (by rfl), tR_nb (name_nb h2), tL_nb (name_nb h2)]
 have e6 : vlS (mkB (stT x)) = x.2.2.1 := by
  refine bl_ext ?_
  have hi : iadd .i64 (((bl x.2.1).length + 1 : Nat) : Int) 1 = (((bl x.2.1).length + 2 : Nat) : Int) := by rw [iadd_in (by omega)]; omega
  unfold vlS
  rw [tB_bl, bl_ssl, hbl, e3, hi, hsz]
  show tb (((stT x).drop ((bl x.2.1).length + 2)).take ((stT x).length - ((bl x.2.1).length + 2))) = _
  rw [List.take_of_length_le (by rw [List.length_drop]; exact Nat.le_refl _)]
  unfold stT
  rw [show bl x.2.1 ++ 32 :: 61 :: tR (32 :: bl x.2.2.1) = (bl x.2.1 ++ [32, 61]) ++ tR (32 :: bl x.2.2.1) by simp, List.drop_left' (by simp)]
  have ht := tR_of_tb (val_tb h3)
  unfold tb
  rw [tR_idem, tR_cons, ht]
  by_cases he : bl x.2.2.1 = []
  ·rw [if_pos ⟨he, rfl⟩, he]
   rfl
  ·rw [if_neg (fun e => he e.1), tL_cons, if_pos (by rfl)]
   exact tL_of_tb (val_tb h3)
 unfold stpS
 rw [e1, e2, e4, e5, e6, h2]
 rfl
theorem st_cl {x : Setting} (h : rgtB x = true) : clB (mkB (stT x)) = true := by
 obtain ⟨_, h2, h3⟩ := rgt_p h
 have e : mkB (stT x) = tB (mkB (stL x)) := bl_ext (by rw [bl_mk, tB_bl, bl_mk, st_tb h])
 rw [e, cl_tB]
 unfold clB
 rw [bl_mk]
 unfold stL
 simp only [List.all_append, List.all_cons, Bool.and_eq_true]
 refine ⟨?_, by decide, by decide, by decide, ?_⟩
 ·rw [List.all_eq_true]
  exact fun c hc => (wdC_p (List.all_eq_true.1 (wrd_all h2) c hc)).1
 ·rw [List.all_eq_true]
  exact fun c hc => (Bool.and_eq_true_iff.1 (List.all_eq_true.1 (val_all h3) c hc)).1
theorem sc_tb (x : Setting) : tb (scL x) = scL x := by
 unfold tb scL
 rw [show (91 : UInt8) :: (bl x.1 ++ [93]) = (91 :: bl x.1) ++ 93 :: [] by simp, tR_mid _ _ (by rfl)]
 show tL (91 :: (bl x.1 ++ [93])) = _
 rw [tL_head (by rfl)]
 rfl
theorem sc_last (x : Setting) : (scL x).getLast? ≠ some 92 := by
 unfold scL
 rw [show (91 : UInt8) :: (bl x.1 ++ [93]) = (91 :: bl x.1) ++ [93] by simp, List.getLast?_append]
 simp
theorem sc_cl {x : Setting} (h : wrdB x.1 = true) : clB (mkB (scL x)) = true := by
 unfold clB
 rw [bl_mk]
 unfold scL
 simp only [List.all_append, List.all_cons, List.all_nil, Bool.and_eq_true]
 refine ⟨by decide, ?_, by decide, trivial⟩
 rw [List.all_eq_true]
 exact fun c hc => (wdC_p (List.all_eq_true.1 (wrd_all h) c hc)).1
theorem stp_sc {x : Setting} (h : wrdB x.1 = true) (sec : ByteArray) (k : Int) (out : List Setting) (hz : (scL x).length ≤ 1000000) : stpS (mkB (scL x)) sec k out = some (x.1, out) := by
 have hbl : bl (mkB (scL x)) = scL x := bl_mk _
 have hsz : (mkB (scL x)).size = (scL x).length := mk_size _
 have hlen : (scL x).length = (bl x.1).length + 2 := by unfold scL; simp
 have h0 : sgt (mkB (scL x)) 0 = 91 := sgt0 (c := 91) (r := bl x.1 ++ [93]) (by rw [hbl]; rfl)
 have e1 : empS (mkB (scL x)) = false := by
  unfold empS
  rw [h0, seq_no (fun e => by
   have : bl (mkB (scL x)) = [] := by rw [e]
   rw [hbl] at this
   unfold scL at this
   simp at this)]
  rfl
 have hs1 : isub .i64 (slen (mkB (scL x))) 1 = (((bl x.1).length + 1 : Nat) : Int) := by
  rw [isub_in (by simp only [slen, hsz]; omega)]
  simp only [slen, hsz]
  omega
 have e2 : brkS (mkB (scL x)) = true := by
  unfold brkS
  rw [h0, hs1, sgt_bl (by rw [hbl]; omega)]
  have : (bl (mkB (scL x)))[(bl x.1).length + 1]'(by rw [hbl]; omega) = 93 := by
   have h5 : (scL x)[(bl x.1).length + 1]'(by omega) = 93 := by
    unfold scL
    rw [List.getElem_cons_succ, List.getElem_append_right (Nat.le_refl _)]
    simp
   rw [← h5]
  rw [this]
  rfl
 have e3 : secS (mkB (scL x)) = x.1 := by
  refine bl_ext ?_
  unfold secS
  rw [tB_bl, bl_ssl, hbl, hs1]
  have hi : imx 1 (((bl x.1).length + 1 : Nat) : Int) = (((bl x.1).length + 1 : Nat) : Int) := by
   unfold imx
   omega
  rw [hi]
  show tb (((scL x).drop 1).take ((bl x.1).length + 1 - 1)) = _
  unfold scL
  rw [List.drop_succ_cons, List.drop_zero, Nat.add_sub_cancel, List.take_left' rfl, tb_nb (name_nb h)]
 unfold stpS
 rw [e1, e2, e3, h]
 rfl
end
end Go.Proofs.YtkkoedniahnneaaDoor.K
