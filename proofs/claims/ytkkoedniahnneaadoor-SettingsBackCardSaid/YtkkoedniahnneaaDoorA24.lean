/-
 A printed text, read again: plain facts.
-/
import Derived.Test.YtkkoedniahnneaaDoorA23
set_option linter.unusedSimpArgs false
set_option linter.unusedVariables false
namespace Go.Proofs.YtkkoedniahnneaaDoor.K
open Go.RowKit
noncomputable section
theorem lnS_flat : ∀ ls : List (List UInt8), (∀ p ∈ ls, (10 : UInt8) ∉ p) → lnS ((ls.map (· ++ [10])).flatten) = ls ++ [[]]
 | [], _ => rfl
 | p :: ls, h => by
  rw [List.map_cons, List.flatten_cons, List.append_assoc, List.singleton_append, lnS_hit (h p List.mem_cons_self), lnS_flat ls (fun q hq => h q (List.mem_cons_of_mem _ hq))]
  rfl
theorem lnL_flat {ls : List (List UInt8)} (h : ∀ p ∈ ls, (10 : UInt8) ∉ p) : lnL ((ls.map (· ++ [10])).flatten) = ls := by
 unfold lnL
 rw [lnS_flat ls h, if_pos (by simp [List.getLastD_eq_getLast?]), List.dropLast_concat]
theorem no10_w {s : ByteArray} (h : wrdB s = true) : (10 : UInt8) ∉ bl s := fun hm => (wdC_p (List.all_eq_true.1 (wrd_all h) 10 hm)).2.2.2.2.2.2.1 rfl
theorem no10_v {s : ByteArray} (h : valB s = true) : (10 : UInt8) ∉ bl s := fun hm => absurd (List.all_eq_true.1 (val_all h) 10 hm) (by decide)
theorem no10_st {x : Setting} (h : rgtB x = true) : (10 : UInt8) ∉ stL x := by
 obtain ⟨_, h2, h3⟩ := rgt_p h
 unfold stL
 simp only [List.mem_append, List.mem_cons, not_or]
 exact ⟨no10_w h2, by decide, by decide, by decide, no10_v h3⟩
theorem no10_sc {x : Setting} (h : rgtB x = true) : (10 : UInt8) ∉ scL x := by
 obtain ⟨h1, _, _⟩ := rgt_p h
 unfold scL
 simp only [List.mem_append, List.mem_cons, not_or, List.not_mem_nil, not_false_eq_true, and_true]
 refine ⟨by decide, ?_, by decide⟩
 rcases h1 with h1 | h1
 ·rw [h1]
  exact List.not_mem_nil
 ·exact no10_w h1
theorem lnP_no10 : ∀ (l : List Setting) (sec : ByteArray), l.all rgtB = true → ∀ p ∈ lnP sec l, (10 : UInt8) ∉ p
 | [], _, _, p, hp => absurd hp List.not_mem_nil
 | x :: r, sec, hr, p, hp => by
  rw [List.all_cons] at hr
  obtain ⟨hx, hr⟩ := Bool.and_eq_true_iff.1 hr
  have ih := lnP_no10 r x.1 hr p
  unfold lnP at hp
  cases hs : seq x.1 sec with
  | true =>
   rw [hs, cond_true, List.mem_cons] at hp
   rcases hp with rfl | hp
   ·exact no10_st hx
   ·exact ih hp
  | false =>
   rw [hs, cond_false, List.mem_cons, List.mem_cons] at hp
   rcases hp with rfl | rfl | hp
   ·exact no10_sc hx
   ·exact no10_st hx
   ·exact ih hp
def outP : ByteArray → Int → List Setting → List Setting
 | _, _, [] => []
 | sec, k, x :: r => bif seq x.1 sec then (x.1, (x.2.1, (x.2.2.1, (k + 1, ())))) :: outP x.1 (k + 1) r else (x.1, (x.2.1, (x.2.2.1, (k + 2, ())))) :: outP x.1 (k + 2) r
theorem rjn_one {L : List ByteArray} {k : Nat} {p : List UInt8} (hk : L[k]? = some (mkB p)) (hb : (tb p).getLast? ≠ some 92) : rjnF L k = (mkB (tb p), 1, true) := by
 have hkl : k < L.length := (List.getElem?_eq_some_iff.1 hk).1
 have e0 : lgt .str L k = mkB p := by
  rw [lgt_get (y := .str) hkl]
  exact (List.getElem?_eq_some_iff.1 hk).2
 have e1 : bsl (tB (mkB p)) = false := by
  unfold bsl
  rw [tB_bl, bl_mk]
  exact beq_eq_false_iff_ne.2 hb
 have e2 : rjZ L (k : Int) (tB (lgt .str L (k : Int).toNat)) 1 = (tB (mkB p), 1, true) := by
  unfold rjZ
  rw [Int.toNat_natCast, e0, jnF_stop e1]
  rfl
 unfold rjnF
 rw [e2]
 show (tB (tB (mkB p)), (1 : Int), true) = _
 rw [tB_idem]
 unfold tB
 rw [bl_mk]
 rfl
theorem pg_step {L : List ByteArray} {k : Nat} {p : List UInt8} {sec sec' : ByteArray} {out out' : List Setting} (hk : L[k]? = some (mkB p)) (hb : (tb p).getLast? ≠ some 92) (hc : clB (mkB (tb p)) = true) (hs : stpS (mkB (tb p)) sec ((k : Int) + 1) out = some (sec', out')) : pgF L sec k out = pgF L sec' ((k + 1 : Nat) : Int) out' := by
 have hkl : k < L.length := (List.getElem?_eq_some_iff.1 hk).1
 have e := rjn_one hk hb
 rw [pgF_some (p := (sec', out')) hkl (by rw [e]; simp [hc]) (by rw [e]; exact hs), e]
 rfl
theorem drop_at {α : Type} {L : List α} {k : Nat} {a : α} {t : List α} (h : L.drop k = a :: t) : L[k]? = some a ∧ L.drop (k + 1) = t :=
 ⟨by rw [← List.head?_drop, h]; rfl, by rw [← List.tail_drop, h]; rfl⟩
theorem seq_eB : seq eB eB = true := seq_iff'.2 rfl
theorem pg_prt : ∀ (l : List Setting) (sec : ByteArray) (L : List ByteArray) (k : Nat) (out : List Setting), l.all rgtB = true → ordB sec l = true → L.drop k = (lnP sec l).map mkB → (∀ p ∈ lnP sec l, p.length ≤ 1000000) → pgF L sec k out = (out ++ outP sec k l, 0, true)
 | [], sec, L, k, out, _, _, hd, _ => by
  have : L.length ≤ k := List.drop_eq_nil_iff.1 hd
  rw [pgF_end this]
  simp [outP]
 | x :: r, sec, L, k, out, hr, ho, hd, hz => by
  rw [List.all_cons] at hr
  obtain ⟨hx, hr2⟩ := Bool.and_eq_true_iff.1 hr
  unfold ordB at ho
  obtain ⟨ho1, ho2⟩ := Bool.and_eq_true_iff.1 ho
  clear ho hr
  have hst : (stT x).length ≤ (stL x).length := by rw [← st_tb hx]; exact tb_len _
  cases hs : seq x.1 sec with
  | true =>
   obtain rfl := seq_iff'.1 hs
   unfold lnP at hd hz
   rw [hs, cond_true] at hd hz
   rw [List.map_cons] at hd
   obtain ⟨hk, hd⟩ := drop_at hd
   have hz1 := hz _ List.mem_cons_self
   rw [pg_step hk (by rw [st_tb hx]; exact st_last hx) (by rw [st_tb hx]; exact st_cl hx) (by rw [st_tb hx]; exact stp_st hx _ _ _ (by omega)),
    pg_prt r x.1 L (k + 1) _ hr2 ho2 hd (fun p hp => hz p (List.mem_cons_of_mem _ hp))]
   conv => rhs; unfold outP
   rw [hs, cond_true, List.append_assoc]
   rfl
  | false =>
   have hw : wrdB x.1 = true := by
    rcases (rgt_p hx).1 with h | h
    ·rw [h] at ho1 hs
     rw [seq_eB, Bool.true_and, Bool.not_not] at ho1
     rw [seq_iff'.1 ho1, seq_eB] at hs
     cases hs
    ·exact h
   unfold lnP at hd hz
   rw [hs, cond_false] at hd hz
   rw [List.map_cons, List.map_cons] at hd
   obtain ⟨hk, hd⟩ := drop_at hd
   obtain ⟨hk2, hd⟩ := drop_at hd
   have hz1 := hz _ List.mem_cons_self
   have hz2 := hz _ (List.mem_cons_of_mem _ List.mem_cons_self)
   rw [pg_step hk (by rw [sc_tb]; exact sc_last x) (by rw [sc_tb]; exact sc_cl hw) (by rw [sc_tb]; exact stp_sc hw _ _ _ hz1),
    pg_step hk2 (by rw [st_tb hx]; exact st_last hx) (by rw [st_tb hx]; exact st_cl hx) (by rw [st_tb hx]; exact stp_st hx _ _ _ (by omega)),
    pg_prt r x.1 L (k + 1 + 1) _ hr2 ho2 hd (fun p hp => hz p (List.mem_cons_of_mem _ (List.mem_cons_of_mem _ hp)))]
   conv => rhs; unfold outP
   rw [hs, cond_false, List.append_assoc, show ((k + 1 + 1 : Nat) : Int) = (k : Int) + 2 from by omega, show ((k + 1 : Nat) : Int) + 1 = (k : Int) + 2 from by omega]
   rfl
theorem prn_p {l : List Setting} {t : ByteArray} (h : prnF l = (t, 0)) : l.all rgtB = true ∧ ordB eB l = true ∧ (prL eB l).length ≤ 8192 ∧ (prL eB l).count 10 ≤ 200 ∧ t = mkB (prL eB l) := by
 unfold prnF at h
 cases h1 : l.all rgtB with
 | false => rw [h1] at h; cases h
 | true =>
  rw [h1, cond_true] at h
  cases h2 : ordB eB l with
  | false => rw [h2] at h; cases h
  | true =>
   rw [h2, cond_true] at h
   cases h3 : (decide ((prL eB l).length ≤ 8192) && decide ((prL eB l).count 10 ≤ 200)) with
   | false => rw [h3] at h; cases h
   | true =>
    rw [h3, cond_true] at h
    obtain ⟨h4, h5⟩ := Bool.and_eq_true_iff.1 h3
    exact ⟨rfl, rfl, of_decide_eq_true h4, of_decide_eq_true h5, (congrArg Prod.fst h).symm⟩
theorem par_prn {l : List Setting} {t : ByteArray} (h : prnF l = (t, 0)) : parF t = (outP eB 0 l, 0, 0) := by
 obtain ⟨h1, h2, h3, h4, rfl⟩ := prn_p h
 have hL : lnL (prL eB l) = lnP eB l := lnL_flat (lnP_no10 l eB h1)
 have hB : lnB (mkB (prL eB l)) = (lnP eB l).map mkB := by
  unfold lnB
  rw [bl_mk, hL]
 have hg := pg_prt l eB ((lnP eB l).map mkB) 0 [] h1 h2 rfl (fun p hp => by
  rw [← hL] at hp
  have := (lnL_all _ p hp).1
  omega)
 rw [Int.natCast_zero] at hg
 have h5 : igt (slen (mkB (prL eB l))) 8192 = false := decide_eq_false (by simp only [slen, mk_size]; omega)
 have h6 : igt (endN (mkB (prL eB l))) 200 = false := decide_eq_false (by unfold endN; rw [bl_mk]; omega)
 unfold parF
 rw [h5, h6, hB, hg]
 rfl
def stripS (l : List Setting) : List (ByteArray × ByteArray × ByteArray) := l.map fun x => (x.1, x.2.1, x.2.2.1)
theorem outP_strip : ∀ (l : List Setting) (sec : ByteArray) (k : Int), stripS (outP sec k l) = stripS l
 | [], _, _ => rfl
 | x :: r, sec, k => by
  unfold outP
  cases seq x.1 sec with
  | true => exact congrArg (List.cons _) (outP_strip r x.1 (k + 1))
  | false => exact congrArg (List.cons _) (outP_strip r x.1 (k + 2))
theorem strip_ind : ∀ a b : List Setting, stripS a = stripS b → a.all rgtB = b.all rgtB ∧ ∀ sec, ordB sec a = ordB sec b ∧ lnP sec a = lnP sec b
 | [], [], _ => ⟨rfl, fun _ => ⟨rfl, rfl⟩⟩
 | [], y :: b, h => by cases h
 | x :: a, [], h => by cases h
 |(x1, x2, x3, x4, xu) :: a, (y1, y2, y3, y4, yu) :: b, h => by
  have h : (x1, x2, x3) :: stripS a = (y1, y2, y3) :: stripS b := h
  injection h with e1 e2
  injection e1 with e3 e4
  injection e4 with e5 e6
  subst e3 e5 e6
  obtain ⟨i1, i2⟩ := strip_ind a b e2
  refine ⟨?_, fun sec => ⟨?_, ?_⟩⟩
  ·rw [List.all_cons, List.all_cons, i1]
   rfl
  ·unfold ordB
   rw [(i2 x1).1]
  ·unfold lnP
   rw [(i2 x1).2]
   rfl
theorem prn_strip {a b : List Setting} (h : stripS a = stripS b) : prnF a = prnF b := by
 obtain ⟨h1, h2⟩ := strip_ind a b h
 unfold prnF prL
 rw [h1, (h2 eB).1, (h2 eB).2]
theorem prn_back {l : List Setting} {t : ByteArray} (h : prnF l = (t, 0)) : (parF t).2.2 = 0 ∧ (parF t).2.1 = 0 ∧ stripS (parF t).1 = stripS l ∧ prnF (parF t).1 = (t, 0) := by
 rw [par_prn h]
 exact ⟨rfl, rfl, outP_strip l eB 0, by rw [prn_strip (outP_strip l eB 0), h]⟩
end
end Go.Proofs.YtkkoedniahnneaaDoor.K
