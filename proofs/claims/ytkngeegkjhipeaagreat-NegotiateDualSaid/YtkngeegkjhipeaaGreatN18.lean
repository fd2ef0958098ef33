import Derived.Test.YtkngeegkjhipeaaGreatN17
set_option linter.unusedSimpArgs false
set_option linter.unusedVariables false
namespace Go.Proofs.YtkngeegkjhipeaaGreat.K
open Go.RowKit
noncomputable section
abbrev sRoot : ByteArray := ByteArray.mk #[114, 111, 111, 116]
abbrev sSubs : List ByteArray := [ByteArray.mk #[99, 97], ByteArray.mk #[99, 98], ByteArray.mk #[99, 99]]
abbrev Up : Type := List Qaa × Dice × ByteArray × Int
def abvZ : Nat → Nat → Up → Up
 | 0, _, u => u
 | m + 1, i, (ab, d, iss, g) => abvZ m (i + 1) (cerV d iss (sSubs.getD i ByteArray.empty) (5, (2048, ())) ((11 + i : Nat) : Int) g true :: ab, cerN d iss (sSubs.getD i ByteArray.empty) (5, (2048, ())) ((11 + i : Nat) : Int) g true, sSubs.getD i ByteArray.empty, ((11 + i : Nat) : Int))
def upOk (u : Up) : Bool := dOk u.2.1 && decide (u.2.2.1.size ≤ 1000)
def chU (d : Dice) : Up := abvZ (dof d [1, 0, 2]).toNat 0 ([], dnext (dofN d [1, 0, 2]) 2, sRoot, 1 + dval (dofN d [1, 0, 2]) 2)
def chnV (d : Dice) (nm : ByteArray) (k : Keep) (id : Int) : List Qaa := cerV (chU d).2.1 (chU d).2.2.1 nm k id (chU d).2.2.2 false :: (chU d).1
def chnN (d : Dice) (nm : ByteArray) (k : Keep) (id : Int) : Dice := cerN (chU d).2.1 (chU d).2.2.1 nm k id (chU d).2.2.2 false
def chnOk (d : Dice) (nm : ByteArray) (_k : Keep) (_id : Int) : Bool := dOk d && decide (nm.size ≤ 1000)
theorem QoD (i : Nat) : (sSubs.getD i ByteArray.empty).size ≤ 2 := by
 rcases i with _ | _ | _ | i
 ·exact Nat.le_refl 2
 ·exact Nat.le_refl 2
 ·exact Nat.le_refl 2
 ·exact Nat.zero_le _
theorem Qzj {ab : List Qaa} {d : Dice} {iss : ByteArray} {g : Int} {i : Nat} (h : upOk (ab, d, iss, g) = true) : upOk (cerV d iss (sSubs.getD i ByteArray.empty) (5, (2048, ())) ((11 + i : Nat) : Int) g true :: ab, cerN d iss (sSubs.getD i ByteArray.empty) (5, (2048, ())) ((11 + i : Nat) : Int) g true, sSubs.getD i ByteArray.empty, ((11 + i : Nat) : Int)) = true := by
 simp only [upOk, Bool.and_eq_true, decide_eq_true_eq] at h ⊢
 exact ⟨QFN h.1, by have := QoD i; omega⟩
theorem Qti : ∀ (m i : Nat) (u : Up), upOk u = true → upOk (abvZ m i u) = true ∧ (abvZ m i u).1.length = u.1.length + m
 | 0, _, u, h => ⟨h, rfl⟩
 | m + 1, i, (ab, d, iss, g), h => by
  have := Qti m (i + 1) _ (Qzj (i := i) h)
  refine ⟨this.1, this.2.trans ?_⟩
  simp only [List.length_cons]
  omega
theorem cEta (c : Qaa) : (c.1, (c.2.1, (c.2.2.1, ((c.2.2.2.1.1, (c.2.2.2.1.2.1, ())), (c.2.2.2.2.1, ((c.2.2.2.2.2.1.1, (c.2.2.2.2.2.1.2.1, ())), (c.2.2.2.2.2.2.1, (c.2.2.2.2.2.2.2.1, (c.2.2.2.2.2.2.2.2.1, (c.2.2.2.2.2.2.2.2.2.1, (c.2.2.2.2.2.2.2.2.2.2.1, ((c.2.2.2.2.2.2.2.2.2.2.2.1.1, (c.2.2.2.2.2.2.2.2.2.2.2.1.2.1, ())), ())))))))))))) = c := rfl
abbrev upQ (n i : Int) (ab : List Qaa) (d : Dice) (iss : ByteArray) (g : Int) : Up := abvZ (n - i).toNat i.toNat (ab, d, iss, g)
def QiC : Fg := ⟨[(0, none), (1, some .str), (3, some tI), (6, none), (9, some tI), (10, some tI), (11, some .str), (12, none), (13, some tI)], [(6, some Qam), (12, none), (40, none), (42, none), (50000, some Qau)]⟩
noncomputable def Qkk : TC := (.mv [(40, 12)] (.sq (.sq (.reg (rT Tryz.f35 5)) (.cd (.t 24) .sk (.fg ⟨[(0, none), (1, some .str), (3, some tI), (6, none), (10, some tI), (11, some .str), (12, none)], [(6, some Qam), (12, none), (40, none), (42, none), (50000, some Qau)]⟩ (.ex 0)))) (.sq (.bk 1 (.sq (.reg (rT Tryz.f35 6)) (.sq (.reg (rT Tryz.f35 7)) (.sq (.reg (rT Tryz.f35 8)) (.reg (rT Tryz.f35 9)))))) (.reg (rT Tryz.f35 10)))))
noncomputable def Qz6 : TC := (.sq (.reg (rT Tryz.f35 0)) (.sq (.reg (rT Tryz.f35 1)) (.sq (.reg (rT Tryz.f35 2)) (.sq (.reg (rT Tryz.f35 3)) (.sq (.sq (.reg (rT Tryz.f35 4)) (.bk 0 (.nw 12 98 (.lp 0 QiC Qkk)))) (.sq (.reg (rT Tryz.f35 11)) .rt))))))
def QL5 : List (RV × Option Ty) := [((.t 8), some (.sl Qab))]
abbrev Qpd : Sh := ⟨[(0, .ptr 50000 0), (1, .ty .str), (3, .ty tI), (6, .ptr 6 0), (9, .ty tI), (10, .ty tI), (11, .ty .str), (12, .ms 12), (13, .ty tI)], [(6, .box Qam), (12, .arr 98 Qab), (40, .no), (42, .no), (50000, .box Qau)]⟩
def QoP (x1 : ByteArray) (x3 x9 x10 : Int) (x11 : ByteArray) (x13 : Int) (y6 : Keep) (y12 : List Qaa) (y50000 : Dice) : VS := Qpd.st ((), x1, x3, (), x9, x10, x11, (), x13, ()) (y6, y12, (), (), y50000, ())
abbrev QuG : Sh := ⟨[(0, .ptr 50000 0), (1, .ty .str), (3, .ty tI), (6, .ptr 6 0), (10, .ty tI), (11, .ty .str), (12, .ms 12)], [(6, .box Qam), (12, .arr 98 Qab), (40, .no), (42, .no), (50000, .box Qau)]⟩
def Qeq (x1 : ByteArray) (x3 x10 : Int) (x11 : ByteArray) (y6 : Keep) (y12 : List Qaa) (y50000 : Dice) : VS := QuG.st ((), x1, x3, (), x10, x11, (), ()) (y6, y12, (), (), y50000, ())
def QRs : VS → Option (Bool × List (Bool × Exit × VS)) := mkL Qpd (fun x y => (decide (0 ≤ x.2.2.2.2.2.2.2.2.1 ∧ x.2.2.2.2.2.2.2.2.1 ≤ x.2.2.2.2.1 ∧ x.2.2.2.2.1 ≤ 3 ∧ y.2.1.length ≤ x.2.2.2.2.2.2.2.2.1) && upOk (y.2.1, y.2.2.2.2.1, x.2.2.2.2.2.2.1, x.2.2.2.2.2.1))) (fun x y => [(true, .exit 0, Qeq (x.2.1) (x.2.2.1) ((upQ x.2.2.2.2.1 x.2.2.2.2.2.2.2.2.1 y.2.1 y.2.2.2.2.1 x.2.2.2.2.2.2.1 x.2.2.2.2.2.1).2.2.2) ((upQ x.2.2.2.2.1 x.2.2.2.2.2.2.2.2.1 y.2.1 y.2.2.2.2.1 x.2.2.2.2.2.2.1 x.2.2.2.2.2.1).2.2.1) (y.1) ((upQ x.2.2.2.2.1 x.2.2.2.2.2.2.2.2.1 y.2.1 y.2.2.2.2.1 x.2.2.2.2.2.2.1 x.2.2.2.2.2.1).1) ((upQ x.2.2.2.2.1 x.2.2.2.2.2.2.2.2.1 y.2.1 y.2.2.2.2.1 x.2.2.2.2.2.2.1 x.2.2.2.2.2.1).2.1))])
def g_f35 : G := ⟨TYs, [40, 53], 56, EL [(11, Qob), (32, Qjy), (57, QKY)], keeps, (Ls [QRs]), IL [], RL []⟩
def QGF (x1 : ByteArray) (x3 x9 x10 : Int) (x11 : ByteArray) (x13 : Int) (y6 : Keep) (y12 : List Qaa) (y50000 : Dice) : Option (Exit × VS) :=
 let a3 := (lgt .str ([(ByteArray.mk #[99, 97]), (ByteArray.mk #[99, 98]), (ByteArray.mk #[99, 99])]) (Int.toNat x13))
 let a4 := iadd .i64 11 x13
 let a1 := (cerV y50000 x11 a3 (5, (2048, ())) a4 x10 true)
 let a2 := ((a1.2).1, (((a1.2).2).1, ((((((a1.2).2).2).1).1, ((((((a1.2).2).2).1).2).1, ())), (((((a1.2).2).2).2).1, ((((((((a1.2).2).2).2).2).1).1, ((((((((a1.2).2).2).2).2).1).2).1, ())), (((((((a1.2).2).2).2).2).2).1, ((((((((a1.2).2).2).2).2).2).2).1, (((((((((a1.2).2).2).2).2).2).2).2).1, ((((((((((a1.2).2).2).2).2).2).2).2).2).1, (((((((((((a1.2).2).2).2).2).2).2).2).2).2).1, ((((((((((((((a1.2).2).2).2).2).2).2).2).2).2).2).1).1, ((((((((((((((a1.2).2).2).2).2).2).2).2).2).2).2).1).2).1, ())), ())))))))))))
 br (ilt x13 x9) (br (cIx ([(ByteArray.mk #[99, 97]), (ByteArray.mk #[99, 98]), (ByteArray.mk #[99, 99])]) x13) (br (cerOk y50000 x11 a3 (5, (2048, ())) a4 x10 true) (br (cApp ([(a1.1, a2)]) y12 152) (some (.normal, QoP x1 x3 x9 a4 a3 (iadd .i64 x13 1) y6 (([(a1.1, a2)]) ++ y12) (cerN y50000 x11 a3 (5, (2048, ())) a4 x10 true))) none) none) none) (some (.exit 0, Qeq x1 x3 x10 x11 y6 y12 y50000))
noncomputable def Qk1 (x1 : ByteArray) (x3 x9 x10 : Int) (x11 : ByteArray) (x13 : Int) (y6 : Keep) (y12 : List Qaa) (y50000 : Dice) : Option (Exit × VS) := loopF (Qaj g_f35 QiC Qkk) (QoP x1 x3 x9 x10 x11 x13 y6 y12 y50000)
noncomputable def Qp4 (x1 : ByteArray) (x3 x9 x10 : Int) (x11 : ByteArray) (x13 : Int) (y6 : Keep) (y12 : List Qaa) (y50000 : Dice) : Option (Exit × VS) :=
 let a3 := (lgt .str ([(ByteArray.mk #[99, 97]), (ByteArray.mk #[99, 98]), (ByteArray.mk #[99, 99])]) (Int.toNat x13))
 let a4 := iadd .i64 11 x13
 let a1 := (cerV y50000 x11 a3 (5, (2048, ())) a4 x10 true)
 let a2 := ((a1.2).1, (((a1.2).2).1, ((((((a1.2).2).2).1).1, ((((((a1.2).2).2).1).2).1, ())), (((((a1.2).2).2).2).1, ((((((((a1.2).2).2).2).2).1).1, ((((((((a1.2).2).2).2).2).1).2).1, ())), (((((((a1.2).2).2).2).2).2).1, ((((((((a1.2).2).2).2).2).2).2).1, (((((((((a1.2).2).2).2).2).2).2).2).1, ((((((((((a1.2).2).2).2).2).2).2).2).2).1, (((((((((((a1.2).2).2).2).2).2).2).2).2).2).1, ((((((((((((((a1.2).2).2).2).2).2).2).2).2).2).2).1).1, ((((((((((((((a1.2).2).2).2).2).2).2).2).2).2).2).1).2).1, ())), ())))))))))))
 br (ilt x13 x9) (br (cIx ([(ByteArray.mk #[99, 97]), (ByteArray.mk #[99, 98]), (ByteArray.mk #[99, 99])]) x13) (br (cerOk y50000 x11 a3 (5, (2048, ())) a4 x10 true) (br (cApp ([(a1.1, a2)]) y12 152) (Qk1 x1 x3 x9 a4 a3 (iadd .i64 x13 1) y6 (([(a1.1, a2)]) ++ y12) (cerN y50000 x11 a3 (5, (2048, ())) a4 x10 true)) none) none) none) (some (.exit 0, Qeq x1 x3 x10 x11 y6 y12 y50000))
def Qlg (x1 : ByteArray) (x3 x9 x10 : Int) (x11 : ByteArray) (x13 : Int) (y6 : Keep) (y12 : List Qaa) (y50000 : Dice) : Option (Exit × VS) :=
 let a1 := upQ x9 x13 y12 y50000 x11 x10
 some (.exit 0, Qeq (x1) (x3) (a1.2.2.2) (a1.2.2.1) (y6) (a1.1) (a1.2.1))
theorem QJ1 (x1 : ByteArray) (x3 x9 x10 : Int) (x11 : ByteArray) (x13 : Int) (y6 : Keep) (y12 : List Qaa) (y50000 : Dice) : Qaj g_f35 QiC Qkk (QoP x1 x3 x9 x10 x11 x13 y6 y12 y50000) = QGF x1 x3 x9 x10 x11 x13 y6 y12 y50000 := by kernel_rfl
theorem QwM (x1 : ByteArray) (x3 x9 x10 : Int) (x11 : ByteArray) (x13 : Int) (y6 : Keep) (y12 : List Qaa) (y50000 : Dice) : Qk1 x1 x3 x9 x10 x11 x13 y6 y12 y50000 = Qp4 x1 x3 x9 x10 x11 x13 y6 y12 y50000 := (Qaq _ _).trans (by
 rw [QJ1]
 simp only [QGF, Qp4, QaE, nxt_n, nxt_r, nxt_e, nxt_0]
 rfl)
def r_f35 (d0 : Dice) (p1 : ByteArray) (p2 : Keep) (p3 : Int) : Option (V × List VO) :=
 let a4 := (dofN d0 ([1, 0, 2]))
 let a1 := (upQ (dof d0 ([1, 0, 2])) (0 : Int) ([] : List Qaa) (dnext a4 2) (ByteArray.mk #[114, 111, 111, 116]) (iadd .i64 1 (dval a4 2)))
 let a2 := cerV (a1.2.1) (a1.2.2.1) (p1) (p2) (p3) (a1.2.2.2) false
 let a3 := ((a2.2).1, (((a2.2).2).1, ((((((a2.2).2).2).1).1, ((((((a2.2).2).2).1).2).1, ())), (((((a2.2).2).2).2).1, ((((((((a2.2).2).2).2).2).1).1, ((((((((a2.2).2).2).2).2).1).2).1, ())), (((((((a2.2).2).2).2).2).2).1, ((((((((a2.2).2).2).2).2).2).2).1, (((((((((a2.2).2).2).2).2).2).2).2).1, ((((((((((a2.2).2).2).2).2).2).2).2).2).1, (((((((((((a2.2).2).2).2).2).2).2).2).2).2).1, ((((((((((((((a2.2).2).2).2).2).2).2).2).2).2).2).1).1, ((((((((((((((a2.2).2).2).2).2).2).2).2).2).2).2).1).2).1, ())), ())))))))))))
 br (ofOk d0 ([1, 0, 2])) (br (QaN a4 2) (br (decide (0 ≤ (0 : Int) ∧ (0 : Int) ≤ (dof d0 ([1, 0, 2])) ∧ (dof d0 ([1, 0, 2])) ≤ 3 ∧ ([] : List Qaa).length ≤ (0 : Int)) && upOk (([] : List Qaa), (dnext a4 2), (ByteArray.mk #[114, 111, 111, 116]), (iadd .i64 1 (dval a4 2)))) (br (cerOk (a1.2.1) (a1.2.2.1) (p1) (p2) (p3) (a1.2.2.2) false) (br (cApp ([(a2.1, a3)]) (a1.1) 152) (some (.t (.sl Qab) (([(a2.1, a3)]) ++ (a1.1)), [.box (.t Qau (cerN (a1.2.1) (a1.2.2.1) (p1) (p2) (p3) (a1.2.2.2) false))])) none) none) none) none) none
theorem e_f35 (d0 : Dice) (p1 : ByteArray) (p2 : Keep) (p3 : Int) : runF g_f35 Qz6 QL5 false [.ptr 50000 0, .t .str p1, .t Qam p2, .t tI p3] [.box (.t Qau d0)] = r_f35 d0 p1 p2 p3 := by kernel_rfl
theorem en_f35 : Qag Tryz.prog 35 := .inr ⟨by decide, _, Tryz.func35, by kernel_rfl, by kernel_rfl⟩
theorem gk_f35 : GOk Tryz.prog g_f35 := Qan _ (gA (gC Qs4 Qsi (gC QnD Qm3 (gC en_f57 ms_f57 gN))))
theorem QPn (x1 : ByteArray) (x3 x9 x10 : Int) (x11 : ByteArray) (x13 : Int) (y6 : Keep) (y12 : List Qaa) (y50000 : Dice) (h : (decide (0 ≤ x13 ∧ x13 ≤ x9 ∧ x9 ≤ 3 ∧ y12.length ≤ x13) && upOk (y12, y50000, x11, x10)) = true) : Qk1 x1 x3 x9 x10 x11 x13 y6 y12 y50000 = Qlg x1 x3 x9 x10 x11 x13 y6 y12 y50000 := by
 obtain ⟨h, hu⟩ := Bool.and_eq_true_iff.1 h
 obtain ⟨h0, h1, h2, h3⟩ := of_decide_eq_true h
 clear h
 obtain ⟨k, rfl⟩ := Int.eq_ofNat_of_zero_le h0
 obtain ⟨n, rfl⟩ := Int.eq_ofNat_of_zero_le (show 0 ≤ x9 by omega)
 have key : ∀ (m k : Nat) (x10 : Int) (x11 : ByteArray) (y12 : List Qaa) (y50000 : Dice), m = n - k → k ≤ n → y12.length ≤ k → upOk (y12, y50000, x11, x10) = true → Qk1 x1 x3 (n : Int) x10 x11 (k : Int) y6 y12 y50000 = Qlg x1 x3 (n : Int) x10 x11 (k : Int) y6 y12 y50000 := by
  intro m
  induction m with
  | zero =>
   intro k x10 x11 y12 y50000 hm h1 h3 hu
   have : k = n := by omega
   subst this
   rw [QwM]
   simp only [Qp4, Qlg, show ilt (k : Int) (k : Int) = false from decide_eq_false (by omega), Qae, upQ, Int.sub_self, Int.toNat_zero, abvZ]
  | succ m ih =>
   intro k x10 x11 y12 y50000 hm h1 h3 hu
   rw [QwM]
   have hk : k < 3 := by omega
   have c1 : cIx sSubs (k : Int) = true := by rw [Qay]; exact decide_eq_true hk
   have e1 : iadd .i64 11 (k : Int) = ((11 + k : Nat) : Int) := (Qb9 (by omega)).trans (by omega)
   have hu2 := Bool.and_eq_true_iff.1 hu
   have hu3 : x11.size ≤ 1000 := of_decide_eq_true hu2.2
   have c2 : cerOk y50000 x11 (sSubs.getD k ByteArray.empty) (5, (2048, ())) ((11 + k : Nat) : Int) x10 true = true := Bool.and_eq_true_iff.2 ⟨hu2.1, decide_eq_true ⟨hu3, by have := QoD k; omega⟩⟩
   have c3 : ∀ c : Qaa, cApp [c] y12 152 = true := fun c => cAppN (by omega) (by simp only [List.length_singleton]; omega)
   have hg : lgt .str sSubs k = sSubs.getD k ByteArray.empty := rfl
   simp only [Qp4, cEta, show ilt (k : Int) (n : Int) = true from decide_eq_true (by omega), Qac, c1, e1, Int.toNat_natCast, hg, c2, c3, add1 (show k < 4611686018427387904 by omega), List.singleton_append]
   rw [ih (k + 1) _ _ _ _ (by omega) (by omega) (by simp only [List.length_cons]; omega) (Qzj hu)]
   have q1 : ((n : Int) - (k : Int)).toNat = m + 1 := by omega
   have q2 : ((n : Int) - ((k + 1 : Nat) : Int)).toNat = m := by omega
   simp only [Qlg, upQ, q1, q2, Int.toNat_natCast, abvZ]
 exact key _ k _ _ _ _ rfl (by omega) (by omega) hu
theorem QH6 : ∀ S l p, g_f35.L 0 (fgt QiC S) = some (true, l) → pickA l = some p → loopF (Qaj g_f35 QiC Qkk) S = some p :=
 QaF (s := Qpd) ⟨by decide, by decide⟩ (by kernel_rfl) fun x y hok p hp => by
 simp only [Qas, Qap] at hp
 exact (QPn x.2.1 x.2.2.1 x.2.2.2.2.1 x.2.2.2.2.2.1 x.2.2.2.2.2.2.1 x.2.2.2.2.2.2.2.2.1 y.1 y.2.1 y.2.2.2.2.1 (by simpa using hok)).trans hp
theorem lk_f35 : Qz6.lok g_f35 := by
 repeat (first | exact trivial | exact QH6 | refine ⟨?_, ?_⟩)
theorem s_f35 (d : Dice) (nm : ByteArray) (k : Keep) (id : Int) (h : chnOk d nm k id = true) : r_f35 d nm k id = some (.t (.sl Qab) (chnV d nm k id), [.box (.t Qau (chnN d nm k id))]) := by
 simp only [chnOk, Bool.and_eq_true, decide_eq_true_eq] at h
 obtain ⟨h, hn⟩ := h
 have h1 : ofOk d [1, 0, 2] = true := QdP h (by decide) (by decide)
 have k1 := QaZ (l := [1, 0, 2]) h
 have h2 : QaN (dofN d [1, 0, 2]) 2 = true := Qa1 k1 (by omega)
 have b2 := QbF (d := dofN d [1, 0, 2]) (n := 2) (by omega)
 have e2 : iadd .i64 1 (dval (dofN d [1, 0, 2]) 2) = 1 + dval (dofN d [1, 0, 2]) 2 := Qb9 (by omega)
 have hm := Qbx (d := d) (l := [1, 0, 2]) (by decide)
 simp only [List.mem_cons, List.not_mem_nil, or_false] at hm
 have hu0 : upOk ([], dnext (dofN d [1, 0, 2]) 2, sRoot, 1 + dval (dofN d [1, 0, 2]) 2) = true := Bool.and_eq_true_iff.2 ⟨Qat (n := 2) k1, rfl⟩
 obtain ⟨hv, hl⟩ := Qti (dof d [1, 0, 2]).toNat 0 _ hu0
 have hv2 := Bool.and_eq_true_iff.1 hv
 have hv3 : (chU d).2.2.1.size ≤ 1000 := of_decide_eq_true hv2.2
 have c5 : cerOk (chU d).2.1 (chU d).2.2.1 nm k id (chU d).2.2.2 false = true := Bool.and_eq_true_iff.2 ⟨hv2.1, decide_eq_true ⟨hv3, hn⟩⟩
 have hl2 : (chU d).1.length ≤ 3 := by
  unfold chU
  rw [hl]
  simp only [List.length_nil]
  omega
 have c6 : ∀ c : Qaa, cApp [c] (chU d).1 152 = true := fun c => cAppN (by omega) (by simp only [List.length_singleton]; omega)
 have c7 : (decide ((0 : Int) ≤ 0 ∧ (0 : Int) ≤ dof d [1, 0, 2] ∧ dof d [1, 0, 2] ≤ 3 ∧ (([] : List Qaa).length : Int) ≤ 0) && upOk ([], dnext (dofN d [1, 0, 2]) 2, sRoot, 1 + dval (dofN d [1, 0, 2]) 2)) = true := Bool.and_eq_true_iff.2 ⟨decide_eq_true ⟨Int.le_refl _, by omega, by omega, Int.le_refl _⟩, hu0⟩
 have e3 : upQ (dof d [1, 0, 2]) 0 [] (dnext (dofN d [1, 0, 2]) 2) sRoot (1 + dval (dofN d [1, 0, 2]) 2) = chU d := by
  unfold upQ chU
  rw [Int.sub_zero, Int.toNat_zero]
 simp only [r_f35, h1, h2, e2, Qac, cEta, e3, c5, c6]
 refine Eq.trans (congrArg (fun b => br b _ _) c7) ?_
 rfl
def QK9 : Ent := specP Qau (.pr .str (.pr Qam (.pr tI .nil))) (fun d x => (chnOk d x.1 x.2.1 x.2.2.1)) (fun d x => (.t (.sl Qab) (chnV d x.1 x.2.1 x.2.2.1))) (fun d x => (chnN d x.1 x.2.1 x.2.2.1))
theorem ms_f35 : Meets Tryz.prog 35 (strip QK9) := QbD (R := runF g_f35 Qz6 QL5 false) (mG Tryz.func35 (by kernel_rfl) Tryz.ntmps35 (by kernel_rfl) gk_f35 lk_f35) rfl fun d x hok => (e_f35 d x.1 x.2.1 x.2.2.1).trans (s_f35 d x.1 x.2.1 x.2.2.1 hok)
end
end Go.Proofs.YtkngeegkjhipeaaGreat.K
