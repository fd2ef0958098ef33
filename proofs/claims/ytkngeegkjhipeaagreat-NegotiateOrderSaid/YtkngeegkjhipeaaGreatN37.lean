import Derived.Test.YtkngeegkjhipeaaGreatN36
set_option linter.unusedSimpArgs false
set_option linter.unusedVariables false
namespace Go.Proofs.YtkngeegkjhipeaaGreat.K
open Go.RowKit
noncomputable section
theorem QFp {α : Type} (l : List α) : ilt (l.length : Int) (llen l) = false := decide_eq_false (by simp only [llen]; omega)
theorem QNs {α : Type} {l : List α} {k : Nat} (h : k < l.length) : ilt (k : Int) (llen l) = true := decide_eq_true (by simp only [llen]; omega)
def rotAt (l : List Int) (t k : Nat) : Int := l.getD ((k + t) % l.length) 0
def rotP (a l : List Int) (t k : Nat) : List Int := a.take k ++ (List.range' k (l.length - k)).map (rotAt l t)
theorem Qsj {a l : List Int} {t k : Nat} (hk : k < l.length) (ha : a.length = l.length) : rotP (a.set k (rotAt l t k)) l t (k + 1) = rotP a l t k := by
 have e1 : l.length - k = (l.length - (k + 1)) + 1 := by omega
 have e2 : (a.set k (rotAt l t k)).take (k + 1) = a.take k ++ [rotAt l t k] := by
  rw [List.set_eq_take_append_cons_drop, if_pos (by omega)]
  have : a.take k ++ rotAt l t k :: a.drop (k + 1) = (a.take k ++ [rotAt l t k]) ++ a.drop (k + 1) := by simp
  rw [this]
  exact List.take_left' (by simp only [List.length_append, List.length_take, List.length_singleton]; omega)
 unfold rotP
 rw [e1, List.range'_succ, List.map_cons, e2, List.append_assoc, List.singleton_append]
theorem QwM {a l : List Int} {t : Nat} (ha : a.length = l.length) : rotP a l t l.length = a := by
 unfold rotP
 rw [Nat.sub_self, ← ha, List.take_length]
 exact List.append_nil _
theorem rotP_0 (l : List Int) (t : Nat) : rotP l l t 0 = rotS l t := by
 unfold rotP rotS
 rw [List.take_zero, List.nil_append, Nat.sub_zero, List.range_eq_range']
 rfl
def QNc (_l : List Int) (_t : Int) : Bool := true
def ordOk (_l : List Int) (t : Int) : Bool := decide (0 ≤ t ∧ t ≤ 255)
noncomputable def QRP : List DO := dT Tryz.f5 5
noncomputable def QRO : List DO := dT Tryz.f5 8
noncomputable def QRN : List DO := dT Tryz.f5 12
noncomputable def QRM : List DO := dT Tryz.f5 19
def QnJ : Fg := ⟨[(1, some (.int .u8)), (6, none), (7, none), (8, none), (9, none), (10, some tI)], [(6, some Qah), (7, some Qah), (8, none), (9, none), (26, none), (30, none), (32, none), (5026, none), (5030, none), (5032, none), (10026, none), (10030, none), (10032, none), (15026, none), (15030, none), (15032, none)]⟩
noncomputable def QoT : TC := (.sq (.sq (.reg (rT Tryz.f5 7)) (.cd (.t 37) .sk (.fg ⟨[(1, some (.int .u8)), (6, none), (7, none), (8, none), (9, none)], [(6, some Qah), (7, some Qah), (8, some Qah), (9, some Qah), (26, none), (30, none), (32, none), (5026, none), (5030, none), (5032, none), (10026, none), (10030, none), (10032, none), (15026, none), (15030, none), (15032, none)]⟩ (.ex 0)))) (.sq (.bk 1 (.dr QRO [(0, [8, 30, 5030, 10030, 15030]), (1, [8, 30, 5030, 10030, 15030]), (2, []), (3, [6, 26, 5026, 10026, 15026]), (4, [6, 26, 5026, 10026, 15026]), (5, []), (6, []), (7, []), (8, []), (9, [6, 26, 5026, 10026, 15026]), (10, [6, 26, 5026, 10026, 15026]), (11, [26, 5026, 10026, 15026]), (12, []), (13, [26, 5026, 10026, 15026]), (14, [26, 5026, 10026, 15026]), (15, [30, 5030, 10030, 15030]), (16, [8, 30, 5030, 10030, 15030])] (.of [0, 1, 2, 3, 4, 5, 6, 7, 8, 9, 10, 11, 12, 13, 14, 15, 16]))) (.reg (rT Tryz.f5 9))))
def QnI : Fg := ⟨[(1, some (.int .u8)), (6, none), (7, none), (8, none), (9, none), (11, some tI)], [(6, some Qah), (7, some Qah), (8, none), (9, none), (26, none), (30, none), (32, none), (5026, none), (5030, none), (5032, none), (10026, none), (10030, none), (10032, none), (15026, none), (15030, none), (15032, none)]⟩
noncomputable def QoS : TC := (.sq (.sq (.reg (rT Tryz.f5 11)) (.cd (.t 60) .sk (.fg ⟨[(6, none), (7, none), (8, none), (9, none)], [(6, some Qah), (7, some Qah), (8, some Qah), (9, some Qah), (26, none), (30, none), (32, none), (5026, none), (5030, none), (5032, none), (10026, none), (10030, none), (10032, none), (15026, none), (15030, none), (15032, none)]⟩ (.ex 2)))) (.sq (.bk 3 (.dr QRN [(0, [9, 32, 5032, 10032, 15032]), (1, [9, 32, 5032, 10032, 15032]), (2, []), (3, [7, 26, 5026, 10026, 15026]), (4, [7, 26, 5026, 10026, 15026]), (5, []), (6, []), (7, []), (8, []), (9, [7, 26, 5026, 10026, 15026]), (10, [7, 26, 5026, 10026, 15026]), (11, [26, 5026, 10026, 15026]), (12, []), (13, [26, 5026, 10026, 15026]), (14, [26, 5026, 10026, 15026]), (15, [32, 5032, 10032, 15032]), (16, [9, 32, 5032, 10032, 15032])] (.of [0, 1, 2, 3, 4, 5, 6, 7, 8, 9, 10, 11, 12, 13, 14, 15, 16]))) (.reg (rT Tryz.f5 13))))
noncomputable def tc_f5 : TC := (.sq (.reg (rT Tryz.f5 0)) (.sq (.sq (.reg (rT Tryz.f5 1)) (.cd (.t 20) (.sq (.reg (rT Tryz.f5 2)) .rt) .sk)) (.sq (.reg (rT Tryz.f5 3)) (.sq (.reg (rT Tryz.f5 4)) (.sq (.dr QRP [(0, [6, 26, 5026, 10026, 15026]), (1, [6, 7, 26, 30, 5026, 5030, 10026, 10030, 15026, 15030]), (2, [7, 26, 5026, 10026, 15026]), (3, [6, 7, 26, 32, 5026, 5032, 10026, 10032, 15026, 15032]), (4, [8, 5008, 10008, 15008]), (5, [9, 5009, 10009, 15009]), (6, [8, 30, 5030, 10030, 15030]), (7, [9, 32, 5032, 10032, 15032])] (.one 0 (.alt 1 (.one 2 (.alt 3 (.alt 4 (.of [5, 6, 7]) (.of [5, 4, 6, 7])) (.alt 4 (.alt 3 (.of [5, 6, 7]) (.of [5, 3, 6, 7])) (.one 5 (.alt 3 (.of [4, 6, 7]) (.of [4, 3, 6, 7])))))) (.alt 2 (.alt 1 (.alt 3 (.alt 4 (.of [5, 6, 7]) (.of [5, 4, 6, 7])) (.alt 4 (.alt 3 (.of [5, 6, 7]) (.of [5, 3, 6, 7])) (.one 5 (.alt 3 (.of [4, 6, 7]) (.of [4, 3, 6, 7]))))) (.alt 4 (.alt 1 (.alt 3 (.of [5, 6, 7]) (.of [5, 3, 6, 7])) (.of [5, 1, 3, 6, 7])) (.one 5 (.alt 1 (.alt 3 (.of [4, 6, 7]) (.of [4, 3, 6, 7])) (.of [4, 1, 3, 6, 7]))))) (.alt 4 (.alt 1 (.one 2 (.alt 3 (.of [5, 6, 7]) (.of [5, 3, 6, 7]))) (.alt 2 (.alt 1 (.alt 3 (.of [5, 6, 7]) (.of [5, 3, 6, 7])) (.of [5, 1, 3, 6, 7])) (.one 5 (.alt 1 (.of [2, 3, 6, 7]) (.of [2, 1, 3, 6, 7]))))) (.one 5 (.alt 1 (.one 2 (.alt 3 (.of [4, 6, 7]) (.of [4, 3, 6, 7]))) (.alt 2 (.alt 1 (.alt 3 (.of [4, 6, 7]) (.of [4, 3, 6, 7])) (.of [4, 1, 3, 6, 7])) (.one 4 (.alt 1 (.of [2, 3, 6, 7]) (.of [2, 1, 3, 6, 7]))))))))))) (.sq (.sq (.reg (rT Tryz.f5 6)) (.bk 0 (.lp 0 QnJ QoT))) (.sq (.sq (.reg (rT Tryz.f5 10)) (.bk 2 (.lp 1 QnI QoS))) (.sq (.reg (rT Tryz.f5 14)) (.sq (.reg (rT Tryz.f5 15)) (.sq (.reg (rT Tryz.f5 16)) (.sq (.sq (.reg (rT Tryz.f5 17)) (.cd (.t 123) (.sq (.reg (rT Tryz.f5 18)) .rt) .sk)) (.sq (.dr QRM [(0, [6, 26, 5026, 10026, 15026]), (1, [7, 26, 5026, 10026, 15026]), (2, [6, 7, 26, 126, 5026, 5126, 10026, 10126, 15026, 15126]), (3, [8, 30, 5030, 10030, 15030]), (4, [9, 32, 5032, 10032, 15032]), (5, [8, 9, 30, 32, 129, 5030, 5032, 5129, 10030, 10032, 10129, 15030, 15032, 15129]), (6, []), (7, []), (8, []), (9, []), (10, [])] (.of [0, 1, 3, 4, 2, 5, 6, 7, 8, 9, 10])) .rt))))))))))))
def rv_f5 : List (RV × Option Ty) := [((.t 4), some .bool)]
abbrev Qu3 : Sh := ⟨[(1, .ty (.int .u8)), (6, .ptr 6 0), (7, .ptr 7 0), (8, .ptr 8 0), (9, .ptr 9 0), (10, .ty tI)], [(6, .box Qah), (7, .box Qah), (8, .bag [.ty .str, .ty tI, .ty tI, .ms 30, .ty .bool, .ms 5030, .ms 10030, .ms 15030, .ty .bool]), (9, .bag [.ty .str, .ty tI, .ty tI, .ms 32, .ty .bool, .ms 5032, .ms 10032, .ms 15032, .ty .bool]), (26, .no), (30, .arr 3 tI), (32, .arr 3 tI), (5026, .no), (5030, .arr 60 Qam), (5032, .arr 60 Qam), (10026, .no), (10030, .arr 3 tI), (10032, .arr 3 tI), (15026, .no), (15030, .arr 3 tI), (15032, .arr 3 tI)]⟩
def QuF (x1 x10 : Int) (y6 y7 : Qad) (y8_0 : ByteArray) (y8_1 y8_2 : Int) (y8_4 y8_8 : Bool) (y9_0 : ByteArray) (y9_1 y9_2 : Int) (y9_4 y9_8 : Bool) (y30 y32 : List Int) (y5030 y5032 : List Qal) (y10030 y10032 y15030 y15032 : List Int) : VS := Qu3.st (x1, (), (), (), (), x10, ()) (y6, y7, (y8_0, y8_1, y8_2, (), y8_4, (), (), (), y8_8, ()), (y9_0, y9_1, y9_2, (), y9_4, (), (), (), y9_8, ()), (), y30, y32, (), y5030, y5032, (), y10030, y10032, (), y15030, y15032, ())
abbrev Qzb : Sh := ⟨[(1, .ty (.int .u8)), (6, .ptr 6 0), (7, .ptr 7 0), (8, .ptr 8 0), (9, .ptr 9 0)], [(6, .box Qah), (7, .box Qah), (8, .bag [.ty .str, .ty tI, .ty tI, .ms 30, .ty .bool, .ms 5030, .ms 10030, .ms 15030, .ty .bool]), (9, .bag [.ty .str, .ty tI, .ty tI, .ms 32, .ty .bool, .ms 5032, .ms 10032, .ms 15032, .ty .bool]), (26, .no), (30, .arr 3 tI), (32, .arr 3 tI), (5026, .no), (5030, .arr 60 Qam), (5032, .arr 60 Qam), (10026, .no), (10030, .arr 3 tI), (10032, .arr 3 tI), (15026, .no), (15030, .arr 3 tI), (15032, .arr 3 tI)]⟩
def QfZ (x1 : Int) (y6 y7 : Qad) (y8_0 : ByteArray) (y8_1 y8_2 : Int) (y8_4 y8_8 : Bool) (y9_0 : ByteArray) (y9_1 y9_2 : Int) (y9_4 y9_8 : Bool) (y30 y32 : List Int) (y5030 y5032 : List Qal) (y10030 y10032 y15030 y15032 : List Int) : VS := Qzb.st (x1, (), (), (), (), ()) (y6, y7, (y8_0, y8_1, y8_2, (), y8_4, (), (), (), y8_8, ()), (y9_0, y9_1, y9_2, (), y9_4, (), (), (), y9_8, ()), (), y30, y32, (), y5030, y5032, (), y10030, y10032, (), y15030, y15032, ())
abbrev Qu2 : Sh := ⟨[(1, .ty (.int .u8)), (6, .ptr 6 0), (7, .ptr 7 0), (8, .ptr 8 0), (9, .ptr 9 0), (11, .ty tI)], [(6, .box Qah), (7, .box Qah), (8, .bag [.ty .str, .ty tI, .ty tI, .ms 30, .ty .bool, .ms 5030, .ms 10030, .ms 15030, .ty .bool]), (9, .bag [.ty .str, .ty tI, .ty tI, .ms 32, .ty .bool, .ms 5032, .ms 10032, .ms 15032, .ty .bool]), (26, .no), (30, .arr 3 tI), (32, .arr 3 tI), (5026, .no), (5030, .arr 60 Qam), (5032, .arr 60 Qam), (10026, .no), (10030, .arr 3 tI), (10032, .arr 3 tI), (15026, .no), (15030, .arr 3 tI), (15032, .arr 3 tI)]⟩
def QuE (x1 x11 : Int) (y6 y7 : Qad) (y8_0 : ByteArray) (y8_1 y8_2 : Int) (y8_4 y8_8 : Bool) (y9_0 : ByteArray) (y9_1 y9_2 : Int) (y9_4 y9_8 : Bool) (y30 y32 : List Int) (y5030 y5032 : List Qal) (y10030 y10032 y15030 y15032 : List Int) : VS := Qu2.st (x1, (), (), (), (), x11, ()) (y6, y7, (y8_0, y8_1, y8_2, (), y8_4, (), (), (), y8_8, ()), (y9_0, y9_1, y9_2, (), y9_4, (), (), (), y9_8, ()), (), y30, y32, (), y5030, y5032, (), y10030, y10032, (), y15030, y15032, ())
abbrev Qza : Sh := ⟨[(6, .ptr 6 0), (7, .ptr 7 0), (8, .ptr 8 0), (9, .ptr 9 0)], [(6, .box Qah), (7, .box Qah), (8, .bag [.ty .str, .ty tI, .ty tI, .ms 30, .ty .bool, .ms 5030, .ms 10030, .ms 15030, .ty .bool]), (9, .bag [.ty .str, .ty tI, .ty tI, .ms 32, .ty .bool, .ms 5032, .ms 10032, .ms 15032, .ty .bool]), (26, .no), (30, .arr 3 tI), (32, .arr 3 tI), (5026, .no), (5030, .arr 60 Qam), (5032, .arr 60 Qam), (10026, .no), (10030, .arr 3 tI), (10032, .arr 3 tI), (15026, .no), (15030, .arr 3 tI), (15032, .arr 3 tI)]⟩
def QfY (y6 y7 : Qad) (y8_0 : ByteArray) (y8_1 y8_2 : Int) (y8_4 y8_8 : Bool) (y9_0 : ByteArray) (y9_1 y9_2 : Int) (y9_4 y9_8 : Bool) (y30 y32 : List Int) (y5030 y5032 : List Qal) (y10030 y10032 y15030 y15032 : List Int) : VS := Qza.st ((), (), (), (), ()) (y6, y7, (y8_0, y8_1, y8_2, (), y8_4, (), (), (), y8_8, ()), (y9_0, y9_1, y9_2, (), y9_4, (), (), (), y9_8, ()), (), y30, y32, (), y5030, y5032, (), y10030, y10032, (), y15030, y15032, ())
def L_f5_0 : VS → Option (Bool × List (Bool × Exit × VS)) := mkL Qu3 (fun x y => (decide (0 ≤ x.2.2.2.2.2.1 ∧ x.2.2.2.2.2.1 ≤ (Qak y.1).length ∧ y.2.2.2.2.2.1.length = (Qak y.1).length ∧ (Qak y.1).length ≤ 100000 ∧ 0 ≤ x.1 ∧ x.1 ≤ 255))) (fun x y => [(true, .exit 0, QfZ (x.1) (y.1) (y.2.1) (y.2.2.1.1) (y.2.2.1.2.1) (y.2.2.1.2.2.1) (y.2.2.1.2.2.2.2.1) (y.2.2.1.2.2.2.2.2.2.2.2.1) (y.2.2.2.1.1) (y.2.2.2.1.2.1) (y.2.2.2.1.2.2.1) (y.2.2.2.1.2.2.2.2.1) (y.2.2.2.1.2.2.2.2.2.2.2.2.1) (rotP y.2.2.2.2.2.1 (Qak y.1) x.1.toNat x.2.2.2.2.2.1.toNat) (y.2.2.2.2.2.2.1) (y.2.2.2.2.2.2.2.2.1) (y.2.2.2.2.2.2.2.2.2.1) (y.2.2.2.2.2.2.2.2.2.2.2.1) (y.2.2.2.2.2.2.2.2.2.2.2.2.1) (y.2.2.2.2.2.2.2.2.2.2.2.2.2.2.1) (y.2.2.2.2.2.2.2.2.2.2.2.2.2.2.2.1))])
def L_f5_1 : VS → Option (Bool × List (Bool × Exit × VS)) := mkL Qu2 (fun x y => (decide (0 ≤ x.2.2.2.2.2.1 ∧ x.2.2.2.2.2.1 ≤ (Qak y.2.1).length ∧ y.2.2.2.2.2.2.1.length = (Qak y.2.1).length ∧ (Qak y.2.1).length ≤ 100000 ∧ 0 ≤ x.1 ∧ x.1 ≤ 255))) (fun x y => [(true, .exit 2, QfY (y.1) (y.2.1) (y.2.2.1.1) (y.2.2.1.2.1) (y.2.2.1.2.2.1) (y.2.2.1.2.2.2.2.1) (y.2.2.1.2.2.2.2.2.2.2.2.1) (y.2.2.2.1.1) (y.2.2.2.1.2.1) (y.2.2.2.1.2.2.1) (y.2.2.2.1.2.2.2.2.1) (y.2.2.2.1.2.2.2.2.2.2.2.2.1) (y.2.2.2.2.2.1) (rotP y.2.2.2.2.2.2.1 (Qak y.2.1) x.1.toNat x.2.2.2.2.2.1.toNat) (y.2.2.2.2.2.2.2.2.1) (y.2.2.2.2.2.2.2.2.2.1) (y.2.2.2.2.2.2.2.2.2.2.2.1) (y.2.2.2.2.2.2.2.2.2.2.2.2.1) (y.2.2.2.2.2.2.2.2.2.2.2.2.2.2.1) (y.2.2.2.2.2.2.2.2.2.2.2.2.2.2.2.1))])
def g_f5 : G := ⟨TYs, [], 134, EL [(7, sp_f7), (8, sp_f8), (9, sp_f9), (10, QLZ), (14, QBE), (18, QLW), (19, QBh), (29, QLS)], keeps, (Ls [L_f5_0, L_f5_1]), IL [], RL []⟩
def QNO (x1 x10 : Int) (y6 y7 : Qad) (y8_0 : ByteArray) (y8_1 y8_2 : Int) (y8_4 y8_8 : Bool) (y9_0 : ByteArray) (y9_1 y9_2 : Int) (y9_4 y9_8 : Bool) (y30 y32 : List Int) (y5030 y5032 : List Qal) (y10030 y10032 y15030 y15032 : List Int) : Option (Exit × VS) :=
 let a1 := irem (iadd .i64 x10 (icv .i64 x1)) (llen y6.2.2.2.1)
 br (ilt x10 (llen y6.2.2.2.1)) (br (cNz (llen y6.2.2.2.1)) (br (cIx y6.2.2.2.1 a1) (br (cIx y30 x10) (br (cLd y30 (Int.toNat x10)) (some (.normal, QuF x1 (iadd .i64 x10 1) y6 y7 y8_0 y8_1 y8_2 y8_4 y8_8 y9_0 y9_1 y9_2 y9_4 y9_8 (List.set y30 (Int.toNat x10) (lgt tI y6.2.2.2.1 (Int.toNat a1))) y32 y5030 y5032 y10030 y10032 y15030 y15032)) none) none) none) none) (some (.exit 0, QfZ x1 y6 y7 y8_0 y8_1 y8_2 y8_4 y8_8 y9_0 y9_1 y9_2 y9_4 y9_8 y30 y32 y5030 y5032 y10030 y10032 y15030 y15032))
noncomputable def Qnh (x1 x10 : Int) (y6 y7 : Qad) (y8_0 : ByteArray) (y8_1 y8_2 : Int) (y8_4 y8_8 : Bool) (y9_0 : ByteArray) (y9_1 y9_2 : Int) (y9_4 y9_8 : Bool) (y30 y32 : List Int) (y5030 y5032 : List Qal) (y10030 y10032 y15030 y15032 : List Int) : Option (Exit × VS) := loopF (Qaj g_f5 QnJ QoT) (QuF x1 x10 y6 y7 y8_0 y8_1 y8_2 y8_4 y8_8 y9_0 y9_1 y9_2 y9_4 y9_8 y30 y32 y5030 y5032 y10030 y10032 y15030 y15032)
noncomputable def Qw5 (x1 x10 : Int) (y6 y7 : Qad) (y8_0 : ByteArray) (y8_1 y8_2 : Int) (y8_4 y8_8 : Bool) (y9_0 : ByteArray) (y9_1 y9_2 : Int) (y9_4 y9_8 : Bool) (y30 y32 : List Int) (y5030 y5032 : List Qal) (y10030 y10032 y15030 y15032 : List Int) : Option (Exit × VS) :=
 let a1 := irem (iadd .i64 x10 (icv .i64 x1)) (llen y6.2.2.2.1)
 br (ilt x10 (llen y6.2.2.2.1)) (br (cNz (llen y6.2.2.2.1)) (br (cIx y6.2.2.2.1 a1) (br (cIx y30 x10) (br (cLd y30 (Int.toNat x10)) (Qnh x1 (iadd .i64 x10 1) y6 y7 y8_0 y8_1 y8_2 y8_4 y8_8 y9_0 y9_1 y9_2 y9_4 y9_8 (List.set y30 (Int.toNat x10) (lgt tI y6.2.2.2.1 (Int.toNat a1))) y32 y5030 y5032 y10030 y10032 y15030 y15032) none) none) none) none) (some (.exit 0, QfZ x1 y6 y7 y8_0 y8_1 y8_2 y8_4 y8_8 y9_0 y9_1 y9_2 y9_4 y9_8 y30 y32 y5030 y5032 y10030 y10032 y15030 y15032))
def Qnt (x1 x10 : Int) (y6 y7 : Qad) (y8_0 : ByteArray) (y8_1 y8_2 : Int) (y8_4 y8_8 : Bool) (y9_0 : ByteArray) (y9_1 y9_2 : Int) (y9_4 y9_8 : Bool) (y30 y32 : List Int) (y5030 y5032 : List Qal) (y10030 y10032 y15030 y15032 : List Int) : Option (Exit × VS) := some (.exit 0, QfZ (x1) (y6) (y7) (y8_0) (y8_1) (y8_2) (y8_4) (y8_8) (y9_0) (y9_1) (y9_2) (y9_4) (y9_8) (rotP y30 (Qak y6) x1.toNat x10.toNat) (y32) (y5030) (y5032) (y10030) (y10032) (y15030) (y15032))
theorem QR2 (x1 x10 : Int) (y6 y7 : Qad) (y8_0 : ByteArray) (y8_1 y8_2 : Int) (y8_4 y8_8 : Bool) (y9_0 : ByteArray) (y9_1 y9_2 : Int) (y9_4 y9_8 : Bool) (y30 y32 : List Int) (y5030 y5032 : List Qal) (y10030 y10032 y15030 y15032 : List Int) : Qaj g_f5 QnJ QoT (QuF x1 x10 y6 y7 y8_0 y8_1 y8_2 y8_4 y8_8 y9_0 y9_1 y9_2 y9_4 y9_8 y30 y32 y5030 y5032 y10030 y10032 y15030 y15032) = QNO x1 x10 y6 y7 y8_0 y8_1 y8_2 y8_4 y8_8 y9_0 y9_1 y9_2 y9_4 y9_8 y30 y32 y5030 y5032 y10030 y10032 y15030 y15032 := by kernel_rfl
theorem QEW (x1 x10 : Int) (y6 y7 : Qad) (y8_0 : ByteArray) (y8_1 y8_2 : Int) (y8_4 y8_8 : Bool) (y9_0 : ByteArray) (y9_1 y9_2 : Int) (y9_4 y9_8 : Bool) (y30 y32 : List Int) (y5030 y5032 : List Qal) (y10030 y10032 y15030 y15032 : List Int) : Qnh x1 x10 y6 y7 y8_0 y8_1 y8_2 y8_4 y8_8 y9_0 y9_1 y9_2 y9_4 y9_8 y30 y32 y5030 y5032 y10030 y10032 y15030 y15032 = Qw5 x1 x10 y6 y7 y8_0 y8_1 y8_2 y8_4 y8_8 y9_0 y9_1 y9_2 y9_4 y9_8 y30 y32 y5030 y5032 y10030 y10032 y15030 y15032 := (Qaq _ _).trans (by
 rw [QR2]
 simp only [QNO, Qw5, QaE, nxt_n, nxt_r, nxt_e, nxt_0]
 rfl)
def QNN (x1 x11 : Int) (y6 y7 : Qad) (y8_0 : ByteArray) (y8_1 y8_2 : Int) (y8_4 y8_8 : Bool) (y9_0 : ByteArray) (y9_1 y9_2 : Int) (y9_4 y9_8 : Bool) (y30 y32 : List Int) (y5030 y5032 : List Qal) (y10030 y10032 y15030 y15032 : List Int) : Option (Exit × VS) :=
 let a1 := irem (iadd .i64 x11 (icv .i64 x1)) (llen y7.2.2.2.1)
 br (ilt x11 (llen y7.2.2.2.1)) (br (cNz (llen y7.2.2.2.1)) (br (cIx y7.2.2.2.1 a1) (br (cIx y32 x11) (br (cLd y32 (Int.toNat x11)) (some (.normal, QuE x1 (iadd .i64 x11 1) y6 y7 y8_0 y8_1 y8_2 y8_4 y8_8 y9_0 y9_1 y9_2 y9_4 y9_8 y30 (List.set y32 (Int.toNat x11) (lgt tI y7.2.2.2.1 (Int.toNat a1))) y5030 y5032 y10030 y10032 y15030 y15032)) none) none) none) none) (some (.exit 2, QfY y6 y7 y8_0 y8_1 y8_2 y8_4 y8_8 y9_0 y9_1 y9_2 y9_4 y9_8 y30 y32 y5030 y5032 y10030 y10032 y15030 y15032))
noncomputable def Qng (x1 x11 : Int) (y6 y7 : Qad) (y8_0 : ByteArray) (y8_1 y8_2 : Int) (y8_4 y8_8 : Bool) (y9_0 : ByteArray) (y9_1 y9_2 : Int) (y9_4 y9_8 : Bool) (y30 y32 : List Int) (y5030 y5032 : List Qal) (y10030 y10032 y15030 y15032 : List Int) : Option (Exit × VS) := loopF (Qaj g_f5 QnI QoS) (QuE x1 x11 y6 y7 y8_0 y8_1 y8_2 y8_4 y8_8 y9_0 y9_1 y9_2 y9_4 y9_8 y30 y32 y5030 y5032 y10030 y10032 y15030 y15032)
noncomputable def Qw4 (x1 x11 : Int) (y6 y7 : Qad) (y8_0 : ByteArray) (y8_1 y8_2 : Int) (y8_4 y8_8 : Bool) (y9_0 : ByteArray) (y9_1 y9_2 : Int) (y9_4 y9_8 : Bool) (y30 y32 : List Int) (y5030 y5032 : List Qal) (y10030 y10032 y15030 y15032 : List Int) : Option (Exit × VS) :=
 let a1 := irem (iadd .i64 x11 (icv .i64 x1)) (llen y7.2.2.2.1)
 br (ilt x11 (llen y7.2.2.2.1)) (br (cNz (llen y7.2.2.2.1)) (br (cIx y7.2.2.2.1 a1) (br (cIx y32 x11) (br (cLd y32 (Int.toNat x11)) (Qng x1 (iadd .i64 x11 1) y6 y7 y8_0 y8_1 y8_2 y8_4 y8_8 y9_0 y9_1 y9_2 y9_4 y9_8 y30 (List.set y32 (Int.toNat x11) (lgt tI y7.2.2.2.1 (Int.toNat a1))) y5030 y5032 y10030 y10032 y15030 y15032) none) none) none) none) (some (.exit 2, QfY y6 y7 y8_0 y8_1 y8_2 y8_4 y8_8 y9_0 y9_1 y9_2 y9_4 y9_8 y30 y32 y5030 y5032 y10030 y10032 y15030 y15032))
def Qns (x1 x11 : Int) (y6 y7 : Qad) (y8_0 : ByteArray) (y8_1 y8_2 : Int) (y8_4 y8_8 : Bool) (y9_0 : ByteArray) (y9_1 y9_2 : Int) (y9_4 y9_8 : Bool) (y30 y32 : List Int) (y5030 y5032 : List Qal) (y10030 y10032 y15030 y15032 : List Int) : Option (Exit × VS) := some (.exit 2, QfY (y6) (y7) (y8_0) (y8_1) (y8_2) (y8_4) (y8_8) (y9_0) (y9_1) (y9_2) (y9_4) (y9_8) (y30) (rotP y32 (Qak y7) x1.toNat x11.toNat) (y5030) (y5032) (y10030) (y10032) (y15030) (y15032))
theorem QR1 (x1 x11 : Int) (y6 y7 : Qad) (y8_0 : ByteArray) (y8_1 y8_2 : Int) (y8_4 y8_8 : Bool) (y9_0 : ByteArray) (y9_1 y9_2 : Int) (y9_4 y9_8 : Bool) (y30 y32 : List Int) (y5030 y5032 : List Qal) (y10030 y10032 y15030 y15032 : List Int) : Qaj g_f5 QnI QoS (QuE x1 x11 y6 y7 y8_0 y8_1 y8_2 y8_4 y8_8 y9_0 y9_1 y9_2 y9_4 y9_8 y30 y32 y5030 y5032 y10030 y10032 y15030 y15032) = QNN x1 x11 y6 y7 y8_0 y8_1 y8_2 y8_4 y8_8 y9_0 y9_1 y9_2 y9_4 y9_8 y30 y32 y5030 y5032 y10030 y10032 y15030 y15032 := by kernel_rfl
theorem QEV (x1 x11 : Int) (y6 y7 : Qad) (y8_0 : ByteArray) (y8_1 y8_2 : Int) (y8_4 y8_8 : Bool) (y9_0 : ByteArray) (y9_1 y9_2 : Int) (y9_4 y9_8 : Bool) (y30 y32 : List Int) (y5030 y5032 : List Qal) (y10030 y10032 y15030 y15032 : List Int) : Qng x1 x11 y6 y7 y8_0 y8_1 y8_2 y8_4 y8_8 y9_0 y9_1 y9_2 y9_4 y9_8 y30 y32 y5030 y5032 y10030 y10032 y15030 y15032 = Qw4 x1 x11 y6 y7 y8_0 y8_1 y8_2 y8_4 y8_8 y9_0 y9_1 y9_2 y9_4 y9_8 y30 y32 y5030 y5032 y10030 y10032 y15030 y15032 := (Qaq _ _).trans (by
 rw [QR1]
 simp only [QNN, Qw4, QaE, nxt_n, nxt_r, nxt_e, nxt_0]
 rfl)
def QwU (p0 : List Int) (p1 : Int) : Option (V × List VO) :=
 let a1 := (((prV (roll p0)).1).1, ((((prV (roll p0)).1).2).1, (((((prV (roll p0)).1).2).2).1, ((((((prV (roll p0)).1).2).2).2).1, (((((((prV (roll p0)).1).2).2).2).2).1, ((((((((prV (roll p0)).1).2).2).2).2).2).1, (((((((((prV (roll p0)).1).2).2).2).2).2).2).1, ((((((((((prV (roll p0)).1).2).2).2).2).2).2).2).1, (((((((((((prV (roll p0)).1).2).2).2).2).2).2).2).2).1, ())))))))))
 let a2 := (((prV (roll p0)).2).1, ((((prV (roll p0)).2).2).1, (((((prV (roll p0)).2).2).2).1, ((((((prV (roll p0)).2).2).2).2).1, (((((((prV (roll p0)).2).2).2).2).2).1, ((((((((prV (roll p0)).2).2).2).2).2).2).1, (((((((((prV (roll p0)).2).2).2).2).2).2).2).1, ((((((((((prV (roll p0)).2).2).2).2).2).2).2).2).1, (((((((((((prV (roll p0)).2).2).2).2).2).2).2).2).2).1, ())))))))))
 let a4 := ((((copyE a1).2).2).2)
 let a6 := (((a4.2).2).2)
 let a5 := ((((copyE a2).2).2).2)
 let a7 := (((a5.2).2).2)
 let a3 := (Qbl (((copyE a1).1), ((((copyE a1).2).1), (((((copyE a1).2).2).1), ((rotP (a4.1) (Qak a1) p1.toNat (0 : Int).toNat), (((a4.2).1), ((((a4.2).2).1), ((a6.1), (((a6.2).1), ((((a6.2).2).1), ()))))))))) (((copyE a2).1), ((((copyE a2).2).1), (((((copyE a2).2).2).1), ((rotP (a5.1) (Qak a2) (p1).toNat (0 : Int).toNat), (((a5.2).1), ((((a5.2).2).1), ((a7.1), (((a7.2).1), ((((a7.2).2).1), ()))))))))))
 br (QbC a1 a2) (br (QbC (((copyE a1).1), ((((copyE a1).2).1), (((((copyE a1).2).2).1), ((rotP (a4.1) (Qak a1) p1.toNat (0 : Int).toNat), (((a4.2).1), ((((a4.2).2).1), ((a6.1), (((a6.2).1), ((((a6.2).2).1), ()))))))))) (((copyE a2).1), ((((copyE a2).2).1), (((((copyE a2).2).2).1), ((rotP (a5.1) (Qak a2) (p1).toNat (0 : Int).toNat), (((a5.2).1), ((((a5.2).2).1), ((a7.1), (((a7.2).1), ((((a7.2).2).1), ())))))))))) (br (QmP (Qbl a1 a2) a3) (br (sameO (Qbl a1 a2) a3) (some (.t .bool QlG, [])) (some (.t .bool false, []))) none) none) none
def QwV (p0 : List Int) (p1 : Int) : Option (V × List VO) :=
 let a1 := (((prV (roll p0)).2).1, ((((prV (roll p0)).2).2).1, (((((prV (roll p0)).2).2).2).1, ((((((prV (roll p0)).2).2).2).2).1, (((((((prV (roll p0)).2).2).2).2).2).1, ((((((((prV (roll p0)).2).2).2).2).2).2).1, (((((((((prV (roll p0)).2).2).2).2).2).2).2).1, ((((((((((prV (roll p0)).2).2).2).2).2).2).2).2).1, (((((((((((prV (roll p0)).2).2).2).2).2).2).2).2).2).1, ())))))))))
 let a2 := (((prV (roll p0)).1).1, ((((prV (roll p0)).1).2).1, (((((prV (roll p0)).1).2).2).1, ((((((prV (roll p0)).1).2).2).2).1, (((((((prV (roll p0)).1).2).2).2).2).1, ((((((((prV (roll p0)).1).2).2).2).2).2).1, (((((((((prV (roll p0)).1).2).2).2).2).2).2).1, ((((((((((prV (roll p0)).1).2).2).2).2).2).2).2).1, (((((((((((prV (roll p0)).1).2).2).2).2).2).2).2).2).1, ())))))))))
 let a3 := (Qbm a2 (((copyE a1).1), ((((copyE a1).2).1), (((((copyE a1).2).2).1), ((rotP (((((copyE a1).2).2).2).1) (Qak a1) (p1).toNat (0 : Int).toNat), (((((((copyE a1).2).2).2).2).1), ((((((((copyE a1).2).2).2).2).2).1), (((((((((copyE a1).2).2).2).2).2).2).1), ((((((((((copyE a1).2).2).2).2).2).2).2).1), (((((((((((copyE a1).2).2).2).2).2).2).2).2).1), ()))))))))) 15)
 let a4 := Qbm a2 a1 15
 br (!(((((a1.2).2).2).2).1)) (br (!(and (ieq ((a4.1).1) ((a3.1).1)) (and (ieq (((a4.1).2).1) (((a3.1).2).1)) true))) (some (.t .bool false, [])) (br (ine (a4.2) (a3.2)) (some (.t .bool false, [])) (QwU p0 p1))) (QwU p0 p1)
def Qsq (p0 : List Int) (p1 : Int) : Option (V × List VO) :=
 let a1 := (((prV (roll p0)).1).1, ((((prV (roll p0)).1).2).1, (((((prV (roll p0)).1).2).2).1, ((((((prV (roll p0)).1).2).2).2).1, (((((((prV (roll p0)).1).2).2).2).2).1, ((((((((prV (roll p0)).1).2).2).2).2).2).1, (((((((((prV (roll p0)).1).2).2).2).2).2).2).1, ((((((((((prV (roll p0)).1).2).2).2).2).2).2).2).1, (((((((((((prV (roll p0)).1).2).2).2).2).2).2).2).2).1, ())))))))))
 let a2 := (((prV (roll p0)).2).1, ((((prV (roll p0)).2).2).1, (((((prV (roll p0)).2).2).2).1, ((((((prV (roll p0)).2).2).2).2).1, (((((((prV (roll p0)).2).2).2).2).2).1, ((((((((prV (roll p0)).2).2).2).2).2).2).1, (((((((((prV (roll p0)).2).2).2).2).2).2).2).1, ((((((((((prV (roll p0)).2).2).2).2).2).2).2).2).1, (((((((((((prV (roll p0)).2).2).2).2).2).2).2).2).2).1, ())))))))))
 let a3 := (((copyE a1).1), ((((copyE a1).2).1), (((((copyE a1).2).2).1), ((rotP (((((copyE a1).2).2).2).1) (Qak a1) p1.toNat (0 : Int).toNat), (((((((copyE a1).2).2).2).2).1), ((((((((copyE a1).2).2).2).2).2).1), (((((((((copyE a1).2).2).2).2).2).2).1), ((((((((((copyE a1).2).2).2).2).2).2).2).1), (((((((((((copyE a1).2).2).2).2).2).2).2).2).1), ())))))))))
 let a4 := ((((copyE a2).2).2).2)
 let a5 := Qbm a1 a2 15
 let a6 := Qbm a3 a2 15
 let a7 := (((a4.2).2).2)
 br (decide (0 ≤ (0 : Int) ∧ (0 : Int) ≤ (Qak a1).length ∧ (((((copyE a1).2).2).2).1).length = (Qak a1).length ∧ (Qak a1).length ≤ 100000 ∧ 0 ≤ p1 ∧ p1 ≤ 255)) (br (decide (0 ≤ (0 : Int) ∧ (0 : Int) ≤ (Qak a2).length ∧ (a4.1).length = (Qak a2).length ∧ (Qak a2).length ≤ 100000 ∧ 0 ≤ (p1) ∧ (p1) ≤ 255)) (br (QeV a1 a2 15) (br (QeV a3 a2 15) (br (QeV a1 (((copyE a2).1), ((((copyE a2).2).1), (((((copyE a2).2).2).1), ((rotP (a4.1) (Qak a2) (p1).toNat (0 : Int).toNat), (((a4.2).1), ((((a4.2).2).1), ((a7.1), (((a7.2).1), ((((a7.2).2).1), ()))))))))) 15) (br (((((a2.2).2).2).2).1) (br (!(and (ieq ((a5.1).1) ((a6.1).1)) (and (ieq (((a5.1).2).1) (((a6.1).2).1)) true))) (some (.t .bool false, [])) (br (ine (a5.2) (a6.2)) (some (.t .bool false, [])) (QwV p0 p1))) (QwV p0 p1)) none) none) none) none) none
def Qso (p0 : List Int) (p1 : Int) : Option (V × List VO) :=
 let a1 := ((((prV (roll p0)).2).2).2)
 let a2 := (((a1.2).2).2)
 br (Qa2 (((prV (roll p0)).2).1, ((((prV (roll p0)).2).2).1, (a1.1, ((a1.2).1, (((a1.2).2).1, (a2.1, ((a2.2).1, (((a2.2).2).1, ((((a2.2).2).2).1, ())))))))))) (Qsq p0 p1) none
def Qsp (p0 : List Int) (p1 : Int) : Option (V × List VO) := frk (Qso p0 p1) (Qso p0 p1)
def QwW (p0 : List Int) (p1 : Int) : Option (V × List VO) :=
 let a1 := prV (roll p0)
 let a2 := (((((a1.1).2).2).2).2)
 let a3 := (((((a1.2).2).2).2).2)
 br (Qa2 ((a1.1).1, (((a1.1).2).1, ((((a1.1).2).2).1, (((((a1.1).2).2).2).1, (a2.1, ((a2.2).1, (((a2.2).2).1, ((((a2.2).2).2).1, (((((a2.2).2).2).2).1, ())))))))))) (frk (br (Qa2 ((a1.2).1, (((a1.2).2).1, ((((a1.2).2).2).1, (((((a1.2).2).2).2).1, (a3.1, ((a3.2).1, (((a3.2).2).1, ((((a3.2).2).2).1, (((((a3.2).2).2).2).1, ())))))))))) (frk (Qsq p0 p1) (Qsq p0 p1)) none) (frk (Qsp p0 p1) (Qsp p0 p1))) none
def QwT (p0 : List Int) (p1 : Int) : Option (V × List VO) :=
 let a1 := ((((prV (roll p0)).1).2).2)
 let a2 := (((a1.2).2).2)
 br (Qa2 (((prV (roll p0)).1).1, ((((prV (roll p0)).1).2).1, (a1.1, ((a1.2).1, (((a1.2).2).1, (a2.1, ((a2.2).1, (((a2.2).2).1, ((((a2.2).2).2).1, ())))))))))) (Qsp p0 p1) none
def Qsm (p0 : List Int) (p1 : Int) : Option (V × List VO) :=
 let a1 := ((((prV (roll p0)).1).2).2)
 let a2 := (((a1.2).2).2)
 br (Qa2 (((prV (roll p0)).1).1, ((((prV (roll p0)).1).2).1, (a1.1, ((a1.2).1, (((a1.2).2).1, (a2.1, ((a2.2).1, (((a2.2).2).1, ((((a2.2).2).2).1, ())))))))))) (Qso p0 p1) none
def Qsn (p0 : List Int) (p1 : Int) : Option (V × List VO) := frk (QwT p0 p1) (Qsm p0 p1)
def QpX (p0 : List Int) (p1 : Int) : Option (V × List VO) := frk (QwT p0 p1) (frk (Qsn p0 p1) (frk (Qsm p0 p1) (Qsm p0 p1)))
def r_f5 (p0 : List Int) (p1 : Int) : Option (V × List VO) := br (!(light p0)) (some (.t .bool QlG, [])) (br (dOk (roll p0)) (frk (QwW p0 p1) (frk (frk (QwW p0 p1) (frk (Qsn p0 p1) (Qsn p0 p1))) (frk (QpX p0 p1) (QpX p0 p1)))) none)
theorem e_f5 (p0 : List Int) (p1 : Int) : runF g_f5 tc_f5 rv_f5 false [.t (.sl tI) p0, .t (.int .u8) p1] [] = r_f5 p0 p1 := by kernel_rfl
theorem gk_f5 : GOk Tryz.prog g_f5 := Qao _ (gA (gC en_f7 ms_f7 (gC en_f8 ms_f8 (gC en_f9 ms_f9 (gC en_f10 ms_f10 (gC QNJ QNp (gC en_f18 ms_f18 (gC QNI QNo (gC en_f29 ms_f29 gN)))))))))
theorem QM2 {l : List Int} {k : Nat} {t : Int} (hk : k < l.length) (hl : l.length ≤ 100000) (ht : 0 ≤ t ∧ t ≤ 255) : irem (iadd .i64 (k : Int) (icv .i64 t)) (llen l) = (((k + t.toNat) % l.length : Nat) : Int) ∧ cNz (llen l) = true ∧ (k + t.toNat) % l.length < l.length := by
 have e1 : icv .i64 t = t := Go.IntWalk.i64_in _ (by omega)
 have e2 : iadd .i64 (k : Int) t = ((k + t.toNat : Nat) : Int) := by rw [QbX (by omega)]; omega
 have e3 : irem ((k + t.toNat : Nat) : Int) (llen l) = (((k + t.toNat) % l.length : Nat) : Int) := by
  show Int.tmod ((k + t.toNat : Nat) : Int) ((l.length : Nat) : Int) = _
  exact Int.ofNat_tmod _ _
 refine ⟨by rw [e1, e2, e3], decide_eq_true (by unfold llen; omega), Nat.mod_lt _ (by omega)⟩
theorem l_f5_0 (x1 x10 : Int) (y6 y7 : Qad) (y8_0 : ByteArray) (y8_1 y8_2 : Int) (y8_4 y8_8 : Bool) (y9_0 : ByteArray) (y9_1 y9_2 : Int) (y9_4 y9_8 : Bool) (y30 y32 : List Int) (y5030 y5032 : List Qal) (y10030 y10032 y15030 y15032 : List Int) (h : (decide (0 ≤ x10 ∧ x10 ≤ (Qak y6).length ∧ y30.length = (Qak y6).length ∧ (Qak y6).length ≤ 100000 ∧ 0 ≤ x1 ∧ x1 ≤ 255)) = true) : Qnh x1 x10 y6 y7 y8_0 y8_1 y8_2 y8_4 y8_8 y9_0 y9_1 y9_2 y9_4 y9_8 y30 y32 y5030 y5032 y10030 y10032 y15030 y15032 = Qnt x1 x10 y6 y7 y8_0 y8_1 y8_2 y8_4 y8_8 y9_0 y9_1 y9_2 y9_4 y9_8 y30 y32 y5030 y5032 y10030 y10032 y15030 y15032 := by
 obtain ⟨h0, h1, h2, h3, h4⟩ := of_decide_eq_true h
 obtain ⟨k, rfl⟩ := Int.eq_ofNat_of_zero_le h0
 have key : ∀ k, k ≤ (Qak y6).length → ∀ y30 : List Int, y30.length = (Qak y6).length → Qnh x1 (k : Int) y6 y7 y8_0 y8_1 y8_2 y8_4 y8_8 y9_0 y9_1 y9_2 y9_4 y9_8 y30 y32 y5030 y5032 y10030 y10032 y15030 y15032 = Qnt x1 (k : Int) y6 y7 y8_0 y8_1 y8_2 y8_4 y8_8 y9_0 y9_1 y9_2 y9_4 y9_8 y30 y32 y5030 y5032 y10030 y10032 y15030 y15032 := by
  refine Qav (Qak y6) (fun k => ∀ y30 : List Int, y30.length = (Qak y6).length → Qnh x1 (k : Int) y6 y7 y8_0 y8_1 y8_2 y8_4 y8_8 y9_0 y9_1 y9_2 y9_4 y9_8 y30 y32 y5030 y5032 y10030 y10032 y15030 y15032 = Qnt x1 (k : Int) y6 y7 y8_0 y8_1 y8_2 y8_4 y8_8 y9_0 y9_1 y9_2 y9_4 y9_8 y30 y32 y5030 y5032 y10030 y10032 y15030 y15032) ?_ ?_
  ·intro y30 hy
   rw [QEW]
   simp only [Qw5, Qnt, QFp (Qak y6), Qae, Int.toNat_natCast, QwM hy]
  ·intro k hk ih y30 hy
   rw [QEW]
   obtain ⟨e1, e2, e3⟩ := QM2 hk h3 h4
   have c1 : cLd y30 k = true := decide_eq_true (by rw [hy]; omega)
   have hk2 : k < y30.length := by rw [hy]; exact hk
   have hg : lgt tI y6.2.2.2.1 ((k + x1.toNat) % (Qak y6).length) = rotAt (Qak y6) x1.toNat k := rfl
   simp only [Qw5, QNs (l := Qak y6) hk, e1, e2, e3, Qay, hk2, decide_true, Qac, Int.toNat_natCast, add1 (show k < 4611686018427387904 by omega), c1, hg]
   rw [ih (y30.set k (rotAt (Qak y6) x1.toNat k)) (by rw [List.length_set]; exact hy)]
   simp only [Qnt, Int.toNat_natCast, Qsj hk hy]
 exact key k (by omega) y30 h2
theorem l_f5_1 (x1 x11 : Int) (y6 y7 : Qad) (y8_0 : ByteArray) (y8_1 y8_2 : Int) (y8_4 y8_8 : Bool) (y9_0 : ByteArray) (y9_1 y9_2 : Int) (y9_4 y9_8 : Bool) (y30 y32 : List Int) (y5030 y5032 : List Qal) (y10030 y10032 y15030 y15032 : List Int) (h : (decide (0 ≤ x11 ∧ x11 ≤ (Qak y7).length ∧ y32.length = (Qak y7).length ∧ (Qak y7).length ≤ 100000 ∧ 0 ≤ x1 ∧ x1 ≤ 255)) = true) : Qng x1 x11 y6 y7 y8_0 y8_1 y8_2 y8_4 y8_8 y9_0 y9_1 y9_2 y9_4 y9_8 y30 y32 y5030 y5032 y10030 y10032 y15030 y15032 = Qns x1 x11 y6 y7 y8_0 y8_1 y8_2 y8_4 y8_8 y9_0 y9_1 y9_2 y9_4 y9_8 y30 y32 y5030 y5032 y10030 y10032 y15030 y15032 := by
 obtain ⟨h0, h1, h2, h3, h4⟩ := of_decide_eq_true h
 obtain ⟨k, rfl⟩ := Int.eq_ofNat_of_zero_le h0
 have key : ∀ k, k ≤ (Qak y7).length → ∀ y32 : List Int, y32.length = (Qak y7).length → Qng x1 (k : Int) y6 y7 y8_0 y8_1 y8_2 y8_4 y8_8 y9_0 y9_1 y9_2 y9_4 y9_8 y30 y32 y5030 y5032 y10030 y10032 y15030 y15032 = Qns x1 (k : Int) y6 y7 y8_0 y8_1 y8_2 y8_4 y8_8 y9_0 y9_1 y9_2 y9_4 y9_8 y30 y32 y5030 y5032 y10030 y10032 y15030 y15032 := by
  refine Qav (Qak y7) (fun k => ∀ y32 : List Int, y32.length = (Qak y7).length → Qng x1 (k : Int) y6 y7 y8_0 y8_1 y8_2 y8_4 y8_8 y9_0 y9_1 y9_2 y9_4 y9_8 y30 y32 y5030 y5032 y10030 y10032 y15030 y15032 = Qns x1 (k : Int) y6 y7 y8_0 y8_1 y8_2 y8_4 y8_8 y9_0 y9_1 y9_2 y9_4 y9_8 y30 y32 y5030 y5032 y10030 y10032 y15030 y15032) ?_ ?_
  ·intro y32 hy
   rw [QEV]
   simp only [Qw4, Qns, QFp (Qak y7), Qae, Int.toNat_natCast, QwM hy]
  ·intro k hk ih y32 hy
   rw [QEV]
   obtain ⟨e1, e2, e3⟩ := QM2 hk h3 h4
   have c1 : cLd y32 k = true := decide_eq_true (by rw [hy]; omega)
   have hk2 : k < y32.length := by rw [hy]; exact hk
   have hg : lgt tI y7.2.2.2.1 ((k + x1.toNat) % (Qak y7).length) = rotAt (Qak y7) x1.toNat k := rfl
   simp only [Qw4, QNs (l := Qak y7) hk, e1, e2, e3, Qay, hk2, decide_true, Qac, Int.toNat_natCast, add1 (show k < 4611686018427387904 by omega), c1, hg]
   rw [ih (y32.set k (rotAt (Qak y7) x1.toNat k)) (by rw [List.length_set]; exact hy)]
   simp only [Qns, Int.toNat_natCast, Qsj hk hy]
 exact key k (by omega) y32 h2
theorem QO8 : ∀ S l p, g_f5.L 0 (fgt QnJ S) = some (true, l) → pickA l = some p → loopF (Qaj g_f5 QnJ QoT) S = some p :=
 QaF (s := Qu3) ⟨by decide, by decide⟩ (by kernel_rfl) fun x y hok p hp => by
 simp only [Qar, Qap] at hp
 exact (l_f5_0 x.1 x.2.2.2.2.2.1 y.1 y.2.1 y.2.2.1.1 y.2.2.1.2.1 y.2.2.1.2.2.1 y.2.2.1.2.2.2.2.1 y.2.2.1.2.2.2.2.2.2.2.2.1 y.2.2.2.1.1 y.2.2.2.1.2.1 y.2.2.2.1.2.2.1 y.2.2.2.1.2.2.2.2.1 y.2.2.2.1.2.2.2.2.2.2.2.2.1 y.2.2.2.2.2.1 y.2.2.2.2.2.2.1 y.2.2.2.2.2.2.2.2.1 y.2.2.2.2.2.2.2.2.2.1 y.2.2.2.2.2.2.2.2.2.2.2.1 y.2.2.2.2.2.2.2.2.2.2.2.2.1 y.2.2.2.2.2.2.2.2.2.2.2.2.2.2.1 y.2.2.2.2.2.2.2.2.2.2.2.2.2.2.2.1 (by simpa using hok)).trans hp
theorem QO7 : ∀ S l p, g_f5.L 1 (fgt QnI S) = some (true, l) → pickA l = some p → loopF (Qaj g_f5 QnI QoS) S = some p :=
 QaF (s := Qu2) ⟨by decide, by decide⟩ (by kernel_rfl) fun x y hok p hp => by
 simp only [Qar, Qap] at hp
 exact (l_f5_1 x.1 x.2.2.2.2.2.1 y.1 y.2.1 y.2.2.1.1 y.2.2.1.2.1 y.2.2.1.2.2.1 y.2.2.1.2.2.2.2.1 y.2.2.1.2.2.2.2.2.2.2.2.1 y.2.2.2.1.1 y.2.2.2.1.2.1 y.2.2.2.1.2.2.1 y.2.2.2.1.2.2.2.2.1 y.2.2.2.1.2.2.2.2.2.2.2.2.1 y.2.2.2.2.2.1 y.2.2.2.2.2.2.1 y.2.2.2.2.2.2.2.2.1 y.2.2.2.2.2.2.2.2.2.1 y.2.2.2.2.2.2.2.2.2.2.2.1 y.2.2.2.2.2.2.2.2.2.2.2.2.1 y.2.2.2.2.2.2.2.2.2.2.2.2.2.2.1 y.2.2.2.2.2.2.2.2.2.2.2.2.2.2.2.1 (by simpa using hok)).trans hp
theorem lk_f5 : tc_f5.lok g_f5 := by
 repeat (first | exact trivial | exact QO8 | exact QO7 | refine ⟨?_, ?_⟩)
theorem sEta (e : Qad) (l : List Int) : (e.1, (e.2.1, (e.2.2.1, (l, (e.2.2.2.2.1, (e.2.2.2.2.2.1, (e.2.2.2.2.2.2.1, (e.2.2.2.2.2.2.2.1, (e.2.2.2.2.2.2.2.2.1, ()))))))))) = setS e l := rfl
theorem QB6 {e : Qad} {l : List Int} (h : Qa2 e = true) (hl : l.length ≤ 100000) : Qa2 (setS e l) = true := by
 obtain ⟨h1, _, h3, h4, h5, h6⟩ := Qbk h
 show (nameG e.1 && decide (l.length ≤ 100000 ∧ (eIds e).length ≤ 100000 ∧ (eAnch e).length ≤ 100000 ∧ (eHash e).length ≤ 100000) && (eIds e).all idLen) = true
 rw [h1, h6, decide_eq_true ⟨hl, h3, h4, h5⟩]
 rfl
attribute [local irreducible] prV prN oddV oddN Qbl withF suiV suiN
set_option maxRecDepth 100000 in
theorem s_f5 (l : List Int) (t : Int) (h : ordOk l t = true) : r_f5 l t = some (.t .bool (QNc l t), []) := by
 cases hl : light l with
 | false => simp only [r_f5, QwW, Qsq, QwV, QwU, Qsp, Qso, Qsn, QwT, Qsm, QpX, Qbw, hl, Bool.not_false, Qac]; rfl
 | true =>
  have hd := QKk hl
  have hCs : endSm (prV (roll l)).1 = true := prVC hd
  have hSs : endSm (prV (roll l)).2 = true := prVS hd
  have hCv : QaM (prV (roll l)).1 = true := prV1 hd
  have hSv : QaM (prV (roll l)).2 = true := prV2 hd
  obtain ⟨C, hC⟩ : ∃ C, C = (prV (roll l)).1 := ⟨_, rfl⟩
  obtain ⟨S, hS⟩ : ∃ S, S = (prV (roll l)).2 := ⟨_, rfl⟩
  rw [← hC] at hCs hCv
  rw [← hS] at hSs hSv
  obtain ⟨q1, q2, q3⟩ := QL0 hCs
  obtain ⟨t1, t2, t3⟩ := QL0 hSs
  have hr : QbW C S = true := Bool.and_eq_true_iff.2 ⟨hCv, hSv⟩
  have h := of_decide_eq_true h
  have l1 := (Qbk q1).2.1
  have l2 := (Qbk t1).2.1
  have z1 := Qsi (Qak C) t.toNat
  have z2 := Qsi (Qak S) t.toNat
  have y1 := QnD z1 (QoA hCv)
  have y2 := QnD z2 (QoA hSv)
  have o1 : Qa2 (setS C (rotS (Qak C) t.toNat)) = true := QB6 q1 (by rw [z1.length_eq]; exact l1)
  have o2 : Qa2 (setS S (rotS (Qak S) t.toNat)) = true := QB6 t1 (by rw [z2.length_eq]; exact l2)
  have c6 : ∀ w : List Int, w.length ≤ 100000 → decide ((0 : Int) ≤ 0 ∧ (0 : Int) ≤ w.length ∧ w.length = w.length ∧ w.length ≤ 100000 ∧ 0 ≤ t ∧ t ≤ 255) = true := fun w hw => decide_eq_true ⟨Int.le_refl _, by omega, rfl, hw, h⟩
  have c7 : ∀ w : List Int, w.length ≤ 100000 → decide ((0 : Int) ≤ 0 ∧ (0 : Int) ≤ w.length ∧ True ∧ w.length ≤ 100000 ∧ 0 ≤ t ∧ t ≤ 255) = true := fun w hw => decide_eq_true ⟨Int.le_refl _, by omega, trivial, hw, h⟩
  have cl := QRR C S
  simp only [r_f5, QwW, Qsq, QwV, QwU, Qsp, Qso, Qsn, QwT, Qsm, QpX, Qbw, hl, hd, Bool.not_true, Qae, Qac, eEta, ← hC, ← hS, Qbw, q1, t1, copyE, c6 _ l1, c6 _ l2, Int.toNat_zero, rotP_0]
  simp only [sEta, QeV, QbC, QmP, q1, t1, o1, o2, Bool.and_self, Qac, QzB hCv hSv y1 y2 z1 z2, cl, and_self, decide_true, Qzc]
  cases ho : S.2.2.2.2.1 with
  | true =>
   simp only [QtC hCv hSv y1 z1 ho (show (0 : Int) ≤ 15 ∧ (15 : Int) ≤ 40000 by omega), QxC, QxB, Bool.and_self, Bool.not_true, Qae, Qac, c7 _ l1, c7 _ l2]
   rfl
  | false =>
   simp only [QtB hCv hSv y2 z2 ho (show (0 : Int) ≤ 15 ∧ (15 : Int) ≤ 40000 by omega), QxC, QxB, Bool.and_self, Bool.not_true, Bool.not_false, Qae, Qac, c7 _ l1, c7 _ l2]
   rfl
def sp_f5 : Ent := spec (.pr (.sl tI) (.pr (.int .u8) .nil)) (fun x => (ordOk x.1 x.2.1)) (fun x => (.t .bool (QNc x.1 x.2.1)))
theorem ms_f5 : Meets Tryz.prog 5 (strip sp_f5) := Qaf (R := runF g_f5 tc_f5 rv_f5 false) (mG Tryz.func5 (by kernel_rfl) Tryz.ntmps5 (by kernel_rfl) gk_f5 lk_f5) fun x hok => (e_f5 x.1 x.2.1).trans (s_f5 x.1 x.2.1 hok)
end
theorem QhA (z0 : List Int) (z1 : Int) (w0 : Ty.wf (.sl (.int .i64)) z0) (w1 : Ty.wf (.int .u8) z1) : ordOk z0 z1 = true := decide_eq_true (wf_u8 w1)
theorem walkNegotiateOrder (z0 : (List Int)) (z1 : Int) (W : World) (v0 : Value) (v1 : Value) (c0 : C noX W (fun _ => .no) (V.t (.sl tI) z0).d v0) (c1 : C noX W (fun _ => .no) (V.t (.int .u8) z1).d v1) (w0 : Ty.wf (.sl tI) z0) (w1 : Ty.wf (.int .u8) z1) :
  Calls Tryz.prog 5 #[v0, v1] W fun r w' => r = .returned (.bool true) ∧ Below W.heap.size W w' :=
 QzC (by decide) ms_f5 (args := [.t (.sl tI) z0, .t (.int .u8) z1]) (Qy3 (x := (z0, z1, ())) rfl (QhA z0 z1 w0 w1)) (by simp only [V.ds, Cs]; exact ⟨_, _, rfl, c0, _, _, rfl, c1, rfl⟩)
end Go.Proofs.YtkngeegkjhipeaaGreat.K
