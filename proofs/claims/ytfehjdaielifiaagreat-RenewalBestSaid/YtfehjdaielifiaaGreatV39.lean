/-
  The law on the best link.
-/
import Derived.Test.YtfehjdaielifiaaGreatV36
import Derived.Test.YtfehjdaielifiaaGreatV35
import Derived.Test.YtfehjdaielifiaaGreatP27
import Derived.Test.YtfehjdaielifiaaGreatKD
set_option linter.unusedSimpArgs false
set_option linter.unusedVariables false
namespace Go.Proofs.YtfehjdaielifiaaGreat.K
open Go.RowKit
noncomputable section
def tB (p : Prop) : Bool := @decide p (Classical.propDecidable p)
theorem tB_iff {p : Prop} : tB p = true ↔ p := by
  unfold tB
  exact @decide_eq_true_iff p (Classical.propDecidable p)
def GoodU (y : Policy) (l : Link) (a b : Int) (x : Keep) : Prop := validF x = true ∧ ∀ d, a ≤ d → d ≤ b → allF y x 2 d = true → validF l.1 = true ∧ ((fallL (spansF y l.1 2)).2 = true → (fallL (spansF y x 2)).2 = true ∧ (fallL (spansF y x 2)).1 ≤ (fallL (spansF y l.1 2)).1) ∧ (x = l.1 → l.2.1 ≤ d)
def anyD (f : Int → Bool) : Nat → Int → Bool
  | 0, _ => false
  | n + 1, d => f d || anyD f n (d + 1)
def b88 (_ : List Int) (a b : Int) : Bool := decide (0 ≤ a ∧ a ≤ 255 ∧ 0 ≤ b ∧ b ≤ 255)
def lawBest (_ : List Int) (_ _ : Int) : Bool := true
def fg_f6_0 : Fg := ⟨[(8, none), (10, some tI), (11, some tI), (12, none), (13, some .bool), (15, some .bool), (17, none), (18, some tI), (19, some .bool), (21, some tI), (60, some (.sl tyKeep)), (61, some tI), (62, some tI)], [(8, some tyPolicy), (12, some tyLink), (17, some tyKeep), (38, none), (40, none), (5038, none), (5040, none), (10038, none), (10040, none), (15038, none), (15040, none)]⟩
def tb_f6_0 : TC := (.sq (.sq (.reg [(oV 74 21), (oV 75 11), (oP 76 (.bin false .leq (.t 74) (.t 75)))]) (.cd (.t 76) .sk (.fg ⟨[(8, none), (10, some tI), (11, some tI), (12, none), (13, some .bool), (15, some .bool), (60, none), (61, some tI), (62, some tI)], [(8, some tyPolicy), (12, some tyLink), (38, none), (40, none), (5038, none), (5040, none), (10038, none), (10040, none), (15038, none), (15040, none)]⟩ (.ex 2)))) (.sq (.bk 3 (.sq (.reg [(oM 80 (.ld true 2 (.t 8))), (oM 81 (.ld true 2 (.t 17))), (oV 82 21), (oC 83 37 [(.t 80), (.t 81), (cI 2), (.t 82)]), (oV 79 83), (oP 84 (.ext 0 (.t 79))), (oP 85 (.ext 1 (.t 79))), (oP 86 (.ext 2 (.t 79))), (oV 22 84), (oV 23 85), (oV 24 86)]) (.sq (.sq (.reg [(oV 87 22), (oP 88 (.nt (.t 87)))]) (.cd (.t 88) (.fg ⟨[(8, none), (10, some tI), (11, some tI), (12, none), (13, some .bool), (15, some .bool), (17, none), (18, some tI), (19, some .bool), (21, some tI), (60, none), (61, some tI), (62, some tI)], [(8, some tyPolicy), (12, some tyLink), (17, some tyKeep), (38, none), (40, none), (5038, none), (5040, none), (10038, none), (10040, none), (15038, none), (15040, none)]⟩ (.ex 3)) .sk)) (.sq (.reg [(oP 15 (.mv (cB true)))]) (.sq (.reg [(oM 90 (.ld true 2 (.t 8))), (oP 91 (.fa 0 (.t 12))), (oM 92 (.ld true 2 (.t 91))), (oC 93 39 [(.t 90), (.t 92), (cI 2)]), (oV 89 93), (oP 94 (.ext 0 (.t 89))), (oP 95 (.ext 1 (.t 89))), (oP 96 (.ext 2 (.t 89))), (oV 25 94), (oV 26 95), (oV 27 96)]) (.sq (.reg [(oV 97 26), (oV 98 97), (oQ 99 98 true (.mv (.t 19))), (oQ 100 98 true (.nt (.t 99))), (oQ 101 98 true (.mv (.t 100))), (oQ 102 101 false (.mv (.t 18))), (oQ 103 101 false (.mv (.t 25))), (oQ 104 101 false (.bin false .gtr (.t 102) (.t 103))), (oQ 105 98 true (.pick (.t 101) (cB true) (.t 104))), (oP 106 (.pick (.t 98) (.t 105) (cB false))), (oV 107 106), (oG 108 107 false (.m (.ld true 2 (.t 17)))), (oQ 109 107 false (.fa 0 (.t 12))), (oG 110 107 false (.m (.ld true 2 (.t 109)))), (oQ 111 107 false (.eqs false [0, 0] (.t 108) (.t 110))), (oQ 112 107 false (.mv (.t 111))), (oQ 113 112 true (.mv (.t 21))), (oQ 114 112 true (.fa 2 (.t 12))), (oG 115 112 true (.m (.ld false 1 (.t 114)))), (oQ 116 112 true (.bin false .lss (.t 113) (.t 115))), (oQ 117 107 false (.pick (.t 112) (.t 116) (cB false))), (oP 118 (.pick (.t 107) (cB true) (.t 117)))]) (.cd (.t 118) (.sq (.reg [(oP 6 (.mv (cB false)))]) (.fg ⟨[(6, some .bool)], []⟩ .rt)) .sk))))))) (.reg [(oV 77 21), (oP 78 (.bin false .add (.t 77) (cI 1))), (oV 21 78)])))
def fg_f6_1 : Fg := ⟨[(8, none), (10, some tI), (11, some tI), (12, none), (13, some .bool), (15, some .bool), (60, some (.sl tyKeep)), (61, some tI), (62, some tI)], [(8, some tyPolicy), (12, some tyLink), (38, none), (40, none), (5038, none), (5040, none), (10038, none), (10040, none), (15038, none), (15040, none)]⟩
def tb_f6_1 : TC := (.sq (.reg [(oP 63 (.bin false .lss (.t 62) (.t 61)))]) (.sq (.cd (.t 63) .sk (.fg ⟨[(8, none), (10, some tI), (11, some tI), (12, none), (13, some .bool), (15, some .bool)], [(8, some tyPolicy), (12, some tyLink), (38, none), (5038, none), (10038, none), (15038, none)]⟩ (.ex 0))) (.sq (.bk 1 (.sq (.reg [(oP 64 (.ix 2 (.t 60) (.t 62))), (oM 65 (.ld true 2 (.t 64))), (oM 17 (.new [(.v (.int .i64 0)), (.v (.int .i64 0))])), (.mk none none (.m (.st 2 (.t 17) (.t 65))))]) (.sq (.reg [(oM 67 (.ld true 2 (.t 8))), (oM 68 (.ld true 2 (.t 17))), (oC 69 39 [(.t 67), (.t 68), (cI 2)]), (oV 66 69), (oP 70 (.ext 0 (.t 66))), (oP 71 (.ext 1 (.t 66))), (oP 72 (.ext 2 (.t 66))), (oV 18 70), (oV 19 71), (oV 20 72)]) (.sq (.reg [(oV 73 10), (oV 21 73)]) (.bk 2 (.lp 0 fg_f6_0 tb_f6_0)))))) (.reg [(oP 119 (.bin false .add (.t 62) (cI 1))), (oV 62 119)]))))
/-- cipherplan/cipherplanlaw35.RenewalBest -/
def tc_f6 : TC := (.sq (.reg [(oP 6 (.mv (cB false)))]) (.sq (.sq (.reg [(oV 31 0), (oC 32 9 [(.t 31)]), (oP 33 (.nt (.t 32)))]) (.cd (.t 33) (.sq (.reg [(oC 34 30 []), (oV 6 34)]) .rt) .sk)) (.sq (.reg [(oV 35 0), (oC 36 11 [(.t 35)]), (oV 7 36)]) (.sq (.reg [(oV 37 7), (oC 38 31 [(.t 37)]), (oM 8 (.new [(.v (.slice none 0 0)), (.v (.slice none 0 0))])), (.mk none none (.m (.st 2 (.t 8) (.t 38))))]) (.sq (.reg [(oV 39 7), (oC 40 34 [(.t 39)]), (oV 9 40)]) (.sq (.reg [(oV 41 1), (oP 42 (.cv .i64 (.t 41))), (oV 43 1), (oP 44 (.cv .i64 (.t 43))), (oV 45 2), (oP 46 (.cv .i64 (.t 45))), (oP 47 (.bin false .rem (.t 46) (cI 60))), (oP 48 (.bin false .add (.t 44) (.t 47))), (oV 10 42), (oV 11 48)]) (.sq (.reg [(oM 50 (.ld true 2 (.t 8))), (oV 51 9), (oV 52 10), (oV 53 11), (oC 54 38 [(.t 50), (.t 51), (cI 2), (.t 52), (.t 53)]), (oV 49 54), (oP 55 (.ext 0 (.t 49))), (oP 56 (.ext 1 (.t 49))), (oP 57 (.ext 2 (.t 49))), (oM 12 (.new [(.v (.int .i64 0)), (.v (.int .i64 0)), (.v (.int .i64 0))])), (.mk none none (.m (.st 3 (.t 12) (.t 55)))), (oV 13 56), (oV 14 57)]) (.sq (.sq (.reg [(oV 58 14), (oP 59 (.bin false .neq (.t 58) (cI 0)))]) (.cd (.t 59) (.sq (.reg [(oP 6 (.mv (cB false)))]) .rt) .sk)) (.sq (.reg [(oP 15 (.mv (cB false)))]) (.sq (.sq (.reg [(oV 60 9), (oP 61 (.len false (.t 60))), (oP 62 (.mv (cI 0)))]) (.bk 0 (.lp 1 fg_f6_1 tb_f6_1))) (.sq (.sq (.reg [(oV 120 13), (oP 121 (.nt (.t 120)))]) (.cd (.t 121) (.sq (.reg [(oV 122 15), (oP 123 (.nt (.t 122))), (oV 124 123), (oG 125 124 true (.call 30 [])), (oP 126 (.pick (.t 124) (.t 125) (cB false))), (oV 6 126)]) .rt) .sk)) (.sq (.reg [(oM 128 (.ld true 2 (.t 8))), (oP 129 (.fa 0 (.t 12))), (oM 130 (.ld true 2 (.t 129))), (oP 131 (.fa 2 (.t 12))), (oL 132 131), (oC 133 37 [(.t 128), (.t 130), (cI 2), (.t 132)]), (oV 127 133), (oP 134 (.ext 0 (.t 127))), (oP 135 (.ext 1 (.t 127))), (oP 136 (.ext 2 (.t 127))), (oV 28 134), (oV 29 135), (oV 30 136)]) (.sq (.reg [(oV 137 15), (oV 138 137), (oQ 139 138 true (.mv (.t 28))), (oP 140 (.pick (.t 138) (.t 139) (cB false))), (oV 141 140), (oQ 142 141 true (.mv (.t 30))), (oQ 143 141 true (.bin false .eql (.t 142) (cI 0))), (oP 144 (.pick (.t 141) (.t 143) (cB false))), (oV 145 144), (oQ 146 145 true (.fa 2 (.t 12))), (oG 147 145 true (.m (.ld false 1 (.t 146)))), (oQ 148 145 true (.mv (.t 10))), (oQ 149 145 true (.bin false .geq (.t 147) (.t 148))), (oP 150 (.pick (.t 145) (.t 149) (cB false))), (oV 151 150), (oQ 152 151 true (.fa 2 (.t 12))), (oG 153 151 true (.m (.ld false 1 (.t 152)))), (oQ 154 151 true (.mv (.t 11))), (oQ 155 151 true (.bin false .leq (.t 153) (.t 154))), (oP 156 (.pick (.t 151) (.t 155) (cB false))), (oV 157 156), (oG 158 157 true (.call 30 [])), (oP 159 (.pick (.t 157) (.t 158) (cB false))), (oV 6 159)]) .rt)))))))))))))
def rv_f6 : List (RV × Option Ty) := [((.t 6), some .bool)]
abbrev sh_f6_0 : Sh := ⟨[(8, .ptr 8 0), (10, .ty tI), (11, .ty tI), (12, .ptr 12 0), (13, .ty .bool), (15, .ty .bool), (17, .ptr 17 0), (18, .ty tI), (19, .ty .bool), (21, .ty tI), (60, .ty (.sl tyKeep)), (61, .ty tI), (62, .ty tI)], [(8, .box tyPolicy), (12, .box tyLink), (17, .box tyKeep), (38, .no), (40, .no), (5038, .no), (5040, .no), (10038, .no), (10040, .no), (15038, .no), (15040, .no)]⟩
def st_f6_0 (x10 : Int) (x11 : Int) (x13 : Bool) (x15 : Bool) (x18 : Int) (x19 : Bool) (x21 : Int) (x60 : (List Keep)) (x61 : Int) (x62 : Int) (y8 : Policy) (y12 : Link) (y17 : Keep) : VS := sh_f6_0.st ((), x10, x11, (), x13, x15, (), x18, x19, x21, x60, x61, x62, ()) (y8, y12, y17, (), (), (), (), (), (), (), (), ())
abbrev sh_f6_0_ret : Sh := ⟨[(6, .ty .bool)], []⟩
def st_f6_0_ret (x6 : Bool) : VS := sh_f6_0_ret.st (x6, ()) ()
abbrev sh_f6_0_e2 : Sh := ⟨[(8, .ptr 8 0), (10, .ty tI), (11, .ty tI), (12, .ptr 12 0), (13, .ty .bool), (15, .ty .bool), (60, .ty (.sl tyKeep)), (61, .ty tI), (62, .ty tI)], [(8, .box tyPolicy), (12, .box tyLink), (38, .no), (40, .no), (5038, .no), (5040, .no), (10038, .no), (10040, .no), (15038, .no), (15040, .no)]⟩
def st_f6_0_e2 (x10 : Int) (x11 : Int) (x13 : Bool) (x15 : Bool) (x60 : (List Keep)) (x61 : Int) (x62 : Int) (y8 : Policy) (y12 : Link) : VS := sh_f6_0_e2.st ((), x10, x11, (), x13, x15, x60, x61, x62, ()) (y8, y12, (), (), (), (), (), (), (), (), ())
-- loop 0: (x10 : Int) (x11 : Int) (x13 : Bool) (x15 : Bool) (x18 : Int) (x19 : Bool) (x21 : Int) (x60 : (List Keep)) (x61 : Int) (x62 : Int) (y8 : Policy) (y12 : Link) (y17 : Keep); out: ('ret',) (x6 : Bool); ('exit', 2) (x10 : Int) (x11 : Int) (x13 : Bool) (x15 : Bool) (x60 : (List Keep)) (x61 : Int) (x62 : Int) (y8 : Policy) (y12 : Link)
abbrev sh_f6_1 : Sh := ⟨[(8, .ptr 8 0), (10, .ty tI), (11, .ty tI), (12, .ptr 12 0), (13, .ty .bool), (15, .ty .bool), (60, .ty (.sl tyKeep)), (61, .ty tI), (62, .ty tI)], [(8, .box tyPolicy), (12, .box tyLink), (38, .no), (40, .no), (5038, .no), (5040, .no), (10038, .no), (10040, .no), (15038, .no), (15040, .no)]⟩
def st_f6_1 (x10 : Int) (x11 : Int) (x13 : Bool) (x15 : Bool) (x60 : (List Keep)) (x61 : Int) (x62 : Int) (y8 : Policy) (y12 : Link) : VS := sh_f6_1.st ((), x10, x11, (), x13, x15, x60, x61, x62, ()) (y8, y12, (), (), (), (), (), (), (), (), ())
abbrev sh_f6_1_e0 : Sh := ⟨[(8, .ptr 8 0), (10, .ty tI), (11, .ty tI), (12, .ptr 12 0), (13, .ty .bool), (15, .ty .bool)], [(8, .box tyPolicy), (12, .box tyLink), (38, .no), (5038, .no), (10038, .no), (15038, .no)]⟩
def st_f6_1_e0 (x10 : Int) (x11 : Int) (x13 : Bool) (x15 : Bool) (y8 : Policy) (y12 : Link) : VS := sh_f6_1_e0.st ((), x10, x11, (), x13, x15, ()) (y8, y12, (), (), (), (), ())
-- loop 1: (x10 : Int) (x11 : Int) (x13 : Bool) (x15 : Bool) (x60 : (List Keep)) (x61 : Int) (x62 : Int) (y8 : Policy) (y12 : Link); out: ('exit', 0) (x10 : Int) (x11 : Int) (x13 : Bool) (x15 : Bool) (y8 : Policy) (y12 : Link)
def L_f6_0 : VS → Option (Bool × List (Bool × Exit × VS)) := mkL sh_f6_0 (fun x y => (polOk y.1 && tB (GoodU y.1 y.2.1 x.2.1 x.2.2.1 y.2.2.1) && ((x.2.2.2.2.2.2.2.1, x.2.2.2.2.2.2.2.2.1) == fallL (spansF y.1 y.2.2.1 2)) && decide (0 ≤ x.2.1 ∧ x.2.2.1 ≤ 1000 ∧ x.2.1 ≤ x.2.2.2.2.2.2.2.2.2.1 ∧ x.2.2.2.2.2.2.2.2.2.1 ≤ x.2.2.1 + 1))) (fun x y => [(true, .exit 2, st_f6_0_e2 (x.2.1) (x.2.2.1) (x.2.2.2.2.1) (x.2.2.2.2.2.1 || anyD (allF y.1 y.2.2.1 2) (x.2.2.1 + 1 - x.2.2.2.2.2.2.2.2.2.1).toNat x.2.2.2.2.2.2.2.2.2.1) (x.2.2.2.2.2.2.2.2.2.2.1) (x.2.2.2.2.2.2.2.2.2.2.2.1) (x.2.2.2.2.2.2.2.2.2.2.2.2.1) (y.1) (y.2.1))])
def L_f6_1 : VS → Option (Bool × List (Bool × Exit × VS)) := mkL sh_f6_1 (fun x y => (polOk y.1 && tB (∀ u, u ∈ x.2.2.2.2.2.2.1 → GoodU y.1 y.2.1 x.2.1 x.2.2.1 u) && rngOk x.2.2.2.2.2.2.1 x.2.2.2.2.2.2.2.1 x.2.2.2.2.2.2.2.2.1 && decide (0 ≤ x.2.1 ∧ x.2.2.1 ≤ 1000 ∧ x.2.1 ≤ x.2.2.1))) (fun x y => [(true, .exit 0, st_f6_1_e0 (x.2.1) (x.2.2.1) (x.2.2.2.2.1) (x.2.2.2.2.2.1 || (x.2.2.2.2.2.2.1.drop x.2.2.2.2.2.2.2.2.1.toNat).any (fun u => anyD (allF y.1 u 2) (x.2.2.1 + 1 - x.2.1).toNat x.2.1)) (y.1) (y.2.1))])
def g_f6 : G := ⟨TYs, [], 160, EL [(9, sp_f9), (11, sp_f11), (30, sp_f30), (31, sp_f31), (34, sp_f34), (37, sp_f37), (38, sp_f38), (39, sp_f39)], keeps, (Ls [L_f6_0, L_f6_1]), IL [], RL []⟩
def b_f6_0_1 (x10 : Int) (x11 : Int) (x13 : Bool) (x15 : Bool) (x18 : Int) (x19 : Bool) (x21 : Int) (x60 : (List Keep)) (x61 : Int) (x62 : Int) (y8 : Policy) (y12 : Link) (y17 : Keep) : Option (Exit × VS) :=
  br ((and (ieq y17.1 y12.1.1) (and (ieq y17.2.1 y12.1.2.1) true)))
    (br ((ilt x21 y12.2.1))
      (some (.ret, st_f6_0_ret false))
      (some (.normal, st_f6_0 x10 x11 x13 true x18 x19 (iadd .i64 x21 1) x60 x61 x62 y8 y12 y17)))
    (some (.normal, st_f6_0 x10 x11 x13 true x18 x19 (iadd .i64 x21 1) x60 x61 x62 y8 y12 y17))
def b_f6_0 (x10 : Int) (x11 : Int) (x13 : Bool) (x15 : Bool) (x18 : Int) (x19 : Bool) (x21 : Int) (x60 : (List Keep)) (x61 : Int) (x62 : Int) (y8 : Policy) (y12 : Link) (y17 : Keep) : Option (Exit × VS) :=
  br ((ile x21 x11))
    (br ((polLen4 y8 y17 2 x21))
      (br ((!((AllowedF y8 y17 2 x21).1)))
        (some (.normal, st_f6_0 x10 x11 x13 x15 x18 x19 (iadd .i64 x21 1) x60 x61 x62 y8 y12 y17))
        (br ((polLen3 y8 y12.1 2))
          (br (((FallsF y8 y12.1 2).2).1)
            (br ((!x19))
              (some (.ret, st_f6_0_ret false))
              (br ((igt x18 ((FallsF y8 y12.1 2).1)))
                (some (.ret, st_f6_0_ret false))
                (b_f6_0_1 x10 x11 x13 x15 x18 x19 x21 x60 x61 x62 y8 y12 y17)))
            (b_f6_0_1 x10 x11 x13 x15 x18 x19 x21 x60 x61 x62 y8 y12 y17))
          (none)))
      (none))
    (some (.exit 2, st_f6_0_e2 x10 x11 x13 x15 x60 x61 x62 y8 y12))
noncomputable def lp_f6_0 (x10 : Int) (x11 : Int) (x13 : Bool) (x15 : Bool) (x18 : Int) (x19 : Bool) (x21 : Int) (x60 : (List Keep)) (x61 : Int) (x62 : Int) (y8 : Policy) (y12 : Link) (y17 : Keep) : Option (Exit × VS) := loopF (roundF g_f6 fg_f6_0 tb_f6_0) (st_f6_0 x10 x11 x13 x15 x18 x19 x21 x60 x61 x62 y8 y12 y17)
noncomputable def n_f6_0_1 (x10 : Int) (x11 : Int) (x13 : Bool) (x15 : Bool) (x18 : Int) (x19 : Bool) (x21 : Int) (x60 : (List Keep)) (x61 : Int) (x62 : Int) (y8 : Policy) (y12 : Link) (y17 : Keep) : Option (Exit × VS) :=
  br ((and (ieq y17.1 y12.1.1) (and (ieq y17.2.1 y12.1.2.1) true)))
    (br ((ilt x21 y12.2.1))
      (some (.ret, st_f6_0_ret false))
      (lp_f6_0 x10 x11 x13 true x18 x19 (iadd .i64 x21 1) x60 x61 x62 y8 y12 y17))
    (lp_f6_0 x10 x11 x13 true x18 x19 (iadd .i64 x21 1) x60 x61 x62 y8 y12 y17)
noncomputable def n_f6_0 (x10 : Int) (x11 : Int) (x13 : Bool) (x15 : Bool) (x18 : Int) (x19 : Bool) (x21 : Int) (x60 : (List Keep)) (x61 : Int) (x62 : Int) (y8 : Policy) (y12 : Link) (y17 : Keep) : Option (Exit × VS) :=
  br ((ile x21 x11))
    (br ((polLen4 y8 y17 2 x21))
      (br ((!((AllowedF y8 y17 2 x21).1)))
        (lp_f6_0 x10 x11 x13 x15 x18 x19 (iadd .i64 x21 1) x60 x61 x62 y8 y12 y17)
        (br ((polLen3 y8 y12.1 2))
          (br (((FallsF y8 y12.1 2).2).1)
            (br ((!x19))
              (some (.ret, st_f6_0_ret false))
              (br ((igt x18 ((FallsF y8 y12.1 2).1)))
                (some (.ret, st_f6_0_ret false))
                (n_f6_0_1 x10 x11 x13 x15 x18 x19 x21 x60 x61 x62 y8 y12 y17)))
            (n_f6_0_1 x10 x11 x13 x15 x18 x19 x21 x60 x61 x62 y8 y12 y17))
          (none)))
      (none))
    (some (.exit 2, st_f6_0_e2 x10 x11 x13 x15 x60 x61 x62 y8 y12))
def la_f6_0 (x10 : Int) (x11 : Int) (x13 : Bool) (x15 : Bool) (x18 : Int) (x19 : Bool) (x21 : Int) (x60 : (List Keep)) (x61 : Int) (x62 : Int) (y8 : Policy) (y12 : Link) (y17 : Keep) : Option (Exit × VS) := some (.exit 2, st_f6_0_e2 (x10) (x11) (x13) (x15 || anyD (allF y8 y17 2) (x11 + 1 - x21).toNat x21) (x60) (x61) (x62) (y8) (y12))
theorem be_f6_0 (x10 : Int) (x11 : Int) (x13 : Bool) (x15 : Bool) (x18 : Int) (x19 : Bool) (x21 : Int) (x60 : (List Keep)) (x61 : Int) (x62 : Int) (y8 : Policy) (y12 : Link) (y17 : Keep) : roundF g_f6 fg_f6_0 tb_f6_0 (st_f6_0 x10 x11 x13 x15 x18 x19 x21 x60 x61 x62 y8 y12 y17) = b_f6_0 x10 x11 x13 x15 x18 x19 x21 x60 x61 x62 y8 y12 y17 := by kernel_rfl
theorem ln_f6_0 (x10 : Int) (x11 : Int) (x13 : Bool) (x15 : Bool) (x18 : Int) (x19 : Bool) (x21 : Int) (x60 : (List Keep)) (x61 : Int) (x62 : Int) (y8 : Policy) (y12 : Link) (y17 : Keep) : lp_f6_0 x10 x11 x13 x15 x18 x19 x21 x60 x61 x62 y8 y12 y17 = n_f6_0 x10 x11 x13 x15 x18 x19 x21 x60 x61 x62 y8 y12 y17 := (loopF_nxt _ _).trans (by
  rw [be_f6_0]
  simp only [b_f6_0, b_f6_0_1, n_f6_0, n_f6_0_1, nxt_br, nxt_n, nxt_r, nxt_e, nxt_0]
  rfl)
def b_f6_1 (x10 : Int) (x11 : Int) (x13 : Bool) (x15 : Bool) (x60 : (List Keep)) (x61 : Int) (x62 : Int) (y8 : Policy) (y12 : Link) : Option (Exit × VS) :=
  br ((ilt x62 x61))
    (br (cIx x60 x62)
      (br ((polLen3 y8 (lgt tyKeep x60 (Int.toNat x62)) 2))
        (br ((polOk y8 && tB (GoodU y8 y12 x10 x11 (lgt tyKeep x60 (Int.toNat x62))) && ((((FallsF y8 (lgt tyKeep x60 (Int.toNat x62)) 2).1), (((FallsF y8 (lgt tyKeep x60 (Int.toNat x62)) 2).2).1)) == fallL (spansF y8 (lgt tyKeep x60 (Int.toNat x62)) 2)) && decide (0 ≤ x10 ∧ x11 ≤ 1000 ∧ x10 ≤ x10 ∧ x10 ≤ x11 + 1)))
          (some (.normal, st_f6_1 (x10) (x11) (x13) (x15 || anyD (allF y8 (lgt tyKeep x60 (Int.toNat x62)) 2) (x11 + 1 - x10).toNat x10) (x60) (x61) (iadd .i64 (x62) 1) (y8) (y12)))
          (none))
        (none))
      (none))
    (some (.exit 0, st_f6_1_e0 x10 x11 x13 x15 y8 y12))
noncomputable def lp_f6_1 (x10 : Int) (x11 : Int) (x13 : Bool) (x15 : Bool) (x60 : (List Keep)) (x61 : Int) (x62 : Int) (y8 : Policy) (y12 : Link) : Option (Exit × VS) := loopF (roundF g_f6 fg_f6_1 tb_f6_1) (st_f6_1 x10 x11 x13 x15 x60 x61 x62 y8 y12)
noncomputable def n_f6_1 (x10 : Int) (x11 : Int) (x13 : Bool) (x15 : Bool) (x60 : (List Keep)) (x61 : Int) (x62 : Int) (y8 : Policy) (y12 : Link) : Option (Exit × VS) :=
  br ((ilt x62 x61))
    (br (cIx x60 x62)
      (br ((polLen3 y8 (lgt tyKeep x60 (Int.toNat x62)) 2))
        (br ((polOk y8 && tB (GoodU y8 y12 x10 x11 (lgt tyKeep x60 (Int.toNat x62))) && ((((FallsF y8 (lgt tyKeep x60 (Int.toNat x62)) 2).1), (((FallsF y8 (lgt tyKeep x60 (Int.toNat x62)) 2).2).1)) == fallL (spansF y8 (lgt tyKeep x60 (Int.toNat x62)) 2)) && decide (0 ≤ x10 ∧ x11 ≤ 1000 ∧ x10 ≤ x10 ∧ x10 ≤ x11 + 1)))
          (lp_f6_1 (x10) (x11) (x13) (x15 || anyD (allF y8 (lgt tyKeep x60 (Int.toNat x62)) 2) (x11 + 1 - x10).toNat x10) (x60) (x61) (iadd .i64 (x62) 1) (y8) (y12))
          (none))
        (none))
      (none))
    (some (.exit 0, st_f6_1_e0 x10 x11 x13 x15 y8 y12))
def la_f6_1 (x10 : Int) (x11 : Int) (x13 : Bool) (x15 : Bool) (x60 : (List Keep)) (x61 : Int) (x62 : Int) (y8 : Policy) (y12 : Link) : Option (Exit × VS) := some (.exit 0, st_f6_1_e0 (x10) (x11) (x13) (x15 || (x60.drop x62.toNat).any (fun u => anyD (allF y8 u 2) (x11 + 1 - x10).toNat x10)) (y8) (y12))
theorem be_f6_1 (x10 : Int) (x11 : Int) (x13 : Bool) (x15 : Bool) (x60 : (List Keep)) (x61 : Int) (x62 : Int) (y8 : Policy) (y12 : Link) : roundF g_f6 fg_f6_1 tb_f6_1 (st_f6_1 x10 x11 x13 x15 x60 x61 x62 y8 y12) = b_f6_1 x10 x11 x13 x15 x60 x61 x62 y8 y12 := by kernel_rfl
theorem ln_f6_1 (x10 : Int) (x11 : Int) (x13 : Bool) (x15 : Bool) (x60 : (List Keep)) (x61 : Int) (x62 : Int) (y8 : Policy) (y12 : Link) : lp_f6_1 x10 x11 x13 x15 x60 x61 x62 y8 y12 = n_f6_1 x10 x11 x13 x15 x60 x61 x62 y8 y12 := (loopF_nxt _ _).trans (by
  rw [be_f6_1]
  simp only [b_f6_1, n_f6_1, nxt_br, nxt_n, nxt_r, nxt_e, nxt_0]
  rfl)
def r_f6 (p0 : (List Int)) (p1 : Int) (p2 : Int) : Option (V × List VO) :=
  br ((!(light p0)))
    (some (.t .bool awakeT35, []))
    (br ((dOk (roll p0)))
      (br ((dOk (polsN (roll p0))))
        (br (cNz 60)
          (br ((BestOk ((polsV (roll p0)).1, (((polsV (roll p0)).2).1, ())) (usesV (polsN (roll p0))) 2 (icv .i64 p1) (iadd .i64 (icv .i64 p1) (irem (icv .i64 p2) 60))))
            (br ((ine (((BestF ((polsV (roll p0)).1, (((polsV (roll p0)).2).1, ())) (usesV (polsN (roll p0))) 2 (icv .i64 p1) (iadd .i64 (icv .i64 p1) (irem (icv .i64 p2) 60))).2).2) 0))
              (some (.t .bool false, []))
              (br ((polOk ((polsV (roll p0)).1, (((polsV (roll p0)).2).1, ())) && tB (∀ u, u ∈ (usesV (polsN (roll p0))) → GoodU ((polsV (roll p0)).1, (((polsV (roll p0)).2).1, ())) ((BestF ((polsV (roll p0)).1, (((polsV (roll p0)).2).1, ())) (usesV (polsN (roll p0))) 2 (icv .i64 p1) (iadd .i64 (icv .i64 p1) (irem (icv .i64 p2) 60))).1) (icv .i64 p1) (iadd .i64 (icv .i64 p1) (irem (icv .i64 p2) 60)) u) && rngOk (usesV (polsN (roll p0))) (llen (usesV (polsN (roll p0)))) (0 : Int) && decide (0 ≤ (icv .i64 p1) ∧ (iadd .i64 (icv .i64 p1) (irem (icv .i64 p2) 60)) ≤ 1000 ∧ (icv .i64 p1) ≤ (iadd .i64 (icv .i64 p1) (irem (icv .i64 p2) 60)))))
                (br ((!((((BestF ((polsV (roll p0)).1, (((polsV (roll p0)).2).1, ())) (usesV (polsN (roll p0))) 2 (icv .i64 p1) (iadd .i64 (icv .i64 p1) (irem (icv .i64 p2) 60))).2).1))))
                  (br ((!(false || ((usesV (polsN (roll p0))).drop (0 : Int).toNat).any (fun u => anyD (allF ((polsV (roll p0)).1, (((polsV (roll p0)).2).1, ())) u 2) ((iadd .i64 (icv .i64 p1) (irem (icv .i64 p2) 60)) + 1 - (icv .i64 p1)).toNat (icv .i64 p1)))))
                    (some (.t .bool awakeT35, []))
                    (some (.t .bool false, [])))
                  (br ((polLen4 (((polsV (roll p0)).1, (((polsV (roll p0)).2).1, ()))) ((((BestF ((polsV (roll p0)).1, (((polsV (roll p0)).2).1, ())) (usesV (polsN (roll p0))) 2 (icv .i64 p1) (iadd .i64 (icv .i64 p1) (irem (icv .i64 p2) 60))).1)).1) 2 (((((BestF ((polsV (roll p0)).1, (((polsV (roll p0)).2).1, ())) (usesV (polsN (roll p0))) 2 (icv .i64 p1) (iadd .i64 (icv .i64 p1) (irem (icv .i64 p2) 60))).1)).2).1)))
                    (br ((false || ((usesV (polsN (roll p0))).drop (0 : Int).toNat).any (fun u => anyD (allF ((polsV (roll p0)).1, (((polsV (roll p0)).2).1, ())) u 2) ((iadd .i64 (icv .i64 p1) (irem (icv .i64 p2) 60)) + 1 - (icv .i64 p1)).toNat (icv .i64 p1))))
                      (br ((AllowedF (((polsV (roll p0)).1, (((polsV (roll p0)).2).1, ()))) ((((BestF ((polsV (roll p0)).1, (((polsV (roll p0)).2).1, ())) (usesV (polsN (roll p0))) 2 (icv .i64 p1) (iadd .i64 (icv .i64 p1) (irem (icv .i64 p2) 60))).1)).1) 2 (((((BestF ((polsV (roll p0)).1, (((polsV (roll p0)).2).1, ())) (usesV (polsN (roll p0))) 2 (icv .i64 p1) (iadd .i64 (icv .i64 p1) (irem (icv .i64 p2) 60))).1)).2).1)).1)
                        (br ((ieq (((AllowedF (((polsV (roll p0)).1, (((polsV (roll p0)).2).1, ()))) ((((BestF ((polsV (roll p0)).1, (((polsV (roll p0)).2).1, ())) (usesV (polsN (roll p0))) 2 (icv .i64 p1) (iadd .i64 (icv .i64 p1) (irem (icv .i64 p2) 60))).1)).1) 2 (((((BestF ((polsV (roll p0)).1, (((polsV (roll p0)).2).1, ())) (usesV (polsN (roll p0))) 2 (icv .i64 p1) (iadd .i64 (icv .i64 p1) (irem (icv .i64 p2) 60))).1)).2).1)).2).2) 0))
                          (br ((ige (((((BestF ((polsV (roll p0)).1, (((polsV (roll p0)).2).1, ())) (usesV (polsN (roll p0))) 2 (icv .i64 p1) (iadd .i64 (icv .i64 p1) (irem (icv .i64 p2) 60))).1)).2).1) ((icv .i64 p1))))
                            (br ((ile (((((BestF ((polsV (roll p0)).1, (((polsV (roll p0)).2).1, ())) (usesV (polsN (roll p0))) 2 (icv .i64 p1) (iadd .i64 (icv .i64 p1) (irem (icv .i64 p2) 60))).1)).2).1) ((iadd .i64 (icv .i64 p1) (irem (icv .i64 p2) 60)))))
                              (some (.t .bool awakeT35, []))
                              (some (.t .bool false, [])))
                            (some (.t .bool false, [])))
                          (some (.t .bool false, [])))
                        (some (.t .bool false, [])))
                      (some (.t .bool false, [])))
                    (none)))
                (none)))
            (none))
          (none))
        (none))
      (none))
theorem e_f6 (p0 : (List Int)) (p1 : Int) (p2 : Int) : runF g_f6 tc_f6 rv_f6 false [.t (.sl tI) p0, .t (.int .u8) p1, .t (.int .u8) p2] [] = r_f6 p0 p1 p2 := by kernel_rfl
theorem ok_f6 : Option.map (trC Tryz.prog) Tryz.f6.body = some tc_f6.er := by kernel_rfl
theorem rok_f6 : trVs Tryz.prog Tryz.f6.results.toList = some (rv_f6.map Prod.fst) := by kernel_rfl
theorem gk_f6 : GOk Tryz.prog g_f6 := gok_of _ (by
  intro p hp
  simp only [List.mem_cons, List.not_mem_nil, or_false] at hp
  rcases hp with rfl | rfl | rfl | rfl | rfl | rfl | rfl | rfl
  · exact ⟨en_f9, ms_f9⟩
  · exact ⟨en_f11, ms_f11⟩
  · exact ⟨en_f30, ms_f30⟩
  · exact ⟨en_f31, ms_f31⟩
  · exact ⟨en_f34, ms_f34⟩
  · exact ⟨en_f37, ms_f37⟩
  · exact ⟨en_f38, ms_f38⟩
  · exact ⟨en_f39, ms_f39⟩)
theorem allowed_fine {y : Policy} {u : Keep} {p d : Int} (hp : polOk y = true) (hv : validF u = true) (hq : 1 ≤ p ∧ p ≤ 4) (hd : 0 ≤ d ∧ d ≤ 40000) : AllowedF y u p d = (allF y u p d, decF y u p d, 0) := by
  unfold AllowedF
  rw [if_pos]
  unfold earlyF
  rw [hp, hv]
  simp only [Bool.true_eq_false, if_false]
  rw [if_neg (by omega)]
theorem eq_use (a b : Keep) : and (ieq a.1 b.1) (and (ieq a.2.1 b.2.1) true) = (a == b) := by
  obtain ⟨a1, a2, _⟩ := a
  obtain ⟨b1, b2, _⟩ := b
  rw [Bool.eq_iff_iff]
  simp [ieq]
theorem l_f6_0 (x10 : Int) (x11 : Int) (x13 : Bool) (x15 : Bool) (x18 : Int) (x19 : Bool) (x21 : Int) (x60 : (List Keep)) (x61 : Int) (x62 : Int) (y8 : Policy) (y12 : Link) (y17 : Keep) (h : (polOk y8 && tB (GoodU y8 y12 x10 x11 y17) && ((x18, x19) == fallL (spansF y8 y17 2)) && decide (0 ≤ x10 ∧ x11 ≤ 1000 ∧ x10 ≤ x21 ∧ x21 ≤ x11 + 1)) = true) : lp_f6_0 x10 x11 x13 x15 x18 x19 x21 x60 x61 x62 y8 y12 y17 = la_f6_0 x10 x11 x13 x15 x18 x19 x21 x60 x61 x62 y8 y12 y17 := by
  simp only [Bool.and_eq_true, decide_eq_true_eq, beq_iff_eq, tB_iff] at h
  obtain ⟨⟨⟨hp, hg⟩, he⟩, h0, h1, h2, h3⟩ := h
  have e18 : x18 = (fallL (spansF y8 y17 2)).1 := by rw [← he]
  have e19 : x19 = (fallL (spansF y8 y17 2)).2 := by rw [← he]
  obtain ⟨hv, hg⟩ := hg
  have hpl : ∀ u q, polLen3 y8 u q = true := fun u q => (pol_len hp).1
  have hpl4 : ∀ u q d, polLen4 y8 u q d = true := fun u q d => (pol_len hp).1
  obtain ⟨m, hm⟩ : ∃ m, m = (x11 + 1 - x21).toNat := ⟨_, rfl⟩
  induction m generalizing x21 x15 with
  | zero =>
    rw [ln_f6_0]
    unfold la_f6_0
    rw [← hm]
    simp only [n_f6_0, show ile x21 x11 = false from decide_eq_false (by omega), br_false, anyD, Bool.or_false]
  | succ m ih =>
    rw [ln_f6_0]
    have ha := allowed_fine (u := y17) (p := 2) (d := x21) hp hv (by omega) (by omega)
    have e1 : iadd .i64 x21 1 = x21 + 1 := iadd_in (by omega)
    have hr : ∀ z : Bool, lp_f6_0 x10 x11 x13 z x18 x19 (x21 + 1) x60 x61 x62 y8 y12 y17 = la_f6_0 x10 x11 x13 z x18 x19 (x21 + 1) x60 x61 x62 y8 y12 y17 := fun z => ih z (x21 + 1) (by omega) (by omega) (by omega)
    have el : la_f6_0 x10 x11 x13 x15 x18 x19 x21 x60 x61 x62 y8 y12 y17 = la_f6_0 x10 x11 x13 (x15 || allF y8 y17 2 x21) x18 x19 (x21 + 1) x60 x61 x62 y8 y12 y17 := by
      unfold la_f6_0
      rw [← hm, show (x11 + 1 - (x21 + 1)).toNat = m by omega]
      simp only [anyD, Bool.or_assoc]
    rw [el]
    simp only [n_f6_0, n_f6_0_1, show ile x21 x11 = true from decide_eq_true (by omega), hpl, hpl4, ha, br_true, e1, hr, eq_use]
    cases hal : allF y8 y17 2 x21 with
    | false => simp only [Bool.not_false, br_true, Bool.or_false]
    | true =>
      obtain ⟨g1, g2, g3⟩ := hg x21 h2 (by omega) hal
      have ef := falls_fine (u := y12.1) (p := 2) hp g1 (by omega) (by omega)
      have eday : br (y17 == y12.1) (br (ilt x21 y12.2.1) (some (.ret, st_f6_0_ret false)) (la_f6_0 x10 x11 x13 true x18 x19 (x21 + 1) x60 x61 x62 y8 y12 y17)) (la_f6_0 x10 x11 x13 true x18 x19 (x21 + 1) x60 x61 x62 y8 y12 y17) = la_f6_0 x10 x11 x13 true x18 x19 (x21 + 1) x60 x61 x62 y8 y12 y17 := by
        refine br_intro (fun g => ?_) (fun _ => rfl)
        have := g3 (eq_of_beq g)
        rw [show ilt x21 y12.2.1 = false from decide_eq_false (by omega), br_false]
      simp only [Bool.not_true, br_false, ef, eday, Bool.or_true]
      cases hfl : (fallL (spansF y8 y12.1 2)).2 with
      | false => rfl
      | true =>
        obtain ⟨k1, k2⟩ := g2 hfl
        rw [br_true, e19, k1, Bool.not_true, br_false, e18, show igt (fallL (spansF y8 y17 2)).1 (fallL (spansF y8 y12.1 2)).1 = false from decide_eq_false (by omega), br_false]
theorem l_f6_1 (x10 : Int) (x11 : Int) (x13 : Bool) (x15 : Bool) (x60 : (List Keep)) (x61 : Int) (x62 : Int) (y8 : Policy) (y12 : Link) (h : (polOk y8 && tB (∀ u, u ∈ x60 → GoodU y8 y12 x10 x11 u) && rngOk x60 x61 x62 && decide (0 ≤ x10 ∧ x11 ≤ 1000 ∧ x10 ≤ x11)) = true) : lp_f6_1 x10 x11 x13 x15 x60 x61 x62 y8 y12 = la_f6_1 x10 x11 x13 x15 x60 x61 x62 y8 y12 := by
  simp only [Bool.and_eq_true, decide_eq_true_eq, tB_iff] at h
  obtain ⟨⟨⟨hp, hg⟩, hr⟩, h0, h1, h2⟩ := h
  obtain ⟨rfl, h3, k, rfl, hk⟩ := rng_k hr
  clear hr
  have hpl : ∀ u q, polLen3 y8 u q = true := fun u q => (pol_len hp).1
  revert x15
  refine range_ind x60 (fun k => ∀ x15 : Bool, lp_f6_1 x10 x11 x13 x15 x60 (x60.length : Int) (k : Int) y8 y12 = la_f6_1 x10 x11 x13 x15 x60 (x60.length : Int) (k : Int) y8 y12) ?_ ?_ k hk
  · intro x15
    rw [ln_f6_1]
    simp [n_f6_1, la_f6_1, ilt_nat, br_false]
  · intro k hk ih x15
    rw [ln_f6_1]
    have hgk := hg x60[k] (List.getElem_mem hk)
    have ef := falls_fine (u := x60[k]) (p := 2) hp hgk.1 (by omega) (by omega)
    have c1 : (polOk y8 && tB (GoodU y8 y12 x10 x11 x60[k]) && (((fallL (spansF y8 x60[k] 2)).1, (fallL (spansF y8 x60[k] 2)).2) == fallL (spansF y8 x60[k] 2)) && decide (0 ≤ x10 ∧ x11 ≤ 1000 ∧ x10 ≤ x10 ∧ x10 ≤ x11 + 1)) = true := by
      rw [hp, tB_iff.2 hgk, Bool.true_and, Bool.true_and, Bool.and_eq_true]
      exact ⟨beq_self_eq_true (fallL (spansF y8 x60[k] 2)), decide_eq_true (by omega)⟩
    simp only [n_f6_1, ilt_nat, cIx_nat, hk, decide_true, br_true, Int.toNat_natCast, lgt_get (y := tyKeep) hk, hpl, ef, c1, add1 (show k < 4611686018427387904 by omega), ih]
    simp only [la_f6_1, Int.toNat_natCast, List.drop_eq_getElem_cons hk, List.any_cons, Bool.or_assoc]
theorem lo_f6_0 : ∀ S l p, g_f6.L 0 (fgt fg_f6_0 S) = some (true, l) → pickA l = some p → loopF (roundF g_f6 fg_f6_0 tb_f6_0) S = some p :=
  lok_of (s := sh_f6_0) ⟨by decide, by decide⟩ (by kernel_rfl) fun x y hok p hp => by
  simp only [pickA_br, pickA_one] at hp
  exact (l_f6_0 x.2.1 x.2.2.1 x.2.2.2.2.1 x.2.2.2.2.2.1 x.2.2.2.2.2.2.2.1 x.2.2.2.2.2.2.2.2.1 x.2.2.2.2.2.2.2.2.2.1 x.2.2.2.2.2.2.2.2.2.2.1 x.2.2.2.2.2.2.2.2.2.2.2.1 x.2.2.2.2.2.2.2.2.2.2.2.2.1 y.1 y.2.1 y.2.2.1 (by simpa using hok)).trans hp
theorem lo_f6_1 : ∀ S l p, g_f6.L 1 (fgt fg_f6_1 S) = some (true, l) → pickA l = some p → loopF (roundF g_f6 fg_f6_1 tb_f6_1) S = some p :=
  lok_of (s := sh_f6_1) ⟨by decide, by decide⟩ (by kernel_rfl) fun x y hok p hp => by
  simp only [pickA_br, pickA_one] at hp
  exact (l_f6_1 x.2.1 x.2.2.1 x.2.2.2.2.1 x.2.2.2.2.2.1 x.2.2.2.2.2.2.1 x.2.2.2.2.2.2.2.1 x.2.2.2.2.2.2.2.2.1 y.1 y.2.1 (by simpa using hok)).trans hp
theorem lk_f6 : tc_f6.lok g_f6 := by
  repeat (first | exact trivial | exact lo_f6_0 | exact lo_f6_1 | refine ⟨?_, ?_⟩)
theorem anyD_iff {f : Int → Bool} : ∀ {n : Nat} {a : Int}, anyD f n a = true ↔ ∃ d, a ≤ d ∧ d < a + n ∧ f d = true
  | 0, a => by
    simp only [anyD]
    constructor
    · intro h; cases h
    · rintro ⟨d, h1, h2, _⟩; omega
  | n + 1, a => by
    simp only [anyD, Bool.or_eq_true]
    rw [anyD_iff]
    constructor
    · rintro (h | ⟨d, h1, h2, h3⟩)
      · exact ⟨a, Int.le_refl _, by omega, h⟩
      · exact ⟨d, by omega, by omega, h3⟩
    · rintro ⟨d, h1, h2, h3⟩
      by_cases hd : d = a
      · subst hd
        exact .inl h3
      · exact .inr ⟨d, by omega, by omega, h3⟩
/-- an allowed day makes the use one that can be taken -/
theorem ok_of_day {y : Policy} {p a b : Int} {u : Keep} {d : Int} (hp : polOk y = true) (h0 : 0 ≤ a) (hb : b ≤ 40000) (h1 : a ≤ d) (h2 : d ≤ b) (ha : allF y u p d = true) : okU y p a b u = true ∧ dyU y p a b u ≤ d :=
  first_min (spans_ws hp) h1 h2 ((spans_in hp (by omega) (by omega)).2 ha)
theorem good_all {y : Policy} {us : List Keep} {a b : Int} (hp : polOk y = true) (hu : us.all validF = true) (h0 : 0 ≤ a) (hb : b ≤ 40000) (u : Keep) (hm : u ∈ us) : GoodU y (bestF y us 2 a b).1 a b u := by
  refine ⟨List.all_eq_true.1 hu u hm, fun d h1 h2 ha => ?_⟩
  obtain ⟨k1, k2⟩ := ok_of_day hp h0 hb h1 h2 ha
  have hf : (bestF y us 2 a b).2 = true := by
    cases hq : (bestF y us 2 a b).2 with
    | true => rfl
    | false =>
      have := best_none hq u hm
      rw [k1] at this
      cases this
  obtain ⟨v, g1, g2, g3, g4⟩ := best_some hf
  rw [g3]
  refine ⟨List.all_eq_true.1 hu v g1, fun hfl => ?_, fun e => ?_⟩
  · have := g4 u hm k1
    have hfv : fallL (spansF y v 2) = ((fallL (spansF y v 2)).1, true) := Prod.ext rfl hfl
    have hv4 := fallI hp hfv
    have ev : flU y 2 v = (fallL (spansF y v 2)).1 := by unfold flU fallR; rw [if_pos hfl]
    have eu : flU y 2 u = if (fallL (spansF y u 2)).2 then (fallL (spansF y u 2)).1 else 40001 := rfl
    cases hq : (fallL (spansF y u 2)).2 with
    | true =>
      rw [hq, if_pos rfl] at eu
      exact ⟨rfl, by show (fallL (spansF y u 2)).1 ≤ (fallL (spansF y v 2)).1; omega⟩
    | false =>
      rw [hq, if_neg (by simp)] at eu
      omega
  · have e : u = v := e
    subst e
    exact k2
theorem s_f6 (p0 : List Int) (p1 p2 : Int) (h : b88 p0 p1 p2 = true) : r_f6 p0 p1 p2 = some (.t .bool (lawBest p0 p1 p2), []) := by
  simp only [b88, decide_eq_true_eq] at h
  simp only [r_f6]
  refine br_intro (fun _ => rfl) (fun g1 => ?_)
  have hd := not_light g1
  obtain ⟨hp, hl1, hl2, hN⟩ := pols_ok hd
  have hy : ((polsV (roll p0)).1, ((polsV (roll p0)).2.1, ())) = polsV (roll p0) := rfl
  simp only [hy]
  rw [hd, br_true, hN, br_true, show cNz 60 = true from rfl, br_true]
  generalize polsV (roll p0) = Y at hp hl1 hl2 ⊢
  have hu := uses_valid (polsN (roll p0))
  have hul := uses_len (polsN (roll p0))
  generalize usesV (polsN (roll p0)) = US at hu hul ⊢
  have e1 : icv .i64 p1 = p1 := Go.IntWalk.i64_in _ (by omega)
  have e2 : icv .i64 p2 = p2 := Go.IntWalk.i64_in _ (by omega)
  have e3 : irem p2 60 = p2 % 60 := by unfold irem; rw [Int.tmod_eq_emod_of_nonneg (by omega)]
  have e4 : iadd .i64 p1 (p2 % 60) = p1 + p2 % 60 := iadd_in (by omega)
  rw [e1, e2, e3, e4]
  have hB : p1 ≤ p1 + p2 % 60 ∧ p1 + p2 % 60 ≤ 400 := by omega
  generalize p1 + p2 % 60 = B at hB ⊢
  have l5 : lenOk5 US = true := decide_eq_true (by omega)
  have c1 : BestOk Y US 2 p1 B = true := by
    unfold BestOk
    rw [(pol_len hp).1, l5]
    rfl
  have c2 : BestF Y US 2 p1 B = ((bestF Y US 2 p1 B).1, (bestF Y US 2 p1 B).2, 0) := by
    unfold BestF
    rw [if_neg (by rw [hp]; simp), any_valid, hu, if_neg (by simp), if_neg (by omega)]
  have hg := good_all (a := p1) (b := B) hp hu (by omega) (by omega)
  rw [c1, br_true, c2]
  have c3 : (polOk Y && tB (∀ u, u ∈ US → GoodU Y (bestF Y US 2 p1 B).1 p1 B u) && rngOk US (llen US) 0 && decide (0 ≤ p1 ∧ B ≤ 1000 ∧ p1 ≤ B)) = true := by
    rw [hp, tB_iff.2 hg, rng_0 (by omega)]
    exact decide_eq_true (by omega)
  show br (ine 0 0) _ (br (polOk Y && tB (∀ u, u ∈ US → GoodU Y (bestF Y US 2 p1 B).1 p1 B u) && rngOk US (llen US) 0 && decide (0 ≤ p1 ∧ B ≤ 1000 ∧ p1 ≤ B)) _ _) = _
  rw [c3, show ine 0 0 = false from rfl, br_false, br_true]
  simp only [Int.toNat_zero, List.drop_zero, Bool.false_or]
  have hn : (B + 1 - p1).toNat = (B + 1 - p1) := by omega
  cases hf : (bestF Y US 2 p1 B).2 with
  | false =>
    have hno : US.any (fun u => anyD (allF Y u 2) (B + 1 - p1).toNat p1) = false := by
      refine Bool.eq_false_iff.2 fun hq => ?_
      obtain ⟨u, hm, h2⟩ := List.any_eq_true.1 hq
      obtain ⟨d, k1, k2, k3⟩ := anyD_iff.1 h2
      have := (ok_of_day (b := B) hp (by omega) (by omega) k1 (by omega) k3).1
      rw [best_none hf u hm] at this
      cases this
    rw [hno]
    rfl
  | true =>
    obtain ⟨v, g1, g2, g3, g4⟩ := best_some hf
    obtain ⟨k1, k2, k3, k4⟩ := first_all (p := 2) (a := p1) (b := B) hp (by omega) g2
    have hv := List.all_eq_true.1 hu v g1
    rw [g3]
    have eD : dyU Y 2 p1 B v = (firstF (spansF Y v 2) p1 B).1 := rfl
    rw [eD]
    have hal := allowed_fine (u := v) (p := 2) (d := (firstF (spansF Y v 2) p1 B).1) hp hv (by omega) (by omega)
    have hyes : US.any (fun u => anyD (allF Y u 2) (B + 1 - p1).toNat p1) = true := List.any_eq_true.2 ⟨v, g1, anyD_iff.2 ⟨_, k1, by omega, k4⟩⟩
    have c4 : polLen4 Y v 2 (firstF (spansF Y v 2) p1 B).1 = true := (pol_len hp).1
    rw [hyes]
    show br (polLen4 Y v 2 (firstF (spansF Y v 2) p1 B).1) (br true (br (AllowedF Y v 2 (firstF (spansF Y v 2) p1 B).1).1 (br (ieq (AllowedF Y v 2 (firstF (spansF Y v 2) p1 B).1).2.2 0) (br (ige (firstF (spansF Y v 2) p1 B).1 p1) (br (ile (firstF (spansF Y v 2) p1 B).1 B) _ _) _) _) _) _) none = _
    rw [c4, hal]
    show br true (br true (br (allF Y v 2 (firstF (spansF Y v 2) p1 B).1) (br (ieq 0 0) (br (ige (firstF (spansF Y v 2) p1 B).1 p1) (br (ile (firstF (spansF Y v 2) p1 B).1 B) _ _) _) _) _) _) none = _
    rw [k4, show ige (firstF (spansF Y v 2) p1 B).1 p1 = true from decide_eq_true (by omega), show ile (firstF (spansF Y v 2) p1 B).1 B = true from decide_eq_true (by omega)]
    rfl
def sp_f6 : Ent := spec (.pr (.sl tI) (.pr (.int .u8) (.pr (.int .u8) .nil))) (fun x => (b88 x.1 x.2.1 x.2.2.1)) (fun x => (.t .bool (lawBest x.1 x.2.1 x.2.2.1)))
theorem ms_f6 : Meets Tryz.prog 6 (strip sp_f6) := by
  obtain ⟨c, hc, hi⟩ := Option.map_eq_some_iff.1 ok_f6
  exact meets_spec (R := runF g_f6 tc_f6 rv_f6 false) (meets_of (by decide) Tryz.func6 hc hi Tryz.ntmps6 rok_f6 gk_f6 lk_f6 mixed) fun x hok => (e_f6 x.1 x.2.1 x.2.2.1).trans (s_f6 x.1 x.2.1 x.2.2.1 hok)
theorem okw_RenewalBest (z0 : List Int) (z1 z2 : Int) (w0 : Ty.wf (.sl (.int .i64)) z0) (w1 : Ty.wf (.int .u8) z1) (w2 : Ty.wf (.int .u8) z2) : b88 z0 z1 z2 = true := by
  have h1 := wf_u8 w1
  have h2 := wf_u8 w2
  exact decide_eq_true (by omega)
end
theorem walkRenewalBest (z0 : (List Int)) (z1 : Int) (z2 : Int) (W : World) (v0 : Value) (v1 : Value) (v2 : Value) (c0 : C noX W (fun _ => .no) (V.t (.sl tI) z0).d v0) (c1 : C noX W (fun _ => .no) (V.t (.int .u8) z1).d v1) (c2 : C noX W (fun _ => .no) (V.t (.int .u8) z2).d v2) (w0 : Ty.wf (.sl tI) z0) (w1 : Ty.wf (.int .u8) z1) (w2 : Ty.wf (.int .u8) z2) :
    Calls Tryz.prog 6 #[v0, v1, v2] W fun r w' => r = .returned (.bool true) ∧ Below W.heap.size W w' :=
  calls_true (by decide) ms_f6 (args := [.t (.sl tI) z0, .t (.int .u8) z1, .t (.int .u8) z2]) (strip_spec (x := (z0, z1, z2, ())) rfl (okw_RenewalBest z0 z1 z2 w0 w1 w2)) (by simp only [V.ds, Cs]; exact ⟨_, _, rfl, c0, _, _, rfl, c1, _, _, rfl, c2, rfl⟩)
end Go.Proofs.YtfehjdaielifiaaGreat.K
