/-
  executable: which executable bytes are, by the program and by its answer.
-/
import Derived.Test.YtdbaaejiolibfaaG3
set_option linter.unusedSimpArgs false
set_option linter.unusedVariables false
namespace Go.Proofs.Ytdbaaejiolibfaa.K
open Go.RowKit
noncomputable section
theorem flat_bound {α β : Type} (f : α → List β) (B : Nat) : ∀ (l : List α), (∀ x ∈ l, (f x).length ≤ B) → (l.flatMap f).length ≤ l.length * B
  | [], _ => by simp
  | a :: l, h => by
    rw [List.flatMap_cons, List.length_append, List.length_cons, Nat.succ_mul]
    have h1 := h a (by simp)
    have h2 := flat_bound f B l fun x hx => h x (by simp [hx])
    omega
theorem strOf_size (l : List Int) : (strOf l).size = l.length := by simp [strOf, ByteArray.size]
theorem take_len {d : Reader} {n : Int} (h : rdOk d = true) : (takeV d n).length ≤ 100000 := by
  simp only [rdOk, Bool.and_eq_true, decide_eq_true_eq] at h
  unfold takeV
  cases rdFail d n with
  | true => exact Nat.zero_le _
  | false =>
    show (d.1.take n.toNat).length ≤ _
    rw [List.length_take]
    omega
theorem sec_small {d : Reader} (h : rdOk d = true) : (secB (secV d)).length ≤ 200003 := by
  rw [secB_len]
  have h1 := take_len (n := rnumV d 1) (rnum_ok (c := 1) h (by omega)).2.2
  have h2 := take_len (n := rnumV (rnameN d) 2) (rnum_ok (c := 2) (rname_ok h) (by omega)).2.2
  show 3 + (strOf (takeV (rnumN d 1) (rnumV d 1))).size + (takeV (rnumN (rnameN d) 2) (rnumV (rnameN d) 2)).length ≤ 200003
  rw [strOf_size]
  omega
theorem sym_small {d : Reader} (h : rdOk d = true) : (symB (symV d)).length ≤ 200003 := by
  rw [symB_len]
  have h1 := take_len (n := rnumV d 1) (rnum_ok (c := 1) h (by omega)).2.2
  show 5 + (strOf (takeV (rnumN d 1) (rnumV d 1))).size ≤ 200003
  rw [strOf_size]
  omega
theorem secs_small : ∀ (n : Nat) {d : Reader}, rdOk d = true → ∀ x ∈ (secsP n d).1, (secB x).length ≤ 200003
  | 0, d, _, x, hx => by cases hx
  | n + 1, d, h, x, hx => by
    unfold secsP at hx
    cases hd : d.2.1 with
    | true => rw [hd] at hx; cases hx
    | false =>
      rw [hd] at hx
      rcases List.mem_cons.1 hx with rfl | hx
      · exact sec_small h
      · exact secs_small n (sec_ok h) x hx
theorem syms_small : ∀ (n : Nat) {d : Reader}, rdOk d = true → ∀ x ∈ (symsP n d).1, (symB x).length ≤ 200003
  | 0, d, _, x, hx => by cases hx
  | n + 1, d, h, x, hx => by
    unfold symsP at hx
    cases hd : d.2.1 with
    | true => rw [hd] at hx; cases hx
    | false =>
      rw [hd] at hx
      rcases List.mem_cons.1 hx with rfl | hx
      · exact sym_small h
      · exact syms_small n (sym_ok h) x hx
theorem rnum1_le {d : Reader} (h : rdOk d = true) : (rnumV d 1).toNat ≤ 255 := by
  have h1 := (rnum_ok (c := 1) h (by omega)).1
  rw [rnum_nn h1, Int.toNat_natCast]
  obtain ⟨q1, q2, _⟩ := take_all (n := 1) h
  have hl : (takeV d 1).length ≤ 1 := by omega
  generalize takeV d 1 = l at q1 hl
  match l, q1, hl with
  | [], _, _ => exact Nat.zero_le _
  | [b], q, _ =>
    simp only [List.all_cons, List.all_nil, Bool.and_true, isB, decide_eq_true_eq] at q
    show 0 * 256 + b.toNat ≤ 255
    omega
def noImg : Image := (([] : List Section), (([] : List Symbol), ()))
def d0D (l : List Int) : Reader := (l, (false, ()))
def d1D (l : List Int) : Reader := rnumN (takeN (d0D l) 3) 1
def n1D (l : List Int) : Nat := (rnumV (takeN (d0D l) 3) 1).toNat
def d2D (l : List Int) : Reader := (secsP (n1D l) (d1D l)).2
def d3D (l : List Int) : Reader := rnumN (d2D l) 1
def n2D (l : List Int) : Nat := (rnumV (d2D l) 1).toNat
def d4D (l : List Int) : Reader := (symsP (n2D l) (d3D l)).2
def imD (l : List Int) : Image := ((secsP (n1D l) (d1D l)).1, ((symsP (n2D l) (d3D l)).1, ()))
def mgD (l : List Int) : Bool := sne (strOf (takeV (d0D l) 3)) (ByteArray.mk #[88, 69, 1])
def decX (l : List Int) : Image × Int := bif decide (4096 < l.length) then (noImg, 3) else bif mgD l then (noImg, 1) else bif (d4D l).2.1 || decide (0 < (d4D l).1.length) then (noImg, 1) else bif badX (imD l) then (noImg, 20) else (imD l, 0)
def decOkX (l : List Int) : Bool := l.all isB && decide (l.length ≤ 100000)
theorem dec_facts {l : List Int} (h : decOkX l = true) : rdOk (d0D l) = true ∧ rdOk (takeN (d0D l) 3) = true ∧ rdOk (d1D l) = true ∧ rdOk (d2D l) = true ∧ rdOk (d3D l) = true ∧ rdOk (d4D l) = true ∧ n1D l ≤ 255 ∧ n2D l ≤ 255 ∧ chkOk (imD l) = true := by
  have h0 : rdOk (d0D l) = true := h
  have h1 : rdOk (takeN (d0D l) 3) = true := (take_all h0).2.2
  have h2 : rdOk (d1D l) = true := (rnum_ok h1 (by omega)).2.2
  have h3 : rdOk (d2D l) = true := secs_ok _ h2
  have h4 : rdOk (d3D l) = true := (rnum_ok h3 (by omega)).2.2
  have h5 : rdOk (d4D l) = true := syms_ok _ h4
  have n1 : n1D l ≤ 255 := rnum1_le h1
  have n2 : n2D l ≤ 255 := rnum1_le h3
  refine ⟨h0, h1, h2, h3, h4, h5, n1, n2, ?_⟩
  have a1 : (imD l).1.length ≤ 255 := Nat.le_trans (secs_len _ _) n1
  have a2 : (imD l).2.1.length ≤ 255 := Nat.le_trans (syms_len _ _) n2
  have b1 := flat_bound secB 200003 (imD l).1 (secs_small _ h2)
  have b2 := flat_bound symB 200003 (imD l).2.1 (syms_small _ h4)
  have c1 : (imD l).1.length * 200003 ≤ 255 * 200003 := Nat.mul_le_mul_right _ a1
  have c2 : (imD l).2.1.length * 200003 ≤ 255 * 200003 := Nat.mul_le_mul_right _ a2
  simp only [chkOk, wrOk, imgOk, Bool.and_eq_true, decide_eq_true_eq]
  omega
def dr_f12_0 : List DO := [(.mk (oP 62 (.fa 1 (.t 5))) []), (.mk (oL 63 62) [0]), (.mk (oV 64 4) []), (.mk (oC 65 24 [(.t 64)]) [2]), (.mk (oV 66 4) []), (.mk (oC 67 23 [(.t 66), (cI 4)]) [4, 3]), (.mk (oP 68 (.bd [(.v (.string (ByteArray.mk #[]))), (.v (.int .i64 0))] [(0, 1, (.t 65)), (1, 1, (.t 67))])) [3, 5]), (.mk (oM 69 (.bs 46 2 1 [(.v (.string (ByteArray.mk #[]))), (.v (.int .i64 0))] [(0, 2, (.t 68))])) [6]), (.mk (oM 70 (.app 46 2 24 (.t 63) (.t 69))) [1, 7, 5]), (.mk (oP 71 (.fa 1 (.t 5))) [0, 1, 2, 3, 4, 5, 6, 7, 8]), (.mk (.mk none none (.m (.st 1 (.t 71) (.t 70)))) [9, 8, 8, 0, 1, 2, 3, 4, 5, 6, 7, 8])]
def fg_f12_0 : Fg := ⟨[(2, none), (4, none), (5, none), (6, some tI)], [(2, some tyImage), (5, none), (15, some tyReader), (47, none), (70, none), (20500, none), (20501, none)]⟩
def tb_f12_0 : TC := (.sq (.sq (.reg [(oV 23 6), (oP 24 (.bin false .gtr (.t 23) (cI 0))), (oV 25 24), (oQ 26 25 true (.mv (.t 4))), (oQ 27 25 true (.nc (.t 26))), (oQ 28 25 true (.fa 1 (.t 27))), (oG 29 25 true (.m (.ld false 1 (.t 28)))), (oQ 30 25 true (.nt (.t 29))), (oP 31 (.pick (.t 25) (.t 30) (cB false)))]) (.cd (.t 31) .sk (.fg ⟨[(2, none), (4, none), (5, none)], [(2, some tyImage), (5, some tyImage), (15, some tyReader), (47, none), (70, none), (20500, none), (20501, none)]⟩ (.ex 0)))) (.sq (.bk 1 (.sq (.reg [(oV 34 4), (oC 35 24 [(.t 34)]), (oP 36 (.bd [(.v (.string (ByteArray.mk #[]))), (.v (.slice none 0 0))] [(0, 1, (.t 35))])), (oM 7 (.new [(.v (.string (ByteArray.mk #[]))), (.v (.slice none 0 0))])), (.mk none none (.m (.st 2 (.t 7) (.t 36))))]) (.sq (.reg [(oV 37 4), (oV 38 4), (oC 39 23 [(.t 38), (cI 2)]), (oC 40 22 [(.t 37), (.t 39)]), (oC 41 25 [(.t 40)]), (oP 42 (.fa 1 (.t 7))), (.mk none none (.m (.st 1 (.t 42) (.t 41))))]) (.reg [(oP 43 (.fa 0 (.t 5))), (oL 44 43), (oM 45 (.ld true 2 (.t 7))), (oM 46 (.bs 44 2 1 [(.v (.string (ByteArray.mk #[]))), (.v (.slice none 0 0))] [(0, 2, (.t 45))])), (oM 47 (.app 44 2 40 (.t 44) (.t 46))), (oP 48 (.fa 0 (.t 5))), (.mk none none (.m (.st 1 (.t 48) (.t 47))))])))) (.reg [(oV 32 6), (oP 33 (.bin false .sub (.t 32) (cI 1))), (oV 6 33)])))
def fg_f12_1 : Fg := ⟨[(2, none), (4, none), (5, none), (8, some tI)], [(2, some tyImage), (5, none), (15, some tyReader), (47, none), (70, none), (20500, none), (20501, none)]⟩
def tb_f12_1 : TC := (.sq (.sq (.reg [(oV 51 8), (oP 52 (.bin false .gtr (.t 51) (cI 0))), (oV 53 52), (oQ 54 53 true (.mv (.t 4))), (oQ 55 53 true (.nc (.t 54))), (oQ 56 53 true (.fa 1 (.t 55))), (oG 57 53 true (.m (.ld false 1 (.t 56)))), (oQ 58 53 true (.nt (.t 57))), (oP 59 (.pick (.t 53) (.t 58) (cB false)))]) (.cd (.t 59) .sk (.fg ⟨[(2, none), (4, none), (5, none)], [(2, some tyImage), (5, some tyImage), (15, some tyReader), (47, none), (70, none), (20500, none), (20501, none)]⟩ (.ex 2)))) (.sq (.bk 3 (.dr dr_f12_0 [(0, [5, 47, 70, 20500, 20501]), (1, [5, 47, 70, 20500, 20501]), (2, [15]), (3, [15, 65, 5065, 10065, 15065]), (4, [15]), (5, [15, 67, 5067, 10067, 15067]), (6, []), (7, []), (8, [2, 5, 47, 70, 5070, 10070, 15070, 20500, 20501]), (9, [5, 47, 70, 20500, 20501]), (10, [2, 5, 47, 70, 20500, 20501])] (.one 0 (.one 1 (.one 2 (.alt 3 (.of [4, 5, 6, 7, 8, 9, 10]) (.of [4, 3, 5, 6, 7, 8, 9, 10]))))))) (.reg [(oV 60 8), (oP 61 (.bin false .sub (.t 60) (cI 1))), (oV 8 61)])))
/-- cipherplan/executable.Decode -/
def tc_f12 : TC := (.sq (.reg [(oM 2 (.new [(.v (.slice none 0 0)), (.v (.slice none 0 0))])), (oP 3 (.mv (cI 0)))]) (.sq (.sq (.reg [(oV 9 0), (oP 10 (.len false (.t 9))), (oP 11 (.bin false .gtr (.t 10) (cI 4096)))]) (.cd (.t 11) (.sq (.reg [(oP 12 (.bd [(.v (.slice none 0 0)), (.v (.slice none 0 0))] [])), (.mk none none (.m (.st 2 (.t 2) (.t 12)))), (oP 3 (.mv (cI 3)))]) .rt) .sk)) (.sq (.reg [(oV 13 0), (oP 14 (.bd [(.v (.slice none 0 0)), (.v (.bool false))] [(0, 1, (.t 13))])), (oM 15 (.box (.t 14))), (oV 4 15)]) (.sq (.sq (.reg [(oV 16 4), (oC 17 22 [(.t 16), (cI 3)]), (oC 18 2440368 [(.t 17)]), (oP 19 (.bin false .neq (.t 18) (.c (.v (.string (ByteArray.mk #[88, 69, 1]))))))]) (.cd (.t 19) (.sq (.reg [(oP 20 (.bd [(.v (.slice none 0 0)), (.v (.slice none 0 0))] [])), (.mk none none (.m (.st 2 (.t 2) (.t 20)))), (oP 3 (.mv (cI 1)))]) .rt) .sk)) (.sq (.reg [(oM 5 (.new [(.v (.slice none 0 0)), (.v (.slice none 0 0))]))]) (.sq (.sq (.reg [(oV 21 4), (oC 22 23 [(.t 21), (cI 1)]), (oV 6 22)]) (.bk 0 (.nf 5 1 46 20501 (.nf 5 0 44 20500 (.lp 0 fg_f12_0 tb_f12_0))))) (.sq (.sq (.reg [(oV 49 4), (oC 50 23 [(.t 49), (cI 1)]), (oV 8 50)]) (.bk 2 (.nf 5 0 44 20500 (.nf 5 1 46 20501 (.lp 1 fg_f12_1 tb_f12_1))))) (.sq (.bk 4 (.sq (.reg [(oV 73 4), (oP 74 (.nc (.t 73))), (oP 75 (.fa 1 (.t 74))), (oL 76 75), (oV 77 76), (oQ 78 77 false (.mv (.t 4))), (oQ 79 77 false (.nc (.t 78))), (oQ 80 77 false (.fa 0 (.t 79))), (oG 81 77 false (.m (.ld false 1 (.t 80)))), (oQ 82 77 false (.len false (.t 81))), (oQ 83 77 false (.bin false .gtr (.t 82) (cI 0))), (oP 84 (.pick (.t 77) (cB true) (.t 83))), (oV 72 84)]) (.cd (.t 72) (.sq (.reg [(oP 85 (.bd [(.v (.slice none 0 0)), (.v (.slice none 0 0))] [])), (.mk none none (.m (.st 2 (.t 2) (.t 85)))), (oP 3 (.mv (cI 1)))]) .rt) (.sq (.reg [(oM 87 (.ld true 2 (.t 5))), (oC 88 26 [(.t 87)]), (oP 89 (.bin false .neq (.t 88) (cI 0))), (oV 86 89)]) (.cd (.t 86) (.sq (.reg [(oP 90 (.bd [(.v (.slice none 0 0)), (.v (.slice none 0 0))] [])), (.mk none none (.m (.st 2 (.t 2) (.t 90)))), (oP 3 (.mv (cI 20)))]) .rt) .sk))))) (.sq (.reg [(oM 91 (.ld true 2 (.t 5))), (.mk none none (.m (.st 2 (.t 2) (.t 91)))), (oP 3 (.mv (cI 0)))]) .rt)))))))))
def rv_f12 : List (RV × Option Ty) := [((.c 2 true 2), some tyImage), ((.t 3), some tI)]
abbrev sh_f12_0 : Sh := ⟨[(2, .ptr 2 0), (4, .ptr 15 0), (5, .ptr 5 0), (6, .ty tI)], [(2, .box tyImage), (5, .bag [.ms 20500, .ms 20501]), (15, .box tyReader), (47, .no), (70, .no), (20500, .arr 44 tySection), (20501, .arr 46 tySymbol)]⟩
def st_f12_0 (x6 : Int) (y2 : Image) (y15 : Reader) (y20500 : (List Section)) (y20501 : (List Symbol)) : VS := sh_f12_0.st ((), (), (), x6, ()) (y2, ((), (), ()), y15, (), (), y20500, y20501, ())
abbrev sh_f12_0_e0 : Sh := ⟨[(2, .ptr 2 0), (4, .ptr 15 0), (5, .ptr 5 0)], [(2, .box tyImage), (5, .bag [.ms 20500, .ms 20501]), (15, .box tyReader), (47, .no), (70, .no), (20500, .arr 44 tySection), (20501, .arr 46 tySymbol)]⟩
def st_f12_0_e0 (y2 : Image) (y15 : Reader) (y20500 : (List Section)) (y20501 : (List Symbol)) : VS := sh_f12_0_e0.st ((), (), (), ()) (y2, ((), (), ()), y15, (), (), y20500, y20501, ())
-- loop 0: (x6 : Int) (y2 : Image) (y15 : Reader) (y20500 : (List Section)) (y20501 : (List Symbol)); out: ('exit', 0) (y2 : Image) (y15 : Reader) (y20500 : (List Section)) (y20501 : (List Symbol))
abbrev sh_f12_1 : Sh := ⟨[(2, .ptr 2 0), (4, .ptr 15 0), (5, .ptr 5 0), (8, .ty tI)], [(2, .box tyImage), (5, .bag [.ms 20500, .ms 20501]), (15, .box tyReader), (47, .no), (70, .no), (20500, .arr 44 tySection), (20501, .arr 46 tySymbol)]⟩
def st_f12_1 (x8 : Int) (y2 : Image) (y15 : Reader) (y20500 : (List Section)) (y20501 : (List Symbol)) : VS := sh_f12_1.st ((), (), (), x8, ()) (y2, ((), (), ()), y15, (), (), y20500, y20501, ())
abbrev sh_f12_1_e2 : Sh := ⟨[(2, .ptr 2 0), (4, .ptr 15 0), (5, .ptr 5 0)], [(2, .box tyImage), (5, .bag [.ms 20500, .ms 20501]), (15, .box tyReader), (47, .no), (70, .no), (20500, .arr 44 tySection), (20501, .arr 46 tySymbol)]⟩
def st_f12_1_e2 (y2 : Image) (y15 : Reader) (y20500 : (List Section)) (y20501 : (List Symbol)) : VS := sh_f12_1_e2.st ((), (), (), ()) (y2, ((), (), ()), y15, (), (), y20500, y20501, ())
-- loop 1: (x8 : Int) (y2 : Image) (y15 : Reader) (y20500 : (List Section)) (y20501 : (List Symbol)); out: ('exit', 2) (y2 : Image) (y15 : Reader) (y20500 : (List Section)) (y20501 : (List Symbol))
def L_f12_0 : VS → Option (Bool × List (Bool × Exit × VS)) := mkL sh_f12_0 (fun x y => (rdOk y.2.2.1 && decide (0 ≤ x.2.2.2.1 ∧ y.2.2.2.2.2.1.length + x.2.2.2.1.toNat ≤ 100000))) (fun x y => [(true, .exit 0, st_f12_0_e0 (y.1) ((secsP x.2.2.2.1.toNat y.2.2.1).2) (y.2.2.2.2.2.1 ++ (secsP x.2.2.2.1.toNat y.2.2.1).1) (y.2.2.2.2.2.2.1))])
def L_f12_1 : VS → Option (Bool × List (Bool × Exit × VS)) := mkL sh_f12_1 (fun x y => (rdOk y.2.2.1 && decide (0 ≤ x.2.2.2.1 ∧ y.2.2.2.2.2.2.1.length + x.2.2.2.1.toNat ≤ 100000))) (fun x y => [(true, .exit 2, st_f12_1_e2 (y.1) ((symsP x.2.2.2.1.toNat y.2.2.1).2) (y.2.2.2.2.2.1) (y.2.2.2.2.2.2.1 ++ (symsP x.2.2.2.1.toNat y.2.2.1).1))])
def g_f12 : G := ⟨TYs, [], 92, EL [(22, sp_f22), (23, sp_f23), (24, sp_f24), (25, sp_f25), (26, sp_f26), (2440368, sp_op_convert_23_9)], keeps, (Ls [L_f12_0, L_f12_1]), IL [], RL []⟩
def b_f12_0 (x6 : Int) (y2 : Image) (y15 : Reader) (y20500 : (List Section)) (y20501 : (List Symbol)) : Option (Exit × VS) :=
  br ((igt x6 0))
    (br ((!y15.2.1))
      (br ((rdOk y15))
        (br ((rnumOk (rnameN y15) 2))
          (br ((takeOk (rnumN (rnameN y15) 2) (rnumV (rnameN y15) 2)))
            (br ((clonOk (takeV (rnumN (rnameN y15) 2) (rnumV (rnameN y15) 2))))
              (br (cApp y20500 ([((rnameV y15), ((clonB (takeV (rnumN (rnameN y15) 2) (rnumV (rnameN y15) 2))), ()))]) 40)
                (some (.normal, st_f12_0 (isub .i64 x6 1) y2 (takeN (rnumN (rnameN y15) 2) (rnumV (rnameN y15) 2)) (y20500 ++ ([((rnameV y15), ((clonB (takeV (rnumN (rnameN y15) 2) (rnumV (rnameN y15) 2))), ()))])) y20501))
                (none))
              (none))
            (none))
          (none))
        (none))
      (some (.exit 0, st_f12_0_e0 y2 y15 y20500 y20501)))
    (some (.exit 0, st_f12_0_e0 y2 y15 y20500 y20501))
noncomputable def lp_f12_0 (x6 : Int) (y2 : Image) (y15 : Reader) (y20500 : (List Section)) (y20501 : (List Symbol)) : Option (Exit × VS) := loopF (roundF g_f12 fg_f12_0 tb_f12_0) (st_f12_0 x6 y2 y15 y20500 y20501)
noncomputable def n_f12_0 (x6 : Int) (y2 : Image) (y15 : Reader) (y20500 : (List Section)) (y20501 : (List Symbol)) : Option (Exit × VS) :=
  br ((igt x6 0))
    (br ((!y15.2.1))
      (br ((rdOk y15))
        (br ((rnumOk (rnameN y15) 2))
          (br ((takeOk (rnumN (rnameN y15) 2) (rnumV (rnameN y15) 2)))
            (br ((clonOk (takeV (rnumN (rnameN y15) 2) (rnumV (rnameN y15) 2))))
              (br (cApp y20500 ([((rnameV y15), ((clonB (takeV (rnumN (rnameN y15) 2) (rnumV (rnameN y15) 2))), ()))]) 40)
                (lp_f12_0 (isub .i64 x6 1) y2 (takeN (rnumN (rnameN y15) 2) (rnumV (rnameN y15) 2)) (y20500 ++ ([((rnameV y15), ((clonB (takeV (rnumN (rnameN y15) 2) (rnumV (rnameN y15) 2))), ()))])) y20501)
                (none))
              (none))
            (none))
          (none))
        (none))
      (some (.exit 0, st_f12_0_e0 y2 y15 y20500 y20501)))
    (some (.exit 0, st_f12_0_e0 y2 y15 y20500 y20501))
def la_f12_0 (x6 : Int) (y2 : Image) (y15 : Reader) (y20500 : (List Section)) (y20501 : (List Symbol)) : Option (Exit × VS) := some (.exit 0, st_f12_0_e0 (y2) ((secsP x6.toNat y15).2) (y20500 ++ (secsP x6.toNat y15).1) (y20501))
theorem be_f12_0 (x6 : Int) (y2 : Image) (y15 : Reader) (y20500 : (List Section)) (y20501 : (List Symbol)) : roundF g_f12 fg_f12_0 tb_f12_0 (st_f12_0 x6 y2 y15 y20500 y20501) = b_f12_0 x6 y2 y15 y20500 y20501 := by kernel_rfl
theorem ln_f12_0 (x6 : Int) (y2 : Image) (y15 : Reader) (y20500 : (List Section)) (y20501 : (List Symbol)) : lp_f12_0 x6 y2 y15 y20500 y20501 = n_f12_0 x6 y2 y15 y20500 y20501 := (loopF_nxt _ _).trans (by
  rw [be_f12_0]
  simp only [b_f12_0, n_f12_0, nxt_br, nxt_n, nxt_r, nxt_e, nxt_0]
  rfl)
def b_f12_1_1 (x8 : Int) (y2 : Image) (y15 : Reader) (y20500 : (List Section)) (y20501 : (List Symbol)) : Option (Exit × VS) :=
  br ((rdOk y15))
    (br ((rnumOk (rnameN y15) 4))
      (br (cApp y20501 ([((rnameV y15), ((rnumV (rnameN y15) 4), ()))]) 24)
        (some (.normal, st_f12_1 (isub .i64 x8 1) y2 (rnumN (rnameN y15) 4) y20500 (y20501 ++ ([((rnameV y15), ((rnumV (rnameN y15) 4), ()))]))))
        (none))
      (none))
    (none)
def b_f12_1 (x8 : Int) (y2 : Image) (y15 : Reader) (y20500 : (List Section)) (y20501 : (List Symbol)) : Option (Exit × VS) :=
  br ((igt x8 0))
    (br ((!y15.2.1))
      (frk
        (b_f12_1_1 x8 y2 y15 y20500 y20501)
        (b_f12_1_1 x8 y2 y15 y20500 y20501))
      (some (.exit 2, st_f12_1_e2 y2 y15 y20500 y20501)))
    (some (.exit 2, st_f12_1_e2 y2 y15 y20500 y20501))
noncomputable def lp_f12_1 (x8 : Int) (y2 : Image) (y15 : Reader) (y20500 : (List Section)) (y20501 : (List Symbol)) : Option (Exit × VS) := loopF (roundF g_f12 fg_f12_1 tb_f12_1) (st_f12_1 x8 y2 y15 y20500 y20501)
noncomputable def n_f12_1_1 (x8 : Int) (y2 : Image) (y15 : Reader) (y20500 : (List Section)) (y20501 : (List Symbol)) : Option (Exit × VS) :=
  br ((rdOk y15))
    (br ((rnumOk (rnameN y15) 4))
      (br (cApp y20501 ([((rnameV y15), ((rnumV (rnameN y15) 4), ()))]) 24)
        (lp_f12_1 (isub .i64 x8 1) y2 (rnumN (rnameN y15) 4) y20500 (y20501 ++ ([((rnameV y15), ((rnumV (rnameN y15) 4), ()))])))
        (none))
      (none))
    (none)
noncomputable def n_f12_1 (x8 : Int) (y2 : Image) (y15 : Reader) (y20500 : (List Section)) (y20501 : (List Symbol)) : Option (Exit × VS) :=
  br ((igt x8 0))
    (br ((!y15.2.1))
      (frk
        (n_f12_1_1 x8 y2 y15 y20500 y20501)
        (n_f12_1_1 x8 y2 y15 y20500 y20501))
      (some (.exit 2, st_f12_1_e2 y2 y15 y20500 y20501)))
    (some (.exit 2, st_f12_1_e2 y2 y15 y20500 y20501))
def la_f12_1 (x8 : Int) (y2 : Image) (y15 : Reader) (y20500 : (List Section)) (y20501 : (List Symbol)) : Option (Exit × VS) := some (.exit 2, st_f12_1_e2 (y2) ((symsP x8.toNat y15).2) (y20500) (y20501 ++ (symsP x8.toNat y15).1))
theorem be_f12_1 (x8 : Int) (y2 : Image) (y15 : Reader) (y20500 : (List Section)) (y20501 : (List Symbol)) : roundF g_f12 fg_f12_1 tb_f12_1 (st_f12_1 x8 y2 y15 y20500 y20501) = b_f12_1 x8 y2 y15 y20500 y20501 := by kernel_rfl
theorem ln_f12_1 (x8 : Int) (y2 : Image) (y15 : Reader) (y20500 : (List Section)) (y20501 : (List Symbol)) : lp_f12_1 x8 y2 y15 y20500 y20501 = n_f12_1 x8 y2 y15 y20500 y20501 := (loopF_nxt _ _).trans (by
  rw [be_f12_1]
  first
  | (simp only [b_f12_1, b_f12_1_1, frk_self, n_f12_1, n_f12_1_1, frk_self, nxt_br, nxt_n, nxt_r, nxt_e, nxt_0]
     rfl)
  | (simp only [b_f12_1, b_f12_1_1, frk_self, n_f12_1, n_f12_1_1, frk_self]
     try generalize (cApp y20501 ([((rnameV y15), ((rnumV (rnameN y15) 4), ()))]) 24) = cq0
     try generalize ((rnumOk (rnameN y15) 4)) = cq1
     try generalize ((rdOk y15)) = cq2
     simp only [brN, frk_self, Bool.and_assoc, Bool.and_comm, Bool.and_left_comm, Bool.and_self, Bool.and_self_left, nxt_br, nxt_n, nxt_r, nxt_e, nxt_0]
     try rfl))
def r_f12 (p0 : (List Int)) : Option (V × List VO) :=
  br ((igt (llen p0) 4096))
    (some (.tu [(.t tyImage (([] : List Section), (([] : List Symbol), ()))), (.t tI 3)], []))
    (br ((takeOk (p0, (false, ())) 3))
      (br ((sne (strOf (takeV (p0, (false, ())) 3)) (ByteArray.mk #[88, 69, 1])))
        (some (.tu [(.t tyImage (([] : List Section), (([] : List Symbol), ()))), (.t tI 1)], []))
        (br ((rnumOk (takeN (p0, (false, ())) 3) 1))
          (br ((rdOk (rnumN (takeN (p0, (false, ())) 3) 1) && decide (0 ≤ (rnumV (takeN (p0, (false, ())) 3) 1) ∧ ([] : List Section).length + (rnumV (takeN (p0, (false, ())) 3) 1).toNat ≤ 100000)))
            (br ((rnumOk ((secsP (rnumV (takeN (p0, (false, ())) 3) 1).toNat (rnumN (takeN (p0, (false, ())) 3) 1)).2) 1))
              (br ((rdOk (rnumN ((secsP (rnumV (takeN (p0, (false, ())) 3) 1).toNat (rnumN (takeN (p0, (false, ())) 3) 1)).2) 1) && decide (0 ≤ (rnumV ((secsP (rnumV (takeN (p0, (false, ())) 3) 1).toNat (rnumN (takeN (p0, (false, ())) 3) 1)).2) 1) ∧ (([] : List Symbol)).length + (rnumV ((secsP (rnumV (takeN (p0, (false, ())) 3) 1).toNat (rnumN (takeN (p0, (false, ())) 3) 1)).2) 1).toNat ≤ 100000)))
                (br ((((symsP (rnumV ((secsP (rnumV (takeN (p0, (false, ())) 3) 1).toNat (rnumN (takeN (p0, (false, ())) 3) 1)).2) 1).toNat (rnumN ((secsP (rnumV (takeN (p0, (false, ())) 3) 1).toNat (rnumN (takeN (p0, (false, ())) 3) 1)).2) 1)).2).2).1)
                  (some (.tu [(.t tyImage (([] : List Section), (([] : List Symbol), ()))), (.t tI 1)], []))
                  (br ((igt (llen (((symsP (rnumV ((secsP (rnumV (takeN (p0, (false, ())) 3) 1).toNat (rnumN (takeN (p0, (false, ())) 3) 1)).2) 1).toNat (rnumN ((secsP (rnumV (takeN (p0, (false, ())) 3) 1).toNat (rnumN (takeN (p0, (false, ())) 3) 1)).2) 1)).2).1)) 0))
                    (some (.tu [(.t tyImage (([] : List Section), (([] : List Symbol), ()))), (.t tI 1)], []))
                    (br ((chkOk (((([] : List Section) ++ (secsP (rnumV (takeN (p0, (false, ())) 3) 1).toNat (rnumN (takeN (p0, (false, ())) 3) 1)).1)), (((([] : List Symbol)) ++ (symsP (rnumV ((secsP (rnumV (takeN (p0, (false, ())) 3) 1).toNat (rnumN (takeN (p0, (false, ())) 3) 1)).2) 1).toNat (rnumN ((secsP (rnumV (takeN (p0, (false, ())) 3) 1).toNat (rnumN (takeN (p0, (false, ())) 3) 1)).2) 1)).1), ()))))
                      (br ((ine (checkX (((([] : List Section) ++ (secsP (rnumV (takeN (p0, (false, ())) 3) 1).toNat (rnumN (takeN (p0, (false, ())) 3) 1)).1)), (((([] : List Symbol)) ++ (symsP (rnumV ((secsP (rnumV (takeN (p0, (false, ())) 3) 1).toNat (rnumN (takeN (p0, (false, ())) 3) 1)).2) 1).toNat (rnumN ((secsP (rnumV (takeN (p0, (false, ())) 3) 1).toNat (rnumN (takeN (p0, (false, ())) 3) 1)).2) 1)).1), ()))) 0))
                        (some (.tu [(.t tyImage (([] : List Section), (([] : List Symbol), ()))), (.t tI 20)], []))
                        (some (.tu [(.t tyImage (((([] : List Section) ++ (secsP (rnumV (takeN (p0, (false, ())) 3) 1).toNat (rnumN (takeN (p0, (false, ())) 3) 1)).1)), (((([] : List Symbol)) ++ (symsP (rnumV ((secsP (rnumV (takeN (p0, (false, ())) 3) 1).toNat (rnumN (takeN (p0, (false, ())) 3) 1)).2) 1).toNat (rnumN ((secsP (rnumV (takeN (p0, (false, ())) 3) 1).toNat (rnumN (takeN (p0, (false, ())) 3) 1)).2) 1)).1), ()))), (.t tI 0)], [])))
                      (none))))
                (none))
              (none))
            (none))
          (none)))
      (none))
theorem e_f12 (p0 : (List Int)) : runF g_f12 tc_f12 rv_f12 false [.t (.sl (.int .u8)) p0] [] = r_f12 p0 := by kernel_rfl
theorem ok_f12 : Option.map (trC Try.prog) Try.f12.body = some tc_f12.er := by kernel_rfl
theorem rok_f12 : trVs Try.prog Try.f12.results.toList = some (rv_f12.map Prod.fst) := by kernel_rfl
theorem en_f12 : Entered Try.prog 12 := .inr ⟨by decide, _, Try.func12, by kernel_rfl, by kernel_rfl⟩
theorem gk_f12 : GOk Try.prog g_f12 := gok_of _ (by
  intro p hp
  simp only [List.mem_cons, List.not_mem_nil, or_false] at hp
  rcases hp with rfl | rfl | rfl | rfl | rfl | rfl
  · exact ⟨en_f22, ms_f22⟩
  · exact ⟨en_f23, ms_f23⟩
  · exact ⟨en_f24, ms_f24⟩
  · exact ⟨en_f25, ms_f25⟩
  · exact ⟨en_f26, ms_f26⟩
  · exact ⟨en_op_convert_23_9, ms_op_convert_23_9⟩)
theorem l_f12_0 (x6 : Int) (y2 : Image) (y15 : Reader) (y20500 : (List Section)) (y20501 : (List Symbol)) (h : (rdOk y15 && decide (0 ≤ x6 ∧ y20500.length + x6.toNat ≤ 100000)) = true) : lp_f12_0 x6 y2 y15 y20500 y20501 = la_f12_0 x6 y2 y15 y20500 y20501 := by
  simp only [Bool.and_eq_true, decide_eq_true_eq] at h
  obtain ⟨h1, h2, h3⟩ := h
  obtain ⟨n, rfl⟩ := Int.eq_ofNat_of_zero_le h2
  rw [Int.toNat_natCast] at h3
  induction n generalizing y15 y20500 with
  | zero =>
    rw [ln_f12_0]
    simp [n_f12_0, la_f12_0, igt, br_false, secsP]
  | succ n ih =>
    rw [ln_f12_0]
    have e1 : igt ((n + 1 : Nat) : Int) 0 = true := by simp only [igt, decide_eq_true_eq]; omega
    have e2 : isub .i64 ((n + 1 : Nat) : Int) 1 = (n : Int) := by rw [isub_in (by omega)]; omega
    obtain ⟨k1, k2, k3⟩ := rnum_ok (c := 2) (rname_ok h1) (by omega)
    simp only [n_f12_0, e1, e2, br_true, la_f12_0, Int.toNat_natCast]
    unfold secsP
    cases hf : y15.2.1 with
    | true => simp only [Bool.not_true, br_false, cond_true, List.append_nil]
    | false =>
      simp only [Bool.not_false, br_true, cond_false, h1, k1]
      rw [show takeOk (rnumN (rnameN y15) 2) (rnumV (rnameN y15) 2) = true from by simp only [takeOk, k3, Bool.true_and, decide_eq_true_eq]; exact k2, br_true, show clonOk (takeV (rnumN (rnameN y15) 2) (rnumV (rnameN y15) 2)) = true from decide_eq_true (Nat.le_trans (take_len k3) (by omega)), br_true,
        cApp_ok (by simp only [List.length_singleton]; omega) (by omega), br_true]
      have := ih (takeN (rnumN (rnameN y15) 2) (rnumV (rnameN y15) 2)) (y20500 ++ [(rnameV y15, (clonB (takeV (rnumN (rnameN y15) 2) (rnumV (rnameN y15) 2)), ()))]) (sec_ok h1) (by omega) (by rw [List.length_append]; simp only [List.length_singleton]; omega)
      rw [this]
      simp only [la_f12_0, Int.toNat_natCast, List.append_assoc, List.singleton_append]
      rfl
theorem l_f12_1 (x8 : Int) (y2 : Image) (y15 : Reader) (y20500 : (List Section)) (y20501 : (List Symbol)) (h : (rdOk y15 && decide (0 ≤ x8 ∧ y20501.length + x8.toNat ≤ 100000)) = true) : lp_f12_1 x8 y2 y15 y20500 y20501 = la_f12_1 x8 y2 y15 y20500 y20501 := by
  simp only [Bool.and_eq_true, decide_eq_true_eq] at h
  obtain ⟨h1, h2, h3⟩ := h
  obtain ⟨n, rfl⟩ := Int.eq_ofNat_of_zero_le h2
  rw [Int.toNat_natCast] at h3
  induction n generalizing y15 y20501 with
  | zero =>
    rw [ln_f12_1]
    simp [n_f12_1, la_f12_1, igt, br_false, symsP]
  | succ n ih =>
    rw [ln_f12_1]
    have e1 : igt ((n + 1 : Nat) : Int) 0 = true := by simp only [igt, decide_eq_true_eq]; omega
    have e2 : isub .i64 ((n + 1 : Nat) : Int) 1 = (n : Int) := by rw [isub_in (by omega)]; omega
    obtain ⟨k1, k2, k3⟩ := rnum_ok (c := 4) (rname_ok h1) (by omega)
    simp only [n_f12_1, n_f12_1_1, frk_self, e1, e2, br_true, la_f12_1, Int.toNat_natCast]
    unfold symsP
    cases hf : y15.2.1 with
    | true => simp only [Bool.not_true, br_false, cond_true, List.append_nil]
    | false =>
      simp only [Bool.not_false, br_true, cond_false, h1, k1]
      rw [cApp_ok (by simp only [List.length_singleton]; omega) (by omega)]
      simp only [br_true, frk_self]
      have := ih (rnumN (rnameN y15) 4) (y20501 ++ [(rnameV y15, (rnumV (rnameN y15) 4, ()))]) (sym_ok h1) (by omega) (by rw [List.length_append]; simp only [List.length_singleton]; omega)
      rw [this]
      simp only [la_f12_1, Int.toNat_natCast, List.append_assoc, List.singleton_append]
      rfl
theorem lo_f12_0 : ∀ S l p, g_f12.L 0 (fgt fg_f12_0 S) = some (true, l) → pickA l = some p → loopF (roundF g_f12 fg_f12_0 tb_f12_0) S = some p :=
  lok_of (s := sh_f12_0) ⟨by decide, by decide⟩ (by kernel_rfl) fun x y hok p hp => by
  simp only [pickA_br, pickA_one] at hp
  exact (l_f12_0 x.2.2.2.1 y.1 y.2.2.1 y.2.2.2.2.2.1 y.2.2.2.2.2.2.1 (by simpa using hok)).trans hp
theorem lo_f12_1 : ∀ S l p, g_f12.L 1 (fgt fg_f12_1 S) = some (true, l) → pickA l = some p → loopF (roundF g_f12 fg_f12_1 tb_f12_1) S = some p :=
  lok_of (s := sh_f12_1) ⟨by decide, by decide⟩ (by kernel_rfl) fun x y hok p hp => by
  simp only [pickA_br, pickA_one] at hp
  exact (l_f12_1 x.2.2.2.1 y.1 y.2.2.1 y.2.2.2.2.2.1 y.2.2.2.2.2.2.1 (by simpa using hok)).trans hp
theorem lk_f12 : tc_f12.lok g_f12 := by
  repeat (first | exact trivial | exact lo_f12_0 | exact lo_f12_1 | refine ⟨?_, ?_⟩)
theorem ine_bif {c : Bool} {a b : Option (V × List VO)} : br (ine (bif c then (20 : Int) else 0) 0) a b = bif c then a else b := by cases c <;> rfl
theorem br_of {c : Bool} {α : Type} {a b : Option α} (h : c = true) : br c a b = a := by rw [h]; rfl
theorem and_dec {c : Bool} {P : Prop} [Decidable P] (h : c = true) (p : P) : (c && decide P) = true := by rw [h, Bool.true_and]; exact decide_eq_true p
theorem s_f12 (l : List Int) (h : decOkX l = true) : r_f12 l = some (.tu [.t tyImage (decX l).1, .t tI (decX l).2], []) := by
  obtain ⟨h0, h1, h2, h3, h4, h5, n1, n2, hc⟩ := dec_facts h
  have e1 : igt (llen l) 4096 = decide (4096 < l.length) := by simp only [igt, llen, decide_eq_decide]; omega
  have e2 : igt (llen (d4D l).1) 0 = decide (0 < (d4D l).1.length) := by simp only [igt, llen, decide_eq_decide]; omega
  have k1 := (rnum_ok (c := 1) h1 (by omega))
  have k2 := (rnum_ok (c := 1) h3 (by omega))
  unfold decX
  simp only [r_f12, e1]
  cases decide (4096 < l.length) with
  | true => rfl
  | false =>
    rw [br_false, show takeOk (l, (false, ())) 3 = true from by simp only [takeOk, Bool.and_eq_true, decide_eq_true_eq]; exact ⟨h0, by omega⟩, br_true]
    show br (mgD l) _ _ = _
    cases mgD l with
    | true => rfl
    | false =>
      rw [br_false]
      have q1 : ([] : List Section).length + (rnumV (takeN (d0D l) 3) 1).toNat ≤ 100000 := by rw [List.length_nil, Nat.zero_add]; exact Nat.le_trans n1 (by omega)
      have q2 : ([] : List Symbol).length + (rnumV (d2D l) 1).toNat ≤ 100000 := by rw [List.length_nil, Nat.zero_add]; exact Nat.le_trans n2 (by omega)
      refine (br_of k1.1).trans ?_
      refine (br_of (and_dec h2 ⟨k1.2.1, q1⟩)).trans ?_
      refine (br_of k2.1).trans ?_
      refine (br_of (and_dec h4 ⟨k2.2.1, q2⟩)).trans ?_
      show br (d4D l).2.1 _ (br (igt (llen (d4D l).1) 0) _ (br (chkOk (imD l)) (br (ine (checkX (imD l)) 0) _ _) _)) = _
      rw [e2, hc, br_true, checkX, ine_bif]
      cases (d4D l).2.1 <;> cases decide (0 < (d4D l).1.length) <;> cases badX (imD l) <;> rfl
def sp_f12 : Ent := spec (.pr (.sl (.int .u8)) .nil) (fun x => (decOkX x.1)) (fun x => (.tu [(.t tyImage ((decX x.1).1)), (.t tI ((decX x.1).2))]))
theorem ms_f12 : Meets Try.prog 12 (strip sp_f12) := by
  obtain ⟨c, hc, hi⟩ := Option.map_eq_some_iff.1 ok_f12
  exact meets_spec (R := runF g_f12 tc_f12 rv_f12 false) (meets_of (by decide) Try.func12 hc hi Try.ntmps12 rok_f12 gk_f12 lk_f12 mixed) fun x hok => (e_f12 x.1).trans (s_f12 x.1 hok)
/-! the answer's reader: what is left of its bytes is the program's -/
def psi (d : ReaderX) : Reader := (d.1.drop d.2.1.toNat, (!d.2.2.1, ()))
def rho (d : ReaderX) (r : Reader) : ReaderX := (d.1, (((d.1.length - r.1.length : Nat) : Int), (!r.2.1, ())))
def rdX (d : ReaderX) : Bool := d.1.all isB && decide (d.1.length ≤ 100000 ∧ 0 ≤ d.2.1 ∧ d.2.1 ≤ d.1.length)
def Suf (d : ReaderX) (r : Reader) : Prop := ∃ k, k ≤ d.1.length ∧ r.1 = d.1.drop k
theorem psi_rho {d : ReaderX} {r : Reader} (h : Suf d r) : psi (rho d r) = r := by
  obtain ⟨k, hk, hr⟩ := h
  obtain ⟨b, f, u⟩ := r
  subst hr
  unfold psi rho
  simp only [Int.toNat_natCast, List.length_drop, Bool.not_not]
  rw [show d.1.length - (d.1.length - k) = k by omega]
theorem rho_psi {d : ReaderX} (h : rdX d = true) : rho d (psi d) = d := by
  obtain ⟨b, k, o, u⟩ := d
  simp only [rdX, Bool.and_eq_true, decide_eq_true_eq] at h
  unfold psi rho
  simp only [List.length_drop, Bool.not_not]
  have : ((b.length - (b.length - k.toNat) : Nat) : Int) = k := by omega
  rw [this]
theorem suf_psi {d : ReaderX} (h : rdX d = true) : Suf d (psi d) := by
  simp only [rdX, Bool.and_eq_true, decide_eq_true_eq] at h
  exact ⟨d.2.1.toNat, by omega, rfl⟩
theorem suf_take {d : ReaderX} {r : Reader} (h : Suf d r) (n : Int) : Suf d (takeN r n) := by
  obtain ⟨k, hk, hr⟩ := h
  unfold takeN
  cases hf : rdFail r n with
  | true => exact ⟨k, hk, hr⟩
  | false =>
    simp only [rdFail, Bool.or_eq_false_iff, igt, llen, decide_eq_false_iff_not] at hf
    refine ⟨k + n.toNat, ?_, ?_⟩
    · have := hf.2
      rw [hr, List.length_drop] at this
      by_cases hn : 0 ≤ n <;> omega
    · show r.1.drop n.toNat = _
      rw [hr, List.drop_drop]
theorem rd_rho {d : ReaderX} {r : Reader} (h : rdX d = true) : rdX (rho d r) = true := by
  simp only [rdX, Bool.and_eq_true, decide_eq_true_eq] at h ⊢
  exact ⟨h.1, h.2.1, by show (0 : Int) ≤ ((d.1.length - r.1.length : Nat) : Int); omega, by show ((d.1.length - r.1.length : Nat) : Int) ≤ d.1.length; omega⟩
theorem rd_suf {d : ReaderX} {r : Reader} (h : rdX d = true) (hs : Suf d r) : rdOk r = true := by
  obtain ⟨k, hk, hr⟩ := hs
  simp only [rdX, rdOk, Bool.and_eq_true, decide_eq_true_eq] at h ⊢
  rw [hr]
  exact ⟨List.all_eq_true.2 fun x hx => List.all_eq_true.1 h.1 x (List.mem_of_mem_drop hx), by rw [List.length_drop]; omega⟩
def someV (d : ReaderX) (n : Int) : List Int := takeV (psi d) n
def someN (d : ReaderX) (n : Int) : ReaderX := rho d (takeN (psi d) n)
def someOk (d : ReaderX) (n : Int) : Bool := rdX d && decide (0 ≤ n)
def dr_f27_0 : List DO := [(.mk (oV 5 0) []), (.mk (oP 6 (.nc (.t 5))) [0]), (.mk (oP 7 (.fa 2 (.t 6))) [1]), (.mk (oL 8 7) [2]), (.mk (oP 9 (.nt (.t 8))) [3]), (.mk (oV 10 9) [4]), (.mk (oQ 11 10 false (.mv (.t 1))) [5]), (.mk (oQ 12 10 false (.mv (.t 0))) [5]), (.mk (oQ 13 10 false (.nc (.t 12))) [7, 5]), (.mk (oQ 14 10 false (.fa 0 (.t 13))) [8, 5]), (.mk (oG 15 10 false (.m (.ld false 1 (.t 14)))) [9, 5]), (.mk (oQ 16 10 false (.len false (.t 15))) [10, 5]), (.mk (oQ 17 10 false (.mv (.t 0))) [5]), (.mk (oQ 18 10 false (.nc (.t 17))) [12, 5]), (.mk (oQ 19 10 false (.fa 1 (.t 18))) [13, 5]), (.mk (oG 20 10 false (.m (.ld false 1 (.t 19)))) [14, 5]), (.mk (oQ 21 10 false (.bin false .sub (.t 16) (.t 20))) [11, 15, 5]), (.mk (oQ 22 10 false (.bin false .gtr (.t 11) (.t 21))) [6, 16, 5]), (.mk (oP 23 (.pick (.t 10) (cB true) (.t 22))) [5, 17])]
def dr_f27_1 : List DO := [(.mk (oM 36 (.bs 5 1 0 [] [])) []), (.mk (oV 37 0) []), (.mk (oP 38 (.nc (.t 37))) [1]), (.mk (oP 39 (.fa 0 (.t 38))) [2]), (.mk (oL 40 39) [3]), (.mk (oV 41 0) []), (.mk (oP 42 (.nc (.t 41))) [5]), (.mk (oP 43 (.fa 1 (.t 42))) [6]), (.mk (oL 44 43) [7]), (.mk (oV 45 1) []), (.mk (oP 46 (.bin false .sub (.t 44) (.t 45))) [8, 9]), (.mk (oV 47 0) []), (.mk (oP 48 (.nc (.t 47))) [11]), (.mk (oP 49 (.fa 1 (.t 48))) [12]), (.mk (oL 50 49) [13]), (.mk (oP 51 (.slc 1 (.t 40) (some (.t 46)) (some (.t 50)) none)) [4, 10, 14]), (.mk (oM 52 (.app 5 1 1 (.t 36) (.t 51))) [0, 15]), (.mk (oV 4 52) [16, 16, 0, 1, 2, 3, 4, 5, 6, 7, 8, 9, 10, 11, 12, 13, 14, 15, 16])]
/-- (*cipherplan/cipherplanref10.reader).some -/
def tc_f27 : TC := (.sq (.reg [(oP 4 (.mv (.c (.v (.slice none 0 0)))))]) (.sq (.sq (.dr dr_f27_0 [(0, [50000]), (1, [50000]), (2, [50000]), (3, [50000]), (4, []), (5, []), (6, []), (7, [50000]), (8, [50000]), (9, [50000]), (10, [50000]), (11, []), (12, [50000]), (13, [50000]), (14, [50000]), (15, [50000]), (16, []), (17, []), (18, [])] (.of [0, 1, 2, 3, 4, 5, 6, 7, 8, 9, 10, 11, 12, 13, 14, 15, 16, 17, 18])) (.cd (.t 23) (.sq (.reg [(oV 24 0), (oP 25 (.nc (.t 24))), (oP 26 (.fa 2 (.t 25))), (.mk none none (.m (.st 1 (.t 26) (cB false))))]) (.sq (.reg [(oP 4 (.mv (.c (.v (.slice none 0 0)))))]) .rt)) .sk)) (.sq (.reg [(oV 27 0), (oV 28 0), (oP 29 (.nc (.t 28))), (oP 30 (.fa 1 (.t 29))), (oL 31 30), (oV 32 1), (oP 33 (.bin false .add (.t 31) (.t 32))), (oP 34 (.nc (.t 27))), (oP 35 (.fa 1 (.t 34))), (.mk none none (.m (.st 1 (.t 35) (.t 33))))]) (.sq (.dr dr_f27_1 [(0, [36, 5036, 10036, 15036]), (1, [50000]), (2, [50000]), (3, [50000]), (4, [50000]), (5, [50000]), (6, [50000]), (7, [50000]), (8, [50000]), (9, []), (10, []), (11, [50000]), (12, [50000]), (13, [50000]), (14, [50000]), (15, []), (16, [36, 52, 5052, 10052, 15052]), (17, [36, 52])] (.of [1, 2, 3, 4, 5, 6, 7, 8, 9, 10, 11, 12, 13, 14, 15, 0, 16, 17])) .rt))))
def rv_f27 : List (RV × Option Ty) := [((.t 4), some (.sl (.int .u8)))]
def g_f27 : G := ⟨TYs, [36], 53, EL [], keeps, (fun _ _ => none), IL [], RL []⟩
def r_f27 (d0 : ReaderX) (p1 : Int) : Option (V × List VO) :=
  br ((!d0.2.2.1))
    (some (.t (.sl (.int .u8)) ([] : List Int), [.box (.t tyReaderX (d0.1, (d0.2.1, (false, d0.2.2.2))))]))
    (br ((igt p1 (isub .i64 (llen d0.1) d0.2.1)))
      (some (.t (.sl (.int .u8)) ([] : List Int), [.box (.t tyReaderX (d0.1, (d0.2.1, (false, d0.2.2.2))))]))
      (br (cSl d0.1 (isub .i64 (iadd .i64 d0.2.1 p1) p1) (iadd .i64 d0.2.1 p1) ((List.length d0.1 : Nat) : Int))
        (br (cApp ([] : List Int) (lsl d0.1 (isub .i64 (iadd .i64 d0.2.1 p1) p1) (iadd .i64 d0.2.1 p1)) 1)
          (some (.t (.sl (.int .u8)) (([] : List Int) ++ (lsl d0.1 (isub .i64 (iadd .i64 d0.2.1 p1) p1) (iadd .i64 d0.2.1 p1))), [.box (.t tyReaderX (d0.1, ((iadd .i64 d0.2.1 p1), d0.2.2)))]))
          (none))
        (none)))
theorem e_f27 (d0 : ReaderX) (p1 : Int) : runF g_f27 tc_f27 rv_f27 false [.ptr 50000 0, .t tI p1] [.box (.t tyReaderX d0)] = r_f27 d0 p1 := by kernel_rfl
theorem ok_f27 : Option.map (trC Try.prog) Try.f27.body = some tc_f27.er := by kernel_rfl
theorem rok_f27 : trVs Try.prog Try.f27.results.toList = some (rv_f27.map Prod.fst) := by kernel_rfl
theorem en_f27 : Entered Try.prog 27 := .inr ⟨by decide, _, Try.func27, by kernel_rfl, by kernel_rfl⟩
theorem gk_f27 : GOk Try.prog g_f27 := gok_of _ (fun p hp => by cases hp)
theorem lk_f27 : tc_f27.lok g_f27 := by repeat (first | exact trivial | refine ⟨?_, ?_⟩)
theorem s_f27 (d : ReaderX) (n : Int) (h : someOk d n = true) : r_f27 d n = some (.t (.sl (.int .u8)) (someV d n), [.box (.t tyReaderX (someN d n))]) := by
  obtain ⟨b, at_, o, u⟩ := d
  simp only [someOk, rdX, Bool.and_eq_true, decide_eq_true_eq] at h
  obtain ⟨⟨_, h1, h2, h3⟩, h4⟩ := h
  obtain ⟨k, rfl⟩ := Int.eq_ofNat_of_zero_le h2
  obtain ⟨m, rfl⟩ := Int.eq_ofNat_of_zero_le h4
  have e0 : ((b.length - (b.length - k) : Nat) : Int) = (k : Int) := by omega
  have e1 : isub .i64 (llen b) (k : Int) = llen (b.drop k) := by
    rw [isub_in (by simp only [llen]; omega)]
    simp only [llen, List.length_drop]
    omega
  simp only [r_f27, someV, someN, takeV, takeN, rdFail, psi, rho, Int.toNat_natCast, e1]
  cases o with
  | false =>
    simp only [Bool.not_false, br_true, Bool.true_or, cond_true, List.length_drop, e0]
    rfl
  | true =>
    simp only [Bool.not_true, br_false, Bool.false_or]
    cases hg : igt (m : Int) (llen (b.drop k)) with
    | true =>
      simp only [br_true, cond_true, List.length_drop, e0]
      rfl
    | false =>
      simp only [igt, llen, List.length_drop, decide_eq_false_iff_not] at hg
      have e2 : iadd .i64 (k : Int) (m : Int) = ((k + m : Nat) : Int) := by rw [iadd_in (by omega)]; omega
      have e3 : isub .i64 ((k + m : Nat) : Int) (m : Int) = (k : Int) := by rw [isub_in (by omega)]; omega
      have c1 : cSl b (k : Int) ((k + m : Nat) : Int) ((List.length b : Nat) : Int) = true := by simp only [cSl, decide_eq_true_eq]; omega
      have l1 : lsl b (k : Int) ((k + m : Nat) : Int) = (b.drop k).take m := by
        simp only [lsl, Int.toNat_natCast]
        rw [show k + m - k = m by omega]
      simp only [br_false, e2, e3, c1, l1, br_true, cond_false, List.nil_append]
      rw [cApp_ok (by simp only [List.length_nil, List.length_take, List.length_drop]; omega) (by omega), br_true]
      simp only [List.length_drop]
      rw [show ((b.length - (b.length - k - m) : Nat) : Int) = ((k + m : Nat) : Int) by omega]
      rfl
def sp_f27 : Ent := specP tyReaderX (.pr tI .nil) (fun d x => (someOk d x.1)) (fun d x => (.t (.sl (.int .u8)) (someV d x.1))) (fun d x => (someN d x.1))
theorem ms_f27 : Meets Try.prog 27 (strip sp_f27) := by
  obtain ⟨c, hc, hi⟩ := Option.map_eq_some_iff.1 ok_f27
  exact meets_specP (R := runF g_f27 tc_f27 rv_f27 false) (meets_of (by decide) Try.func27 hc hi Try.ntmps27 rok_f27 gk_f27 lk_f27 mixed) rfl fun d x hok => (e_f27 d x.1).trans (s_f27 d x.1 hok)
def snumV (d : ReaderX) (c : Int) : Int := rnumV (psi d) c
def snumN (d : ReaderX) (c : Int) : ReaderX := rho d (rnumN (psi d) c)
def snumOk (d : ReaderX) (c : Int) : Bool := rdX d && decide (0 ≤ c ∧ c ≤ 5)
def fg_f28_0 : Fg := ⟨[(5, some (.sl (.int .u8))), (6, some tI), (7, some tI)], [(50000, some tyReaderX)]⟩
def tb_f28_0 : TC := (.sq (.sq (.reg [(oV 11 7), (oV 12 5), (oP 13 (.len false (.t 12))), (oP 14 (.bin false .lss (.t 11) (.t 13)))]) (.cd (.t 14) .sk (.fg ⟨[(6, some tI)], [(50000, some tyReaderX)]⟩ (.ex 0)))) (.sq (.bk 1 (.reg [(oV 17 6), (oP 18 (.bin false .shl (.t 17) (.c (.v (.int .u64 8))))), (oV 19 5), (oV 20 7), (oP 21 (.ix 1 (.t 19) (.t 20))), (oL 22 21), (oP 23 (.cv .i64 (.t 22))), (oP 24 (.bin false .or (.t 18) (.t 23))), (oV 6 24)])) (.reg [(oV 15 7), (oP 16 (.bin false .add (.t 15) (cI 1))), (oV 7 16)])))
/-- (*cipherplan/cipherplanref10.reader).number -/
def tc_f28 : TC := (.sq (.reg [(oP 4 (.mv (cI 0)))]) (.sq (.reg [(oV 8 0), (oV 9 1), (oC 10 27 [(.t 8), (.t 9)]), (oV 5 10)]) (.sq (.reg [(oP 6 (.mv (cI 0)))]) (.sq (.sq (.reg [(oP 7 (.mv (cI 0)))]) (.bk 0 (.lp 0 fg_f28_0 tb_f28_0))) (.sq (.reg [(oV 25 6), (oV 4 25)]) .rt)))))
def rv_f28 : List (RV × Option Ty) := [((.t 4), some tI)]
abbrev sh_f28_0 : Sh := ⟨[(5, .ty (.sl (.int .u8))), (6, .ty tI), (7, .ty tI)], [(50000, .box tyReaderX)]⟩
def st_f28_0 (x5 : (List Int)) (x6 : Int) (x7 : Int) (y50000 : ReaderX) : VS := sh_f28_0.st (x5, x6, x7, ()) (y50000, ())
abbrev sh_f28_0_e0 : Sh := ⟨[(6, .ty tI)], [(50000, .box tyReaderX)]⟩
def st_f28_0_e0 (x6 : Int) (y50000 : ReaderX) : VS := sh_f28_0_e0.st (x6, ()) (y50000, ())
-- loop 0: (x5 : (List Int)) (x6 : Int) (x7 : Int) (y50000 : ReaderX); out: ('exit', 0) (x6 : Int) (y50000 : ReaderX)
def L_f28_0 : VS → Option (Bool × List (Bool × Exit × VS)) := mkL sh_f28_0 (fun x y => (decide (0 ≤ x.2.2.1 ∧ x.2.2.1 ≤ x.1.length ∧ x.1.length ≤ 100000))) (fun x y => [(true, .exit 0, st_f28_0_e0 ((x.1.drop x.2.2.1.toNat).foldl shl8 x.2.1) (y.1))])
def g_f28 : G := ⟨TYs, [], 26, EL [(27, sp_f27)], keeps, (Ls [L_f28_0]), IL [], RL []⟩
def b_f28_0 (x5 : (List Int)) (x6 : Int) (x7 : Int) (y50000 : ReaderX) : Option (Exit × VS) :=
  br ((ilt x7 (llen x5)))
    (br ((decide ((0 : Int) ≤ 8)))
      (br (cIx x5 x7)
        (some (.normal, st_f28_0 x5 (ibor .i64 (ishl .i64 x6 8) (icv .i64 (lgt (.int .u8) x5 (Int.toNat x7)))) (iadd .i64 x7 1) y50000))
        (none))
      (none))
    (some (.exit 0, st_f28_0_e0 x6 y50000))
noncomputable def lp_f28_0 (x5 : (List Int)) (x6 : Int) (x7 : Int) (y50000 : ReaderX) : Option (Exit × VS) := loopF (roundF g_f28 fg_f28_0 tb_f28_0) (st_f28_0 x5 x6 x7 y50000)
noncomputable def n_f28_0 (x5 : (List Int)) (x6 : Int) (x7 : Int) (y50000 : ReaderX) : Option (Exit × VS) :=
  br ((ilt x7 (llen x5)))
    (br ((decide ((0 : Int) ≤ 8)))
      (br (cIx x5 x7)
        (lp_f28_0 x5 (ibor .i64 (ishl .i64 x6 8) (icv .i64 (lgt (.int .u8) x5 (Int.toNat x7)))) (iadd .i64 x7 1) y50000)
        (none))
      (none))
    (some (.exit 0, st_f28_0_e0 x6 y50000))
def la_f28_0 (x5 : (List Int)) (x6 : Int) (x7 : Int) (y50000 : ReaderX) : Option (Exit × VS) := some (.exit 0, st_f28_0_e0 ((x5.drop x7.toNat).foldl shl8 x6) (y50000))
theorem be_f28_0 (x5 : (List Int)) (x6 : Int) (x7 : Int) (y50000 : ReaderX) : roundF g_f28 fg_f28_0 tb_f28_0 (st_f28_0 x5 x6 x7 y50000) = b_f28_0 x5 x6 x7 y50000 := by kernel_rfl
theorem ln_f28_0 (x5 : (List Int)) (x6 : Int) (x7 : Int) (y50000 : ReaderX) : lp_f28_0 x5 x6 x7 y50000 = n_f28_0 x5 x6 x7 y50000 := (loopF_nxt _ _).trans (by
  rw [be_f28_0]
  simp only [b_f28_0, n_f28_0, nxt_br, nxt_n, nxt_r, nxt_e, nxt_0]
  rfl)
def r_f28 (d0 : ReaderX) (p1 : Int) : Option (V × List VO) :=
  br ((someOk d0 p1))
    (br ((decide (0 ≤ (0 : Int) ∧ (0 : Int) ≤ (someV d0 p1).length ∧ (someV d0 p1).length ≤ 100000)))
      (some (.t tI (((someV d0 p1).drop (0 : Int).toNat).foldl shl8 (0 : Int)), [.box (.t tyReaderX ((someN d0 p1)))]))
      (none))
    (none)
theorem e_f28 (d0 : ReaderX) (p1 : Int) : runF g_f28 tc_f28 rv_f28 false [.ptr 50000 0, .t tI p1] [.box (.t tyReaderX d0)] = r_f28 d0 p1 := by kernel_rfl
theorem ok_f28 : Option.map (trC Try.prog) Try.f28.body = some tc_f28.er := by kernel_rfl
theorem rok_f28 : trVs Try.prog Try.f28.results.toList = some (rv_f28.map Prod.fst) := by kernel_rfl
theorem en_f28 : Entered Try.prog 28 := .inr ⟨by decide, _, Try.func28, by kernel_rfl, by kernel_rfl⟩
theorem gk_f28 : GOk Try.prog g_f28 := gok_of _ (by
  intro p hp
  simp only [List.mem_cons, List.not_mem_nil, or_false] at hp
  rcases hp with rfl
  · exact ⟨en_f27, ms_f27⟩)
theorem l_f28_0 (x5 : (List Int)) (x6 : Int) (x7 : Int) (y50000 : ReaderX) (h : (decide (0 ≤ x7 ∧ x7 ≤ x5.length ∧ x5.length ≤ 100000)) = true) : lp_f28_0 x5 x6 x7 y50000 = la_f28_0 x5 x6 x7 y50000 := by
  simp only [decide_eq_true_eq] at h
  obtain ⟨h1, h2, h3⟩ := h
  obtain ⟨k, rfl⟩ := Int.eq_ofNat_of_zero_le h1
  revert x6
  refine range_ind x5 (fun k => ∀ x6 : Int, lp_f28_0 x5 x6 (k : Int) y50000 = la_f28_0 x5 x6 (k : Int) y50000) ?_ ?_ k (by omega)
  · intro x6
    rw [ln_f28_0]
    simp [n_f28_0, la_f28_0, ilt_llen, br_false]
  · intro k hk ih x6
    rw [ln_f28_0]
    simp only [n_f28_0, ilt_llen, cIx_nat, hk, decide_true, br_true, Int.toNat_natCast, add1 (show k < 4611686018427387904 by omega), lgt_get (y := .int .u8) hk, ih, show decide ((0 : Int) ≤ 8) = true from rfl]
    simp only [la_f28_0, Int.toNat_natCast, List.drop_eq_getElem_cons hk, List.foldl_cons, shl8]
theorem lo_f28_0 : ∀ S l p, g_f28.L 0 (fgt fg_f28_0 S) = some (true, l) → pickA l = some p → loopF (roundF g_f28 fg_f28_0 tb_f28_0) S = some p :=
  lok_of (s := sh_f28_0) ⟨by decide, by decide⟩ (by kernel_rfl) fun x y hok p hp => by
  simp only [pickA_br, pickA_one] at hp
  exact (l_f28_0 x.1 x.2.1 x.2.2.1 y.1 (by simpa using hok)).trans hp
theorem lk_f28 : tc_f28.lok g_f28 := by
  repeat (first | exact trivial | exact lo_f28_0 | refine ⟨?_, ?_⟩)
theorem s_f28 (d : ReaderX) (c : Int) (h : snumOk d c = true) : r_f28 d c = some (.t tI (snumV d c), [.box (.t tyReaderX (snumN d c))]) := by
  simp only [snumOk, Bool.and_eq_true, decide_eq_true_eq] at h
  have q2 := take_len (n := c) (rd_suf h.1 (suf_psi h.1))
  have hl : (someV d c).length ≤ 100000 := q2
  simp only [r_f28, show someOk d c = true from by simp only [someOk, h.1, Bool.true_and, decide_eq_true_eq]; omega, br_true, Int.toNat_zero, List.drop_zero]
  rw [decide_eq_true ⟨by omega, by omega, hl⟩, br_true]
  rfl
def sp_f28 : Ent := specP tyReaderX (.pr tI .nil) (fun d x => (snumOk d x.1)) (fun d x => (.t tI (snumV d x.1))) (fun d x => (snumN d x.1))
theorem ms_f28 : Meets Try.prog 28 (strip sp_f28) := by
  obtain ⟨c, hc, hi⟩ := Option.map_eq_some_iff.1 ok_f28
  exact meets_specP (R := runF g_f28 tc_f28 rv_f28 false) (meets_of (by decide) Try.func28 hc hi Try.ntmps28 rok_f28 gk_f28 lk_f28 mixed) rfl fun d x hok => (e_f28 d x.1).trans (s_f28 d x.1 hok)
theorem someV_rho {d : ReaderX} {r : Reader} (h : Suf d r) (n : Int) : someV (rho d r) n = takeV r n := by rw [someV, psi_rho h]
theorem someN_rho {d : ReaderX} {r : Reader} (h : Suf d r) (n : Int) : someN (rho d r) n = rho d (takeN r n) := by rw [someN, psi_rho h]; rfl
theorem snumV_rho {d : ReaderX} {r : Reader} (h : Suf d r) (n : Int) : snumV (rho d r) n = rnumV r n := by rw [snumV, psi_rho h]
theorem snumN_rho {d : ReaderX} {r : Reader} (h : Suf d r) (n : Int) : snumN (rho d r) n = rho d (rnumN r n) := by rw [snumN, psi_rho h]; rfl
def secsQ (n : Nat) (d : ReaderX) : List Section × ReaderX := ((secsP n (psi d)).1, rho d (secsP n (psi d)).2)
def symsQ (n : Nat) (d : ReaderX) : List Symbol × ReaderX := ((symsP n (psi d)).1, rho d (symsP n (psi d)).2)
theorem suf_secs : ∀ (n : Nat) {d : ReaderX} {r : Reader}, Suf d r → Suf d (secsP n r).2
  | 0, d, r, h => h
  | n + 1, d, r, h => by
    unfold secsP
    cases r.2.1 with
    | true => exact h
    | false => exact suf_secs n (suf_take (suf_take (suf_take (suf_take h _) _) _) _)
theorem suf_syms : ∀ (n : Nat) {d : ReaderX} {r : Reader}, Suf d r → Suf d (symsP n r).2
  | 0, d, r, h => h
  | n + 1, d, r, h => by
    unfold symsP
    cases r.2.1 with
    | true => exact h
    | false => exact suf_syms n (suf_take (suf_take (suf_take h _) _) _)
def dr_f13_0 : List DO := [(.mk (oV 17 4) []), (.mk (oC 18 27 [(.t 17), (cI 3)]) [0]), (.mk (oC 19 2440368 [(.t 18)]) [1]), (.mk (oM 20 (.bs 5 1 3 [(.v (.int .u8 0)), (.v (.int .u8 0)), (.v (.int .u8 0))] [(0, 1, (.c (.v (.int .u8 88)))), (1, 1, (.c (.v (.int .u8 69)))), (2, 1, (.c (.v (.int .u8 1))))])) []), (.mk (oC 21 2440368 [(.t 20)]) [3]), (.mk (oP 22 (.bin false .neq (.t 19) (.t 21))) [2, 4])]
def dr_f13_1 : List DO := [(.mk (oP 41 (.fa 0 (.t 5))) []), (.mk (oL 42 41) [0]), (.mk (oV 43 7) []), (.mk (oV 44 4) []), (.mk (oV 45 4) []), (.mk (oC 46 28 [(.t 45), (cI 2)]) [4]), (.mk (oC 47 27 [(.t 44), (.t 46)]) [3, 5, 5]), (.mk (oP 48 (.bd [(.v (.string (ByteArray.mk #[]))), (.v (.slice none 0 0))] [(0, 1, (.t 43)), (1, 1, (.t 47))])) [2, 6]), (.mk (oM 49 (.bs 44 2 1 [(.v (.string (ByteArray.mk #[]))), (.v (.slice none 0 0))] [(0, 2, (.t 48))])) [7]), (.mk (oM 50 (.app 44 2 40 (.t 42) (.t 49))) [1, 8, 6]), (.mk (oP 51 (.fa 0 (.t 5))) [0, 1, 2, 3, 4, 5, 6, 7, 8, 9]), (.mk (.mk none none (.m (.st 1 (.t 51) (.t 50)))) [10, 9, 9, 0, 1, 2, 3, 4, 5, 6, 7, 8, 9])]
def dr_f13_2 : List DO := [(.mk (oP 69 (.fa 1 (.t 5))) []), (.mk (oL 70 69) [0]), (.mk (oV 71 9) []), (.mk (oV 72 4) []), (.mk (oC 73 28 [(.t 72), (cI 4)]) [3]), (.mk (oP 74 (.bd [(.v (.string (ByteArray.mk #[]))), (.v (.int .i64 0))] [(0, 1, (.t 71)), (1, 1, (.t 73))])) [2, 4]), (.mk (oM 75 (.bs 46 2 1 [(.v (.string (ByteArray.mk #[]))), (.v (.int .i64 0))] [(0, 2, (.t 74))])) [5]), (.mk (oM 76 (.app 46 2 24 (.t 70) (.t 75))) [1, 6, 4]), (.mk (oP 77 (.fa 1 (.t 5))) [0, 1, 2, 3, 4, 5, 6, 7]), (.mk (.mk none none (.m (.st 1 (.t 77) (.t 76)))) [8, 7, 7, 0, 1, 2, 3, 4, 5, 6, 7])]
def fg_f13_0 : Fg := ⟨[(0, some (.sl (.int .u8))), (2, none), (4, none), (5, none), (6, some tI)], [(2, some tyImage), (5, none), (16, some tyReaderX), (50, none), (76, none), (20500, none), (20501, none)]⟩
def tb_f13_0 : TC := (.sq (.sq (.reg [(oV 26 6), (oP 27 (.bin false .gtr (.t 26) (cI 0))), (oV 28 27), (oQ 29 28 true (.mv (.t 4))), (oQ 30 28 true (.nc (.t 29))), (oQ 31 28 true (.fa 2 (.t 30))), (oG 32 28 true (.m (.ld false 1 (.t 31)))), (oP 33 (.pick (.t 28) (.t 32) (cB false)))]) (.cd (.t 33) .sk (.fg ⟨[(0, some (.sl (.int .u8))), (2, none), (4, none), (5, none)], [(2, some tyImage), (5, some tyImage), (16, some tyReaderX), (50, none), (76, none), (20500, none), (20501, none)]⟩ (.ex 0)))) (.sq (.bk 1 (.sq (.reg [(oV 36 4), (oV 37 4), (oC 38 28 [(.t 37), (cI 1)]), (oC 39 27 [(.t 36), (.t 38)]), (oC 40 2440368 [(.t 39)]), (oV 7 40)]) (.dr dr_f13_1 [(0, [5, 50, 76, 20500, 20501]), (1, [5, 50, 76, 20500, 20501]), (2, []), (3, [16]), (4, [16]), (5, [16, 46, 5046, 10046, 15046]), (6, [16, 47, 5047, 10047, 15047]), (7, []), (8, []), (9, [2, 5, 50, 76, 5050, 10050, 15050, 20500, 20501]), (10, [5, 50, 76, 20500, 20501]), (11, [2, 5, 50, 76, 20500, 20501])] (.one 0 (.one 1 (.one 2 (.one 4 (.alt 3 (.of [5, 6, 7, 8, 9, 10, 11]) (.of [5, 3, 6, 7, 8, 9, 10, 11]))))))))) (.reg [(oV 34 6), (oP 35 (.bin false .sub (.t 34) (cI 1))), (oV 6 35)])))
def fg_f13_1 : Fg := ⟨[(0, some (.sl (.int .u8))), (2, none), (4, none), (5, none), (8, some tI)], [(2, some tyImage), (5, none), (16, some tyReaderX), (50, none), (76, none), (20500, none), (20501, none)]⟩
def tb_f13_1 : TC := (.sq (.sq (.reg [(oV 54 8), (oP 55 (.bin false .gtr (.t 54) (cI 0))), (oV 56 55), (oQ 57 56 true (.mv (.t 4))), (oQ 58 56 true (.nc (.t 57))), (oQ 59 56 true (.fa 2 (.t 58))), (oG 60 56 true (.m (.ld false 1 (.t 59)))), (oP 61 (.pick (.t 56) (.t 60) (cB false)))]) (.cd (.t 61) .sk (.fg ⟨[(0, some (.sl (.int .u8))), (2, none), (4, none), (5, none)], [(2, some tyImage), (5, some tyImage), (16, some tyReaderX), (50, none), (76, none), (20500, none), (20501, none)]⟩ (.ex 2)))) (.sq (.bk 3 (.sq (.reg [(oV 64 4), (oV 65 4), (oC 66 28 [(.t 65), (cI 1)]), (oC 67 27 [(.t 64), (.t 66)]), (oC 68 2440368 [(.t 67)]), (oV 9 68)]) (.dr dr_f13_2 [(0, [5, 50, 76, 20500, 20501]), (1, [5, 50, 76, 20500, 20501]), (2, []), (3, [16]), (4, [16, 73, 5073, 10073, 15073]), (5, []), (6, []), (7, [2, 5, 50, 76, 5076, 10076, 15076, 20500, 20501]), (8, [5, 50, 76, 20500, 20501]), (9, [2, 5, 50, 76, 20500, 20501])] (.of [0, 1, 2, 3, 4, 5, 6, 7, 8, 9])))) (.reg [(oV 62 8), (oP 63 (.bin false .sub (.t 62) (cI 1))), (oV 8 63)])))
/-- cipherplan/cipherplanref10.Decode -/
def tc_f13 : TC := (.sq (.reg [(oM 2 (.new [(.v (.slice none 0 0)), (.v (.slice none 0 0))])), (oP 3 (.mv (cI 0)))]) (.sq (.sq (.reg [(oV 10 0), (oP 11 (.len false (.t 10))), (oP 12 (.bin false .gtr (.t 11) (cI 4096)))]) (.cd (.t 12) (.sq (.reg [(oP 13 (.bd [(.v (.slice none 0 0)), (.v (.slice none 0 0))] [])), (.mk none none (.m (.st 2 (.t 2) (.t 13)))), (oP 3 (.mv (cI 3)))]) .rt) .sk)) (.sq (.reg [(oV 14 0), (oP 15 (.bd [(.v (.slice none 0 0)), (.v (.int .i64 0)), (.v (.bool false))] [(0, 1, (.t 14)), (2, 1, (cB true))])), (oM 16 (.box (.t 15))), (oV 4 16)]) (.sq (.sq (.dr dr_f13_0 [(0, [16]), (1, [16, 18, 5018, 10018, 15018]), (2, []), (3, []), (4, []), (5, [])] (.of [0, 3, 4, 1, 2, 5])) (.cd (.t 22) (.sq (.reg [(oP 23 (.bd [(.v (.slice none 0 0)), (.v (.slice none 0 0))] [])), (.mk none none (.m (.st 2 (.t 2) (.t 23)))), (oP 3 (.mv (cI 1)))]) .rt) .sk)) (.sq (.reg [(oM 5 (.new [(.v (.slice none 0 0)), (.v (.slice none 0 0))]))]) (.sq (.sq (.reg [(oV 24 4), (oC 25 28 [(.t 24), (cI 1)]), (oV 6 25)]) (.bk 0 (.nf 5 1 46 20501 (.nf 5 0 44 20500 (.lp 0 fg_f13_0 tb_f13_0))))) (.sq (.sq (.reg [(oV 52 4), (oC 53 28 [(.t 52), (cI 1)]), (oV 8 53)]) (.bk 2 (.nf 5 0 44 20500 (.nf 5 1 46 20501 (.lp 1 fg_f13_1 tb_f13_1))))) (.sq (.sq (.reg [(oV 78 4), (oP 79 (.nc (.t 78))), (oP 80 (.fa 2 (.t 79))), (oL 81 80), (oP 82 (.nt (.t 81))), (oV 83 82), (oQ 84 83 false (.mv (.t 4))), (oQ 85 83 false (.nc (.t 84))), (oQ 86 83 false (.fa 1 (.t 85))), (oG 87 83 false (.m (.ld false 1 (.t 86)))), (oQ 88 83 false (.mv (.t 0))), (oQ 89 83 false (.len false (.t 88))), (oQ 90 83 false (.bin false .neq (.t 87) (.t 89))), (oP 91 (.pick (.t 83) (cB true) (.t 90)))]) (.cd (.t 91) (.sq (.reg [(oP 92 (.bd [(.v (.slice none 0 0)), (.v (.slice none 0 0))] [])), (.mk none none (.m (.st 2 (.t 2) (.t 92)))), (oP 3 (.mv (cI 1)))]) .rt) .sk)) (.sq (.sq (.reg [(oM 93 (.ld true 2 (.t 5))), (oC 94 19 [(.t 93)]), (oP 95 (.bin false .neq (.t 94) (cI 0)))]) (.cd (.t 95) (.sq (.reg [(oP 96 (.bd [(.v (.slice none 0 0)), (.v (.slice none 0 0))] [])), (.mk none none (.m (.st 2 (.t 2) (.t 96)))), (oP 3 (.mv (cI 20)))]) .rt) .sk)) (.sq (.reg [(oM 97 (.ld true 2 (.t 5))), (.mk none none (.m (.st 2 (.t 2) (.t 97)))), (oP 3 (.mv (cI 0)))]) .rt))))))))))
def rv_f13 : List (RV × Option Ty) := [((.c 2 true 2), some tyImage), ((.t 3), some tI)]
abbrev sh_f13_0 : Sh := ⟨[(0, .ty (.sl (.int .u8))), (2, .ptr 2 0), (4, .ptr 16 0), (5, .ptr 5 0), (6, .ty tI)], [(2, .box tyImage), (5, .bag [.ms 20500, .ms 20501]), (16, .box tyReaderX), (50, .no), (76, .no), (20500, .arr 44 tySection), (20501, .arr 46 tySymbol)]⟩
def st_f13_0 (x0 : (List Int)) (x6 : Int) (y2 : Image) (y16 : ReaderX) (y20500 : (List Section)) (y20501 : (List Symbol)) : VS := sh_f13_0.st (x0, (), (), (), x6, ()) (y2, ((), (), ()), y16, (), (), y20500, y20501, ())
abbrev sh_f13_0_e0 : Sh := ⟨[(0, .ty (.sl (.int .u8))), (2, .ptr 2 0), (4, .ptr 16 0), (5, .ptr 5 0)], [(2, .box tyImage), (5, .bag [.ms 20500, .ms 20501]), (16, .box tyReaderX), (50, .no), (76, .no), (20500, .arr 44 tySection), (20501, .arr 46 tySymbol)]⟩
def st_f13_0_e0 (x0 : (List Int)) (y2 : Image) (y16 : ReaderX) (y20500 : (List Section)) (y20501 : (List Symbol)) : VS := sh_f13_0_e0.st (x0, (), (), (), ()) (y2, ((), (), ()), y16, (), (), y20500, y20501, ())
-- loop 0: (x0 : (List Int)) (x6 : Int) (y2 : Image) (y16 : ReaderX) (y20500 : (List Section)) (y20501 : (List Symbol)); out: ('exit', 0) (x0 : (List Int)) (y2 : Image) (y16 : ReaderX) (y20500 : (List Section)) (y20501 : (List Symbol))
abbrev sh_f13_1 : Sh := ⟨[(0, .ty (.sl (.int .u8))), (2, .ptr 2 0), (4, .ptr 16 0), (5, .ptr 5 0), (8, .ty tI)], [(2, .box tyImage), (5, .bag [.ms 20500, .ms 20501]), (16, .box tyReaderX), (50, .no), (76, .no), (20500, .arr 44 tySection), (20501, .arr 46 tySymbol)]⟩
def st_f13_1 (x0 : (List Int)) (x8 : Int) (y2 : Image) (y16 : ReaderX) (y20500 : (List Section)) (y20501 : (List Symbol)) : VS := sh_f13_1.st (x0, (), (), (), x8, ()) (y2, ((), (), ()), y16, (), (), y20500, y20501, ())
abbrev sh_f13_1_e2 : Sh := ⟨[(0, .ty (.sl (.int .u8))), (2, .ptr 2 0), (4, .ptr 16 0), (5, .ptr 5 0)], [(2, .box tyImage), (5, .bag [.ms 20500, .ms 20501]), (16, .box tyReaderX), (50, .no), (76, .no), (20500, .arr 44 tySection), (20501, .arr 46 tySymbol)]⟩
def st_f13_1_e2 (x0 : (List Int)) (y2 : Image) (y16 : ReaderX) (y20500 : (List Section)) (y20501 : (List Symbol)) : VS := sh_f13_1_e2.st (x0, (), (), (), ()) (y2, ((), (), ()), y16, (), (), y20500, y20501, ())
-- loop 1: (x0 : (List Int)) (x8 : Int) (y2 : Image) (y16 : ReaderX) (y20500 : (List Section)) (y20501 : (List Symbol)); out: ('exit', 2) (x0 : (List Int)) (y2 : Image) (y16 : ReaderX) (y20500 : (List Section)) (y20501 : (List Symbol))
def L_f13_0 : VS → Option (Bool × List (Bool × Exit × VS)) := mkL sh_f13_0 (fun x y => (rdX y.2.2.1 && decide (0 ≤ x.2.2.2.2.1 ∧ y.2.2.2.2.2.1.length + x.2.2.2.2.1.toNat ≤ 100000))) (fun x y => [(true, .exit 0, st_f13_0_e0 (x.1) (y.1) ((secsQ x.2.2.2.2.1.toNat y.2.2.1).2) (y.2.2.2.2.2.1 ++ (secsQ x.2.2.2.2.1.toNat y.2.2.1).1) (y.2.2.2.2.2.2.1))])
def L_f13_1 : VS → Option (Bool × List (Bool × Exit × VS)) := mkL sh_f13_1 (fun x y => (rdX y.2.2.1 && decide (0 ≤ x.2.2.2.2.1 ∧ y.2.2.2.2.2.2.1.length + x.2.2.2.2.1.toNat ≤ 100000))) (fun x y => [(true, .exit 2, st_f13_1_e2 (x.1) (y.1) ((symsQ x.2.2.2.2.1.toNat y.2.2.1).2) (y.2.2.2.2.2.1) (y.2.2.2.2.2.2.1 ++ (symsQ x.2.2.2.2.1.toNat y.2.2.1).1))])
def g_f13 : G := ⟨TYs, [], 98, EL [(19, sp_f19), (27, sp_f27), (28, sp_f28), (2440368, sp_op_convert_23_9)], keeps, (Ls [L_f13_0, L_f13_1]), IL [], RL []⟩
def b_f13_0_1 (x0 : (List Int)) (x6 : Int) (y2 : Image) (y16 : ReaderX) (y20500 : (List Section)) (y20501 : (List Symbol)) : Option (Exit × VS) :=
  br ((snumOk (someN (snumN y16 1) (snumV y16 1)) 2))
    (br ((someOk (snumN (someN (snumN y16 1) (snumV y16 1)) 2) (snumV (someN (snumN y16 1) (snumV y16 1)) 2)))
      (br (cApp y20500 ([((strOf (someV (snumN y16 1) (snumV y16 1))), ((someV (snumN (someN (snumN y16 1) (snumV y16 1)) 2) (snumV (someN (snumN y16 1) (snumV y16 1)) 2)), ()))]) 40)
        (some (.normal, st_f13_0 x0 (isub .i64 x6 1) y2 (someN (snumN (someN (snumN y16 1) (snumV y16 1)) 2) (snumV (someN (snumN y16 1) (snumV y16 1)) 2)) (y20500 ++ ([((strOf (someV (snumN y16 1) (snumV y16 1))), ((someV (snumN (someN (snumN y16 1) (snumV y16 1)) 2) (snumV (someN (snumN y16 1) (snumV y16 1)) 2)), ()))])) y20501))
        (none))
      (none))
    (none)
def b_f13_0 (x0 : (List Int)) (x6 : Int) (y2 : Image) (y16 : ReaderX) (y20500 : (List Section)) (y20501 : (List Symbol)) : Option (Exit × VS) :=
  br ((igt x6 0))
    (br (y16.2.2.1)
      (br ((snumOk y16 1))
        (br ((someOk (snumN y16 1) (snumV y16 1)))
          (frk
            (b_f13_0_1 x0 x6 y2 y16 y20500 y20501)
            (b_f13_0_1 x0 x6 y2 y16 y20500 y20501))
          (none))
        (none))
      (some (.exit 0, st_f13_0_e0 x0 y2 y16 y20500 y20501)))
    (some (.exit 0, st_f13_0_e0 x0 y2 y16 y20500 y20501))
noncomputable def lp_f13_0 (x0 : (List Int)) (x6 : Int) (y2 : Image) (y16 : ReaderX) (y20500 : (List Section)) (y20501 : (List Symbol)) : Option (Exit × VS) := loopF (roundF g_f13 fg_f13_0 tb_f13_0) (st_f13_0 x0 x6 y2 y16 y20500 y20501)
noncomputable def n_f13_0_1 (x0 : (List Int)) (x6 : Int) (y2 : Image) (y16 : ReaderX) (y20500 : (List Section)) (y20501 : (List Symbol)) : Option (Exit × VS) :=
  br ((snumOk (someN (snumN y16 1) (snumV y16 1)) 2))
    (br ((someOk (snumN (someN (snumN y16 1) (snumV y16 1)) 2) (snumV (someN (snumN y16 1) (snumV y16 1)) 2)))
      (br (cApp y20500 ([((strOf (someV (snumN y16 1) (snumV y16 1))), ((someV (snumN (someN (snumN y16 1) (snumV y16 1)) 2) (snumV (someN (snumN y16 1) (snumV y16 1)) 2)), ()))]) 40)
        (lp_f13_0 x0 (isub .i64 x6 1) y2 (someN (snumN (someN (snumN y16 1) (snumV y16 1)) 2) (snumV (someN (snumN y16 1) (snumV y16 1)) 2)) (y20500 ++ ([((strOf (someV (snumN y16 1) (snumV y16 1))), ((someV (snumN (someN (snumN y16 1) (snumV y16 1)) 2) (snumV (someN (snumN y16 1) (snumV y16 1)) 2)), ()))])) y20501)
        (none))
      (none))
    (none)
noncomputable def n_f13_0 (x0 : (List Int)) (x6 : Int) (y2 : Image) (y16 : ReaderX) (y20500 : (List Section)) (y20501 : (List Symbol)) : Option (Exit × VS) :=
  br ((igt x6 0))
    (br (y16.2.2.1)
      (br ((snumOk y16 1))
        (br ((someOk (snumN y16 1) (snumV y16 1)))
          (frk
            (n_f13_0_1 x0 x6 y2 y16 y20500 y20501)
            (n_f13_0_1 x0 x6 y2 y16 y20500 y20501))
          (none))
        (none))
      (some (.exit 0, st_f13_0_e0 x0 y2 y16 y20500 y20501)))
    (some (.exit 0, st_f13_0_e0 x0 y2 y16 y20500 y20501))
def la_f13_0 (x0 : (List Int)) (x6 : Int) (y2 : Image) (y16 : ReaderX) (y20500 : (List Section)) (y20501 : (List Symbol)) : Option (Exit × VS) := some (.exit 0, st_f13_0_e0 (x0) (y2) ((secsQ x6.toNat y16).2) (y20500 ++ (secsQ x6.toNat y16).1) (y20501))
theorem be_f13_0 (x0 : (List Int)) (x6 : Int) (y2 : Image) (y16 : ReaderX) (y20500 : (List Section)) (y20501 : (List Symbol)) : roundF g_f13 fg_f13_0 tb_f13_0 (st_f13_0 x0 x6 y2 y16 y20500 y20501) = b_f13_0 x0 x6 y2 y16 y20500 y20501 := by kernel_rfl
theorem ln_f13_0 (x0 : (List Int)) (x6 : Int) (y2 : Image) (y16 : ReaderX) (y20500 : (List Section)) (y20501 : (List Symbol)) : lp_f13_0 x0 x6 y2 y16 y20500 y20501 = n_f13_0 x0 x6 y2 y16 y20500 y20501 := (loopF_nxt _ _).trans (by
  rw [be_f13_0]
  first
  | (simp only [b_f13_0, b_f13_0_1, frk_self, n_f13_0, n_f13_0_1, frk_self, nxt_br, nxt_n, nxt_r, nxt_e, nxt_0]
     rfl)
  | (simp only [b_f13_0, b_f13_0_1, frk_self, n_f13_0, n_f13_0_1, frk_self]
     try generalize (cApp y20500 ([((strOf (someV (snumN y16 1) (snumV y16 1))), ((someV (snumN (someN (snumN y16 1) (snumV y16 1)) 2) (snumV (someN (snumN y16 1) (snumV y16 1)) 2)), ()))]) 40) = cq0
     try generalize ((someOk (snumN (someN (snumN y16 1) (snumV y16 1)) 2) (snumV (someN (snumN y16 1) (snumV y16 1)) 2))) = cq1
     try generalize ((snumOk (someN (snumN y16 1) (snumV y16 1)) 2)) = cq2
     try generalize ((someOk (snumN y16 1) (snumV y16 1))) = cq3
     try generalize ((snumOk y16 1)) = cq4
     simp only [brN, frk_self, Bool.and_assoc, Bool.and_comm, Bool.and_left_comm, Bool.and_self, Bool.and_self_left, nxt_br, nxt_n, nxt_r, nxt_e, nxt_0]
     try rfl))
def b_f13_1 (x0 : (List Int)) (x8 : Int) (y2 : Image) (y16 : ReaderX) (y20500 : (List Section)) (y20501 : (List Symbol)) : Option (Exit × VS) :=
  br ((igt x8 0))
    (br (y16.2.2.1)
      (br ((snumOk y16 1))
        (br ((someOk (snumN y16 1) (snumV y16 1)))
          (br ((snumOk (someN (snumN y16 1) (snumV y16 1)) 4))
            (br (cApp y20501 ([((strOf (someV (snumN y16 1) (snumV y16 1))), ((snumV (someN (snumN y16 1) (snumV y16 1)) 4), ()))]) 24)
              (some (.normal, st_f13_1 x0 (isub .i64 x8 1) y2 (snumN (someN (snumN y16 1) (snumV y16 1)) 4) y20500 (y20501 ++ ([((strOf (someV (snumN y16 1) (snumV y16 1))), ((snumV (someN (snumN y16 1) (snumV y16 1)) 4), ()))]))))
              (none))
            (none))
          (none))
        (none))
      (some (.exit 2, st_f13_1_e2 x0 y2 y16 y20500 y20501)))
    (some (.exit 2, st_f13_1_e2 x0 y2 y16 y20500 y20501))
noncomputable def lp_f13_1 (x0 : (List Int)) (x8 : Int) (y2 : Image) (y16 : ReaderX) (y20500 : (List Section)) (y20501 : (List Symbol)) : Option (Exit × VS) := loopF (roundF g_f13 fg_f13_1 tb_f13_1) (st_f13_1 x0 x8 y2 y16 y20500 y20501)
noncomputable def n_f13_1 (x0 : (List Int)) (x8 : Int) (y2 : Image) (y16 : ReaderX) (y20500 : (List Section)) (y20501 : (List Symbol)) : Option (Exit × VS) :=
  br ((igt x8 0))
    (br (y16.2.2.1)
      (br ((snumOk y16 1))
        (br ((someOk (snumN y16 1) (snumV y16 1)))
          (br ((snumOk (someN (snumN y16 1) (snumV y16 1)) 4))
            (br (cApp y20501 ([((strOf (someV (snumN y16 1) (snumV y16 1))), ((snumV (someN (snumN y16 1) (snumV y16 1)) 4), ()))]) 24)
              (lp_f13_1 x0 (isub .i64 x8 1) y2 (snumN (someN (snumN y16 1) (snumV y16 1)) 4) y20500 (y20501 ++ ([((strOf (someV (snumN y16 1) (snumV y16 1))), ((snumV (someN (snumN y16 1) (snumV y16 1)) 4), ()))])))
              (none))
            (none))
          (none))
        (none))
      (some (.exit 2, st_f13_1_e2 x0 y2 y16 y20500 y20501)))
    (some (.exit 2, st_f13_1_e2 x0 y2 y16 y20500 y20501))
def la_f13_1 (x0 : (List Int)) (x8 : Int) (y2 : Image) (y16 : ReaderX) (y20500 : (List Section)) (y20501 : (List Symbol)) : Option (Exit × VS) := some (.exit 2, st_f13_1_e2 (x0) (y2) ((symsQ x8.toNat y16).2) (y20500) (y20501 ++ (symsQ x8.toNat y16).1))
theorem be_f13_1 (x0 : (List Int)) (x8 : Int) (y2 : Image) (y16 : ReaderX) (y20500 : (List Section)) (y20501 : (List Symbol)) : roundF g_f13 fg_f13_1 tb_f13_1 (st_f13_1 x0 x8 y2 y16 y20500 y20501) = b_f13_1 x0 x8 y2 y16 y20500 y20501 := by kernel_rfl
theorem ln_f13_1 (x0 : (List Int)) (x8 : Int) (y2 : Image) (y16 : ReaderX) (y20500 : (List Section)) (y20501 : (List Symbol)) : lp_f13_1 x0 x8 y2 y16 y20500 y20501 = n_f13_1 x0 x8 y2 y16 y20500 y20501 := (loopF_nxt _ _).trans (by
  rw [be_f13_1]
  simp only [b_f13_1, n_f13_1, nxt_br, nxt_n, nxt_r, nxt_e, nxt_0]
  rfl)
def r_f13 (p0 : (List Int)) : Option (V × List VO) :=
  br ((igt (llen p0) 4096))
    (some (.tu [(.t tyImage (([] : List Section), (([] : List Symbol), ()))), (.t tI 3)], []))
    (br ((someOk (p0, (0, (true, ()))) 3))
      (br ((sne (strOf (someV (p0, (0, (true, ()))) 3)) (strOf ([88, 69, 1]))))
        (some (.tu [(.t tyImage (([] : List Section), (([] : List Symbol), ()))), (.t tI 1)], []))
        (br ((snumOk (someN (p0, (0, (true, ()))) 3) 1))
          (br ((rdX (snumN (someN (p0, (0, (true, ()))) 3) 1) && decide (0 ≤ (snumV (someN (p0, (0, (true, ()))) 3) 1) ∧ ([] : List Section).length + (snumV (someN (p0, (0, (true, ()))) 3) 1).toNat ≤ 100000)))
            (br ((snumOk ((secsQ (snumV (someN (p0, (0, (true, ()))) 3) 1).toNat (snumN (someN (p0, (0, (true, ()))) 3) 1)).2) 1))
              (br ((rdX (snumN ((secsQ (snumV (someN (p0, (0, (true, ()))) 3) 1).toNat (snumN (someN (p0, (0, (true, ()))) 3) 1)).2) 1) && decide (0 ≤ (snumV ((secsQ (snumV (someN (p0, (0, (true, ()))) 3) 1).toNat (snumN (someN (p0, (0, (true, ()))) 3) 1)).2) 1) ∧ (([] : List Symbol)).length + (snumV ((secsQ (snumV (someN (p0, (0, (true, ()))) 3) 1).toNat (snumN (someN (p0, (0, (true, ()))) 3) 1)).2) 1).toNat ≤ 100000)))
                (br ((!(((((symsQ (snumV ((secsQ (snumV (someN (p0, (0, (true, ()))) 3) 1).toNat (snumN (someN (p0, (0, (true, ()))) 3) 1)).2) 1).toNat (snumN ((secsQ (snumV (someN (p0, (0, (true, ()))) 3) 1).toNat (snumN (someN (p0, (0, (true, ()))) 3) 1)).2) 1)).2).2).2).1)))
                  (some (.tu [(.t tyImage (([] : List Section), (([] : List Symbol), ()))), (.t tI 1)], []))
                  (br ((ine ((((symsQ (snumV ((secsQ (snumV (someN (p0, (0, (true, ()))) 3) 1).toNat (snumN (someN (p0, (0, (true, ()))) 3) 1)).2) 1).toNat (snumN ((secsQ (snumV (someN (p0, (0, (true, ()))) 3) 1).toNat (snumN (someN (p0, (0, (true, ()))) 3) 1)).2) 1)).2).2).1) (llen ((p0)))))
                    (some (.tu [(.t tyImage (([] : List Section), (([] : List Symbol), ()))), (.t tI 1)], []))
                    (br ((chkOk (((([] : List Section) ++ (secsQ (snumV (someN (p0, (0, (true, ()))) 3) 1).toNat (snumN (someN (p0, (0, (true, ()))) 3) 1)).1)), (((([] : List Symbol)) ++ (symsQ (snumV ((secsQ (snumV (someN (p0, (0, (true, ()))) 3) 1).toNat (snumN (someN (p0, (0, (true, ()))) 3) 1)).2) 1).toNat (snumN ((secsQ (snumV (someN (p0, (0, (true, ()))) 3) 1).toNat (snumN (someN (p0, (0, (true, ()))) 3) 1)).2) 1)).1), ()))))
                      (br ((ine (checkX (((([] : List Section) ++ (secsQ (snumV (someN (p0, (0, (true, ()))) 3) 1).toNat (snumN (someN (p0, (0, (true, ()))) 3) 1)).1)), (((([] : List Symbol)) ++ (symsQ (snumV ((secsQ (snumV (someN (p0, (0, (true, ()))) 3) 1).toNat (snumN (someN (p0, (0, (true, ()))) 3) 1)).2) 1).toNat (snumN ((secsQ (snumV (someN (p0, (0, (true, ()))) 3) 1).toNat (snumN (someN (p0, (0, (true, ()))) 3) 1)).2) 1)).1), ()))) 0))
                        (some (.tu [(.t tyImage (([] : List Section), (([] : List Symbol), ()))), (.t tI 20)], []))
                        (some (.tu [(.t tyImage (((([] : List Section) ++ (secsQ (snumV (someN (p0, (0, (true, ()))) 3) 1).toNat (snumN (someN (p0, (0, (true, ()))) 3) 1)).1)), (((([] : List Symbol)) ++ (symsQ (snumV ((secsQ (snumV (someN (p0, (0, (true, ()))) 3) 1).toNat (snumN (someN (p0, (0, (true, ()))) 3) 1)).2) 1).toNat (snumN ((secsQ (snumV (someN (p0, (0, (true, ()))) 3) 1).toNat (snumN (someN (p0, (0, (true, ()))) 3) 1)).2) 1)).1), ()))), (.t tI 0)], [])))
                      (none))))
                (none))
              (none))
            (none))
          (none)))
      (none))
theorem e_f13 (p0 : (List Int)) : runF g_f13 tc_f13 rv_f13 false [.t (.sl (.int .u8)) p0] [] = r_f13 p0 := by kernel_rfl
theorem ok_f13 : Option.map (trC Try.prog) Try.f13.body = some tc_f13.er := by kernel_rfl
theorem rok_f13 : trVs Try.prog Try.f13.results.toList = some (rv_f13.map Prod.fst) := by kernel_rfl
theorem en_f13 : Entered Try.prog 13 := .inr ⟨by decide, _, Try.func13, by kernel_rfl, by kernel_rfl⟩
theorem gk_f13 : GOk Try.prog g_f13 := gok_of _ (by
  intro p hp
  simp only [List.mem_cons, List.not_mem_nil, or_false] at hp
  rcases hp with rfl | rfl | rfl | rfl
  · exact ⟨en_f19, ms_f19⟩
  · exact ⟨en_f27, ms_f27⟩
  · exact ⟨en_f28, ms_f28⟩
  · exact ⟨en_op_convert_23_9, ms_op_convert_23_9⟩)
theorem l_f13_0 (x0 : (List Int)) (x6 : Int) (y2 : Image) (y16 : ReaderX) (y20500 : (List Section)) (y20501 : (List Symbol)) (h : (rdX y16 && decide (0 ≤ x6 ∧ y20500.length + x6.toNat ≤ 100000)) = true) : lp_f13_0 x0 x6 y2 y16 y20500 y20501 = la_f13_0 x0 x6 y2 y16 y20500 y20501 := by
  simp only [Bool.and_eq_true, decide_eq_true_eq] at h
  obtain ⟨h1, h2, h3⟩ := h
  obtain ⟨n, rfl⟩ := Int.eq_ofNat_of_zero_le h2
  rw [Int.toNat_natCast] at h3
  induction n generalizing y16 y20500 with
  | zero =>
    rw [ln_f13_0]
    simp [n_f13_0, la_f13_0, igt, br_false, secsQ, secsP, rho_psi h1]
  | succ n ih =>
    rw [ln_f13_0]
    have e1 : igt ((n + 1 : Nat) : Int) 0 = true := by simp only [igt, decide_eq_true_eq]; omega
    have e2 : isub .i64 ((n + 1 : Nat) : Int) 1 = (n : Int) := by rw [isub_in (by omega)]; omega
    have s0 := suf_psi h1
    have s1 : Suf y16 (rnumN (psi y16) 1) := suf_take s0 _
    have s2 : Suf y16 (rnameN (psi y16)) := suf_take s1 _
    have s3 : Suf y16 (rnumN (rnameN (psi y16)) 2) := suf_take s2 _
    have s4 : Suf y16 (secN (psi y16)) := suf_take s3 _
    have r0 := rd_suf h1 s0
    have p1 := rnum_ok (c := 1) r0 (by omega)
    have p2 := rnum_ok (c := 2) (rname_ok r0) (by omega)
    have f1 : snumN y16 1 = rho y16 (rnumN (psi y16) 1) := rfl
    have f2 : someN (rho y16 (rnumN (psi y16) 1)) (snumV y16 1) = rho y16 (rnameN (psi y16)) := someN_rho s1 _
    have f3 : strOf (someV (rho y16 (rnumN (psi y16) 1)) (snumV y16 1)) = rnameV (psi y16) := by rw [someV_rho s1]; rfl
    have f4 : snumV (rho y16 (rnameN (psi y16))) 2 = rnumV (rnameN (psi y16)) 2 := snumV_rho s2 _
    have f5 : snumN (rho y16 (rnameN (psi y16))) 2 = rho y16 (rnumN (rnameN (psi y16)) 2) := snumN_rho s2 _
    have f6 : someV (rho y16 (rnumN (rnameN (psi y16)) 2)) (rnumV (rnameN (psi y16)) 2) = takeV (rnumN (rnameN (psi y16)) 2) (rnumV (rnameN (psi y16)) 2) := someV_rho s3 _
    have f7 : someN (rho y16 (rnumN (rnameN (psi y16)) 2)) (rnumV (rnameN (psi y16)) 2) = rho y16 (secN (psi y16)) := someN_rho s3 _
    have g1 : snumOk y16 1 = true := by simp only [snumOk, h1, Bool.true_and]; rfl
    have g2 : someOk (rho y16 (rnumN (psi y16) 1)) (snumV y16 1) = true := by simp only [someOk, rd_rho h1, Bool.true_and, decide_eq_true_eq]; exact p1.2.1
    have g3 : snumOk (rho y16 (rnameN (psi y16))) 2 = true := by simp only [snumOk, rd_rho h1, Bool.true_and]; rfl
    have g4 : someOk (rho y16 (rnumN (rnameN (psi y16)) 2)) (rnumV (rnameN (psi y16)) 2) = true := by simp only [someOk, rd_rho h1, Bool.true_and, decide_eq_true_eq]; exact p2.2.1
    simp only [n_f13_0, n_f13_0_1, frk_self, e1, e2, br_true, la_f13_0, Int.toNat_natCast, f1, f2, f3, f4, f5, f6, f7, g1, g2, g3, g4]
    have hps : (psi y16).2.1 = !y16.2.2.1 := rfl
    unfold secsQ secsP
    rw [hps]
    cases hf : y16.2.2.1 with
    | false =>
      simp only [br_false, Bool.not_false, cond_true, List.append_nil, rho_psi h1]
    | true =>
      simp only [br_true, Bool.not_true, cond_false]
      rw [cApp_ok (by simp only [List.length_singleton]; omega) (by omega)]
      simp only [br_true, frk_self]
      have := ih (rho y16 (secN (psi y16))) (y20500 ++ [secV (psi y16)]) (rd_rho h1) (by omega) (by rw [List.length_append]; simp only [List.length_singleton]; omega)
      rw [show lp_f13_0 x0 (n : Int) y2 (rho y16 (secN (psi y16))) (y20500 ++ [(rnameV (psi y16), (takeV (rnumN (rnameN (psi y16)) 2) (rnumV (rnameN (psi y16)) 2), ()))]) y20501 = _ from this]
      simp only [la_f13_0, Int.toNat_natCast, secsQ, psi_rho s4, List.append_assoc, List.singleton_append]
      rfl
theorem l_f13_1 (x0 : (List Int)) (x8 : Int) (y2 : Image) (y16 : ReaderX) (y20500 : (List Section)) (y20501 : (List Symbol)) (h : (rdX y16 && decide (0 ≤ x8 ∧ y20501.length + x8.toNat ≤ 100000)) = true) : lp_f13_1 x0 x8 y2 y16 y20500 y20501 = la_f13_1 x0 x8 y2 y16 y20500 y20501 := by
  simp only [Bool.and_eq_true, decide_eq_true_eq] at h
  obtain ⟨h1, h2, h3⟩ := h
  obtain ⟨n, rfl⟩ := Int.eq_ofNat_of_zero_le h2
  rw [Int.toNat_natCast] at h3
  induction n generalizing y16 y20501 with
  | zero =>
    rw [ln_f13_1]
    simp [n_f13_1, la_f13_1, igt, br_false, symsQ, symsP, rho_psi h1]
  | succ n ih =>
    rw [ln_f13_1]
    have e1 : igt ((n + 1 : Nat) : Int) 0 = true := by simp only [igt, decide_eq_true_eq]; omega
    have e2 : isub .i64 ((n + 1 : Nat) : Int) 1 = (n : Int) := by rw [isub_in (by omega)]; omega
    have s0 := suf_psi h1
    have s1 : Suf y16 (rnumN (psi y16) 1) := suf_take s0 _
    have s2 : Suf y16 (rnameN (psi y16)) := suf_take s1 _
    have s4 : Suf y16 (symN (psi y16)) := suf_take s2 _
    have r0 := rd_suf h1 s0
    have p1 := rnum_ok (c := 1) r0 (by omega)
    have f1 : snumN y16 1 = rho y16 (rnumN (psi y16) 1) := rfl
    have f2 : someN (rho y16 (rnumN (psi y16) 1)) (snumV y16 1) = rho y16 (rnameN (psi y16)) := someN_rho s1 _
    have f3 : strOf (someV (rho y16 (rnumN (psi y16) 1)) (snumV y16 1)) = rnameV (psi y16) := by rw [someV_rho s1]; rfl
    have f4 : snumV (rho y16 (rnameN (psi y16))) 4 = rnumV (rnameN (psi y16)) 4 := snumV_rho s2 _
    have f5 : snumN (rho y16 (rnameN (psi y16))) 4 = rho y16 (symN (psi y16)) := snumN_rho s2 _
    have g1 : snumOk y16 1 = true := by simp only [snumOk, h1, Bool.true_and]; rfl
    have g2 : someOk (rho y16 (rnumN (psi y16) 1)) (snumV y16 1) = true := by simp only [someOk, rd_rho h1, Bool.true_and, decide_eq_true_eq]; exact p1.2.1
    have g3 : snumOk (rho y16 (rnameN (psi y16))) 4 = true := by simp only [snumOk, rd_rho h1, Bool.true_and]; rfl
    simp only [n_f13_1, e1, e2, br_true, la_f13_1, Int.toNat_natCast, f1, f2, f3, f4, f5, g1, g2, g3]
    have hps : (psi y16).2.1 = !y16.2.2.1 := rfl
    unfold symsQ symsP
    rw [hps]
    cases hf : y16.2.2.1 with
    | false =>
      simp only [br_false, Bool.not_false, cond_true, List.append_nil, rho_psi h1]
    | true =>
      simp only [br_true, Bool.not_true, cond_false]
      rw [cApp_ok (by simp only [List.length_singleton]; omega) (by omega)]
      simp only [br_true]
      have := ih (rho y16 (symN (psi y16))) (y20501 ++ [symV (psi y16)]) (rd_rho h1) (by omega) (by rw [List.length_append]; simp only [List.length_singleton]; omega)
      rw [show lp_f13_1 x0 (n : Int) y2 (rho y16 (symN (psi y16))) y20500 (y20501 ++ [(rnameV (psi y16), (rnumV (rnameN (psi y16)) 4, ()))]) = _ from this]
      simp only [la_f13_1, Int.toNat_natCast, symsQ, psi_rho s4, List.append_assoc, List.singleton_append]
      rfl
theorem lo_f13_0 : ∀ S l p, g_f13.L 0 (fgt fg_f13_0 S) = some (true, l) → pickA l = some p → loopF (roundF g_f13 fg_f13_0 tb_f13_0) S = some p :=
  lok_of (s := sh_f13_0) ⟨by decide, by decide⟩ (by kernel_rfl) fun x y hok p hp => by
  simp only [pickA_br, pickA_one] at hp
  exact (l_f13_0 x.1 x.2.2.2.2.1 y.1 y.2.2.1 y.2.2.2.2.2.1 y.2.2.2.2.2.2.1 (by simpa using hok)).trans hp
theorem lo_f13_1 : ∀ S l p, g_f13.L 1 (fgt fg_f13_1 S) = some (true, l) → pickA l = some p → loopF (roundF g_f13 fg_f13_1 tb_f13_1) S = some p :=
  lok_of (s := sh_f13_1) ⟨by decide, by decide⟩ (by kernel_rfl) fun x y hok p hp => by
  simp only [pickA_br, pickA_one] at hp
  exact (l_f13_1 x.1 x.2.2.2.2.1 y.1 y.2.2.1 y.2.2.2.2.2.1 y.2.2.2.2.2.2.1 (by simpa using hok)).trans hp
theorem lk_f13 : tc_f13.lok g_f13 := by
  repeat (first | exact trivial | exact lo_f13_0 | exact lo_f13_1 | refine ⟨?_, ?_⟩)
theorem s_f13 (l : List Int) (h : decOkX l = true) : r_f13 l = some (.tu [.t tyImage (decX l).1, .t tI (decX l).2], []) := by
  obtain ⟨h0, h1, h2, h3, h4, h5, n1, n2, hc⟩ := dec_facts h
  have e1 : igt (llen l) 4096 = decide (4096 < l.length) := by simp [igt, llen]; omega
  have k1 := (rnum_ok (c := 1) h1 (by omega))
  have k2 := (rnum_ok (c := 1) h3 (by omega))
  simp only [decOkX, Bool.and_eq_true, decide_eq_true_eq] at h
  have hx : rdX (l, (0, (true, ()))) = true := by simp only [rdX, Bool.and_eq_true, decide_eq_true_eq]; exact ⟨h.1, h.2, by omega, by omega⟩
  have s0 : Suf (l, (0, (true, ()))) (d0D l) := ⟨0, Nat.zero_le _, rfl⟩
  have s1 : Suf (l, (0, (true, ()))) (takeN (d0D l) 3) := suf_take s0 _
  have s2 : Suf (l, (0, (true, ()))) (d1D l) := suf_take s1 _
  have s3 : Suf (l, (0, (true, ()))) (d2D l) := suf_secs _ s2
  have s4 : Suf (l, (0, (true, ()))) (d3D l) := suf_take s3 _
  have s5 : Suf (l, (0, (true, ()))) (d4D l) := suf_syms _ s4
  have f1 : someN (l, (0, (true, ()))) 3 = rho (l, (0, (true, ()))) (takeN (d0D l) 3) := rfl
  have f2 : someV (l, (0, (true, ()))) 3 = takeV (d0D l) 3 := rfl
  have f3 : snumV (rho (l, (0, (true, ()))) (takeN (d0D l) 3)) 1 = rnumV (takeN (d0D l) 3) 1 := snumV_rho s1 _
  have f4 : snumN (rho (l, (0, (true, ()))) (takeN (d0D l) 3)) 1 = rho (l, (0, (true, ()))) (d1D l) := snumN_rho s1 _
  have f5 : secsQ (rnumV (takeN (d0D l) 3) 1).toNat (rho (l, (0, (true, ()))) (d1D l)) = ((imD l).1, rho (l, (0, (true, ()))) (d2D l)) := by
    unfold secsQ
    rw [psi_rho s2]
    rfl
  have f6 : snumV (rho (l, (0, (true, ()))) (d2D l)) 1 = rnumV (d2D l) 1 := snumV_rho s3 _
  have f7 : snumN (rho (l, (0, (true, ()))) (d2D l)) 1 = rho (l, (0, (true, ()))) (d3D l) := snumN_rho s3 _
  have f8 : symsQ (rnumV (d2D l) 1).toNat (rho (l, (0, (true, ()))) (d3D l)) = ((imD l).2.1, rho (l, (0, (true, ()))) (d4D l)) := by
    unfold symsQ
    rw [psi_rho s4]
    rfl
  have g1 : someOk (l, (0, (true, ()))) 3 = true := by simp only [someOk, hx]; rfl
  have g2 : snumOk (rho (l, (0, (true, ()))) (takeN (d0D l) 3)) 1 = true := by simp only [snumOk, rd_rho hx]; rfl
  have g3 : snumOk (rho (l, (0, (true, ()))) (d2D l)) 1 = true := by simp only [snumOk, rd_rho hx]; rfl
  have q5 : (d4D l).1.length ≤ l.length := by
    obtain ⟨k, hk, hr⟩ := s5
    rw [hr, List.length_drop]
    exact Nat.sub_le _ _
  have e2 : ine ((l.length - (d4D l).1.length : Nat) : Int) (llen l) = decide (0 < (d4D l).1.length) := by
    simp only [ine_dec, llen]
    congr 1
    simp
    omega
  unfold decX
  simp only [r_f13, e1, f1, f2, f3, f4, f5, f6, f7, f8, g1, g2, g3, rd_rho hx, Bool.true_and, br_true, List.nil_append]
  cases decide (4096 < l.length) with
  | true => rfl
  | false =>
    rw [br_false, show sne (strOf (takeV (d0D l) 3)) (strOf [88, 69, 1]) = mgD l from rfl]
    cases mgD l with
    | true => rfl
    | false =>
      rw [br_false, decide_eq_true (show (0 : Int) ≤ rnumV (takeN (d0D l) 3) 1 ∧ ([] : List Section).length + (rnumV (takeN (d0D l) 3) 1).toNat ≤ 100000 from ⟨k1.2.1, by simp only [List.length_nil]; have : (rnumV (takeN (d0D l) 3) 1).toNat ≤ 255 := n1; omega⟩), br_true]
      rw [decide_eq_true (show (0 : Int) ≤ rnumV (d2D l) 1 ∧ ([] : List Symbol).length + (rnumV (d2D l) 1).toNat ≤ 100000 from ⟨k2.2.1, by simp only [List.length_nil]; have : (rnumV (d2D l) 1).toNat ≤ 255 := n2; omega⟩), br_true]
      show br (!(!(d4D l).2.1)) _ (br (ine ((l.length - (d4D l).1.length : Nat) : Int) (llen l)) _ (br (chkOk (imD l)) (br (ine (checkX (imD l)) 0) _ _) _)) = _
      rw [e2, hc, br_true, checkX, ine_bif, Bool.not_not]
      cases (d4D l).2.1 <;> cases decide (0 < (d4D l).1.length) <;> cases badX (imD l) <;> rfl
def sp_f13 : Ent := spec (.pr (.sl (.int .u8)) .nil) (fun x => (decOkX x.1)) (fun x => (.tu [(.t tyImage ((decX x.1).1)), (.t tI ((decX x.1).2))]))
theorem ms_f13 : Meets Try.prog 13 (strip sp_f13) := by
  obtain ⟨c, hc, hi⟩ := Option.map_eq_some_iff.1 ok_f13
  exact meets_spec (R := runF g_f13 tc_f13 rv_f13 false) (meets_of (by decide) Try.func13 hc hi Try.ntmps13 rok_f13 gk_f13 lk_f13 mixed) fun x hok => (e_f13 x.1).trans (s_f13 x.1 hok)
end
end Go.Proofs.Ytdbaaejiolibfaa.K
