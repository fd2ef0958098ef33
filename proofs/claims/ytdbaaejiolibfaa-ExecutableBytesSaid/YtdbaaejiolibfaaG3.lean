/-
  executable: reading bytes, by the program and by its answer.
-/
import Derived.Test.YtdbaaejiolibfaaG2
import Derived.Test.YtdbaaejiolibfaaKY
set_option linter.unusedSimpArgs false
set_option linter.unusedVariables false
namespace Go.Proofs.Ytdbaaejiolibfaa.K
open Go.RowKit
noncomputable section
/-! bytes.Clone -/
def clonB (l : List Int) : List Int := l
def clonOk (l : List Int) : Bool := decide (l.length ≤ 4000000)
def sp_f25 : Ent := spec (.pr (.sl (.int .u8)) .nil) (fun x => (clonOk x.1)) (fun x => (.t (.sl (.int .u8)) (clonB x.1)))
theorem en_f25 : Entered Try.prog 25 := .inr ⟨by decide, _, Try.func25, by kernel_rfl, by kernel_rfl⟩
theorem elemU8 : ElemOk Try.prog 23 5 1 1 := ElemOk.of (.int .u8 0) (by kernel_rfl) (by kernel_rfl) (by kernel_rfl) (by decide)
theorem eql_slice_nilG {P : Program} (w : World) (t e : TypeId) (a : Option Addr) (l c : Nat) (h : P.underlying t = some (.slice e)) : (binOp .eql t (.slice a l c) (.slice none 0 0)).run P w = .ok (.bool a.isNone) w := by
  simp [binOp, run_equal_slice_nil w t e a l c h]
set_option maxHeartbeats 400000 in
theorem clone_bytes (A : Option Addr) (c n : Nat) (cells : List Value) (w : World) (h : Sl w (.slice A n c) 1 n cells) (h1 : ∀ u ∈ cells, u.oneCell' = true) (hn : n ≤ 4000000) :
    Calls Try.prog 25 #[.slice A n c] w fun r w' => ∃ sv, r = .returned sv ∧ w'.ownsRow w.heap.size 5 1 sv n cells ∧ Below w.heap.size w w' := by
  have he := eql_slice_nilG (P := Try.prog) w 23 5 A n c (by kernel_rfl)
  rcases A with _ | ad
  · have hnil : n = 0 := Classical.byContradiction fun h0 => by
      obtain ⟨_, A', c', hv, _, _, h3⟩ := h
      obtain ⟨b, off, e, _⟩ := h3 (by omega)
      rw [e] at hv
      simp at hv
    subst hnil
    have hc : cells = [] := List.eq_nil_of_length_eq_zero (by rw [h.1, Nat.zero_mul])
    subst hc
    clear h
    simp only [Option.isNone_none] at he
    go_enter Try.func25, Try.ntmps25
    go_wp2_with fail
    go_ret
    exact ⟨_, rfl, World.ownsRow_nil _ _ _ _, Below.refl _ _⟩
  · simp only [Option.isNone_some] at he
    have hown := World.ownsRow_made w #[] (size := 1) (e := 5) 0 (Nat.le_refl _) (Nat.zero_le _) rfl
    have hsrc := h.alloc (.cells #[] 5)
    have HSRC := Lib.hid hsrc
    clear h hsrc
    go_enter Try.func25, Try.ntmps25
    go_wp2_with (at_builtin; refine wpList_app elemU8 rfl _ _ rfl w.heap.size (.slice (some ⟨w.heap.size, 0, none⟩) 0 0) 0 [] rfl hown (some ad) n c cells rfl HSRC.out h1 (by omega) (by omega) (by simp) ?_; intro v' w4 hown4 hg4 hat4)
    go_ret
    refine ⟨v', rfl, by simpa using hown4, ?_⟩
    have hal := (Below.refl w.heap.size w).alloc (Nat.le_refl _) (.cells #[] 5)
    exact below_of_only hal hg4 (Nat.le_refl _) hal.size
theorem ms_f25 : Meets Try.prog 25 (strip sp_f25) :=
  meets_On (a := .pr (.sl (.int .u8)) .nil) (e := 5) (y := .int .u8) (L := fun x => x.1) (meets_clone (e := 5) (y := .int .u8) (by decide) (fun x hx => of_decide_eq_true hx) fun A c n cells w h h1 hn => clone_bytes A c n cells w h h1 hn)
/-! numbers out of bytes -/
def isB (b : Int) : Bool := decide (0 ≤ b ∧ b ≤ 255)
def shl8 (x b : Int) : Int := ibor .i64 (ishl .i64 x 8) (icv .i64 b)
theorem shl8_eq (x b : Nat) (hb : b < 256) (hx : x < 1099511627776) : shl8 (x : Int) (b : Int) = ((x * 256 + b : Nat) : Int) := by
  have e1 : icv .i64 (b : Int) = (b : Int) := Go.IntWalk.i64_in _ (by omega)
  have e2 : ishl .i64 (x : Int) 8 = ((x * 256 : Nat) : Int) := by
    show IntKind.i64.wrap ((x : Int) * 2 ^ (min (8 : Int).toNat 64)) = _
    have : ((x : Int) * 2 ^ (min (8 : Int).toNat 64)) = ((x * 256 : Nat) : Int) := by
      show (x : Int) * 256 = _
      omega
    rw [this]
    exact Go.IntWalk.i64_in _ (by omega)
  unfold shl8
  rw [e1, e2]
  show IntKind.i64.wrap ((((BitVec.ofInt 64 ((x * 256 : Nat) : Int)) ||| (BitVec.ofInt 64 (b : Int))).toNat : Nat) : Int) = _
  have e3 : ((BitVec.ofInt 64 ((x * 256 : Nat) : Int)) ||| (BitVec.ofInt 64 (b : Int))).toNat = x * 256 + b := by
    rw [BitVec.ofInt_natCast, BitVec.ofInt_natCast, BitVec.toNat_or, BitVec.toNat_ofNat, BitVec.toNat_ofNat, Nat.mod_eq_of_lt (by omega), Nat.mod_eq_of_lt (by omega)]
    have := Nat.shiftLeft_add_eq_or_of_lt (b := b) (i := 8) (by omega) x
    rw [Nat.shiftLeft_eq] at this
    exact this.symm
  rw [e3]
  exact Go.IntWalk.i64_in _ (by omega)
def valN (n : Nat) (l : List Int) : Nat := l.foldl (fun n b => n * 256 + b.toNat) n
theorem fold8 : ∀ (l : List Int) (x : Nat), l.all isB = true → x * 256 ^ l.length + 256 ^ l.length ≤ 281474976710656 → l.foldl shl8 (x : Int) = ((valN x l : Nat) : Int)
  | [], x, _, _ => rfl
  | b :: l, x, h, hx => by
    simp only [List.all_cons, Bool.and_eq_true, isB, decide_eq_true_eq] at h
    obtain ⟨⟨h1, h2⟩, h3⟩ := h
    obtain ⟨c, rfl⟩ := Int.eq_ofNat_of_zero_le h1
    have hp : 0 < 256 ^ l.length := Nat.pow_pos (by omega)
    rw [List.length_cons, Nat.pow_succ] at hx
    have hx2 : x < 1099511627776 := by
      have : x * (256 ^ l.length * 256) ≤ 281474976710656 := by omega
      have h5 : x * 256 ≤ x * (256 ^ l.length * 256) := Nat.mul_le_mul_left _ (by omega)
      omega
    rw [List.foldl_cons, shl8_eq x c (by omega) hx2, fold8 l (x * 256 + c) (by simpa [isB] using h3) ?_]
    · rfl
    · have e1 : (x * 256 + c) * 256 ^ l.length = x * (256 ^ l.length * 256) + c * 256 ^ l.length := by
        rw [Nat.add_mul, Nat.mul_assoc, Nat.mul_comm 256]
      have e2 : c * 256 ^ l.length + 256 ^ l.length ≤ 256 ^ l.length * 256 := by
        have : (c + 1) * 256 ^ l.length ≤ 256 * 256 ^ l.length := Nat.mul_le_mul_right _ (by omega)
        rw [Nat.add_mul, Nat.one_mul] at this
        omega
      omega
theorem fold8_0 (l : List Int) (h : l.all isB = true) (hl : l.length ≤ 5) : l.foldl shl8 0 = ((valN 0 l : Nat) : Int) := by
  refine fold8 l 0 h ?_
  rw [Nat.zero_mul, Nat.zero_add]
  exact Nat.le_trans (Nat.pow_le_pow_right (by omega) hl) (by decide)
/-! the reader -/
def rdFail (d : Reader) (n : Int) : Bool := d.2.1 || igt n (llen d.1)
def takeV (d : Reader) (n : Int) : List Int := bif rdFail d n then [] else d.1.take n.toNat
def takeN (d : Reader) (n : Int) : Reader := bif rdFail d n then (d.1, (true, ())) else (d.1.drop n.toNat, (d.2.1, ()))
def rdOk (d : Reader) : Bool := d.1.all isB && decide (d.1.length ≤ 100000)
def takeOk (d : Reader) (n : Int) : Bool := rdOk d && decide (0 ≤ n)
/-- (*cipherplan/executable.reader).take -/
def tc_f22 : TC := (.sq (.reg [(oP 4 (.mv (.c (.v (.slice none 0 0)))))]) (.sq (.sq (.reg [(oV 6 0), (oP 7 (.nc (.t 6))), (oP 8 (.fa 1 (.t 7))), (oL 9 8), (oV 10 9), (oQ 11 10 false (.mv (.t 1))), (oQ 12 10 false (.mv (.t 0))), (oQ 13 10 false (.nc (.t 12))), (oQ 14 10 false (.fa 0 (.t 13))), (oG 15 10 false (.m (.ld false 1 (.t 14)))), (oQ 16 10 false (.len false (.t 15))), (oQ 17 10 false (.bin false .gtr (.t 11) (.t 16))), (oP 18 (.pick (.t 10) (cB true) (.t 17)))]) (.cd (.t 18) (.sq (.reg [(oV 19 0), (oP 20 (.nc (.t 19))), (oP 21 (.fa 1 (.t 20))), (.mk none none (.m (.st 1 (.t 21) (cB true))))]) (.sq (.reg [(oP 4 (.mv (.c (.v (.slice none 0 0)))))]) .rt)) .sk)) (.sq (.reg [(oV 22 0), (oP 23 (.nc (.t 22))), (oP 24 (.fa 0 (.t 23))), (oL 25 24), (oV 26 1), (oV 27 1), (oP 28 (.slc 1 (.t 25) none (some (.t 26)) (some (.t 27)))), (oV 5 28)]) (.sq (.reg [(oV 29 0), (oV 30 0), (oP 31 (.nc (.t 30))), (oP 32 (.fa 0 (.t 31))), (oL 33 32), (oV 34 1), (oP 35 (.slc 1 (.t 33) (some (.t 34)) none none)), (oP 36 (.nc (.t 29))), (oP 37 (.fa 0 (.t 36))), (.mk none none (.m (.st 1 (.t 37) (.t 35))))]) (.sq (.reg [(oV 38 5), (oV 4 38)]) .rt)))))
def rv_f22 : List (RV × Option Ty) := [((.t 4), some (.sl (.int .u8)))]
def g_f22 : G := ⟨TYs, [], 39, EL [], keeps, (fun _ _ => none), IL [], RL []⟩
def r_f22 (d0 : Reader) (p1 : Int) : Option (V × List VO) :=
  br (d0.2.1)
    (some (.t (.sl (.int .u8)) ([] : List Int), [.box (.t tyReader (d0.1, (true, d0.2.2)))]))
    (br ((igt p1 (llen d0.1)))
      (some (.t (.sl (.int .u8)) ([] : List Int), [.box (.t tyReader (d0.1, (true, d0.2.2)))]))
      (br (cSl d0.1 0 p1 p1)
        (br (cSl d0.1 p1 ((List.length d0.1 : Nat) : Int) ((List.length d0.1 : Nat) : Int))
          (some (.t (.sl (.int .u8)) (lsl d0.1 0 p1), [.box (.t tyReader ((lsl d0.1 p1 ((List.length d0.1 : Nat) : Int)), d0.2))]))
          (none))
        (none)))
theorem e_f22 (d0 : Reader) (p1 : Int) : runF g_f22 tc_f22 rv_f22 false [.ptr 50000 0, .t tI p1] [.box (.t tyReader d0)] = r_f22 d0 p1 := by kernel_rfl
theorem ok_f22 : Option.map (trC Try.prog) Try.f22.body = some tc_f22.er := by kernel_rfl
theorem rok_f22 : trVs Try.prog Try.f22.results.toList = some (rv_f22.map Prod.fst) := by kernel_rfl
theorem en_f22 : Entered Try.prog 22 := .inr ⟨by decide, _, Try.func22, by kernel_rfl, by kernel_rfl⟩
theorem gk_f22 : GOk Try.prog g_f22 := gok_of _ (fun p hp => by cases hp)
theorem lk_f22 : tc_f22.lok g_f22 := by repeat (first | exact trivial | refine ⟨?_, ?_⟩)
theorem s_f22 (d : Reader) (n : Int) (h : takeOk d n = true) : r_f22 d n = some (.t (.sl (.int .u8)) (takeV d n), [.box (.t tyReader (takeN d n))]) := by
  obtain ⟨b, f, u⟩ := d
  simp only [takeOk, rdOk, Bool.and_eq_true, decide_eq_true_eq] at h
  simp only [r_f22, takeV, takeN, rdFail]
  cases f with
  | true => rfl
  | false =>
    rw [br_false]
    cases hg : igt n (llen b) with
    | true => simp only [br_true, Bool.or_true]; rfl
    | false =>
      simp only [igt, llen, decide_eq_false_iff_not] at hg
      have c1 : cSl b 0 n n = true := by simp only [cSl, decide_eq_true_eq]; omega
      have c2 : cSl b n ((List.length b : Nat) : Int) ((List.length b : Nat) : Int) = true := by simp only [cSl, decide_eq_true_eq]; omega
      have l1 : lsl b 0 n = b.take n.toNat := by simp [lsl]
      have l2 : lsl b n ((List.length b : Nat) : Int) = b.drop n.toNat := by
        simp only [lsl, Int.toNat_natCast]
        rw [List.take_of_length_le (by rw [List.length_drop]; omega)]
      rw [br_false, c1, c2, br_true, br_true, l1, l2]
      rfl
def sp_f22 : Ent := specP tyReader (.pr tI .nil) (fun d x => (takeOk d x.1)) (fun d x => (.t (.sl (.int .u8)) (takeV d x.1))) (fun d x => (takeN d x.1))
theorem ms_f22 : Meets Try.prog 22 (strip sp_f22) := by
  obtain ⟨c, hc, hi⟩ := Option.map_eq_some_iff.1 ok_f22
  exact meets_specP (R := runF g_f22 tc_f22 rv_f22 false) (meets_of (by decide) Try.func22 hc hi Try.ntmps22 rok_f22 gk_f22 lk_f22 mixed) rfl fun d x hok => (e_f22 d x.1).trans (s_f22 d x.1 hok)
theorem take_all {d : Reader} {n : Int} (h : rdOk d = true) : (takeV d n).all isB = true ∧ ((takeV d n).length : Int) ≤ max n 0 ∧ rdOk (takeN d n) = true := by
  simp only [rdOk, Bool.and_eq_true, decide_eq_true_eq] at h ⊢
  unfold takeV takeN
  cases rdFail d n with
  | true => exact ⟨rfl, by simp; omega, h.1, h.2⟩
  | false =>
    refine ⟨List.all_eq_true.2 fun x hx => List.all_eq_true.1 h.1 x (List.mem_of_mem_take hx), ?_, List.all_eq_true.2 fun x hx => List.all_eq_true.1 h.1 x (List.mem_of_mem_drop hx), ?_⟩
    · show ((d.1.take n.toNat).length : Int) ≤ _
      rw [List.length_take]
      omega
    · show (d.1.drop n.toNat).length ≤ _
      rw [List.length_drop]
      omega
def rnumV (d : Reader) (c : Int) : Int := (takeV d c).foldl shl8 0
def rnumN (d : Reader) (c : Int) : Reader := takeN d c
def rnumOk (d : Reader) (c : Int) : Bool := rdOk d && decide (0 ≤ c ∧ c ≤ 5)
theorem rnum_nn {d : Reader} {c : Int} (h : rnumOk d c = true) : rnumV d c = ((valN 0 (takeV d c) : Nat) : Int) := by
  simp only [rnumOk, Bool.and_eq_true, decide_eq_true_eq] at h
  obtain ⟨q1, q2, _⟩ := take_all (n := c) h.1
  exact fold8_0 _ q1 (by omega)
def fg_f23_0 : Fg := ⟨[(5, some tI), (10, some (.sl (.int .u8))), (11, some tI), (12, some tI)], [(50000, some tyReader)]⟩
def tb_f23_0 : TC := (.sq (.reg [(oP 13 (.bin false .lss (.t 12) (.t 11)))]) (.sq (.cd (.t 13) .sk (.fg ⟨[(5, some tI)], [(50000, some tyReader)]⟩ (.ex 0))) (.sq (.bk 1 (.sq (.reg [(oP 14 (.ix 1 (.t 10) (.t 12))), (oL 15 14), (oV 7 15)]) (.reg [(oV 16 5), (oP 17 (.bin false .shl (.t 16) (.c (.v (.int .u64 8))))), (oV 18 7), (oP 19 (.cv .i64 (.t 18))), (oP 20 (.bin false .or (.t 17) (.t 19))), (oV 5 20)]))) (.reg [(oP 21 (.bin false .add (.t 12) (cI 1))), (oV 12 21)]))))
/-- (*cipherplan/executable.reader).number -/
def tc_f23 : TC := (.sq (.reg [(oP 4 (.mv (cI 0)))]) (.sq (.reg [(oP 5 (.mv (cI 0)))]) (.sq (.sq (.reg [(oV 8 0), (oV 9 1), (oC 10 22 [(.t 8), (.t 9)]), (oP 11 (.len false (.t 10))), (oP 12 (.mv (cI 0)))]) (.bk 0 (.lp 0 fg_f23_0 tb_f23_0))) (.sq (.reg [(oV 22 5), (oV 4 22)]) .rt))))
def rv_f23 : List (RV × Option Ty) := [((.t 4), some tI)]
abbrev sh_f23_0 : Sh := ⟨[(5, .ty tI), (10, .ty (.sl (.int .u8))), (11, .ty tI), (12, .ty tI)], [(50000, .box tyReader)]⟩
def st_f23_0 (x5 : Int) (x10 : (List Int)) (x11 : Int) (x12 : Int) (y50000 : Reader) : VS := sh_f23_0.st (x5, x10, x11, x12, ()) (y50000, ())
abbrev sh_f23_0_e0 : Sh := ⟨[(5, .ty tI)], [(50000, .box tyReader)]⟩
def st_f23_0_e0 (x5 : Int) (y50000 : Reader) : VS := sh_f23_0_e0.st (x5, ()) (y50000, ())
-- loop 0: (x5 : Int) (x10 : (List Int)) (x11 : Int) (x12 : Int) (y50000 : Reader); out: ('exit', 0) (x5 : Int) (y50000 : Reader)
def L_f23_0 : VS → Option (Bool × List (Bool × Exit × VS)) := mkL sh_f23_0 (fun x y => (rngOk x.2.1 x.2.2.1 x.2.2.2.1)) (fun x y => [(true, .exit 0, st_f23_0_e0 ((x.2.1.drop x.2.2.2.1.toNat).foldl shl8 x.1) (y.1))])
def g_f23 : G := ⟨TYs, [], 23, EL [(22, sp_f22)], keeps, (Ls [L_f23_0]), IL [], RL []⟩
def b_f23_0 (x5 : Int) (x10 : (List Int)) (x11 : Int) (x12 : Int) (y50000 : Reader) : Option (Exit × VS) :=
  br ((ilt x12 x11))
    (br (cIx x10 x12)
      (br ((decide ((0 : Int) ≤ 8)))
        (some (.normal, st_f23_0 (ibor .i64 (ishl .i64 x5 8) (icv .i64 (lgt (.int .u8) x10 (Int.toNat x12)))) x10 x11 (iadd .i64 x12 1) y50000))
        (none))
      (none))
    (some (.exit 0, st_f23_0_e0 x5 y50000))
noncomputable def lp_f23_0 (x5 : Int) (x10 : (List Int)) (x11 : Int) (x12 : Int) (y50000 : Reader) : Option (Exit × VS) := loopF (roundF g_f23 fg_f23_0 tb_f23_0) (st_f23_0 x5 x10 x11 x12 y50000)
noncomputable def n_f23_0 (x5 : Int) (x10 : (List Int)) (x11 : Int) (x12 : Int) (y50000 : Reader) : Option (Exit × VS) :=
  br ((ilt x12 x11))
    (br (cIx x10 x12)
      (br ((decide ((0 : Int) ≤ 8)))
        (lp_f23_0 (ibor .i64 (ishl .i64 x5 8) (icv .i64 (lgt (.int .u8) x10 (Int.toNat x12)))) x10 x11 (iadd .i64 x12 1) y50000)
        (none))
      (none))
    (some (.exit 0, st_f23_0_e0 x5 y50000))
def la_f23_0 (x5 : Int) (x10 : (List Int)) (x11 : Int) (x12 : Int) (y50000 : Reader) : Option (Exit × VS) := some (.exit 0, st_f23_0_e0 ((x10.drop x12.toNat).foldl shl8 x5) (y50000))
theorem be_f23_0 (x5 : Int) (x10 : (List Int)) (x11 : Int) (x12 : Int) (y50000 : Reader) : roundF g_f23 fg_f23_0 tb_f23_0 (st_f23_0 x5 x10 x11 x12 y50000) = b_f23_0 x5 x10 x11 x12 y50000 := by kernel_rfl
theorem ln_f23_0 (x5 : Int) (x10 : (List Int)) (x11 : Int) (x12 : Int) (y50000 : Reader) : lp_f23_0 x5 x10 x11 x12 y50000 = n_f23_0 x5 x10 x11 x12 y50000 := (loopF_nxt _ _).trans (by
  rw [be_f23_0]
  simp only [b_f23_0, n_f23_0, nxt_br, nxt_n, nxt_r, nxt_e, nxt_0]
  rfl)
def r_f23 (d0 : Reader) (p1 : Int) : Option (V × List VO) :=
  br ((takeOk d0 p1))
    (br ((rngOk (takeV d0 p1) (llen (takeV d0 p1)) (0 : Int)))
      (some (.t tI (((takeV d0 p1).drop (0 : Int).toNat).foldl shl8 (0 : Int)), [.box (.t tyReader ((takeN d0 p1)))]))
      (none))
    (none)
theorem e_f23 (d0 : Reader) (p1 : Int) : runF g_f23 tc_f23 rv_f23 false [.ptr 50000 0, .t tI p1] [.box (.t tyReader d0)] = r_f23 d0 p1 := by kernel_rfl
theorem ok_f23 : Option.map (trC Try.prog) Try.f23.body = some tc_f23.er := by kernel_rfl
theorem rok_f23 : trVs Try.prog Try.f23.results.toList = some (rv_f23.map Prod.fst) := by kernel_rfl
theorem en_f23 : Entered Try.prog 23 := .inr ⟨by decide, _, Try.func23, by kernel_rfl, by kernel_rfl⟩
theorem gk_f23 : GOk Try.prog g_f23 := gok_of _ (by
  intro p hp
  simp only [List.mem_cons, List.not_mem_nil, or_false] at hp
  rcases hp with rfl
  · exact ⟨en_f22, ms_f22⟩)
theorem l_f23_0 (x5 : Int) (x10 : (List Int)) (x11 : Int) (x12 : Int) (y50000 : Reader) (h : (rngOk x10 x11 x12) = true) : lp_f23_0 x5 x10 x11 x12 y50000 = la_f23_0 x5 x10 x11 x12 y50000 := by
  obtain ⟨rfl, h3, k, rfl, hk⟩ := rng_k h
  clear h
  revert x5
  refine range_ind x10 (fun k => ∀ x5 : Int, lp_f23_0 x5 x10 (x10.length : Int) (k : Int) y50000 = la_f23_0 x5 x10 (x10.length : Int) (k : Int) y50000) ?_ ?_ k hk
  · intro x5
    rw [ln_f23_0]
    simp [n_f23_0, la_f23_0, ilt_nat, br_false]
  · intro k hk ih x5
    rw [ln_f23_0]
    simp only [n_f23_0, ilt_nat, cIx_nat, hk, decide_true, br_true, Int.toNat_natCast, add1 (show k < 4611686018427387904 by omega), lgt_get (y := .int .u8) hk, ih, show decide ((0 : Int) ≤ 8) = true from rfl]
    simp only [la_f23_0, Int.toNat_natCast, List.drop_eq_getElem_cons hk, List.foldl_cons, shl8]
theorem lo_f23_0 : ∀ S l p, g_f23.L 0 (fgt fg_f23_0 S) = some (true, l) → pickA l = some p → loopF (roundF g_f23 fg_f23_0 tb_f23_0) S = some p :=
  lok_of (s := sh_f23_0) ⟨by decide, by decide⟩ (by kernel_rfl) fun x y hok p hp => by
  simp only [pickA_br, pickA_one] at hp
  exact (l_f23_0 x.1 x.2.1 x.2.2.1 x.2.2.2.1 y.1 (by simpa using hok)).trans hp
theorem lk_f23 : tc_f23.lok g_f23 := by
  repeat (first | exact trivial | exact lo_f23_0 | refine ⟨?_, ?_⟩)
theorem s_f23 (d : Reader) (c : Int) (h : rnumOk d c = true) : r_f23 d c = some (.t tI (rnumV d c), [.box (.t tyReader (rnumN d c))]) := by
  simp only [rnumOk, Bool.and_eq_true, decide_eq_true_eq] at h
  obtain ⟨_, q2, _⟩ := take_all (n := c) h.1
  simp only [r_f23, show takeOk d c = true from by simp only [takeOk, h.1, Bool.true_and, decide_eq_true_eq]; omega, br_true, rng_0 (show (takeV d c).length ≤ 100000 by omega), Int.toNat_zero, List.drop_zero]
  rfl
def sp_f23 : Ent := specP tyReader (.pr tI .nil) (fun d x => (rnumOk d x.1)) (fun d x => (.t tI (rnumV d x.1))) (fun d x => (rnumN d x.1))
theorem ms_f23 : Meets Try.prog 23 (strip sp_f23) := by
  obtain ⟨c, hc, hi⟩ := Option.map_eq_some_iff.1 ok_f23
  exact meets_specP (R := runF g_f23 tc_f23 rv_f23 false) (meets_of (by decide) Try.func23 hc hi Try.ntmps23 rok_f23 gk_f23 lk_f23 mixed) rfl fun d x hok => (e_f23 d x.1).trans (s_f23 d x.1 hok)
theorem rnum_ok {d : Reader} {c : Int} (h : rdOk d = true) (hc : 0 ≤ c ∧ c ≤ 5) : rnumOk d c = true ∧ 0 ≤ rnumV d c ∧ rdOk (rnumN d c) = true := by
  have h1 : rnumOk d c = true := by simp only [rnumOk, h, Bool.true_and, decide_eq_true_eq]; exact hc
  exact ⟨h1, by rw [rnum_nn h1]; omega, (take_all h).2.2⟩
def rnameV (d : Reader) : ByteArray := strOf (takeV (rnumN d 1) (rnumV d 1))
def rnameN (d : Reader) : Reader := takeN (rnumN d 1) (rnumV d 1)
/-- (*cipherplan/executable.reader).name -/
def tc_f24 : TC := (.sq (.reg [(oP 2 (.mv (.c (.v (.string (ByteArray.mk #[]))))))]) (.sq (.reg [(oV 3 0), (oV 4 0), (oC 5 23 [(.t 4), (cI 1)]), (oC 6 22 [(.t 3), (.t 5)]), (oC 7 2440368 [(.t 6)]), (oV 2 7)]) .rt))
def rv_f24 : List (RV × Option Ty) := [((.t 2), some .str)]
def g_f24 : G := ⟨TYs, [], 8, EL [(22, sp_f22), (23, sp_f23), (2440368, sp_op_convert_23_9)], keeps, (fun _ _ => none), IL [], RL []⟩
def r_f24 (d0 : Reader) : Option (V × List VO) :=
  br ((rnumOk d0 1))
    (br ((takeOk (rnumN d0 1) (rnumV d0 1)))
      (some (.t .str (strOf (takeV (rnumN d0 1) (rnumV d0 1))), [.box (.t tyReader (takeN (rnumN d0 1) (rnumV d0 1)))]))
      (none))
    (none)
theorem e_f24 (d0 : Reader) : runF g_f24 tc_f24 rv_f24 false [.ptr 50000 0] [.box (.t tyReader d0)] = r_f24 d0 := by kernel_rfl
theorem ok_f24 : Option.map (trC Try.prog) Try.f24.body = some tc_f24.er := by kernel_rfl
theorem rok_f24 : trVs Try.prog Try.f24.results.toList = some (rv_f24.map Prod.fst) := by kernel_rfl
theorem en_f24 : Entered Try.prog 24 := .inr ⟨by decide, _, Try.func24, by kernel_rfl, by kernel_rfl⟩
theorem gk_f24 : GOk Try.prog g_f24 := gok_of _ (by
  intro p hp
  simp only [List.mem_cons, List.not_mem_nil, or_false] at hp
  rcases hp with rfl | rfl | rfl
  · exact ⟨en_f22, ms_f22⟩
  · exact ⟨en_f23, ms_f23⟩
  · exact ⟨en_op_convert_23_9, ms_op_convert_23_9⟩)
theorem lk_f24 : tc_f24.lok g_f24 := by repeat (first | exact trivial | refine ⟨?_, ?_⟩)
theorem s_f24 (d : Reader) (h : rdOk d = true) : r_f24 d = some (.t .str (rnameV d), [.box (.t tyReader (rnameN d))]) := by
  obtain ⟨h1, h2, h3⟩ := rnum_ok (c := 1) h (by omega)
  simp only [r_f24, h1, show takeOk (rnumN d 1) (rnumV d 1) = true from by simp only [takeOk, h3, Bool.true_and, decide_eq_true_eq]; exact h2, br_true]
  rfl
def sp_f24 : Ent := specP tyReader .nil (fun d x => (rdOk d)) (fun d x => (.t .str (rnameV d))) (fun d x => (rnameN d))
theorem ms_f24 : Meets Try.prog 24 (strip sp_f24) := by
  obtain ⟨c, hc, hi⟩ := Option.map_eq_some_iff.1 ok_f24
  exact meets_specP (R := runF g_f24 tc_f24 rv_f24 false) (meets_of (by decide) Try.func24 hc hi Try.ntmps24 rok_f24 gk_f24 lk_f24 mixed) rfl fun d x hok => (e_f24 d).trans (s_f24 d hok)
theorem rname_ok {d : Reader} (h : rdOk d = true) : rdOk (rnameN d) = true := (take_all (rnum_ok h (by omega)).2.2).2.2
/-! whole executables -/
def secV (d : Reader) : Section := (rnameV d, (takeV (rnumN (rnameN d) 2) (rnumV (rnameN d) 2), ()))
def secN (d : Reader) : Reader := takeN (rnumN (rnameN d) 2) (rnumV (rnameN d) 2)
def symV (d : Reader) : Symbol := (rnameV d, (rnumV (rnameN d) 4, ()))
def symN (d : Reader) : Reader := rnumN (rnameN d) 4
def secsP : Nat → Reader → List Section × Reader
  | 0, d => ([], d)
  | n + 1, d => bif d.2.1 then ([], d) else (secV d :: (secsP n (secN d)).1, (secsP n (secN d)).2)
def symsP : Nat → Reader → List Symbol × Reader
  | 0, d => ([], d)
  | n + 1, d => bif d.2.1 then ([], d) else (symV d :: (symsP n (symN d)).1, (symsP n (symN d)).2)
theorem sec_ok {d : Reader} (h : rdOk d = true) : rdOk (secN d) = true := (take_all (rnum_ok (rname_ok h) (by omega)).2.2).2.2
theorem sym_ok {d : Reader} (h : rdOk d = true) : rdOk (symN d) = true := (rnum_ok (rname_ok h) (by omega)).2.2
theorem secs_ok : ∀ (n : Nat) {d : Reader}, rdOk d = true → rdOk (secsP n d).2 = true
  | 0, d, h => h
  | n + 1, d, h => by
    unfold secsP
    cases d.2.1 with
    | true => exact h
    | false => exact secs_ok n (sec_ok h)
theorem syms_ok : ∀ (n : Nat) {d : Reader}, rdOk d = true → rdOk (symsP n d).2 = true
  | 0, d, h => h
  | n + 1, d, h => by
    unfold symsP
    cases d.2.1 with
    | true => exact h
    | false => exact syms_ok n (sym_ok h)
theorem secs_len : ∀ (n : Nat) (d : Reader), (secsP n d).1.length ≤ n
  | 0, d => Nat.le_refl _
  | n + 1, d => by
    unfold secsP
    cases d.2.1 with
    | true => exact Nat.zero_le _
    | false => exact Nat.succ_le_succ (secs_len n _)
theorem syms_len : ∀ (n : Nat) (d : Reader), (symsP n d).1.length ≤ n
  | 0, d => Nat.le_refl _
  | n + 1, d => by
    unfold symsP
    cases d.2.1 with
    | true => exact Nat.zero_le _
    | false => exact Nat.succ_le_succ (syms_len n _)
end
end Go.Proofs.Ytdbaaejiolibfaa.K
