/-
 The walk of settings.Print.
-/
import Derived.Test.YtkkoedniahnneaaDoorA24
import Derived.Shelf.Strings.BuilderK
import Derived.Shelf.Strings.Repeat
set_option linter.unusedSimpArgs false
set_option linter.unusedVariables false
namespace Go.Proofs
open Go.Shelf
def Tryd.lays105_ren : Go.Shelf.Ren := ⟨fun | 105 => 96 | 212 => 124 | 99 => 125 | 165 => 126 | 166 => 60 | 170 => 61 | 169 => 55 | 263 => 149 | 264 => 150 | 206 => 151 | 240 => 108 | 241 => 152 | 276 => 132 | 277 => 166 | n => n, fun | 9 => 9 | 3 => 3 | 4 => 4 | 20 => 20 | 0 => 0 | 46 => 148 | 109 => 149 | 5 => 5 | 72 => 75 | 76 => 84 | 51 => 168 | 146 => 169 | 53 => 171 | 148 => 172 | 70 => 73 | 37 => 28 | 75 => 83 | 127 => 127 | 164 => 154 | 80 => 77 | n => n, fun | n => n⟩
theorem Tryd.lays105 : Go.Proofs.Lays.n105 Tryd.prog Tryd.lays105_ren := {
 mixed := by kernel_rfl
 f99 := Tryd.func125.trans (congrArg some (by kernel_rfl))
 f105 := Tryd.func96.trans (congrArg some (by kernel_rfl))
 f165 := Tryd.func126.trans (congrArg some (by kernel_rfl))
 f166 := Tryd.func60.trans (congrArg some (by kernel_rfl))
 f169 := Tryd.func55.trans (congrArg some (by kernel_rfl))
 f170 := Tryd.func61.trans (congrArg some (by kernel_rfl))
 f206 := Tryd.func151.trans (congrArg some (by kernel_rfl))
 f212 := Tryd.func124.trans (congrArg some (by kernel_rfl))
 f240 := Tryd.func108.trans (congrArg some (by kernel_rfl))
 f241 := Tryd.func152.trans (congrArg some (by kernel_rfl))
 f263 := Tryd.func149.trans (congrArg some (by kernel_rfl))
 f264 := Tryd.func150.trans (congrArg some (by kernel_rfl))
 f276 := Tryd.func132.trans (congrArg some (by kernel_rfl))
 f277 := Tryd.func166.trans (congrArg some (by kernel_rfl))
 t0 := Tryd.underlying0
 a0 := Tryd.isAgg0
 z0 := Tryd.sizeOf0
 v0 := Tryd.zeroValue0
 t3 := Tryd.underlying3
 a3 := Tryd.isAgg3
 z3 := Tryd.sizeOf3
 v3 := Tryd.zeroValue3
 t4 := Tryd.underlying4
 a4 := Tryd.isAgg4
 z4 := Tryd.sizeOf4
 v4 := Tryd.zeroValue4
 t5 := Tryd.underlying5
 a5 := Tryd.isAgg5
 z5 := Tryd.sizeOf5
 v5 := Tryd.zeroValue5
 t9 := Tryd.underlying9
 a9 := Tryd.isAgg9
 z9 := Tryd.sizeOf9
 v9 := Tryd.zeroValue9
 t20 := Tryd.underlying20
 a20 := Tryd.isAgg20
 z20 := Tryd.sizeOf20
 v20 := Tryd.zeroValue20
 t37 := Tryd.underlying28
 a37 := Tryd.isAgg28
 z37 := Tryd.sizeOf28
 v37 := Tryd.zeroValue28
 t46 := Tryd.underlying148
 a46 := Tryd.isAgg148
 z46 := Tryd.sizeOf148
 v46 := Tryd.zeroValue148
 t51 := Tryd.underlying168
 a51 := Tryd.isAgg168
 z51 := Tryd.sizeOf168
 v51 := Tryd.zeroValue168
 t53 := Tryd.underlying171
 a53 := Tryd.isAgg171
 z53 := Tryd.sizeOf171
 v53 := Tryd.zeroValue171
 t70 := Tryd.underlying73
 a70 := Tryd.isAgg73
 z70 := Tryd.sizeOf73
 v70 := Tryd.zeroValue73
 t72 := Tryd.underlying75
 a72 := Tryd.isAgg75
 z72 := Tryd.sizeOf75
 v72 := Tryd.zeroValue75
 t75 := Tryd.underlying83
 a75 := Tryd.isAgg83
 z75 := Tryd.sizeOf83
 v75 := Tryd.zeroValue83
 t76 := Tryd.underlying84
 a76 := Tryd.isAgg84
 z76 := Tryd.sizeOf84
 v76 := Tryd.zeroValue84
 t109 := Tryd.underlying149
 a109 := Tryd.isAgg149
 z109 := Tryd.sizeOf149
 v109 := Tryd.zeroValue149
 t127 := Tryd.underlying127
 a127 := Tryd.isAgg127
 z127 := Tryd.sizeOf127
 v127 := Tryd.zeroValue127
 t146 := Tryd.underlying169
 a146 := Tryd.isAgg169
 z146 := Tryd.sizeOf169
 v146 := Tryd.zeroValue169
 t148 := Tryd.underlying172
 a148 := Tryd.isAgg172
 z148 := Tryd.sizeOf172
 v148 := Tryd.zeroValue172
 t164 := Tryd.underlying154
 a164 := Tryd.isAgg154
 z164 := Tryd.sizeOf154
 v164 := Tryd.zeroValue154 }
def Tryd.lays170_ren : Go.Shelf.Ren := ⟨fun | 170 => 61 | n => n, fun | 70 => 73 | 3 => 3 | 0 => 0 | 72 => 75 | 37 => 28 | 5 => 5 | n => n, fun | n => n⟩
theorem Tryd.lays170 : Go.Proofs.Lays.n170 Tryd.prog Tryd.lays170_ren := {
 mixed := by kernel_rfl
 f170 := Tryd.func61.trans (congrArg some (by kernel_rfl))
 t0 := Tryd.underlying0
 a0 := Tryd.isAgg0
 z0 := Tryd.sizeOf0
 v0 := Tryd.zeroValue0
 t3 := Tryd.underlying3
 a3 := Tryd.isAgg3
 z3 := Tryd.sizeOf3
 v3 := Tryd.zeroValue3
 t37 := Tryd.underlying28
 a37 := Tryd.isAgg28
 z37 := Tryd.sizeOf28
 v37 := Tryd.zeroValue28
 t70 := Tryd.underlying73
 a70 := Tryd.isAgg73
 z70 := Tryd.sizeOf73
 v70 := Tryd.zeroValue73
 t72 := Tryd.underlying75
 a72 := Tryd.isAgg75
 z72 := Tryd.sizeOf75
 v72 := Tryd.zeroValue75 }
end Go.Proofs
namespace Go.Proofs.YtkkoedniahnneaaDoor.K
open Go.RowKit Go.Shelf
attribute [local go_sem ↓] Go.wp_at_zero Go.wp_at_succ
def secE : ByteArray → List Setting → ByteArray
 | s, [] => s
 | _, x :: r => secE x.1 r
theorem secE_snoc : ∀ (a : List Setting) (x : Setting) (s : ByteArray), secE s (a ++ [x]) = x.1
 | [], _, _ => rfl
 | y :: a, x, _ => secE_snoc a x y.1
theorem lnP_cons (s : ByteArray) (x : Setting) (r : List Setting) : lnP s (x :: r) = bif seq x.1 s then stL x :: lnP x.1 r else scL x :: stL x :: lnP x.1 r := rfl
theorem ordB_cons (s : ByteArray) (x : Setting) (r : List Setting) : ordB s (x :: r) = (!(seq x.1 eB && !seq s eB) && ordB x.1 r) := rfl
theorem lnP_app : ∀ (a b : List Setting) (s : ByteArray), lnP s (a ++ b) = lnP s a ++ lnP (secE s a) b
 | [], _, _ => rfl
 | x :: a, b, s => by
  rw [List.cons_append, lnP_cons, lnP_cons, lnP_app a b x.1]
  show _ = _ ++ lnP (secE x.1 a) b
  cases seq x.1 s <;> rfl
theorem ordB_app : ∀ (a b : List Setting) (s : ByteArray), ordB s (a ++ b) = (ordB s a && ordB (secE s a) b)
 | [], _, _ => by simp [ordB, secE]
 | x :: a, b, s => by
  rw [List.cons_append, ordB_cons, ordB_cons, ordB_app a b x.1, Bool.and_assoc]
  rfl
theorem prL_app (a b : List Setting) (s : ByteArray) : prL s (a ++ b) = prL s a ++ prL (secE s a) b := by
 unfold prL
 rw [lnP_app, List.map_append, List.flatten_append]
theorem prL_same {x : Setting} {s : ByteArray} (h : seq x.1 s = true) : prL s [x] = stL x ++ [10] ∧ (lnP s [x]).length = 1 := by
 unfold prL lnP
 rw [h]
 simp [lnP]
theorem prL_new {x : Setting} {s : ByteArray} (h : seq x.1 s = false) : prL s [x] = (scL x ++ [10]) ++ (stL x ++ [10]) ∧ (lnP s [x]).length = 2 := by
 unfold prL lnP
 rw [h]
 simp [lnP]
theorem cnt_flat : ∀ ls : List (List UInt8), (∀ p ∈ ls, (10 : UInt8) ∉ p) → ((ls.map (· ++ [10])).flatten).count 10 = ls.length
 | [], _ => rfl
 | p :: ls, h => by
  rw [List.map_cons, List.flatten_cons, List.count_append, List.count_append, List.count_eq_zero_of_not_mem (h p List.mem_cons_self), cnt_flat ls (fun q hq => h q (List.mem_cons_of_mem _ hq)), List.length_cons]
  simp
  omega
theorem prL_cnt {l : List Setting} (h : l.all rgtB = true) (s : ByteArray) : (prL s l).count 10 = (lnP s l).length := cnt_flat _ (lnP_no10 l s h)
def szOk (x : Setting) : Bool := decide (x.1.size ≤ 2000000000 ∧ x.2.1.size ≤ 2000000000 ∧ x.2.2.1.size ≤ 2000000000)
def prOk (l : List Setting) : Bool := decide (l.length ≤ 1000) && l.all szOk
theorem prL_len : ∀ (l : List Setting) (s : ByteArray), l.all szOk = true → (prL s l).length ≤ 7000000000 * l.length
 | [], _, _ => Nat.le_refl _
 | x :: r, s, h => by
  rw [List.all_cons] at h
  obtain ⟨h1, h2⟩ := Bool.and_eq_true_iff.1 h
  obtain ⟨z1, z2, z3⟩ := of_decide_eq_true h1
  have ih := prL_len r x.1 h2
  have e := prL_app [x] r s
  rw [List.singleton_append] at e
  rw [e, List.length_append, List.length_cons]
  have : secE s [x] = x.1 := rfl
  rw [this]
  have b1 := bl_len x.1
  have b2 := bl_len x.2.1
  have b3 := bl_len x.2.2.1
  cases hs : seq x.1 s with
  | true =>
   rw [(prL_same hs).1]
   unfold stL
   simp only [List.length_append, List.length_cons, List.length_nil]
   omega
  | false =>
   rw [(prL_new hs).1]
   unfold stL scL
   simp only [List.length_append, List.length_cons, List.length_nil]
   omega
theorem sz_rgt {x : Setting} (h : szOk x = true) : rgtOk x = true := by
 obtain ⟨z1, z2, z3⟩ := of_decide_eq_true h
 exact Bool.and_eq_true_iff.2 ⟨decide_eq_true (by omega), Bool.and_eq_true_iff.2 ⟨decide_eq_true (by omega), decide_eq_true (by omega)⟩⟩
theorem right_calls (x : Setting) (h : rgtOk x = true) (w : World) : Calls Tryd.prog 59 #[setV x] w fun e w' => e = .returned (.bool (rgtB x)) ∧ Below w.heap.size w w' := by
 have hF : strip sp_f59 [.t tySetting x] [] = some (.t .bool (rgtB x), []) := by
  unfold sp_f59
  exact strip_spec (a := .pr tySetting .nil) (x := (x, ())) (by simp [Ty.args, as_t]) h
 refine (sc_calls ms_f59 hF w (us := [setV x]) fun X => ?_).mono ?_
 ·show Cs X w nowhere [.ag [.v (.string x.1), .v (.string x.2.1), .v (.string x.2.2.1), .v (.int .i64 x.2.2.2.1)]] [setV x]
  simp only [Cs, C]
  exact ⟨_, _, rfl, ⟨_, rfl, _, _, rfl, ⟨rfl, rfl⟩, _, _, rfl, ⟨rfl, rfl⟩, _, _, rfl, ⟨rfl, rfl⟩, _, _, rfl, ⟨rfl, rfl⟩, rfl⟩, rfl⟩
 rintro en w' ⟨u, X', σ', rfl, h1, h2⟩
 have h1 : C X' w' σ' (.v (.bool (rgtB x))) u := h1
 simp only [C] at h1
 obtain ⟨rfl, _⟩ := h1
 exact ⟨rfl, h2⟩
theorem bX : Builder.Extra Tryd.prog Tryd.lays105_ren where
 sizeBuilder := by kernel_rfl
 liesBuilder := by kernel_rfl
 t5 := Tryd.lays105.t5
 a5 := Tryd.lays105.a5
 z5 := Tryd.lays105.z5
 v5 := Tryd.lays105.v5
 infoByte := by kernel_rfl
 cellsByte := by kernel_rfl
 sizeByte := by kernel_rfl
 neB5 := by decide
theorem b166 : Lays.n166 Tryd.prog Tryd.lays105_ren := { Tryd.lays105 with }
theorem b169 : Lays.n169 Tryd.prog Tryd.lays105_ren := { Tryd.lays105 with }
theorem str_ne {s : ByteArray} (h : s ≠ ByteArray.mk #[]) : s.toList.isEmpty = false := str_some (fun e => h (bl_ext (by rw [List.eq_nil_of_length_eq_zero (show (bl s).length = 0 by rw [bl_len]; exact e)])))
theorem take_snoc {α : Type} {l : List α} {k : Nat} {x : α} (h : l[k]? = some x) : l.take (k + 1) = l.take k ++ [x] := by
 rw [List.take_add_one, h]
 rfl
theorem all_take {l : List Setting} {k : Nat} {x : Setting} {p : Setting → Bool} (h : l[k]? = some x) (ha : (l.take k).all p = true) (hx : p x = true) : (l.take (k + 1)).all p = true := by
 rw [take_snoc h, List.all_append, ha, List.all_cons, hx]
 rfl
theorem prn_bad {l : List Setting} {x : Setting} (hx : x ∈ l) (h : rgtB x = false) : prnF l = (eB, 1) := by
 unfold prnF
 have : l.all rgtB = false := by
  cases ha : l.all rgtB with
  | false => rfl
  | true => rw [List.all_eq_true.1 ha x hx] at h; cases h
 rw [this]
 rfl
def Bld (w : World) (b : Nat) (l : List UInt8) : Prop := Lib.IsBuilderF 75 5 b b (Lib.byteCells l) w
theorem Bld.alloc {w : World} {b : Nat} {l : List UInt8} (h : Bld w b l) (o : Obj) : Bld (w.alloc o) b l := h.elim (fun h => .inl (h.alloc o)) (fun h => .inr (h.alloc o))
theorem Bld.lt {w : World} {b : Nat} {l : List UInt8} (h : Bld w b l) : b < w.heap.size := h.elim (fun h => h.lt) (fun h => h.lt)
theorem Bld.new (w : World) : Bld (w.alloc (.cells #[.pointer none, .slice none 0 0] 75)) w.heap.size [] :=
 .inl ⟨Nat.le_refl _, .slice none 0 0, Go.Proofs.YtkkoedniahnneaaDoor.Blk.new w _ _, ⟨rfl, .inl ⟨rfl, rfl⟩⟩, by simp [Value.ownBlock]⟩
theorem write_calls (b : Nat) (l : List UInt8) (s : ByteArray) (w : World) (h : Bld w b l) (hlen : l.length + s.size ≤ 140737488355328) :
  Calls Tryd.prog 60 #[.pointer (some ⟨b, 0, none⟩), .string s] w fun e w' => e = .returned (.tuple #[.int .i64 s.size, .nilIface]) ∧ Bld w' b (l ++ bl s) ∧ Below b w w' ∧ Lib.OthersKept 5 (some b) w w' := by
 refine (Any.Builder_WriteString_k b166 bX b b (Lib.byteCells l) s w h (by rw [Lib.byteCells_length]; exact hlen) (Nat.le_of_lt h.lt)).mono ?_
 rintro e w' ⟨rfl, h1, h2, h3⟩
 refine ⟨rfl, .inr ?_, h2, h3⟩
 rw [Lib.byteCells_append]
 exact h1
theorem len_calls (b : Nat) (l : List UInt8) (w : World) (h : Bld w b l) : Calls Tryd.prog 61 #[.pointer (some ⟨b, 0, none⟩)] w fun e w' => e = .returned (.int .i64 l.length) ∧ w' = w := by
 have := Any.Builder_Len_f Tryd.lays170 b b (Lib.byteCells l) w h
 rw [Lib.byteCells_length] at this
 exact this
theorem str_calls (b : Nat) (l : List UInt8) (w : World) (h : Bld w b l) : Calls Tryd.prog 55 #[.pointer (some ⟨b, 0, none⟩)] w fun e w' => e = .returned (.string (mkB l)) ∧ Below b w w' := by
 refine (Any.Builder_String_any_k b169 bX b b l w h (Nat.le_of_lt h.lt)).mono ?_
 rintro e w' ⟨rfl, h1, h2, h3⟩
 exact ⟨rfl, h2⟩
theorem kept_blk {w w' : World} {b B : Nat} {a : Array Value} {T : TypeId} (h : Lib.OthersKept 5 (some b) w w') (hb : Go.Proofs.YtkkoedniahnneaaDoor.Blk w B T a) (hne : B ≠ b) (hT : T ≠ 5) : Go.Proofs.YtkkoedniahnneaaDoor.Blk w' B T a :=
 h B _ hb (fun e => hne (Option.some.inj e)) (fun c fz e => by injection e with _ e2 _; exact hT e2)
theorem lnP_len : ∀ (l : List Setting) (s : ByteArray), (lnP s l).length ≤ 2 * l.length
 | [], _ => Nat.le_refl _
 | x :: r, s => by
  have ih := lnP_len r x.1
  rw [lnP_cons]
  cases seq x.1 s with
  | true => rw [cond_true, List.length_cons, List.length_cons]; omega
  | false => rw [cond_false, List.length_cons, List.length_cons, List.length_cons]; omega
theorem pr_same {l : List Setting} {k : Nat} {x : Setting} (h : l[k]? = some x) (hq : seq x.1 (secE eB (l.take k)) = true) : secE eB (l.take (k + 1)) = secE eB (l.take k) ∧ (lnP eB (l.take (k + 1))).length = (lnP eB (l.take k)).length + 1 ∧ ordB eB (l.take (k + 1)) = ordB eB (l.take k) ∧ prL eB (l.take (k + 1)) = prL eB (l.take k) ++ (stL x ++ [10]) := by
 obtain ⟨h1, h2⟩ := prL_same hq
 rw [take_snoc h, secE_snoc, lnP_app, ordB_app, prL_app, h1, List.length_append, h2]
 refine ⟨seq_iff'.1 hq, rfl, ?_, rfl⟩
 have : ordB (secE eB (l.take k)) [x] = true := by
  rw [ordB_cons, ← seq_iff'.1 hq]
  cases seq x.1 eB <;> rfl
 rw [this, Bool.and_true]
theorem pr_new {l : List Setting} {k : Nat} {x : Setting} (h : l[k]? = some x) (hq : seq x.1 (secE eB (l.take k)) = false) (hx : x.1 ≠ eB) : secE eB (l.take (k + 1)) = x.1 ∧ (lnP eB (l.take (k + 1))).length = (lnP eB (l.take k)).length + 2 ∧ ordB eB (l.take (k + 1)) = ordB eB (l.take k) ∧ prL eB (l.take (k + 1)) = prL eB (l.take k) ++ ((scL x ++ [10]) ++ (stL x ++ [10])) := by
 obtain ⟨h1, h2⟩ := prL_new hq
 rw [take_snoc h, secE_snoc, lnP_app, ordB_app, prL_app, h1, List.length_append, h2]
 refine ⟨rfl, rfl, ?_, rfl⟩
 have : ordB (secE eB (l.take k)) [x] = true := by
  rw [ordB_cons, seq_no hx]
  rfl
 rw [this, Bool.and_true]
theorem prn_order {l : List Setting} {k : Nat} {x : Setting} (h : l[k]? = some x) (hq : seq x.1 (secE eB (l.take k)) = false) (hx : x.1 = eB) (ha : l.all rgtB = true) : prnF l = (eB, 6) := by
 have hl : l = l.take (k + 1) ++ l.drop (k + 1) := (List.take_append_drop _ _).symm
 have : ordB eB l = false := by
  rw [hl, take_snoc h, ordB_app, ordB_app, ordB_cons, hx, seq_eB]
  have h2 : seq (secE eB (l.take k)) eB = false := seq_no (fun e => by rw [e, hx, seq_eB] at hq; cases hq)
  rw [h2]
  simp
 unfold prnF
 rw [ha, this]
 rfl
theorem prn_fin {l : List Setting} (ha : l.all rgtB = true) (ho : ordB eB l = true) : prnF l = bif decide ((prL eB l).length ≤ 8192) && decide ((lnP eB l).length ≤ 200) then (mkB (prL eB l), 0) else (eB, 3) := by
 unfold prnF
 rw [ha, ho, prL_cnt ha]
 rfl
set_option maxRecDepth 100000 in
set_option maxHeartbeats 4000000 in
theorem print_any (A : Option Addr) (c : Nat) (l : List Setting) (w : World) (h : SetAt w (.slice A l.length c) l) (hok : prOk l = true) :
  Calls Tryd.prog 26 #[.slice A l.length c] w fun e w' => e = .returned (.tuple #[.string (prnF l).1, .int .i64 (prnF l).2]) ∧ Below w.heap.size w w' := by
 obtain ⟨hn, hsz⟩ := Bool.and_eq_true_iff.1 hok
 have hn : l.length ≤ 1000 := of_decide_eq_true hn
 have H := Lib.hid h
 have HSZ := Lib.hid hsz
 clear h hok hsz
 go_enter Tryd.func26, Tryd.ntmps26
 go_wp2_with fail
 go_loopw [5, 13] (fun _ iv wr => ∃ k : Nat, k ≤ l.length ∧ iv = .int .i64 k ∧ (l.take k).all rgtB = true ∧ Below w.heap.size w wr) (fun _ iv _ => l.length - (intOf iv).toNat)
 case atStart => exact ⟨0, Nat.zero_le _, rfl, rfl, Below.refl _ _⟩
 case round =>
  obtain ⟨k, hk, rfl, hall, hb⟩ := hrel
  have HALL := Lib.hid hall
  have HB := Lib.hid hb
  by_cases hlt : k < l.length
  ·obtain ⟨x, hx⟩ : ∃ x, l[k]? = some x := ⟨_, List.getElem?_eq_getElem hlt⟩
   have HX := Lib.hid hx
   obtain ⟨g, off, rfl, hg, c0, c1, c2, c3⟩ := sl_set (SetAt.ext H.out HB.out) hx
   have HRG := Lib.hid (sz_rgt (List.all_eq_true.1 HSZ.out _ (List.mem_of_getElem? hx)))
   obtain ⟨x1, x2, x3, x4, u⟩ := x
   have hlt2 : ((k : Nat) : Int) < ((l.length : Nat) : Int) := by omega
   clear hx hall hb
   cases hr : rgtB (x1, x2, x3, x4, u) with
   | false =>
    have HR := Lib.hid hr
    clear hr
    go_wp2_with (go_at_call 59; refine (right_calls (x1, x2, x3, x4, u) HRG.out _).mono ?_; rw [HR.out]; rintro e w1 ⟨rfl, hb1⟩; have HB1 := Lib.hid hb1; clear hb1)
    go_ret2
    rw [prn_bad (List.mem_of_getElem? HX.out) HR.out]
    exact ⟨rfl, (HB.out.alloc HB.out.size _).trans (HB1.out.mono (by have := HB.out.size; simp; omega))⟩
   | true =>
    have HR := Lib.hid hr
    clear hr
    go_wp2_with (go_at_call 59; refine (right_calls (x1, x2, x3, x4, u) HRG.out _).mono ?_; rw [HR.out]; rintro e w1 ⟨rfl, hb1⟩; have HB1 := Lib.hid hb1; clear hb1)
    refine ⟨⟨k + 1, by omega, by simp, all_take HX.out HALL.out HR.out, (HB.out.alloc HB.out.size _).trans (HB1.out.mono (by have := HB.out.size; simp; omega))⟩, by simp [intOf]; omega⟩
  ·obtain rfl : k = l.length := by omega
   rw [List.take_length] at hall
   have hnl : ¬ ((l.length : Nat) : Int) < ((l.length : Nat) : Int) := by omega
   clear hall hb
   go_wp2_with fail
   obtain ⟨b, hb⟩ : ∃ b, b = wr.heap.size := ⟨_, rfl⟩
   obtain ⟨wx, hwx⟩ : ∃ wx, wx = wr.alloc (.cells #[.pointer none, .slice none 0 0] 75) := ⟨_, rfl⟩
   have hbn : Bld wx b [] := by rw [hwx, hb]; exact Bld.new wr
   have hbb : Below b wr wx := by rw [hwx, hb]; exact (Below.refl _ _).alloc (Nat.le_refl _) _
   have hwb : w.heap.size ≤ b := by rw [hb]; exact HB.out.size
   rw [← hwx, ← hb]
   have HBN := Lib.hid hbn
   have HBB := Lib.hid hbb
   have HWB := Lib.hid hwb
   clear hwx hb hbn hbb hwb
   go_loopw [7, 8, 10, 23] (fun sv nv _ iv wy => ∃ k : Nat, k ≤ l.length ∧ iv = .int .i64 k ∧ sv = .string (secE eB (l.take k)) ∧ nv = .int .i64 (((lnP eB (l.take k)).length : Nat) : Int) ∧ ordB eB (l.take k) = true ∧ Bld wy b (prL eB (l.take k)) ∧ Below b wr wy) (fun _ _ _ iv _ => l.length - (intOf iv).toNat)
   case atStart => exact ⟨0, Nat.zero_le _, rfl, rfl, rfl, rfl, HBN.out, HBB.out⟩
   case round =>
    obtain ⟨k, hk, rfl, rfl, rfl, ho, hbd, hbw⟩ := hrel
    have HO := Lib.hid ho
    have HBD := Lib.hid hbd
    have HBW := Lib.hid hbw
    have HWW := Lib.hid (HB.out.trans (hbw.mono HWB.out))
    clear ho hbd hbw
    by_cases hlt : k < l.length
    ·obtain ⟨x, hx⟩ : ∃ x, l[k]? = some x := ⟨_, List.getElem?_eq_getElem hlt⟩
     have HX := Lib.hid hx
     obtain ⟨g, off, rfl, hg, c0, c1, c2, c3⟩ := sl_set (SetAt.ext H.out HWW.out) hx
     have hz := of_decide_eq_true (List.all_eq_true.1 HSZ.out _ (List.mem_of_getElem? hx))
     have hpl := prL_len (l.take k) eB (List.all_eq_true.2 fun y hy => List.all_eq_true.1 HSZ.out y (List.mem_of_mem_take hy))
     have hnb := lnP_len (l.take k) eB
     rw [List.length_take] at hpl hnb
     have hlt2 : ((k : Nat) : Int) < ((l.length : Nat) : Int) := by omega
     obtain ⟨sec, hsec⟩ : ∃ sec, sec = secE eB (l.take k) := ⟨_, rfl⟩
     obtain ⟨n, hnn⟩ : ∃ n, n = (lnP eB (l.take k)).length := ⟨_, rfl⟩
     obtain ⟨L, hL⟩ : ∃ L, L = prL eB (l.take k) := ⟨_, rfl⟩
     have PS := Lib.hid (fun h => pr_same hx h)
     have PN := Lib.hid (fun h h2 => pr_new hx h h2)
     have PO := Lib.hid (fun h h2 => prn_order hx h h2 (by have := HALL.out; rwa [List.take_length] at this))
     rw [← hsec, ← hnn, ← hL] at PS PN
     rw [← hsec] at PO
     have HBL := HBD
     rw [← hL] at HBL
     rw [← hsec, ← hnn]
     rw [← hL] at hpl
     rw [← hnn] at hnb
     have hLL : L.length ≤ 7000000000000 := by omega
     have hnb2 : n ≤ 200000 := by omega
     clear hpl hnb hsec hnn hL hx
     obtain ⟨x1, x2, x3, x4, u⟩ := x
     obtain ⟨z1, z2, z3⟩ := hz
     simp only [] at z1 z2 z3 c0 c1 c2 c3
     obtain ⟨y1, e1⟩ : ∃ y, y = ByteArray.mk #[91] ++ x1 := ⟨_, rfl⟩
     obtain ⟨y2, e2⟩ : ∃ y, y = y1 ++ ByteArray.mk #[93, 10] := ⟨_, rfl⟩
     obtain ⟨y3, e3⟩ : ∃ y, y = x2 ++ ByteArray.mk #[32, 61, 32] := ⟨_, rfl⟩
     obtain ⟨y4, e4⟩ : ∃ y, y = y3 ++ x3 := ⟨_, rfl⟩
     obtain ⟨y5, e5⟩ : ∃ y, y = y4 ++ ByteArray.mk #[10] := ⟨_, rfl⟩
     have s1 : y1.size = x1.size + 1 := by rw [e1, ByteArray.size_append]; have : (ByteArray.mk #[91]).size = 1 := rfl; omega
     have s2 : y2.size = x1.size + 3 := by rw [e2, ByteArray.size_append, s1]; have : (ByteArray.mk #[93, 10]).size = 2 := rfl; omega
     have s3 : y3.size = x2.size + 3 := by rw [e3, ByteArray.size_append]; have : (ByteArray.mk #[32, 61, 32]).size = 3 := rfl; omega
     have s4 : y4.size = x2.size + 3 + x3.size := by rw [e4, ByteArray.size_append, s3]
     have s5 : y5.size = x2.size + x3.size + 4 := by rw [e5, ByteArray.size_append, s4]; have : (ByteArray.mk #[10]).size = 1 := rfl; omega
     have q1 : ∀ wz : World, (Op.stringOp .add (ByteArray.mk #[91]) x1).run Tryd.prog wz = .ok (.string y1) wz := fun wz => by rw [e1]; exact run_string_add_sum (P := Tryd.prog) wz _ _ (by rw [← ByteArray.size_append, ← e1]; omega)
     have q2 : ∀ wz : World, (Op.stringOp .add y1 (ByteArray.mk #[93, 10])).run Tryd.prog wz = .ok (.string y2) wz := fun wz => by rw [e2]; exact run_string_add_sum (P := Tryd.prog) wz _ _ (by rw [← ByteArray.size_append, ← e2]; omega)
     have q3 : ∀ wz : World, (Op.stringOp .add x2 (ByteArray.mk #[32, 61, 32])).run Tryd.prog wz = .ok (.string y3) wz := fun wz => by rw [e3]; exact run_string_add_sum (P := Tryd.prog) wz _ _ (by rw [← ByteArray.size_append, ← e3]; omega)
     have q4 : ∀ wz : World, (Op.stringOp .add y3 x3).run Tryd.prog wz = .ok (.string y4) wz := fun wz => by rw [e4]; exact run_string_add_sum (P := Tryd.prog) wz _ _ (by rw [← ByteArray.size_append, ← e4]; omega)
     have q5 : ∀ wz : World, (Op.stringOp .add y4 (ByteArray.mk #[10])).run Tryd.prog wz = .ok (.string y5) wz := fun wz => by rw [e5]; exact run_string_add_sum (P := Tryd.prog) wz _ _ (by rw [← ByteArray.size_append, ← e5]; omega)
     have T1 := Lib.hid (show bl y2 = scL (x1, x2, x3, x4, u) ++ [10] by rw [e2, e1]; unfold scL; simp [bl_app])
     have T2 := Lib.hid (show bl y5 = stL (x1, x2, x3, x4, u) ++ [10] by rw [e5, e4, e3]; unfold stL; simp [bl_app])
     have S1 := Lib.hid s2
     have S2 := Lib.hid s5
     clear e1 e2 e3 e4 e5 s1 s2 s3 s4 s5
     have hn1 : (n : Int) + 1 ≤ 9223372036854775807 := by omega
     have hn2 : -9223372036854775808 ≤ (n : Int) + 1 := by omega
     have hn3 : (n : Int) + 1 + 1 ≤ 9223372036854775807 := by omega
     have hn4 : -9223372036854775808 ≤ (n : Int) + 1 + 1 := by omega
     cases hq : seq x1 sec with
     | true =>
      have heq := seq_iff'.1 hq
      subst heq
      have HQ := Lib.hid hq
      clear hq q1 q2
      go_wp2_with (go_at_call 60; refine (write_calls b L y5 _ (HBL.out.alloc _) (by rw [S2.out]; omega)).mono ?_; rintro e w1 ⟨rfl, hb1, hl1, hk1⟩; have HB1 := Lib.hid hb1; have HL1 := Lib.hid hl1; clear hb1 hl1 hk1)
      obtain ⟨p1, p2, p3, p4⟩ := PS.out HQ.out
      rw [T2.out, ← p4] at HB1
      refine ⟨⟨k + 1, by omega, by simp, by rw [p1], by rw [p2]; simp, by rw [p3]; exact HO.out, HB1.out, (HBW.out.alloc (Nat.le_of_lt HBL.out.lt) _).trans (HL1.out)⟩, by simp [intOf]; omega⟩
     | false =>
      have hne : ¬ x1 = sec := fun e => by rw [e, show seq sec sec = true from seq_iff'.2 rfl] at hq; cases hq
      have HQ := Lib.hid hq
      clear hq
      by_cases hx0 : x1 = ByteArray.mk #[]
      ·subst hx0
       have hs1 : sec.toList.isEmpty = false := str_ne (fun e => hne e.symm)
       clear q1 q2 q3 q4 q5 z1 z2 z3 hn1 hn2 hn3 hn4 hLL hnb2
       go_wp2_with fail
       go_ret2
       rw [PO.out HQ.out (by trivial)]
       exact ⟨rfl, HB.out.trans ((HBW.out.alloc (Nat.le_of_lt HBL.out.lt) _).mono HWB.out)⟩
      ·have HX0 := Lib.hid hx0
       have hne2 : (x1.toList == sec.toList) = false := HQ.out
       have hx1 := str_ne hx0
       clear hx0
       have Z := Lib.hid (And.intro z1 (And.intro z2 z3))
       have HLL := Lib.hid hLL
       have HNB := Lib.hid hnb2
       clear z1 z2 z3 hLL hnb2
       have hB2 := Go.Proofs.YtkkoedniahnneaaDoor.Blk.new wr 45 #[.string x1, .string x2, .string x3, .int .i64 x4]
       have HB2 := Lib.hid hB2
       clear hB2
       have hsz1 : L.length + y2.size ≤ 140737488355328 := by have := HLL.out; have := Z.out; rw [S1.out]; omega
       have hsz2 : (L ++ bl y2).length + y5.size ≤ 140737488355328 := by have := HLL.out; have := Z.out; rw [S2.out, List.length_append, bl_len, S1.out]; omega
       have HS1 := Lib.hid hsz1
       have HS2 := Lib.hid hsz2
       have HW1 := Lib.hid (write_calls b L y2 (wr.alloc (.cells #[.string x1, .string x2, .string x3, .int .i64 x4] 45)) (HBL.out.alloc _) hsz1)
       clear hsz1 hsz2
       go_wp2_with fail
       refine HW1.out.mono ?_
       rintro e w1 ⟨rfl, hb1, hl1, hk1⟩
       have kb := kept_blk hk1 HB2.out (Nat.ne_of_gt HBL.out.lt) (by decide)
       have g1 := kb.cell 1
       have g2 := kb.cell 2
       simp only [List.getElem?_toArray, List.getElem?_cons_zero, List.getElem?_cons_succ] at g1 g2
       have HB1 := Lib.hid hb1
       have HL1 := Lib.hid hl1
       have HW2 := Lib.hid (write_calls b (L ++ bl y2) y5 w1 hb1 HS2.out)
       clear hb1 hl1 hk1 kb
       go_wp2_with fail
       refine HW2.out.mono ?_
       rintro e w2 ⟨rfl, hb2, hl2, hk2⟩
       have HB3 := Lib.hid hb2
       have HL3 := Lib.hid hl2
       clear hb2 hl2 hk2
       go_wp2_with fail
       obtain ⟨p1, p2, p3, p4⟩ := PN.out HQ.out HX0.out
       rw [T2.out, T1.out, List.append_assoc, ← p4] at HB3
       refine ⟨⟨k + 1, by omega, by simp, by rw [p1], by rw [p2]; simp; omega, by rw [p3]; exact HO.out, HB3.out, ((HBW.out.alloc (Nat.le_of_lt HBL.out.lt) _).trans HL1.out).trans HL3.out⟩, by simp [intOf]; omega⟩
    ·obtain rfl : k = l.length := by omega
     have hfin := prn_fin (l := l) (by have := HALL.out; rwa [List.take_length] at this) (by have := HO.out; rwa [List.take_length] at this)
     have hpl := prL_len l eB HSZ.out
     have hnb := lnP_len l eB
     have HBD2 := HBD.out
     rw [List.take_length] at HBD2 ⊢
     have HBL := Lib.hid HBD2
     have HF := Lib.hid hfin
     clear HBD2 hfin
     obtain ⟨n, hnn⟩ : ∃ n, n = (lnP eB l).length := ⟨_, rfl⟩
     obtain ⟨L, hL⟩ : ∃ L, L = prL eB l := ⟨_, rfl⟩
     rw [← hnn, ← hL] at HF
     rw [← hL] at HBL hpl
     rw [← hnn] at hnb ⊢
     obtain ⟨m, hm⟩ : ∃ m, m = L.length := ⟨_, rfl⟩
     have HM := Lib.hid hm
     clear hnn hL
     by_cases h1 : m ≤ 8192
     ·by_cases h2 : n ≤ 200
      ·have i1 : ¬ ((m : Nat) : Int) > 8192 := by omega
       have i2 : ¬ ((n : Nat) : Int) > 200 := by omega
       have HR := Lib.hid (show prnF l = (mkB L, 0) by rw [HF.out, ← HM.out, decide_eq_true h1, decide_eq_true h2]; rfl)
       clear hm hpl hnb h1 h2
       go_wp2_with (first
        |(go_at_call 61; refine (len_calls b L _ HBL.out).mono ?_; rw [← HM.out]; rintro e w1 ⟨rfl, hw⟩; obtain rfl := hw.symm)
        |(go_at_call 55; refine (str_calls b L _ HBL.out).mono ?_; rintro e w1 ⟨rfl, hb1⟩; have HB1 := Lib.hid hb1; clear hb1))
       go_ret2
       rw [HR.out]
       exact ⟨rfl, HWW.out.trans (HB1.out.mono HWB.out)⟩
      ·have i1 : ¬ ((m : Nat) : Int) > 8192 := by omega
       have i2 : ((n : Nat) : Int) > 200 := by omega
       have HR := Lib.hid (show prnF l = (eB, 3) by rw [HF.out, ← HM.out, decide_eq_true h1, decide_eq_false h2]; rfl)
       clear hm hpl hnb h1 h2
       go_wp2_with (go_at_call 61; refine (len_calls b L _ HBL.out).mono ?_; rw [← HM.out]; rintro e w1 ⟨rfl, hw⟩; obtain rfl := hw.symm)
       go_ret2
       rw [HR.out]
       exact ⟨rfl, HWW.out⟩
     ·have i1 : ((m : Nat) : Int) > 8192 := by omega
      have HR := Lib.hid (show prnF l = (eB, 3) by rw [HF.out, ← HM.out, decide_eq_false h1]; rfl)
      clear hm hpl hnb h1
      go_wp2_with (go_at_call 61; refine (len_calls b L _ HBL.out).mono ?_; rw [← HM.out]; rintro e w1 ⟨rfl, hw⟩; obtain rfl := hw.symm)
      go_ret2
      rw [HR.out]
      exact ⟨rfl, HWW.out⟩
end Go.Proofs.YtkkoedniahnneaaDoor.K
