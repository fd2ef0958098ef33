/-
 strings.Cut; TrimRight at any world.
-/
import Derived.Test.YtkkoedniahnneaaDoorA7
set_option linter.unusedSimpArgs false
set_option linter.unusedVariables false
namespace Go.Proofs.YtkkoedniahnneaaDoor.K
open Go.RowKit Go.Shelf
noncomputable section
def idxO (s p : ByteArray) : Int := Lib.indexByte s.data.toList (p.data.toList.headD 0)
def idxOOk (_s p : ByteArray) : Bool := decide (p.size = 1)
def sp_f128 : Ent := spec (.pr .str (.pr .str .nil)) (fun x => (idxOOk x.1 x.2.1)) (fun x => (.t tI (idxO x.1 x.2.1)))
theorem en_f128 : Entered Tryd.prog 128 := .inr ⟨by decide, _, Tryd.func128, by kernel_rfl, by kernel_rfl⟩
theorem ms_f128 : Meets Tryd.prog 128 (strip sp_f128) := meets_calls fun x hok X w σ vs hfin hc => by
 obtain ⟨s, ⟨d⟩, u⟩ := x
 have hok : d.size = 1 := of_decide_eq_true hok
 obtain ⟨c, rfl⟩ : ∃ c, d = #[c] := by
  match d, hok with
  | ⟨[c]⟩, _ => exact ⟨c, rfl⟩
 simp only [Ty.canon, V.ds, V.d, Ty.d, Cs, C] at hc
 obtain ⟨v1, r1, rfl, ⟨rfl, _⟩, v2, r2, rfl, ⟨rfl, _⟩, rfl⟩ := hc
 refine (Any.stringslite_Index_one { Tryd.lays146 with } s c w).mono ?_
 rintro e w' ⟨rfl, rfl⟩
 refine ⟨_, rfl, ?_, Below.refl _ _⟩
 simp only [V.d, Ty.d, C]
 exact ⟨rfl, rfl⟩
theorem indexB_lt : ∀ (l : List UInt8) (c : UInt8), Lib.indexByte l c < (l.length : Int) ∨ Lib.indexByte l c = -1
 | [], _ => .inr rfl
 | b :: l, c => by
  unfold Lib.indexByte
  split
  ·exact .inl (by simp only [List.length_cons]; omega)
  ·split
   ·exact .inr rfl
   ·rename_i h
    have := indexB_lt l c
    rcases this with h1 | h1
    ·exact .inl (by simp only [List.length_cons]; omega)
    ·exact absurd (by rw [h1]; rfl) h
def cutO (s p : ByteArray) : ByteArray × (ByteArray × Bool) := bif ige (idxO s p) 0 then (ssl s 0 (idxO s p), (ssl s (iadd .i64 (idxO s p) (slen p)) ((ByteArray.size s : Nat) : Int), true)) else (s, (ByteArray.mk #[], false))
def cutOOk (s p : ByteArray) : Bool := decide (p.size = 1 ∧ s.size ≤ 4611686018427387904)
def dr_f134_0 : List DO := [(.mk (oV 13 0) []), (.mk (oV 14 7) []), (.mk (oP 15 (.sls (.t 13) none (some (.t 14)))) [0, 1]), (.mk (oV 16 0) []), (.mk (oV 17 7) []), (.mk (oV 18 1) []), (.mk (oP 19 (.len true (.t 18))) [5]), (.mk (oP 20 (.bin false .add (.t 17) (.t 19))) [4, 6]), (.mk (oP 21 (.sls (.t 16) (some (.t 20)) none)) [3, 7]), (.mk (oV 4 15) [2, 0, 1, 2]), (.mk (oV 5 21) [8, 9, 0, 1, 2, 3, 4, 5, 6, 7, 8, 9]), (.mk (oP 6 (.mv (cB true))) [10, 0, 1, 2, 3, 4, 5, 6, 7, 8, 9, 10])]
def tc_f134 : TC := (.sq (.reg [(oP 4 (.mv (.c (.v (.string (ByteArray.mk #[])))))), (oP 5 (.mv (.c (.v (.string (ByteArray.mk #[])))))), (oP 6 (.mv (cB false)))]) (.sq (.sq (.reg [(oV 8 0), (oV 9 1), (oC 10 128 [(.t 8), (.t 9)]), (oV 7 10)]) (.sq (.reg [(oV 11 7), (oP 12 (.bin false .geq (.t 11) (cI 0)))]) (.cd (.t 12) (.sq (.dr dr_f134_0 [(0, []), (1, []), (2, []), (3, []), (4, []), (5, []), (6, []), (7, []), (8, []), (9, []), (10, []), (11, [])] (.of [0, 1, 2, 3, 4, 5, 6, 7, 8, 9, 10, 11])) .rt) .sk))) (.sq (.reg [(oV 22 0), (oV 4 22), (oP 5 (.mv (.c (.v (.string (ByteArray.mk #[])))))), (oP 6 (.mv (cB false)))]) .rt)))
def rv_f134 : List (RV × Option Ty) := [((.t 4), some .str), ((.t 5), some .str), ((.t 6), some .bool)]
def g_f134 : G := ⟨TYs, [], 23, EL [(128, sp_f128)], keeps, (fun _ _ => none), IL [], RL []⟩
def r_f134 (p0 : ByteArray) (p1 : ByteArray) : Option (V × List VO) :=
 br ((idxOOk p0 p1))
  (br ((ige (idxO p0 p1) 0))
   (br (cSs p0 0 (idxO p0 p1))
    (br (cSs p0 (iadd .i64 (idxO p0 p1) (slen p1)) ((ByteArray.size p0 : Nat) : Int))
     (some (.tu [(.t .str (ssl p0 0 (idxO p0 p1))), (.t .str (ssl p0 (iadd .i64 (idxO p0 p1) (slen p1)) ((ByteArray.size p0 : Nat) : Int))), (.t .bool true)], []))
     (none))
    (none))
   (some (.tu [(.t .str p0), (.t .str (ByteArray.mk #[])), (.t .bool false)], [])))
  (none)
theorem e_f134 (p0 : ByteArray) (p1 : ByteArray) : runF g_f134 tc_f134 rv_f134 false [.t .str p0, .t .str p1] [] = r_f134 p0 p1 := by kernel_rfl
theorem ok_f134 : Option.map (trC Tryd.prog) Tryd.f134.body = some tc_f134.er := by kernel_rfl
theorem rok_f134 : trVs Tryd.prog Tryd.f134.results.toList = some (rv_f134.map Prod.fst) := by kernel_rfl
theorem en_f134 : Entered Tryd.prog 134 := .inr ⟨by decide, _, Tryd.func134, by kernel_rfl, by kernel_rfl⟩
theorem gk_f134 : GOk Tryd.prog g_f134 := gok_of _ (by
 intro p hp
 simp only [List.mem_cons, List.not_mem_nil, or_false] at hp
 rcases hp with rfl
 ·exact ⟨en_f128, ms_f128⟩)
theorem lk_f134 : tc_f134.lok g_f134 := by repeat (first | exact trivial | refine ⟨?_, ?_⟩)
theorem s_f134 (s p : ByteArray) (h : cutOOk s p = true) : r_f134 s p = some (.tu [.t .str (cutO s p).1, .t .str (cutO s p).2.1, .t .bool (cutO s p).2.2], []) := by
 simp only [cutOOk, decide_eq_true_eq] at h
 simp only [r_f134, idxOOk, h.1, decide_true, br_true, cutO]
 cases hg : ige (idxO s p) 0 with
 | false => rfl
 | true =>
  have h0 : 0 ≤ idxO s p := by simpa [ige] using hg
  have h1 : idxO s p < s.size := by
   rcases indexB_lt s.data.toList (p.data.toList.headD 0) with h1 | h1
   ·exact h1
   ·rw [show idxO s p = -1 from h1] at h0; omega
  have e1 : iadd .i64 (idxO s p) (slen p) = idxO s p + 1 := by
   rw [show slen p = 1 from by simp [slen, h.1], iadd_in (by omega)]
  have c1 : cSs s 0 (idxO s p) = true := decide_eq_true (by omega)
  have c2 : cSs s (iadd .i64 (idxO s p) (slen p)) ((ByteArray.size s : Nat) : Int) = true := decide_eq_true (by rw [e1]; omega)
  rw [br_true, c1, c2, br_true, br_true]
  rfl
def sp_f134 : Ent := spec (.pr .str (.pr .str .nil)) (fun x => (cutOOk x.1 x.2.1)) (fun x => (.tu [(.t .str ((cutO x.1 x.2.1).1)), (.t .str (((cutO x.1 x.2.1).2).1)), (.t .bool (((cutO x.1 x.2.1).2).2))]))
theorem ms_f134 : Meets Tryd.prog 134 (strip sp_f134) := by
 obtain ⟨c, hc, hi⟩ := Option.map_eq_some_iff.1 ok_f134
 exact meets_spec (R := runF g_f134 tc_f134 rv_f134 false) (meets_of (by decide) Tryd.func134 hc hi Tryd.ntmps134 rok_f134 gk_f134 lk_f134 mixed) fun x hok => (e_f134 x.1 x.2.1).trans (s_f134 x.1 x.2.1 hok)
def tc_f111 : TC := (.sq (.reg [(oP 4 (.mv (.c (.v (.string (ByteArray.mk #[])))))), (oP 5 (.mv (.c (.v (.string (ByteArray.mk #[])))))), (oP 6 (.mv (cB false)))]) (.sq (.reg [(oV 7 0), (oV 8 1), (oC 9 134 [(.t 7), (.t 8)]), (oP 10 (.ext 0 (.t 9))), (oP 11 (.ext 1 (.t 9))), (oP 12 (.ext 2 (.t 9))), (oV 4 10), (oV 5 11), (oV 6 12)]) .rt))
def rv_f111 : List (RV × Option Ty) := [((.t 4), some .str), ((.t 5), some .str), ((.t 6), some .bool)]
def g_f111 : G := ⟨TYs, [], 13, EL [(134, sp_f134)], keeps, (fun _ _ => none), IL [], RL []⟩
def r_f111 (p0 : ByteArray) (p1 : ByteArray) : Option (V × List VO) :=
 br ((cutOOk p0 p1))
  (some (.tu [(.t .str ((cutO p0 p1).1)), (.t .str (((cutO p0 p1).2).1)), (.t .bool (((cutO p0 p1).2).2))], []))
  (none)
theorem e_f111 (p0 : ByteArray) (p1 : ByteArray) : runF g_f111 tc_f111 rv_f111 false [.t .str p0, .t .str p1] [] = r_f111 p0 p1 := by kernel_rfl
theorem ok_f111 : Option.map (trC Tryd.prog) Tryd.f111.body = some tc_f111.er := by kernel_rfl
theorem rok_f111 : trVs Tryd.prog Tryd.f111.results.toList = some (rv_f111.map Prod.fst) := by kernel_rfl
theorem gk_f111 : GOk Tryd.prog g_f111 := gok_of _ (by
 intro p hp
 simp only [List.mem_cons, List.not_mem_nil, or_false] at hp
 rcases hp with rfl
 ·exact ⟨en_f134, ms_f134⟩)
theorem lk_f111 : tc_f111.lok g_f111 := by repeat (first | exact trivial | refine ⟨?_, ?_⟩)
theorem s_f111 (s p : ByteArray) (h : cutOOk s p = true) : r_f111 s p = some (.tu [.t .str (cutO s p).1, .t .str (cutO s p).2.1, .t .bool (cutO s p).2.2], []) := by
 simp only [r_f111, h, br_true]
def sp_f111 : Ent := spec (.pr .str (.pr .str .nil)) (fun x => (cutOOk x.1 x.2.1)) (fun x => (.tu [(.t .str ((cutO x.1 x.2.1).1)), (.t .str (((cutO x.1 x.2.1).2).1)), (.t .bool (((cutO x.1 x.2.1).2).2))]))
theorem ms_f111 : Meets Tryd.prog 111 (strip sp_f111) := by
 obtain ⟨c, hc, hi⟩ := Option.map_eq_some_iff.1 ok_f111
 exact meets_spec (R := runF g_f111 tc_f111 rv_f111 false) (meets_of (by decide) Tryd.func111 hc hi Tryd.ntmps111 rok_f111 gk_f111 lk_f111 mixed) fun x hok => (e_f111 x.1 x.2.1).trans (s_f111 x.1 x.2.1 hok)
theorem trimR_calls (s : ByteArray) (w : World) (h : s.size ≤ 4000000000) : Calls Tryd.prog 112 #[.string s, .string ⟨#[32, 9]⟩] w fun e w' => e = .returned (.string (mkB (tR (bl s)))) ∧ Below w.heap.size w w' := by
 have hF : strip sp_f112 [.t .str s, .t .str ⟨#[32, 9]⟩] [] = some (.t .str (trmR s ⟨#[32, 9]⟩), []) := by
  unfold sp_f112
  exact strip_spec (a := .pr .str (.pr .str .nil)) (x := (s, (⟨#[32, 9]⟩, ()))) (by simp [Ty.args, as_t]) (show ascOk s ⟨#[32, 9]⟩ = true from Bool.and_eq_true_iff.2 ⟨decide_eq_true (by omega), rfl⟩)
 refine (sc_calls ms_f112 hF w fun X => ⟨_, _, rfl, ⟨rfl, rfl⟩, _, _, rfl, ⟨rfl, rfl⟩, rfl⟩).mono ?_
 rintro en w' ⟨u, X', σ', rfl, h1, h2⟩
 have h1 : C X' w' σ' (.v (.string (trmR s ⟨#[32, 9]⟩))) u := h1
 simp only [C] at h1
 obtain ⟨rfl, _⟩ := h1
 refine ⟨?_, h2⟩
 have : trmR s ⟨#[32, 9]⟩ = mkB (tR (bl s)) := by
  unfold trmR
  rw [← trimR_bl]
 rw [this]
theorem cut_calls (s : ByteArray) (w : World) (h : s.size ≤ 4000000000) : Calls Tryd.prog 111 #[.string s, .string ⟨#[61]⟩] w fun e w' => e = .returned (.tuple #[.string (cutO s ⟨#[61]⟩).1, .string (cutO s ⟨#[61]⟩).2.1, .bool (cutO s ⟨#[61]⟩).2.2]) ∧ Below w.heap.size w w' := by
 have hF : strip sp_f111 [.t .str s, .t .str ⟨#[61]⟩] [] = some (.tu [.t .str (cutO s ⟨#[61]⟩).1, .t .str (cutO s ⟨#[61]⟩).2.1, .t .bool (cutO s ⟨#[61]⟩).2.2], []) := by
  unfold sp_f111
  exact strip_spec (a := .pr .str (.pr .str .nil)) (x := (s, (⟨#[61]⟩, ()))) (by simp [Ty.args, as_t]) (show cutOOk s ⟨#[61]⟩ = true from decide_eq_true ⟨rfl, by omega⟩)
 refine (sc_calls ms_f111 hF w fun X => ⟨_, _, rfl, ⟨rfl, rfl⟩, _, _, rfl, ⟨rfl, rfl⟩, rfl⟩).mono ?_
 rintro en w' ⟨u, X', σ', rfl, h1, h2⟩
 simp only [V.d, V.ds, Ty.d, C, Cs] at h1
 obtain ⟨us, rfl, h1⟩ := h1
 obtain ⟨v1, r1, rfl, ⟨rfl, _⟩, v2, r2, rfl, ⟨rfl, _⟩, v3, r3, rfl, ⟨rfl, _⟩, rfl⟩ := h1
 exact ⟨rfl, h2⟩
end
end Go.Proofs.YtkkoedniahnneaaDoor.K
