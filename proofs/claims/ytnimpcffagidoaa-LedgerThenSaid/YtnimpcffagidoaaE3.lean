/-
  The ledger's functions, as contracts in values.
-/
import Derived.Test.YtnimpcffagidoaaE2
import Derived.Test.YtnimpcffagidoaaAwake41
import Derived.Test.YtnimpcffagidoaaSame
namespace Go.Proofs.Ytnimpcffagidoaa
open Go.RowKit
set_option linter.unusedSimpArgs false
set_option linter.unusedVariables false

theorem cellsD_ints (ds : List Dec) : cellsD ds = (ds.flatMap fun d => [d.day, d.known, d.kind, d.subject, d.value]).map D.i := by
  induction ds with
  | nil => rfl
  | cons d l ih => simp only [cellsD, List.flatMap_cons, List.map_append] at ih ⊢; rw [ih]; rfl
theorem decCells_ints (ds : List Dec) : decCells ds = (ds.flatMap fun d => [d.day, d.known, d.kind, d.subject, d.value]).map (Value.int .i64) := by
  induction ds with
  | nil => rfl
  | cons d l ih => simp only [decCells, List.flatMap_cons, List.map_append] at ih ⊢; rw [ih]; rfl

section
variable {X : Nat → Nat → Prop} {w : World} {σ : List SC}
theorem led_of {ds : List Dec} {v : Value} (h : C X w σ (slD ds) v) : ∃ A c, v = .slice A ds.length c ∧ Led w (.slice A ds.length c) ds := by
  simp only [slD, C] at h
  obtain ⟨⟨A, c, rfl, h2, h3, h4, h5⟩, _⟩ := h
  refine ⟨A, c, rfl, by rw [← cellsD_len ds, cellsD_ints, decCells_ints, List.length_map, List.length_map], A, c, rfl, h2, h3, fun hn => ?_⟩
  obtain ⟨b, off, vs, rfl, e1, e2⟩ := h5 hn
  rw [cellsD_ints] at e1
  have := cs_ints e1
  subst this
  exact ⟨b, off, rfl, e2.lt, fun j u hu => e2.at_ j u (by rw [← decCells_ints]; exact hu)⟩
theorem c_of_led {ds : List Dec} {v : Value} (h : Led w v ds) (hx : ∀ b, v.ownBlock = some b → ∀ o, ¬ X b o) : C X w σ (slD ds) v := by
  obtain ⟨h1, A, c, rfl, h2, h3, h4⟩ := h
  simp only [slD, C]
  refine ⟨⟨A, c, rfl, h2, h3, fun hn => ?_, fun hn => ?_⟩, fun k g hk => by cases hk⟩
  · have := cellsD_len ds
    rw [hn] at this
    simpa using this
  · obtain ⟨b, off, rfl, e1, e2⟩ := h4 hn
    refine ⟨b, off, _, rfl, by rw [cellsD_ints]; exact ints_cs _, e1, fun j hj => hx b rfl _, fun j u hu => e2 j u (by rw [decCells_ints]; exact hu), fun u hu => ?_⟩
    simp only [List.mem_map] at hu
    obtain ⟨z, _, rfl⟩ := hu
    rfl
theorem c_of_own {B : Nat} {ds : List Dec} {v : Value} (h : Own w B v ds) (hx : ∀ b o, X b o → b < B) : C X w σ (slD ds) v := by
  refine c_of_led (Sl.of_own h) fun b hb o hX => ?_
  have := hx b o hX
  rcases h.2 with ⟨rfl, _⟩ | ⟨g, cap, cur, rfl, hg, _⟩
  · cases hb
  · simp only [Value.ownBlock, Option.some.injEq] at hb
    omega
theorem arg_led {ds : List Dec} {rest : List D} {us : List Value} (h : Cs X w σ (ledD ds :: rest) us) : ∃ A c us', us = .agg #[.slice A ds.length c] :: us' ∧ Led w (.slice A ds.length c) ds ∧ Cs X w σ rest us' := by
  simp only [Cs] at h
  obtain ⟨u, us', rfl, h1, h2⟩ := h
  simp only [ledD, C, Cs] at h1
  obtain ⟨vs, rfl, u, us2, rfl, h3, rfl⟩ := h1
  obtain ⟨A, c, rfl, h4⟩ := led_of h3
  exact ⟨A, c, us', rfl, h4, h2⟩
theorem arg_v {v : Value} {rest : List D} {us : List Value} (h : Cs X w σ (.v v :: rest) us) : ∃ us', us = v :: us' ∧ Cs X w σ rest us' := by
  simp only [Cs] at h
  obtain ⟨u, us', rfl, h1, h2⟩ := h
  rw [h1.v.1]
  exact ⟨us', rfl, h2⟩
theorem arg_dec {d : Dec} {rest : List D} {us : List Value} (h : Cs X w σ (decD d :: rest) us) : ∃ us', us = .agg #[.int .i64 d.day, .int .i64 d.known, .int .i64 d.kind, .int .i64 d.subject, .int .i64 d.value] :: us' ∧ Cs X w σ rest us' := by
  simp only [Cs] at h
  obtain ⟨u, us', rfl, h1, h2⟩ := h
  simp only [decD, C, encD, Cs] at h1
  obtain ⟨vs, rfl, u1, s1, rfl, h3, u2, s2, rfl, h4, u3, s3, rfl, h5, u4, s4, rfl, h6, u5, s5, rfl, h7, rfl⟩ := h1
  rw [h3.1, h4.1, h5.1, h6.1, h7.1]
  exact ⟨us', rfl, h2⟩
theorem c_dec (d : Dec) : C X w σ (decD d) d.val := by
  simp only [decD, C, encD, Cs]
  exact ⟨_, rfl, _, _, rfl, ⟨rfl, rfl⟩, _, _, rfl, ⟨rfl, rfl⟩, _, _, rfl, ⟨rfl, rfl⟩, _, _, rfl, ⟨rfl, rfl⟩, _, _, rfl, ⟨rfl, rfl⟩, rfl⟩
end

theorem known_spec (ds : List Dec) (day : Int) (hs : Days ds) (hn : ds.length ≤ 100000) :
    ACalls Try.prog 28 [] [ledD ds, .i day] (fun r nl => r = .i (maxK (ds.take (cnt ds day))) ∧ nl = []) := by
  intro X w vs hfin hnin hvs
  obtain ⟨A, c, us, rfl, hl, k1⟩ := arg_led hvs
  obtain ⟨us, rfl, k2⟩ := arg_v k1
  simp only [Cs] at k2
  subst k2
  refine (known_any A c ds day w hl hs hn).mono ?_
  rintro r w' ⟨rfl, hb⟩
  exact ⟨.i _, _, X, [], rfl, ⟨rfl, rfl⟩, C.mkv rfl, left_none hfin hb⟩
theorem check_spec (ds : List Dec) (hn : ds.length ≤ 100000) :
    ACalls Try.prog 32 [] [ledD ds] (fun r nl => r = .i (checkR ds) ∧ nl = []) := by
  intro X w vs hfin hnin hvs
  obtain ⟨A, c, us, rfl, hl, k1⟩ := arg_led hvs
  simp only [Cs] at k1
  subst k1
  refine (check_any A c ds w hl hn).mono ?_
  rintro r w' ⟨rfl, hb⟩
  exact ⟨.i _, _, X, [], rfl, ⟨rfl, rfl⟩, C.mkv rfl, left_none hfin hb⟩
theorem latest_spec (ds : List Dec) (kind subject day : Int) (hs : Days ds) (hn : ds.length ≤ 100000) :
    ACalls Try.prog 27 [] [ledD ds, .i kind, .i subject, .i day] (fun r nl => r = .tu [decD ((latestR ds kind subject day).getD zeroDec), .b (latestR ds kind subject day).isSome] ∧ nl = []) := by
  intro X w vs hfin hnin hvs
  obtain ⟨A, c, us, rfl, hl, k1⟩ := arg_led hvs
  obtain ⟨us, rfl, k2⟩ := arg_v k1
  obtain ⟨us, rfl, k3⟩ := arg_v k2
  obtain ⟨us, rfl, k4⟩ := arg_v k3
  simp only [Cs] at k4
  subst k4
  refine (latest_any A c ds kind subject day w hl hs hn).mono ?_
  rintro r w' ⟨rfl, hb⟩
  refine ⟨_, _, X, [], rfl, ⟨rfl, rfl⟩, ?_, left_none hfin hb⟩
  simp only [C, Cs]
  exact ⟨_, rfl, _, _, rfl, c_dec _, _, _, rfl, ⟨rfl, rfl⟩, rfl⟩
theorem then_spec (ds : List Dec) (day : Int) (hs : Days ds) (hn : ds.length ≤ 100000) :
    ACalls Try.prog 34 [] [ledD ds, .i day] (fun r nl => r = ledD (ds.take (cnt ds day)) ∧ nl = []) := by
  intro X w vs hfin hnin hvs
  obtain ⟨A, c, us, rfl, hl, k1⟩ := arg_led hvs
  obtain ⟨us, rfl, k2⟩ := arg_v k1
  simp only [Cs] at k2
  subst k2
  refine (then_any A c ds day w hl hs hn).mono ?_
  rintro r w' ⟨sv, rfl, ho, hb⟩
  refine ⟨_, _, X, [], rfl, ⟨rfl, rfl⟩, ?_, left_none hfin hb⟩
  simp only [ledD, C, Cs]
  exact ⟨_, rfl, _, _, rfl, c_of_own ho hfin, rfl⟩
theorem add_spec (ds : List Dec) (d : Dec) (hn : ds.length ≤ 100000) :
    ACalls Try.prog 26 [] [ledD ds, decD d] (fun r nl => r = .tu [ledD (addL ds d), .i (addR ds d)] ∧ nl = []) := by
  intro X w vs hfin hnin hvs
  obtain ⟨A, c, us, rfl, hl, k1⟩ := arg_led hvs
  obtain ⟨us, rfl, k2⟩ := arg_dec k1
  simp only [Cs] at k2
  subst k2
  refine (add_any A c ds d.day d.known d.kind d.subject d.value w hl hn).mono ?_
  rintro r w' ⟨sv, rfl, ho, hb⟩
  refine ⟨_, _, X, [], rfl, ⟨rfl, rfl⟩, ?_, left_none hfin hb⟩
  simp only [ledD, C, Cs]
  exact ⟨_, rfl, _, _, rfl, ⟨_, rfl, _, _, rfl, c_of_own ho hfin, rfl⟩, _, _, rfl, ⟨rfl, rfl⟩, rfl⟩
theorem rsame_spec (xs ys : List Dec) (hn : xs.length ≤ 100000 ∧ ys.length ≤ 100000) :
    ACalls Try.prog 31 [] [ledD xs, ledD ys] (fun r nl => r = .b (decide (xs = ys)) ∧ nl = []) := by
  intro X w vs hfin hnin hvs
  obtain ⟨A, c, us, rfl, hl, k1⟩ := arg_led hvs
  obtain ⟨A2, c2, us, rfl, hl2, k2⟩ := arg_led k1
  simp only [Cs] at k2
  subst k2
  refine (rsame_any _ _ xs ys w hl hl2 hn).mono ?_
  rintro r w' ⟨rfl, hb⟩
  exact ⟨.b _, _, X, [], rfl, ⟨rfl, rfl⟩, C.mkv rfl, left_none hfin hb⟩
theorem awake41_spec : ACalls Try.prog 24 [] [] (fun r nl => r = .b true ∧ nl = []) := by
  intro X w vs hfin hnin hvs
  simp only [Cs] at hvs
  subst hvs
  refine (awake41 w).mono ?_
  rintro r w' ⟨rfl, hb⟩
  exact ⟨.b _, _, X, [], rfl, ⟨rfl, rfl⟩, C.mkv rfl, left_none hfin hb⟩

/-- the things that a row of whole numbers is -/
theorem row_c {W : World} {a : Option Addr} {len cap : Nat} {zs : List Int} (hr : IsRow .i64 W a len cap zs) : C (fun _ _ => False) W [] (.sl none (zs.take len).length ((zs.take len).map D.i)) (.slice a len cap) := by
  rcases hr with ⟨rfl, rfl, rfl, rfl⟩ | ⟨x, rfl, h1, h2, h3, h4, h5⟩
  · simp only [C, List.take_nil, List.length_nil, List.map_nil]
    exact ⟨⟨none, 0, rfl, Nat.le_refl _, by simp [maxLen], fun _ => trivial, fun h => absurd h (by omega)⟩, fun k g hk => by cases hk⟩
  · have hlen : (zs.take len).length = len := by rw [List.length_take]; omega
    simp only [C, hlen]
    refine ⟨⟨some x, cap, rfl, h1, h2, fun h => by subst h; simp, fun h => ?_⟩, fun k g hk => by cases hk⟩
    obtain ⟨b, off, sp⟩ := x
    have h0 := h4 0 (by omega)
    have hsp : sp = none := by
      simp only [World.cell?, Addr.add] at h0
      cases sp with
      | none => rfl
      | some s => split at h0 <;> simp at h0
    subst hsp
    refine ⟨b, off, _, rfl, ints_cs _, ?_, fun j _ h => h, fun j u hu => ?_, fun u hu => ?_⟩
    · rcases Nat.lt_or_ge b W.heap.size with hlt | hge
      · exact hlt
      · simp [World.cell?, Addr.add, Array.getElem?_eq_none hge] at h0
    · rw [List.getElem?_map] at hu
      have hj : j < len := by
        rcases Nat.lt_or_ge j len with hlt | hge
        · exact hlt
        · rw [List.getElem?_eq_none (by omega)] at hu; cases hu
      have := h4 j (by omega)
      rw [List.getElem?_take_of_lt hj, List.getElem?_eq_getElem (by omega)] at hu
      rw [List.getD_eq_getElem?_getD, List.getElem?_eq_getElem (by omega)] at this
      simp only [Option.map_some, Option.some.injEq] at hu
      subst hu
      have ha : (Addr.mk b off none).add j = ⟨b, off + j, none⟩ := by by_cases h0 : j = 0 <;> simp [Addr.add, h0]
      rw [ha] at this
      simpa using this
    · simp only [List.mem_map] at hu
      obtain ⟨z, _, rfl⟩ := hu
      rfl
/-- from a contract in values to the law -/
theorem law_of {f : FuncId} {ds : List D} {W : World} {vs : List Value} (h : ACalls Try.prog f [] ds (fun r _ => r = .b true)) (hc : Cs (fun _ _ => False) W [] ds vs) :
    Calls Try.prog f vs.toArray W fun r w' => r = .returned (.bool true) ∧ Below W.heap.size W w' := by
  refine (h _ W vs (fun _ _ h => h.elim) ⟨(fun o ho => by cases ho), by simp [names]⟩ hc).mono ?_
  rintro e w' ⟨d, u, X', nl', rfl, rfl, h1, h2⟩
  rw [h1.v.1]
  exact ⟨rfl, h2.fr.os, h2.fr.tape, h2.fr.output, h2.fr.size, fun b hb => h2.fr.keep b hb (by simp [names])⟩
/-- a law whose one argument is dice -/
theorem law_of_ints {f : FuncId} (h : ∀ zs : List Int, ACalls Try.prog f [] [.sl none zs.length (zs.map D.i)] (fun r _ => r = .b true)) (W : World) (a : Option Addr) (len cap : Nat) (zs : List Int) (hr : IsRow .i64 W a len cap zs) :
    Calls Try.prog f #[.slice a len cap] W fun r w' => r = .returned (.bool true) ∧ Below W.heap.size W w' :=
  law_of (vs := [.slice a len cap]) (h (zs.take len)) (by simp only [Cs]; exact ⟨_, _, rfl, row_c hr, rfl⟩)
theorem law_of_ints_u8 {f : FuncId} (h : ∀ (zs : List Int) (n : Int), 0 ≤ n → n ≤ 255 → ACalls Try.prog f [] [.sl none zs.length (zs.map D.i), .v (.int .u8 n)] (fun r _ => r = .b true)) (W : World) (a : Option Addr) (len cap : Nat) (zs : List Int) (n : Int) (hr : IsRow .i64 W a len cap zs) (hn : (Lit.int .u8 n).wf = true) :
    Calls Try.prog f #[.slice a len cap, .int .u8 n] W fun r w' => r = .returned (.bool true) ∧ Below W.heap.size W w' :=
  law_of (vs := [.slice a len cap, .int .u8 n]) (h (zs.take len) n (wf_u8 hn).1 (wf_u8 hn).2) (by simp only [Cs]; exact ⟨_, _, rfl, row_c hr, _, _, rfl, C.mkv rfl, rfl⟩)
theorem law_of_ints_u8_u8 {f : FuncId} (h : ∀ (zs : List Int) (n m : Int), 0 ≤ n → n ≤ 255 → 0 ≤ m → m ≤ 255 → ACalls Try.prog f [] [.sl none zs.length (zs.map D.i), .v (.int .u8 n), .v (.int .u8 m)] (fun r _ => r = .b true)) (W : World) (a : Option Addr) (len cap : Nat) (zs : List Int) (n m : Int) (hr : IsRow .i64 W a len cap zs) (hn : (Lit.int .u8 n).wf = true) (hm : (Lit.int .u8 m).wf = true) :
    Calls Try.prog f #[.slice a len cap, .int .u8 n, .int .u8 m] W fun r w' => r = .returned (.bool true) ∧ Below W.heap.size W w' :=
  law_of (vs := [.slice a len cap, .int .u8 n, .int .u8 m]) (h (zs.take len) n m (wf_u8 hn).1 (wf_u8 hn).2 (wf_u8 hm).1 (wf_u8 hm).2) (by simp only [Cs]; exact ⟨_, _, rfl, row_c hr, _, _, rfl, C.mkv rfl, _, _, rfl, C.mkv rfl, rfl⟩)
end Go.Proofs.Ytnimpcffagidoaa
