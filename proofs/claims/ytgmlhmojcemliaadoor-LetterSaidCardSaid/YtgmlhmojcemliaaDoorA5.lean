import Derived.Test.YtgmlhmojcemliaaDoorA4
section
namespace Go.Proofs.YtgmlhmojcemliaaDoor.P
open Go.RowKit Go.Proofs.YtgmlhmojcemliaaDoorW.PrintWords Go.Proofs.YtgmlhmojcemliaaDoorW.PrintLast Go.Proofs.YtgmlhmojcemliaaDoorW.PrintMore
attribute [local go_sem] max2_int min2_int max_two min_two max_three min_three max_four min_four   -- for this text's walks alone
set_option linter.unusedVariables false
set_option linter.unusedSimpArgs false

/-! ### stringslite_CutSuffix: function 123 -/
def stringslite_CutSuffix.f (a0 : ByteArray) (a1 : ByteArray) : Option (ByteArray × Bool) := (stringslite_HasSuffix.f a0 a1).bind fun t264 => (if t264 = true then (if 0 ≤ (wrap64 ((a0.size : Int) - (a1.size : Int))) then (if (wrap64 ((a0.size : Int) - (a1.size : Int))) ≤ (a0.size : Int) then (some (a0.extract 0 ((wrap64 ((a0.size : Int) - (a1.size : Int))) : Int).toNat, true)) else (none)) else (none)) else (some (a0, false)))
set_option maxHeartbeats 8000000 in
set_option maxRecDepth 100000 in
theorem stringslite_CutSuffix.calls (a0 : ByteArray) (a1 : ByteArray) (r1 : ByteArray) (r2 : Bool) (w : World) (h : stringslite_CutSuffix.f a0 a1 = some (r1, r2)) :
    Calls Tryd.prog 123 #[.string a0, .string a1] w fun e w' => e = .returned (.tuple #[.string r1, .bool r2]) ∧ Drawn0 w w' := by
  have H : ((stringslite_HasSuffix.f a0 a1).bind fun t264 => (if t264 = true then (if 0 ≤ (wrap64 ((a0.size : Int) - (a1.size : Int))) then (if (wrap64 ((a0.size : Int) - (a1.size : Int))) ≤ (a0.size : Int) then (some (a0.extract 0 ((wrap64 ((a0.size : Int) - (a1.size : Int))) : Int).toNat, true)) else (none)) else (none)) else (some (a0, false)))) = some (r1, r2) := h
  clear h
  replace H := Option.bind_eq_some_iff.mp H
  obtain ⟨t264, A30, H⟩ := H
  replace H : (if t264 = true then (if 0 ≤ (wrap64 ((a0.size : Int) - (a1.size : Int))) then (if (wrap64 ((a0.size : Int) - (a1.size : Int))) ≤ (a0.size : Int) then (some (a0.extract 0 ((wrap64 ((a0.size : Int) - (a1.size : Int))) : Int).toNat, true)) else (none)) else (none)) else (some (a0, false))) = some (r1, r2) := H
  have A3 := Aside0.mk A30
  clear A30
  by_cases c4 : t264 = true
  · subst c4
    have H1 : (if 0 ≤ (wrap64 ((a0.size : Int) - (a1.size : Int))) then (if (wrap64 ((a0.size : Int) - (a1.size : Int))) ≤ (a0.size : Int) then (some (a0.extract 0 ((wrap64 ((a0.size : Int) - (a1.size : Int))) : Int).toNat, true)) else (none)) else (none)) = some (r1, r2) := by rw [if_pos rfl] at H; exact H
    clear H
    have H := H1
    clear H1
    obtain ⟨ji5, hji5⟩ : ∃ j_ : Int, (wrap64 ((a0.size : Int) - (a1.size : Int))) = j_ := ⟨_, rfl⟩
    replace H : (if 0 ≤ (ji5) then (if (ji5) ≤ (a0.size : Int) then (some (a0.extract 0 ((ji5) : Int).toNat, true)) else (none)) else (none)) = some (r1, r2) := by first | (rw [hji5] at H; exact H) | (simp only [hji5] at H ⊢; exact H)
    (try rw [hji5] at A3)
    have hji5w : (IntKind.i64.wrap ((a0.size : Int) - (a1.size : Int))) = ji5 := (i64_w _).trans hji5
    by_cases c6 : 0 ≤ (ji5)
    · rw [if_pos c6] at H
      have c6b0 := eq_true c6
      have c6b1 : decide (0 ≤ (ji5)) = true := decide_eq_true c6
      clear c6
      by_cases c7 : (ji5) ≤ (a0.size : Int)
      · rw [if_pos c7] at H
        have c7b0 := eq_true c7
        have c7b1 : decide ((ji5) ≤ (a0.size : Int)) = true := decide_eq_true c7
        clear c7
        simp only [Option.some.injEq, Prod.mk.injEq] at H
        obtain ⟨rfl, rfl⟩ := H
        go_enter Tryd.func123, Tryd.ntmps123
        go_wp2_with (first | ((with_reducible refine gate_callee (f := 96) rfl ?_); refine goesL_ (some 8) rfl rfl Tryd.func96 (by kernel_rfl) rfl #[.string a0, .string a1] rfl (by (try simp only [List.map_toArray, List.map_cons, List.map_nil]); first | done | rfl | (simp only [List.length_drop, List.length_take]; rfl)) ?_; (with_reducible refine (stringslite_HasSuffix.calls a0 a1 true _ A3.out).mono ?_); rintro e w' ⟨rfl, ⟨nd, rfl⟩⟩; refine ⟨_, rfl, ?_⟩))
        go_ret2
        exact ⟨by first | rfl | (simp; done) | (simp only [← hji5] <;> (first | rfl | simp)) | (simp [*]; done), by repeat (first | exact Drawn0.refl _ | apply Drawn0.step)⟩
      · rw [if_neg c7] at H
        exact absurd H (by simp)
    · rw [if_neg c6] at H
      exact absurd H (by simp)
  · replace c4 := Bool.eq_false_iff.mpr c4
    subst c4
    have H1 : (some (a0, false)) = some (r1, r2) := by rw [if_neg (show ¬ (false = true) by decide)] at H; exact H
    clear H
    have H := H1
    clear H1
    simp only [Option.some.injEq, Prod.mk.injEq] at H
    obtain ⟨rfl, rfl⟩ := H
    go_enter Tryd.func123, Tryd.ntmps123
    go_wp2_with (first | ((with_reducible refine gate_callee (f := 96) rfl ?_); refine goesL_ (some 8) rfl rfl Tryd.func96 (by kernel_rfl) rfl #[.string a0, .string a1] rfl (by (try simp only [List.map_toArray, List.map_cons, List.map_nil]); first | done | rfl | (simp only [List.length_drop, List.length_take]; rfl)) ?_; (with_reducible refine (stringslite_HasSuffix.calls a0 a1 false _ A3.out).mono ?_); rintro e w' ⟨rfl, ⟨nd, rfl⟩⟩; refine ⟨_, rfl, ?_⟩))
    go_ret2
    exact ⟨by first | rfl | (simp; done) | (simp [*]; done), by repeat (first | exact Drawn0.refl _ | apply Drawn0.step)⟩

/-! ### strings_CutSuffix: function 84 -/
def strings_CutSuffix.f (a0 : ByteArray) (a1 : ByteArray) : Option (ByteArray × Bool) := (stringslite_CutSuffix.f a0 a1).bind fun bt265 => (some (bt265.1, bt265.2))
set_option maxHeartbeats 8000000 in
set_option maxRecDepth 100000 in
theorem strings_CutSuffix.calls (a0 : ByteArray) (a1 : ByteArray) (r1 : ByteArray) (r2 : Bool) (w : World) (h : strings_CutSuffix.f a0 a1 = some (r1, r2)) :
    Calls Tryd.prog 84 #[.string a0, .string a1] w fun e w' => e = .returned (.tuple #[.string r1, .bool r2]) ∧ Drawn0 w w' := by
  have H : ((stringslite_CutSuffix.f a0 a1).bind fun bt265 => (some (bt265.1, bt265.2))) = some (r1, r2) := h
  clear h
  replace H := Option.bind_eq_some_iff.mp H
  obtain ⟨⟨t265, t266⟩, A30, H⟩ := H
  replace H : (some (t265, t266)) = some (r1, r2) := H
  have A3 := Aside0.mk A30
  clear A30
  simp only [Option.some.injEq, Prod.mk.injEq] at H
  obtain ⟨rfl, rfl⟩ := H
  go_enter Tryd.func84, Tryd.ntmps84
  go_wp2_with (first | ((with_reducible refine gate_callee (f := 123) rfl ?_); refine goesL_ (some 8) rfl rfl Tryd.func123 (by kernel_rfl) rfl #[.string a0, .string a1] rfl (by (try simp only [List.map_toArray, List.map_cons, List.map_nil]); first | done | rfl | (simp only [List.length_drop, List.length_take]; rfl)) ?_; (with_reducible refine (stringslite_CutSuffix.calls a0 a1 t265 t266 _ A3.out).mono ?_); rintro e w' ⟨rfl, ⟨nd, rfl⟩⟩; refine ⟨_, rfl, ?_⟩))
  go_ret2
  exact ⟨by first | rfl | (simp; done) | (simp [*]; done), by repeat (first | exact Drawn0.refl _ | apply Drawn0.step)⟩

/-! ### letter_rules_1: function 83 -/
def letter_rules_1.f (a0 : ByteArray) : Option (ByteArray × Bool) := (strings_CutSuffix.f a0 (⟨#[32]⟩ : ByteArray)).bind fun bt267 => (some (bt267.1, bt267.2))
set_option maxHeartbeats 8000000 in
set_option maxRecDepth 100000 in
theorem letter_rules_1.calls (a0 : ByteArray) (r1 : ByteArray) (r2 : Bool) (w : World) (h : letter_rules_1.f a0 = some (r1, r2)) :
    Calls Tryd.prog 83 #[.string a0] w fun e w' => e = .returned (.tuple #[.string r1, .bool r2]) ∧ Drawn0 w w' := by
  have H : ((strings_CutSuffix.f a0 (⟨#[32]⟩ : ByteArray)).bind fun bt267 => (some (bt267.1, bt267.2))) = some (r1, r2) := h
  clear h
  replace H := Option.bind_eq_some_iff.mp H
  obtain ⟨⟨t267, t268⟩, A20, H⟩ := H
  replace H : (some (t267, t268)) = some (r1, r2) := H
  have A2 := Aside0.mk A20
  clear A20
  simp only [Option.some.injEq, Prod.mk.injEq] at H
  obtain ⟨rfl, rfl⟩ := H
  go_enter Tryd.func83, Tryd.ntmps83
  go_wp2_with (first | ((with_reducible refine gate_callee (f := 84) rfl ?_); refine goesL_ (some 5) rfl rfl Tryd.func84 (by kernel_rfl) rfl #[.string a0, .string (⟨#[32]⟩ : ByteArray)] rfl (by (try simp only [List.map_toArray, List.map_cons, List.map_nil]); first | done | rfl | (simp only [List.length_drop, List.length_take]; rfl)) ?_; (with_reducible refine (strings_CutSuffix.calls a0 (⟨#[32]⟩ : ByteArray) t267 t268 _ A2.out).mono ?_); rintro e w' ⟨rfl, ⟨nd, rfl⟩⟩; refine ⟨_, rfl, ?_⟩))
  go_ret2
  exact ⟨by first | rfl | (simp; done) | (simp [*]; done), by repeat (first | exact Drawn0.refl _ | apply Drawn0.step)⟩

/-! ### octet_Same: function 54 -/
def octet_Same.f (a0 : ByteArray) (a1 : ByteArray) : Option (Bool) := (octet_Lower.f a0).bind fun t269 => ((octet_Lower.f a1).bind fun t270 => (some (t269.toList == t270.toList)))
set_option maxHeartbeats 8000000 in
set_option maxRecDepth 100000 in
theorem octet_Same.calls (a0 : ByteArray) (a1 : ByteArray) (r : Bool) (w : World) (h : octet_Same.f a0 a1 = some r) :
    Calls Tryd.prog 54 #[.string a0, .string a1] w fun e w' => e = .returned (.bool r) ∧ Below w.heap.size w w' := by
  have HB := Aside0.mk (Below.refl w.heap.size w)
  have H : ((octet_Lower.f a0).bind fun t269 => ((octet_Lower.f a1).bind fun t270 => (some (t269.toList == t270.toList)))) = some r := h
  clear h
  replace H := Option.bind_eq_some_iff.mp H
  obtain ⟨t269, A30, H⟩ := H
  replace H : ((octet_Lower.f a1).bind fun t270 => (some (t269.toList == t270.toList))) = some r := H
  have A3 := Aside0.mk A30
  clear A30
  replace H := Option.bind_eq_some_iff.mp H
  obtain ⟨t270, A40, H⟩ := H
  replace H : (some (t269.toList == t270.toList)) = some r := H
  have A4 := Aside0.mk A40
  clear A40
  obtain rfl := Option.some.inj H
  go_enter Tryd.func54, Tryd.ntmps54
  go_wp2_with (first | ((with_reducible refine gate_callee (f := 94) rfl ?_); refine goesL_ (some 6) rfl rfl Tryd.func94 (by kernel_rfl) rfl #[.string a0] rfl (by (try simp only [List.map_toArray, List.map_cons, List.map_nil]); first | done | rfl | (simp only [List.length_drop, List.length_take]; rfl)) ?_; (with_reducible refine (octet_Lower.calls a0 t269 _ A3.out).mono ?_); rintro e w5 ⟨rfl, hb⟩; refine ⟨_, rfl, ?_⟩; have n0_ := Aside0.mk (below_step (by repeat (first | (with_reducible first | exact HB.out | apply below_alloc | apply pw_below_drewN | apply below_drew1) | exact HB.out)) hb); clear HB; have HB := n0_; clear n0_; (try clear hb); (try clear hb2); (try clear hk); (try clear hi)) | ((with_reducible refine gate_callee (f := 94) rfl ?_); refine goesL_ (some 8) rfl rfl Tryd.func94 (by kernel_rfl) rfl #[.string a1] rfl (by (try simp only [List.map_toArray, List.map_cons, List.map_nil]); first | done | rfl | (simp only [List.length_drop, List.length_take]; rfl)) ?_; (with_reducible refine (octet_Lower.calls a1 t270 _ A4.out).mono ?_); rintro e w6 ⟨rfl, hb⟩; refine ⟨_, rfl, ?_⟩; have n0_ := Aside0.mk (below_step (by repeat (first | (with_reducible first | exact HB.out | apply below_alloc | apply pw_below_drewN | apply below_drew1) | exact HB.out)) hb); clear HB; have HB := n0_; clear n0_; (try clear hb); (try clear hb2); (try clear hk); (try clear hi)))
  go_ret
  exact ⟨by first | rfl | (simp [errW_none, errW_some] <;> rfl) | (simp [*, errW_none, errW_some] <;> rfl), by repeat (first | (with_reducible first | exact HB.out | apply below_alloc | apply pw_below_drewN | apply below_drew1) | exact HB.out)⟩

/-! ### letter_rules_2: function 85 -/
def letter_rules_2.f (a0 : ByteArray) : Option (ByteArray × Bool) := if (wrap64 ((a0.size : Int) - 5)) < 0 then (some (a0, false)) else (if 0 ≤ (wrap64 ((a0.size : Int) - 5)) then (if (wrap64 ((a0.size : Int) - 5)) ≤ (a0.size : Int) then ((octet_Same.f (a0.extract ((wrap64 ((a0.size : Int) - 5)) : Int).toNat a0.size) (⟨#[40, 102, 119, 100, 41]⟩ : ByteArray)).bind fun t271 => (if t271 = true then (some (a0.extract 0 ((wrap64 ((a0.size : Int) - 5)) : Int).toNat, true)) else (some (a0, false)))) else (none)) else (none))
set_option maxHeartbeats 8000000 in
set_option maxRecDepth 100000 in
theorem letter_rules_2.calls (a0 : ByteArray) (r1 : ByteArray) (r2 : Bool) (w : World) (h : letter_rules_2.f a0 = some (r1, r2)) :
    Calls Tryd.prog 85 #[.string a0] w fun e w' => e = .returned (.tuple #[.string r1, .bool r2]) ∧ Below w.heap.size w w' := by
  have HB := Aside0.mk (Below.refl w.heap.size w)
  have H : (if (wrap64 ((a0.size : Int) - 5)) < 0 then (some (a0, false)) else (if 0 ≤ (wrap64 ((a0.size : Int) - 5)) then (if (wrap64 ((a0.size : Int) - 5)) ≤ (a0.size : Int) then ((octet_Same.f (a0.extract ((wrap64 ((a0.size : Int) - 5)) : Int).toNat a0.size) (⟨#[40, 102, 119, 100, 41]⟩ : ByteArray)).bind fun t271 => (if t271 = true then (some (a0.extract 0 ((wrap64 ((a0.size : Int) - 5)) : Int).toNat, true)) else (some (a0, false)))) else (none)) else (none))) = some (r1, r2) := h
  clear h
  by_cases c2 : (wrap64 ((a0.size : Int) - 5)) < 0
  · rw [if_pos c2] at H
    have c2b0 : decide ((wrap64 ((a0.size : Int) - 5)) < 0) = true := decide_eq_true c2
    clear c2
    simp only [Option.some.injEq, Prod.mk.injEq] at H
    obtain ⟨rfl, rfl⟩ := H
    go_enter Tryd.func85, Tryd.ntmps85
    go_wp2
    go_ret2
    exact ⟨by first | rfl | (simp [errW_none, errW_some] <;> rfl) | (simp [*, errW_none, errW_some] <;> rfl), by repeat (first | (with_reducible first | exact HB.out | apply below_alloc | apply pw_below_drewN | apply below_drew1) | exact HB.out)⟩
  · rw [if_neg c2] at H
    have c2b0 : decide ((wrap64 ((a0.size : Int) - 5)) < 0) = false := decide_eq_false c2
    clear c2
    obtain ⟨ji3, hji3⟩ : ∃ j_ : Int, (wrap64 ((a0.size : Int) - 5)) = j_ := ⟨_, rfl⟩
    replace H : (if 0 ≤ (ji3) then (if (ji3) ≤ (a0.size : Int) then ((octet_Same.f (a0.extract ((ji3) : Int).toNat a0.size) (⟨#[40, 102, 119, 100, 41]⟩ : ByteArray)).bind fun t271 => (if t271 = true then (some (a0.extract 0 ((ji3) : Int).toNat, true)) else (some (a0, false)))) else (none)) else (none)) = some (r1, r2) := by first | (rw [hji3] at H; exact H) | (simp only [hji3] at H ⊢; exact H)
    (try rw [hji3] at c2b0)
    have hji3w : (IntKind.i64.wrap ((a0.size : Int) - 5)) = ji3 := (i64_w _).trans hji3
    by_cases c4 : 0 ≤ (ji3)
    · rw [if_pos c4] at H
      have c4b0 := eq_true c4
      have c4b1 : decide (0 ≤ (ji3)) = true := decide_eq_true c4
      clear c4
      by_cases c5 : (ji3) ≤ (a0.size : Int)
      · rw [if_pos c5] at H
        have c5b0 := eq_true c5
        have c5b1 : decide ((ji3) ≤ (a0.size : Int)) = true := decide_eq_true c5
        clear c5
        replace H := Option.bind_eq_some_iff.mp H
        obtain ⟨t271, A60, H⟩ := H
        replace H : (if t271 = true then (some (a0.extract 0 ((ji3) : Int).toNat, true)) else (some (a0, false))) = some (r1, r2) := H
        have A6 := Aside0.mk A60
        clear A60
        by_cases c7 : t271 = true
        · subst c7
          have H1 : (some (a0.extract 0 ((ji3) : Int).toNat, true)) = some (r1, r2) := by rw [if_pos rfl] at H; exact H
          clear H
          have H := H1
          clear H1
          have c8b0 := eq_true (of_decide_eq_true (by first | (with_reducible assumption) | assumption) : 0 ≤ (ji3))
          have c9b0 := eq_true (of_decide_eq_true (by first | (with_reducible assumption) | assumption) : (ji3) ≤ (a0.size : Int))
          simp only [Option.some.injEq, Prod.mk.injEq] at H
          obtain ⟨rfl, rfl⟩ := H
          go_enter Tryd.func85, Tryd.ntmps85
          go_wp2_with (first | (go_at_call 54; (with_reducible refine (octet_Same.calls (a0.extract ((ji3) : Int).toNat a0.size) (⟨#[40, 102, 119, 100, 41]⟩ : ByteArray) true _ A6.out).mono ?_); rintro e w10 ⟨rfl, hb⟩; have n0_ := Aside0.mk (below_step (by repeat (first | (with_reducible first | exact HB.out | apply below_alloc | apply pw_below_drewN | apply below_drew1) | exact HB.out)) hb); clear HB; have HB := n0_; clear n0_; (try clear hb); (try clear hb2); (try clear hk); (try clear hi)))
          go_ret2
          exact ⟨by first | rfl | (simp [errW_none, errW_some] <;> rfl) | (simp only [← hji3]; first | rfl | (simp [errW_none, errW_some] <;> rfl)) | (simp [*, errW_none, errW_some] <;> rfl), by repeat (first | (with_reducible first | exact HB.out | apply below_alloc | apply pw_below_drewN | apply below_drew1) | exact HB.out)⟩
        · replace c7 := Bool.eq_false_iff.mpr c7
          subst c7
          have H1 : (some (a0, false)) = some (r1, r2) := by rw [if_neg (show ¬ (false = true) by decide)] at H; exact H
          clear H
          have H := H1
          clear H1
          simp only [Option.some.injEq, Prod.mk.injEq] at H
          obtain ⟨rfl, rfl⟩ := H
          go_enter Tryd.func85, Tryd.ntmps85
          go_wp2_with (first | (go_at_call 54; (with_reducible refine (octet_Same.calls (a0.extract ((ji3) : Int).toNat a0.size) (⟨#[40, 102, 119, 100, 41]⟩ : ByteArray) false _ A6.out).mono ?_); rintro e w11 ⟨rfl, hb⟩; have n0_ := Aside0.mk (below_step (by repeat (first | (with_reducible first | exact HB.out | apply below_alloc | apply pw_below_drewN | apply below_drew1) | exact HB.out)) hb); clear HB; have HB := n0_; clear n0_; (try clear hb); (try clear hb2); (try clear hk); (try clear hi)))
          go_ret2
          exact ⟨by first | rfl | (simp [errW_none, errW_some] <;> rfl) | (simp only [← hji3]; first | rfl | (simp [errW_none, errW_some] <;> rfl)) | (simp [*, errW_none, errW_some] <;> rfl), by repeat (first | (with_reducible first | exact HB.out | apply below_alloc | apply pw_below_drewN | apply below_drew1) | exact HB.out)⟩
      · rw [if_neg c5] at H
        exact absurd H (by simp)
    · rw [if_neg c4] at H
      exact absurd H (by simp)

/-! ### stringslite_CutPrefix: function 124 -/
def stringslite_CutPrefix.f (a0 : ByteArray) (a1 : ByteArray) : Option (ByteArray × Bool) := (stringslite_HasPrefix.f a0 a1).bind fun t272 => (if t272 = true then (if 0 ≤ (a1.size : Int) then (if (a1.size : Int) ≤ (a0.size : Int) then (some (a0.extract ((a1.size : Int) : Int).toNat a0.size, true)) else (none)) else (none)) else (some (a0, false)))
set_option maxHeartbeats 8000000 in
set_option maxRecDepth 100000 in
theorem stringslite_CutPrefix.calls (a0 : ByteArray) (a1 : ByteArray) (r1 : ByteArray) (r2 : Bool) (w : World) (h : stringslite_CutPrefix.f a0 a1 = some (r1, r2)) :
    Calls Tryd.prog 124 #[.string a0, .string a1] w fun e w' => e = .returned (.tuple #[.string r1, .bool r2]) ∧ Drawn0 w w' := by
  have H : ((stringslite_HasPrefix.f a0 a1).bind fun t272 => (if t272 = true then (if 0 ≤ (a1.size : Int) then (if (a1.size : Int) ≤ (a0.size : Int) then (some (a0.extract ((a1.size : Int) : Int).toNat a0.size, true)) else (none)) else (none)) else (some (a0, false)))) = some (r1, r2) := h
  clear h
  replace H := Option.bind_eq_some_iff.mp H
  obtain ⟨t272, A30, H⟩ := H
  replace H : (if t272 = true then (if 0 ≤ (a1.size : Int) then (if (a1.size : Int) ≤ (a0.size : Int) then (some (a0.extract ((a1.size : Int) : Int).toNat a0.size, true)) else (none)) else (none)) else (some (a0, false))) = some (r1, r2) := H
  have A3 := Aside0.mk A30
  clear A30
  by_cases c4 : t272 = true
  · subst c4
    have H1 : (if 0 ≤ (a1.size : Int) then (if (a1.size : Int) ≤ (a0.size : Int) then (some (a0.extract ((a1.size : Int) : Int).toNat a0.size, true)) else (none)) else (none)) = some (r1, r2) := by rw [if_pos rfl] at H; exact H
    clear H
    have H := H1
    clear H1
    by_cases c5 : 0 ≤ (a1.size : Int)
    · rw [if_pos c5] at H
      have c5b0 := eq_true c5
      have c5b1 : decide (0 ≤ (a1.size : Int)) = true := decide_eq_true c5
      clear c5
      by_cases c6 : (a1.size : Int) ≤ (a0.size : Int)
      · rw [if_pos c6] at H
        have c6b0 := eq_true c6
        have c6b1 : decide ((a1.size : Int) ≤ (a0.size : Int)) = true := decide_eq_true c6
        clear c6
        simp only [Option.some.injEq, Prod.mk.injEq] at H
        obtain ⟨rfl, rfl⟩ := H
        go_enter Tryd.func124, Tryd.ntmps124
        go_wp2_with (first | ((with_reducible refine gate_callee (f := 68) rfl ?_); refine goesL_ (some 8) rfl rfl Tryd.func68 (by kernel_rfl) rfl #[.string a0, .string a1] rfl (by (try simp only [List.map_toArray, List.map_cons, List.map_nil]); first | done | rfl | (simp only [List.length_drop, List.length_take]; rfl)) ?_; (with_reducible refine (stringslite_HasPrefix.calls a0 a1 true _ A3.out).mono ?_); rintro e w' ⟨rfl, ⟨nd, rfl⟩⟩; refine ⟨_, rfl, ?_⟩))
        go_ret2
        exact ⟨by first | rfl | (simp; done) | (simp [*]; done), by repeat (first | exact Drawn0.refl _ | apply Drawn0.step)⟩
      · rw [if_neg c6] at H
        exact absurd H (by simp)
    · rw [if_neg c5] at H
      exact absurd H (by simp)
  · replace c4 := Bool.eq_false_iff.mpr c4
    subst c4
    have H1 : (some (a0, false)) = some (r1, r2) := by rw [if_neg (show ¬ (false = true) by decide)] at H; exact H
    clear H
    have H := H1
    clear H1
    simp only [Option.some.injEq, Prod.mk.injEq] at H
    obtain ⟨rfl, rfl⟩ := H
    go_enter Tryd.func124, Tryd.ntmps124
    go_wp2_with (first | ((with_reducible refine gate_callee (f := 68) rfl ?_); refine goesL_ (some 8) rfl rfl Tryd.func68 (by kernel_rfl) rfl #[.string a0, .string a1] rfl (by (try simp only [List.map_toArray, List.map_cons, List.map_nil]); first | done | rfl | (simp only [List.length_drop, List.length_take]; rfl)) ?_; (with_reducible refine (stringslite_HasPrefix.calls a0 a1 false _ A3.out).mono ?_); rintro e w' ⟨rfl, ⟨nd, rfl⟩⟩; refine ⟨_, rfl, ?_⟩))
    go_ret2
    exact ⟨by first | rfl | (simp; done) | (simp [*]; done), by repeat (first | exact Drawn0.refl _ | apply Drawn0.step)⟩

/-! ### strings_CutPrefix: function 87 -/
def strings_CutPrefix.f (a0 : ByteArray) (a1 : ByteArray) : Option (ByteArray × Bool) := (stringslite_CutPrefix.f a0 a1).bind fun bt273 => (some (bt273.1, bt273.2))
set_option maxHeartbeats 8000000 in
set_option maxRecDepth 100000 in
theorem strings_CutPrefix.calls (a0 : ByteArray) (a1 : ByteArray) (r1 : ByteArray) (r2 : Bool) (w : World) (h : strings_CutPrefix.f a0 a1 = some (r1, r2)) :
    Calls Tryd.prog 87 #[.string a0, .string a1] w fun e w' => e = .returned (.tuple #[.string r1, .bool r2]) ∧ Drawn0 w w' := by
  have H : ((stringslite_CutPrefix.f a0 a1).bind fun bt273 => (some (bt273.1, bt273.2))) = some (r1, r2) := h
  clear h
  replace H := Option.bind_eq_some_iff.mp H
  obtain ⟨⟨t273, t274⟩, A30, H⟩ := H
  replace H : (some (t273, t274)) = some (r1, r2) := H
  have A3 := Aside0.mk A30
  clear A30
  simp only [Option.some.injEq, Prod.mk.injEq] at H
  obtain ⟨rfl, rfl⟩ := H
  go_enter Tryd.func87, Tryd.ntmps87
  go_wp2_with (first | ((with_reducible refine gate_callee (f := 124) rfl ?_); refine goesL_ (some 8) rfl rfl Tryd.func124 (by kernel_rfl) rfl #[.string a0, .string a1] rfl (by (try simp only [List.map_toArray, List.map_cons, List.map_nil]); first | done | rfl | (simp only [List.length_drop, List.length_take]; rfl)) ?_; (with_reducible refine (stringslite_CutPrefix.calls a0 a1 t273 t274 _ A3.out).mono ?_); rintro e w' ⟨rfl, ⟨nd, rfl⟩⟩; refine ⟨_, rfl, ?_⟩))
  go_ret2
  exact ⟨by first | rfl | (simp; done) | (simp [*]; done), by repeat (first | exact Drawn0.refl _ | apply Drawn0.step)⟩

/-! ### letter_rules_3: function 86 -/
def letter_rules_3.f (a0 : ByteArray) : Option (ByteArray × Bool) := (strings_CutPrefix.f a0 (⟨#[32]⟩ : ByteArray)).bind fun bt275 => (some (bt275.1, bt275.2))
set_option maxHeartbeats 8000000 in
set_option maxRecDepth 100000 in
theorem letter_rules_3.calls (a0 : ByteArray) (r1 : ByteArray) (r2 : Bool) (w : World) (h : letter_rules_3.f a0 = some (r1, r2)) :
    Calls Tryd.prog 86 #[.string a0] w fun e w' => e = .returned (.tuple #[.string r1, .bool r2]) ∧ Drawn0 w w' := by
  have H : ((strings_CutPrefix.f a0 (⟨#[32]⟩ : ByteArray)).bind fun bt275 => (some (bt275.1, bt275.2))) = some (r1, r2) := h
  clear h
  replace H := Option.bind_eq_some_iff.mp H
  obtain ⟨⟨t275, t276⟩, A20, H⟩ := H
  replace H : (some (t275, t276)) = some (r1, r2) := H
  have A2 := Aside0.mk A20
  clear A20
  simp only [Option.some.injEq, Prod.mk.injEq] at H
  obtain ⟨rfl, rfl⟩ := H
  go_enter Tryd.func86, Tryd.ntmps86
  go_wp2_with (first | ((with_reducible refine gate_callee (f := 87) rfl ?_); refine goesL_ (some 5) rfl rfl Tryd.func87 (by kernel_rfl) rfl #[.string a0, .string (⟨#[32]⟩ : ByteArray)] rfl (by (try simp only [List.map_toArray, List.map_cons, List.map_nil]); first | done | rfl | (simp only [List.length_drop, List.length_take]; rfl)) ?_; (with_reducible refine (strings_CutPrefix.calls a0 (⟨#[32]⟩ : ByteArray) t275 t276 _ A2.out).mono ?_); rintro e w' ⟨rfl, ⟨nd, rfl⟩⟩; refine ⟨_, rfl, ?_⟩))
  go_ret2
  exact ⟨by first | rfl | (simp; done) | (simp [*]; done), by repeat (first | exact Drawn0.refl _ | apply Drawn0.step)⟩

/-! ### letter_blanks: function 125 -/
def letter_blanks.l0 : Nat → ByteArray → Int → Option (Int)
  | 0, _, _ => none
  | k + 1, x0, x1 => if x1 < (x0.size : Int) then (if 0 ≤ x1 then (if (bt x0 x1) = 32 then (letter_blanks.l0 k x0 (wrap64 (x1 + 1))) else (some x1)) else (none)) else (some x1)
def letter_blanks.f (k : Nat) (a0 : ByteArray) (a1 : Int) : Option (Int) := letter_blanks.l0 k a0 a1
theorem letter_blanks.mono_l : ∀ k, (∀ y0 y1, LeO (letter_blanks.l0 k y0 y1) (letter_blanks.l0 (k + 1) y0 y1))
  | 0 => fun _ _ r h => by simp [letter_blanks.l0] at h
  | k + 1 => by
    have ih0 := letter_blanks.mono_l k
    · intro y0 y1
      unfold letter_blanks.l0
      repeat' first
      | (with_reducible exact ih0 _ _)
      | (with_reducible exact LeO.refl _)
      | (with_reducible exact LeO.none _)
      | (with_reducible refine LeO.ite ?_ ?_)
      | (with_reducible refine LeO.bind ?_ (fun _ => ?_))
      | exact ih0 _ _
      | exact LeO.none _
      | refine LeO.ite ?_ ?_
      | refine LeO.bind ?_ (fun _ => ?_)
theorem letter_blanks.mono : ∀ a0 a1 k, LeO (letter_blanks.f k a0 a1) (letter_blanks.f (k + 1) a0 a1) := by
  intro a0 a1 k
  have ih0 := letter_blanks.mono_l k
  unfold letter_blanks.f
  repeat' first
      | (with_reducible exact ih0 _ _)
      | (with_reducible exact LeO.refl _)
      | (with_reducible exact LeO.none _)
      | (with_reducible refine LeO.ite ?_ ?_)
      | (with_reducible refine LeO.bind ?_ (fun _ => ?_))
      | exact ih0 _ _
      | exact LeO.none _
      | refine LeO.ite ?_ ?_
      | refine LeO.bind ?_ (fun _ => ?_)
set_option maxHeartbeats 8000000 in
set_option maxRecDepth 100000 in
theorem letter_blanks.calls (k : Nat) (a0 : ByteArray) (a1 : Int) (r : Int) (w : World) (h : letter_blanks.f k a0 a1 = some r) :
    Calls Tryd.prog 125 #[.string a0, .int .i64 a1] w fun e w' => e = .returned (.int .i64 r) ∧ Drawn0 w w' := by
  have H : (letter_blanks.l0 k a0 a1) = some r := h
  clear h
  have H' := Aside0.mk H
  clear H
  go_enter Tryd.func125, Tryd.ntmps125
  go_wp2
  go_loopg [1] k (fun kq v1 w' => ∃ (x1_1 : Int), v1 = .int .i64 x1_1 ∧ Aside0 (letter_blanks.l0 kq a0 x1_1 = some r) ∧ Aside0 (kq ≤ k) ∧ Drawn0 w w')
  case atStart => exact ⟨(a1), (by first | rfl | (simp; done) | (simp [*]; done)), H', ⟨Nat.le_refl _⟩, by repeat (first | exact Drawn0.refl _ | apply Drawn0.step)⟩
  case round =>
    clear H'
    try clear c1
    try clear p2
    obtain ⟨x1_1, rfl, HA, HK1, ⟨m1, rfl⟩⟩ := hrel
    cases gk with
    | zero => exact absurd HA.out (by simp [letter_blanks.l0])
    | succ k1 =>
      have H := HA.out
      clear HA
      simp only [letter_blanks.l0] at H
      by_cases c3 : x1_1 < (a0.size : Int)
      · rw [if_pos c3] at H
        have c3b0 : decide (x1_1 < (a0.size : Int)) = true := decide_eq_true c3
        clear c3
        by_cases c4 : 0 ≤ x1_1
        · rw [if_pos c4] at H
          have c4b0 : decide (0 ≤ x1_1) = true := decide_eq_true c4
          clear c4
          by_cases c6 : (bt a0 x1_1) = 32
          · rw [if_pos c6] at H
            have c6b0 : ((bt a0 x1_1) == 32) = true := beq_iff_eq.mpr c6
            have c6b1 : ((bt a0 x1_1) != 32) = false := bne_eq_false_iff_eq.mpr c6
            clear c6
            have H' := Aside0.mk H
            clear H
            have p5 : 0 ≤ (x1_1 : Int) := of_decide_eq_true (by first | (with_reducible assumption) | assumption)
            have q5 : x1_1 < (a0.size : Int) := of_decide_eq_true (by first | (with_reducible assumption) | assumption)
            have hx5 := bt_at a0 x1_1
            replace p5 := eq_true p5
            replace q5 := eq_true q5
            go_wp2
            go_roundg k1
            case measure => have := HK1.out; omega
            case rel => exact ⟨(wrap64 (x1_1 + 1)), (by first | rfl | (simp; done) | (simp [*]; done)), H', ⟨by have := HK1.out; omega⟩, by repeat (first | exact Drawn0.refl _ | apply Drawn0.step)⟩
          · rw [if_neg c6] at H
            have c6b0 : ((bt a0 x1_1) == 32) = false := beq_eq_false_iff_ne.mpr c6
            have c6b1 : ((bt a0 x1_1) != 32) = true := bne_iff_ne.mpr c6
            obtain rfl := Option.some.inj H
            have p5 : 0 ≤ (x1_1 : Int) := of_decide_eq_true (by first | (with_reducible assumption) | assumption)
            have q5 : x1_1 < (a0.size : Int) := of_decide_eq_true (by first | (with_reducible assumption) | assumption)
            have hx5 := bt_at a0 x1_1
            replace p5 := eq_true p5
            replace q5 := eq_true q5
            go_wp2
            go_ret
            exact ⟨by first | rfl | (simp; done) | (simp [*]; done), by repeat (first | exact Drawn0.refl _ | apply Drawn0.step)⟩
        · rw [if_neg c4] at H
          exact absurd H (by simp)
      · rw [if_neg c3] at H
        have c3b0 : decide (x1_1 < (a0.size : Int)) = false := decide_eq_false c3
        clear c3
        obtain rfl := Option.some.inj H
        go_wp2
        go_ret
        exact ⟨by first | rfl | (simp; done) | (simp [*]; done), by repeat (first | exact Drawn0.refl _ | apply Drawn0.step)⟩

end Go.Proofs.YtgmlhmojcemliaaDoor.P
end
section
namespace Go.Proofs.YtgmlhmojcemliaaDoor.P
open Go.RowKit Go.Proofs.YtgmlhmojcemliaaDoorW.PrintWords Go.Proofs.YtgmlhmojcemliaaDoorW.PrintLast Go.Proofs.YtgmlhmojcemliaaDoorW.PrintMore
attribute [local go_sem] max2_int min2_int max_two min_two max_three min_three max_four min_four   -- for this text's walks alone
set_option linter.unusedVariables false
set_option linter.unusedSimpArgs false

/-! ### strings_IndexAny: function 126, GIVEN -/
def strings_IndexAny.f (a0 a1 : ByteArray) : Option Int := if a0.size < 4294967281 ∧ a1.size < 4294967281 ∧ a0.data.toList.all (fun b => decide (b.toNat < 128)) = true ∧ a1.data.toList.all (fun b => decide (b.toNat < 128)) = true then some (Lib.indexAny a0.data.toList a1.data.toList) else none
theorem strings_IndexAny.calls (a0 a1 : ByteArray) (r : Int) (w : World) (h : strings_IndexAny.f a0 a1 = some r) :
    Calls Tryd.prog 126 #[.string a0, .string a1] w fun e w' => e = .returned (.int .i64 r) ∧ Below w.heap.size w w' := by
  unfold strings_IndexAny.f at h
  split at h
  · rename_i hc
    obtain rfl := Option.some.inj h
    exact Tryd.strings_IndexAny_laid a0 a1 w hc.1 hc.2.1 (ascii_of_all hc.2.2.1) (ascii_of_all hc.2.2.2)
  · cases h
end Go.Proofs.YtgmlhmojcemliaaDoor.P
end
section
namespace Go.Proofs.YtgmlhmojcemliaaDoor.P
open Go.RowKit Go.Proofs.YtgmlhmojcemliaaDoorW.PrintWords Go.Proofs.YtgmlhmojcemliaaDoorW.PrintLast Go.Proofs.YtgmlhmojcemliaaDoorW.PrintMore
attribute [local go_sem] max2_int min2_int max_two min_two max_three min_three max_four min_four   -- for this text's walks alone
set_option linter.unusedVariables false
set_option linter.unusedSimpArgs false

/-! ### letter_blob: function 91 -/
def letter_blob.j0 : Nat → ByteArray → Bool → Option (Int)
  | 0, _, _ => none
  | k + 1, x0, x10 => if x10 = true then (some 0) else (if 1 ≤ (x0.size : Int) then ((strings_IndexAny.f (x0.extract 1 x0.size) (⟨#[91, 93]⟩ : ByteArray)).bind fun t277 => (if (wrap64 (t277 + 1)) = 0 then (some 0) else (if 0 ≤ (wrap64 (t277 + 1)) then (if (wrap64 (t277 + 1)) < (x0.size : Int) then (if (bt x0 (wrap64 (t277 + 1))) = 91 then (some 0) else ((letter_blanks.f k x0 (wrap64 ((wrap64 (t277 + 1)) + 1))).bind fun t278 => (some t278))) else (none)) else (none)))) else (none))
def letter_blob.f (k : Nat) (a0 : ByteArray) : Option (Int) := if a0.toList = ([] : List UInt8) then (letter_blob.j0 k a0 true) else (if 0 < (a0.size : Int) then (letter_blob.j0 k a0 ((bt a0 0) != 91)) else (none))
theorem letter_blob.mono_l : ∀ k, (∀ y0 y1, LeO (letter_blob.j0 k y0 y1) (letter_blob.j0 (k + 1) y0 y1))
  | 0 => fun _ _ r h => by simp [letter_blob.j0] at h
  | k + 1 => by
    have ih0 := letter_blob.mono_l k
    · intro y0 y1
      unfold letter_blob.j0
      repeat' first
      | (with_reducible exact ih0 _ _)
      | (with_reducible exact letter_blanks.mono _ _ _)
      | (with_reducible exact LeO.refl _)
      | (with_reducible exact LeO.none _)
      | (with_reducible refine LeO.ite ?_ ?_)
      | (with_reducible refine LeO.bind ?_ (fun _ => ?_))
      | exact ih0 _ _
      | exact letter_blanks.mono _ _ _
      | exact LeO.none _
      | refine LeO.ite ?_ ?_
      | refine LeO.bind ?_ (fun _ => ?_)
theorem letter_blob.mono : ∀ a0 k, LeO (letter_blob.f k a0) (letter_blob.f (k + 1) a0) := by
  intro a0 k
  have ih0 := letter_blob.mono_l k
  unfold letter_blob.f
  repeat' first
      | (with_reducible exact ih0 _ _)
      | (with_reducible exact letter_blanks.mono _ _ _)
      | (with_reducible exact LeO.refl _)
      | (with_reducible exact LeO.none _)
      | (with_reducible refine LeO.ite ?_ ?_)
      | (with_reducible refine LeO.bind ?_ (fun _ => ?_))
      | exact ih0 _ _
      | exact letter_blanks.mono _ _ _
      | exact LeO.none _
      | refine LeO.ite ?_ ?_
      | refine LeO.bind ?_ (fun _ => ?_)
set_option maxHeartbeats 8000000 in
set_option maxRecDepth 100000 in
theorem letter_blob.calls (k : Nat) (a0 : ByteArray) (r : Int) (w : World) (h : letter_blob.f k a0 = some r) :
    Calls Tryd.prog 91 #[.string a0] w fun e w' => e = .returned (.int .i64 r) ∧ Below w.heap.size w w' := by
  have HB := Aside0.mk (Below.refl w.heap.size w)
  have H : (if a0.toList = ([] : List UInt8) then (letter_blob.j0 k a0 true) else (if 0 < (a0.size : Int) then (letter_blob.j0 k a0 ((bt a0 0) != 91)) else (none))) = some r := h
  clear h
  have HC2 := Aside0.mk H
  clear H
  go_enter Tryd.func91, Tryd.ntmps91
  go_upto_region 1 with (fail)
  go_cut [10] (fun v10 wc => ∃ (kq : Nat) (x10_1 : Bool), v10 = .bool x10_1 ∧ Aside0 (letter_blob.j0 kq a0 x10_1 = some r) ∧ Aside0 (kq ≤ k) ∧ Aside0 (Below w.heap.size w wc))
  case first =>
    have H := HC2.out
    clear HC2
    by_cases c3 : a0.toList = ([] : List UInt8)
    · rw [if_pos c3] at H
      have c3b0 : (a0.toList == ([] : List UInt8)) = true := beq_iff_eq.mpr c3
      have c3b1 : (a0.toList != ([] : List UInt8)) = false := bne_eq_false_iff_eq.mpr c3
      clear c3
      (first | rw [c3b0] | (simp only [i64_w, i32_w]; rw [c3b0]) | skip)
      have H' := Aside0.mk H
      clear H
      go_wp2
      go_meet
      case rel => exact ⟨_, (true), (by first | rfl | (simp; done) | (simp [*]; done)), H', ⟨by first | omega | exact Nat.le_refl _⟩, ⟨by repeat (first | (with_reducible first | exact HB.out | apply below_alloc | apply pw_below_drewN | apply below_drew1) | exact HB.out)⟩⟩
    · rw [if_neg c3] at H
      have c3b0 : (a0.toList == ([] : List UInt8)) = false := beq_eq_false_iff_ne.mpr c3
      have c3b1 : (a0.toList != ([] : List UInt8)) = true := bne_iff_ne.mpr c3
      (first | rw [c3b0] | (simp only [i64_w, i32_w]; rw [c3b0]) | skip)
      by_cases c4 : 0 < (a0.size : Int)
      · rw [if_pos c4] at H
        have c4b0 : decide (0 < (a0.size : Int)) = true := decide_eq_true c4
        have c4b1 : decide (0 < a0.size) = true := decide_eq_true (by omega)
        clear c4
        have H' := Aside0.mk H
        clear H
        have p5 : 0 ≤ (0 : Int) := (by omega)
        have q5 : 0 < a0.size := (by have : (0 : Int) < (a0.size : Int) := of_decide_eq_true (by first | (with_reducible assumption) | assumption); omega)
        have hx5 : ∀ h : 0 < a0.size, ((a0[0]'h).toNat : Int) = bt a0 0 := bt_at a0 0
        clear p5
        have qi5 : (0 < (a0.size : Int)) = True := eq_true (of_decide_eq_true (by first | (with_reducible assumption) | assumption))
        replace q5 := eq_true q5
        go_wp2
        go_meet
        case rel => exact ⟨_, (((bt a0 0) != 91)), (by first | rfl | (simp; done) | (simp [*]; done)), H', ⟨by first | omega | exact Nat.le_refl _⟩, ⟨by repeat (first | (with_reducible first | exact HB.out | apply below_alloc | apply pw_below_drewN | apply below_drew1) | exact HB.out)⟩⟩
      · rw [if_neg c4] at H
        exact absurd H (by simp)
  case rest =>
    clear HC2
    try clear p2
    try clear c3
    try clear c3b0
    try clear c3b1
    try clear c4
    try clear c4b0
    try clear c4b1
    try clear p5
    try clear q5
    try clear hx5
    try clear qi5
    try clear p5
    try clear q5
    obtain ⟨kq, x10_1, rfl, HA, HJ1, HB⟩ := hcut
    cases kq with
    | zero => exact absurd HA.out (by simp [letter_blob.j0])
    | succ kj1 =>
      have H := HA.out
      clear HA
      simp only [letter_blob.j0] at H
      by_cases c6 : x10_1 = true
      · subst c6
        have H1 : (some 0) = some r := by rw [if_pos rfl] at H; exact H
        clear H
        have H := H1
        clear H1
        obtain rfl := Option.some.inj H
        go_wp2
        go_ret
        exact ⟨by first | rfl | (simp [errW_none, errW_some] <;> rfl) | (simp [*, errW_none, errW_some] <;> rfl), by repeat (first | (with_reducible first | exact HB.out | apply below_alloc | apply pw_below_drewN | apply below_drew1) | exact HB.out)⟩
      · replace c6 := Bool.eq_false_iff.mpr c6
        subst c6
        have H1 : (if 1 ≤ (a0.size : Int) then ((strings_IndexAny.f (a0.extract 1 a0.size) (⟨#[91, 93]⟩ : ByteArray)).bind fun t277 => (if (wrap64 (t277 + 1)) = 0 then (some 0) else (if 0 ≤ (wrap64 (t277 + 1)) then (if (wrap64 (t277 + 1)) < (a0.size : Int) then (if (bt a0 (wrap64 (t277 + 1))) = 91 then (some 0) else ((letter_blanks.f kj1 a0 (wrap64 ((wrap64 (t277 + 1)) + 1))).bind fun t278 => (some t278))) else (none)) else (none)))) else (none)) = some r := by rw [if_neg (show ¬ (false = true) by decide)] at H; exact H
        clear H
        have H := H1
        clear H1
        by_cases c7 : 1 ≤ (a0.size : Int)
        · rw [if_pos c7] at H
          have c7b0 := eq_true c7
          have c7b1 : decide (1 ≤ (a0.size : Int)) = true := decide_eq_true c7
          clear c7
          replace H := Option.bind_eq_some_iff.mp H
          obtain ⟨t277, A80, H⟩ := H
          replace H : (if (wrap64 (t277 + 1)) = 0 then (some 0) else (if 0 ≤ (wrap64 (t277 + 1)) then (if (wrap64 (t277 + 1)) < (a0.size : Int) then (if (bt a0 (wrap64 (t277 + 1))) = 91 then (some 0) else ((letter_blanks.f kj1 a0 (wrap64 ((wrap64 (t277 + 1)) + 1))).bind fun t278 => (some t278))) else (none)) else (none))) = some r := H
          have A8 := Aside0.mk A80
          clear A80
          by_cases c9 : (wrap64 (t277 + 1)) = 0
          · rw [if_pos c9] at H
            have c9b0 : ((wrap64 (t277 + 1)) == 0) = true := beq_iff_eq.mpr c9
            have c9b1 : ((wrap64 (t277 + 1)) != 0) = false := bne_eq_false_iff_eq.mpr c9
            clear c9
            obtain rfl := Option.some.inj H
            go_wp2_with (first | ((with_reducible refine gate_callee (f := 126) rfl ?_); refine goesL_ (some 13) rfl rfl Tryd.func126 (by kernel_rfl) rfl #[.string (a0.extract 1 a0.size), .string (⟨#[91, 93]⟩ : ByteArray)] rfl (by (try simp only [List.map_toArray, List.map_cons, List.map_nil]); first | done | rfl | (simp only [List.length_drop, List.length_take]; rfl)) ?_; (with_reducible refine (strings_IndexAny.calls (a0.extract 1 a0.size) (⟨#[91, 93]⟩ : ByteArray) t277 _ A8.out).mono ?_); rintro e w10 ⟨rfl, hb⟩; refine ⟨_, rfl, ?_⟩; have n0_ := Aside0.mk (below_step (by repeat (first | (with_reducible first | exact HB.out | apply below_alloc | apply pw_below_drewN | apply below_drew1) | exact HB.out)) hb); clear HB; have HB := n0_; clear n0_; (try clear hb); (try clear hb2); (try clear hk); (try clear hi)))
            go_ret
            exact ⟨by first | rfl | (simp [errW_none, errW_some] <;> rfl) | (simp [*, errW_none, errW_some] <;> rfl), by repeat (first | (with_reducible first | exact HB.out | apply below_alloc | apply pw_below_drewN | apply below_drew1) | exact HB.out)⟩
          · rw [if_neg c9] at H
            have c9b0 : ((wrap64 (t277 + 1)) == 0) = false := beq_eq_false_iff_ne.mpr c9
            have c9b1 : ((wrap64 (t277 + 1)) != 0) = true := bne_iff_ne.mpr c9
            obtain ⟨ji11, hji11⟩ : ∃ j_ : Int, (wrap64 (t277 + 1)) = j_ := ⟨_, rfl⟩
            replace H : (if 0 ≤ (ji11) then (if (ji11) < (a0.size : Int) then (if (bt a0 (ji11)) = 91 then (some 0) else ((letter_blanks.f kj1 a0 (wrap64 ((ji11) + 1))).bind fun t278 => (some t278))) else (none)) else (none)) = some r := by first | (rw [hji11] at H; exact H) | (simp only [hji11] at H ⊢; exact H)
            (try rw [hji11] at c9b0)
            (try rw [hji11] at c9b1)
            (try rw [hji11] at A8)
            have hji11w : (IntKind.i64.wrap (t277 + 1)) = ji11 := (i64_w _).trans hji11
            by_cases c12 : 0 ≤ (ji11)
            · rw [if_pos c12] at H
              have c12b0 : decide (0 ≤ (ji11)) = true := decide_eq_true c12
              clear c12
              by_cases c13 : (ji11) < (a0.size : Int)
              · rw [if_pos c13] at H
                have c13b0 : decide ((ji11) < (a0.size : Int)) = true := decide_eq_true c13
                clear c13
                by_cases c15 : (bt a0 (ji11)) = 91
                · rw [if_pos c15] at H
                  have c15b0 : ((bt a0 (ji11)) == 91) = true := beq_iff_eq.mpr c15
                  have c15b1 : ((bt a0 (ji11)) != 91) = false := bne_eq_false_iff_eq.mpr c15
                  clear c15
                  obtain rfl := Option.some.inj H
                  go_wp2_with (first | ((with_reducible refine gate_callee (f := 126) rfl ?_); refine goesL_ (some 13) rfl rfl Tryd.func126 (by kernel_rfl) rfl #[.string (a0.extract 1 a0.size), .string (⟨#[91, 93]⟩ : ByteArray)] rfl (by (try simp only [List.map_toArray, List.map_cons, List.map_nil]); first | done | rfl | (simp only [List.length_drop, List.length_take]; rfl)) ?_; (with_reducible refine (strings_IndexAny.calls (a0.extract 1 a0.size) (⟨#[91, 93]⟩ : ByteArray) t277 _ A8.out).mono ?_); rintro e w16 ⟨rfl, hb⟩; refine ⟨_, rfl, ?_⟩; have n0_ := Aside0.mk (below_step (by repeat (first | (with_reducible first | exact HB.out | apply below_alloc | apply pw_below_drewN | apply below_drew1) | exact HB.out)) hb); clear HB; have HB := n0_; clear n0_; (try clear hb); (try clear hb2); (try clear hk); (try clear hi); have p14 : 0 ≤ ((ji11) : Int) := of_decide_eq_true (by first | (with_reducible assumption) | assumption); have q14 : (ji11) < (a0.size : Int) := of_decide_eq_true (by first | (with_reducible assumption) | assumption); have hx14 := bt_at a0 (ji11); replace p14 := eq_true p14; replace q14 := eq_true q14))
                  go_ret
                  exact ⟨by first | rfl | (simp [errW_none, errW_some] <;> rfl) | (simp only [← hji11]; first | rfl | (simp [errW_none, errW_some] <;> rfl)) | (simp [*, errW_none, errW_some] <;> rfl), by repeat (first | (with_reducible first | exact HB.out | apply below_alloc | apply pw_below_drewN | apply below_drew1) | exact HB.out)⟩
                · rw [if_neg c15] at H
                  have c15b0 : ((bt a0 (ji11)) == 91) = false := beq_eq_false_iff_ne.mpr c15
                  have c15b1 : ((bt a0 (ji11)) != 91) = true := bne_iff_ne.mpr c15
                  replace H := Option.bind_eq_some_iff.mp H
                  obtain ⟨t278, A170, H⟩ := H
                  replace H : (some t278) = some r := H
                  have A17 := Aside0.mk A170
                  clear A170
                  obtain rfl := Option.some.inj H
                  go_wp2_with (first | ((with_reducible refine gate_callee (f := 126) rfl ?_); refine goesL_ (some 13) rfl rfl Tryd.func126 (by kernel_rfl) rfl #[.string (a0.extract 1 a0.size), .string (⟨#[91, 93]⟩ : ByteArray)] rfl (by (try simp only [List.map_toArray, List.map_cons, List.map_nil]); first | done | rfl | (simp only [List.length_drop, List.length_take]; rfl)) ?_; (with_reducible refine (strings_IndexAny.calls (a0.extract 1 a0.size) (⟨#[91, 93]⟩ : ByteArray) t277 _ A8.out).mono ?_); rintro e w18 ⟨rfl, hb⟩; refine ⟨_, rfl, ?_⟩; have n0_ := Aside0.mk (below_step (by repeat (first | (with_reducible first | exact HB.out | apply below_alloc | apply pw_below_drewN | apply below_drew1) | exact HB.out)) hb); clear HB; have HB := n0_; clear n0_; (try clear hb); (try clear hb2); (try clear hk); (try clear hi); have p14 : 0 ≤ ((ji11) : Int) := of_decide_eq_true (by first | (with_reducible assumption) | assumption); have q14 : (ji11) < (a0.size : Int) := of_decide_eq_true (by first | (with_reducible assumption) | assumption); have hx14 := bt_at a0 (ji11); replace p14 := eq_true p14; replace q14 := eq_true q14) | ((with_reducible refine gate_callee (f := 125) rfl ?_); refine goesL_ (some 26) rfl rfl Tryd.func125 (by kernel_rfl) rfl #[.string a0, .int .i64 (wrap64 ((ji11) + 1))] rfl (by (try simp only [List.map_toArray, List.map_cons, List.map_nil]); first | done | (simp only [hji11]; rfl) | rfl | (simp only [List.length_drop, List.length_take]; rfl)) ?_; (with_reducible refine (letter_blanks.calls kj1 a0 (wrap64 ((ji11) + 1)) t278 _ A17.out).mono ?_); rintro e w' ⟨rfl, ⟨nd, rfl⟩⟩; refine ⟨_, rfl, ?_⟩))
                  go_ret
                  exact ⟨by first | rfl | (simp [errW_none, errW_some] <;> rfl) | (simp only [← hji11]; first | rfl | (simp [errW_none, errW_some] <;> rfl)) | (simp [*, errW_none, errW_some] <;> rfl), by repeat (first | (with_reducible first | exact HB.out | apply below_alloc | apply pw_below_drewN | apply below_drew1) | exact HB.out)⟩
              · rw [if_neg c13] at H
                exact absurd H (by simp)
            · rw [if_neg c12] at H
              exact absurd H (by simp)
        · rw [if_neg c7] at H
          exact absurd H (by simp)

end Go.Proofs.YtgmlhmojcemliaaDoor.P
end
section
namespace Go.Proofs.YtgmlhmojcemliaaDoor.P
open Go.RowKit Go.Proofs.YtgmlhmojcemliaaDoorW.PrintWords Go.Proofs.YtgmlhmojcemliaaDoorW.PrintLast Go.Proofs.YtgmlhmojcemliaaDoorW.PrintMore
attribute [local go_sem] max2_int min2_int max_two min_two max_three min_three max_four min_four   -- for this text's walks alone
set_option linter.unusedVariables false
set_option linter.unusedSimpArgs false

/-! ### letter_begin: function 93, GIVEN -/
def letter_begin.f (a0 : ByteArray) (a1 : ByteArray) : Option (Bool) := if a1.size ≤ a0.size then octet_Same.f (a0.extract 0 a1.size) a1 else some false
set_option maxHeartbeats 1000000 in
set_option maxRecDepth 100000 in
theorem letter_begin.calls (a0 : ByteArray) (a1 : ByteArray) (r : Bool) (w : World) (h : letter_begin.f a0 a1 = some r) :
    Calls Tryd.prog 93 #[.string a0, .string a1] w fun e w' => e = .returned (.bool r) ∧ Below w.heap.size w w' := by
  unfold letter_begin.f at h
  split at h
  · rename_i hle
    have H := Aside0.mk h
    clear h
    have h1 : decide ((a1.size : Int) ≤ (a0.size : Int)) = true := by simp; omega
    have h2 : decide (a1.size ≤ a0.size) = true := by simpa using hle
    go_enter Tryd.func93, Tryd.ntmps93
    go_wp2_with (go_at_call 54; refine (octet_Same.calls _ _ _ _ H.out).mono ?_; rintro e w7 ⟨rfl, hb⟩)
    go_ret
    exact ⟨rfl, hb⟩
  · rename_i hle
    obtain rfl := Option.some.inj h
    have h1 : decide ((a1.size : Int) ≤ (a0.size : Int)) = false := by simp; omega
    have h2 : decide (a1.size ≤ a0.size) = false := by simpa using hle
    go_enter Tryd.func93, Tryd.ntmps93
    go_wp2
    go_ret
    exact ⟨rfl, Below.refl _ _⟩
end Go.Proofs.YtgmlhmojcemliaaDoor.P
end
section
namespace Go.Proofs.YtgmlhmojcemliaaDoor.P
open Go.RowKit Go.Proofs.YtgmlhmojcemliaaDoorW.PrintWords Go.Proofs.YtgmlhmojcemliaaDoorW.PrintLast Go.Proofs.YtgmlhmojcemliaaDoorW.PrintMore
attribute [local go_sem] max2_int min2_int max_two min_two max_three min_three max_four min_four   -- for this text's walks alone
set_option linter.unusedVariables false
set_option linter.unusedSimpArgs false

/-! ### letter_answered: function 89 -/
mutual
def letter_answered.l0 : Nat → ByteArray → Int → Int → Option (Int)
  | 0, _, _, _ => none
  | k + 1, x0, x3, x4 => if x4 > 0 then (if 0 ≤ (wrap64 (x3 + x4)) then (if (wrap64 (x3 + x4)) ≤ (x0.size : Int) then ((letter_blob.f k (x0.extract ((wrap64 (x3 + x4)) : Int).toNat x0.size)).bind fun t280 => (letter_answered.l0 k x0 (wrap64 (x3 + x4)) t280)) else (none)) else (none)) else ((some (([(⟨#[114, 101]⟩ : ByteArray), (⟨#[102, 119, 100]⟩ : ByteArray), (⟨#[102, 119]⟩ : ByteArray)] : List ByteArray) : List ByteArray)).bind fun y281 => (letter_answered.l1 k x0 x3 y281 (y281.length : Int) 0))
def letter_answered.l1 : Nat → ByteArray → Int → List ByteArray → Int → Int → Option (Int)
  | 0, _, _, _, _, _ => none
  | k + 1, x0, x3, x19, x20, x21 => if x21 < x20 then (if 0 ≤ x21 then (if x21 < (x19.length : Int) then (if 0 ≤ x3 then (if x3 ≤ (x0.size : Int) then ((letter_begin.f (x0.extract (x3 : Int).toNat x0.size) (rdOf ByteArray.empty x19 x21)).bind fun t285 => (if t285 = true then ((letter_blanks.f k x0 (wrap64 (x3 + ((rdOf ByteArray.empty x19 x21).size : Int)))).bind fun t286 => (if 0 ≤ t286 then (if t286 ≤ (x0.size : Int) then ((letter_blob.f k (x0.extract (t286 : Int).toNat x0.size)).bind fun t287 => (if (wrap64 (t286 + t287)) < (x0.size : Int) then (if 0 ≤ (wrap64 (t286 + t287)) then (if (bt x0 (wrap64 (t286 + t287))) = 58 then (some (wrap64 ((wrap64 (t286 + t287)) + 1))) else (letter_answered.l1 k x0 x3 x19 x20 (wrap64 (x21 + 1)))) else (none)) else (letter_answered.l1 k x0 x3 x19 x20 (wrap64 (x21 + 1))))) else (none)) else (none))) else (letter_answered.l1 k x0 x3 x19 x20 (wrap64 (x21 + 1))))) else (none)) else (none)) else (none)) else (none)) else (some 0)
end
def letter_answered.f (k : Nat) (a0 : ByteArray) : Option (Int) := (letter_blob.f k a0).bind fun t279 => (letter_answered.l0 k a0 0 t279)
theorem letter_answered.mono_l : ∀ k, (∀ y0 y1 y2, LeO (letter_answered.l0 k y0 y1 y2) (letter_answered.l0 (k + 1) y0 y1 y2)) ∧ (∀ y0 y1 y2 y3 y4, LeO (letter_answered.l1 k y0 y1 y2 y3 y4) (letter_answered.l1 (k + 1) y0 y1 y2 y3 y4))
  | 0 => ⟨fun _ _ _ r h => by simp [letter_answered.l0] at h, fun _ _ _ _ _ r h => by simp [letter_answered.l1] at h⟩
  | k + 1 => by
    obtain ⟨ih0, ih1⟩ := letter_answered.mono_l k
    refine ⟨?_, ?_⟩
    · intro y0 y1 y2
      unfold letter_answered.l0
      repeat' first
      | (with_reducible exact ih0 _ _ _)
      | (with_reducible exact ih1 _ _ _ _ _)
      | (with_reducible exact letter_blanks.mono _ _ _)
      | (with_reducible exact letter_blob.mono _ _)
      | (with_reducible exact LeO.refl _)
      | (with_reducible exact LeO.none _)
      | (with_reducible refine LeO.ite ?_ ?_)
      | (with_reducible refine LeO.bind ?_ (fun _ => ?_))
      | exact ih0 _ _ _
      | exact ih1 _ _ _ _ _
      | exact letter_blanks.mono _ _ _
      | exact letter_blob.mono _ _
      | exact LeO.none _
      | refine LeO.ite ?_ ?_
      | refine LeO.bind ?_ (fun _ => ?_)
    · intro y0 y1 y2 y3 y4
      unfold letter_answered.l1
      repeat' first
      | (with_reducible exact ih0 _ _ _)
      | (with_reducible exact ih1 _ _ _ _ _)
      | (with_reducible exact letter_blanks.mono _ _ _)
      | (with_reducible exact letter_blob.mono _ _)
      | (with_reducible exact LeO.refl _)
      | (with_reducible exact LeO.none _)
      | (with_reducible refine LeO.ite ?_ ?_)
      | (with_reducible refine LeO.bind ?_ (fun _ => ?_))
      | exact ih0 _ _ _
      | exact ih1 _ _ _ _ _
      | exact letter_blanks.mono _ _ _
      | exact letter_blob.mono _ _
      | exact LeO.none _
      | refine LeO.ite ?_ ?_
      | refine LeO.bind ?_ (fun _ => ?_)
theorem letter_answered.mono : ∀ a0 k, LeO (letter_answered.f k a0) (letter_answered.f (k + 1) a0) := by
  intro a0 k
  obtain ⟨ih0, ih1⟩ := letter_answered.mono_l k
  unfold letter_answered.f
  repeat' first
      | (with_reducible exact ih0 _ _ _)
      | (with_reducible exact ih1 _ _ _ _ _)
      | (with_reducible exact letter_blanks.mono _ _ _)
      | (with_reducible exact letter_blob.mono _ _)
      | (with_reducible exact LeO.refl _)
      | (with_reducible exact LeO.none _)
      | (with_reducible refine LeO.ite ?_ ?_)
      | (with_reducible refine LeO.bind ?_ (fun _ => ?_))
      | exact ih0 _ _ _
      | exact ih1 _ _ _ _ _
      | exact letter_blanks.mono _ _ _
      | exact letter_blob.mono _ _
      | exact LeO.none _
      | refine LeO.ite ?_ ?_
      | refine LeO.bind ?_ (fun _ => ?_)
set_option maxHeartbeats 8000000 in
set_option maxRecDepth 100000 in
theorem letter_answered.calls (k : Nat) (a0 : ByteArray) (r : Int) (w : World) (h : letter_answered.f k a0 = some r) :
    Calls Tryd.prog 89 #[.string a0] w fun e w' => e = .returned (.int .i64 r) ∧ Below w.heap.size w w' := by
  have HB := Aside0.mk (Below.refl w.heap.size w)
  have H : ((letter_blob.f k a0).bind fun t279 => (letter_answered.l0 k a0 0 t279)) = some r := h
  clear h
  replace H := Option.bind_eq_some_iff.mp H
  obtain ⟨t279, A20, H⟩ := H
  replace H : (letter_answered.l0 k a0 0 t279) = some r := H
  have A2 := Aside0.mk A20
  clear A20
  have H' := Aside0.mk H
  clear H
  go_enter Tryd.func89, Tryd.ntmps89
  go_wp2_with (first | ((with_reducible refine gate_callee (f := 91) rfl ?_); refine goesL_ (some 9) rfl rfl Tryd.func91 (by kernel_rfl) rfl #[.string a0] rfl (by (try simp only [List.map_toArray, List.map_cons, List.map_nil]); first | done | rfl | (simp only [List.length_drop, List.length_take]; rfl)) ?_; (with_reducible refine (letter_blob.calls k a0 t279 _ A2.out).mono ?_); rintro e w3 ⟨rfl, hb⟩; refine ⟨_, rfl, ?_⟩; have n0_ := Aside0.mk (below_step (by repeat (first | (with_reducible first | exact HB.out | apply below_alloc | apply pw_below_drewN | apply below_drew1) | exact HB.out)) hb); clear HB; have HB := n0_; clear n0_; (try clear hb); (try clear hb2); (try clear hk); (try clear hi)))
  go_loopg [3, 4] k (fun kq v3 v4 w' => ∃ (x3_1 : Int) (x4_1 : Int), v3 = .int .i64 x3_1 ∧ v4 = .int .i64 x4_1 ∧ Aside0 (letter_answered.l0 kq a0 x3_1 x4_1 = some r) ∧ Aside0 (kq ≤ k) ∧ Aside0 (Below w.heap.size w w'))
  case atStart => exact ⟨(0), (t279), (by first | rfl | (simp; done) | (simp [*]; done)), (by first | rfl | (simp; done) | (simp [*]; done)), H', ⟨Nat.le_refl _⟩, ⟨by repeat (first | (with_reducible first | exact HB.out | apply below_alloc | apply pw_below_drewN | apply below_drew1) | exact HB.out)⟩⟩
  case round =>
    clear H'
    try clear p2
    obtain ⟨x3_1, x4_1, rfl, rfl, HA, HK1, HB⟩ := hrel
    cases gk with
    | zero => exact absurd HA.out (by simp [letter_answered.l0])
    | succ k1 =>
      have H := HA.out
      clear HA
      simp only [letter_answered.l0] at H
      by_cases c4 : x4_1 > 0
      · rw [if_pos c4] at H
        have c4b0 : decide (0 < x4_1) = true := decide_eq_true c4
        clear c4
        obtain ⟨ji5, hji5⟩ : ∃ j_ : Int, (wrap64 (x3_1 + x4_1)) = j_ := ⟨_, rfl⟩
        replace H : (if 0 ≤ (ji5) then (if (ji5) ≤ (a0.size : Int) then ((letter_blob.f k1 (a0.extract ((ji5) : Int).toNat a0.size)).bind fun t280 => (letter_answered.l0 k1 a0 ji5 t280)) else (none)) else (none)) = some r := by first | (rw [hji5] at H; exact H) | (simp only [hji5] at H ⊢; exact H)
        have hji5w : (IntKind.i64.wrap (x3_1 + x4_1)) = ji5 := (i64_w _).trans hji5
        by_cases c6 : 0 ≤ (ji5)
        · rw [if_pos c6] at H
          have c6b0 := eq_true c6
          have c6b1 : decide (0 ≤ (ji5)) = true := decide_eq_true c6
          clear c6
          by_cases c7 : (ji5) ≤ (a0.size : Int)
          · rw [if_pos c7] at H
            have c7b0 := eq_true c7
            have c7b1 : decide ((ji5) ≤ (a0.size : Int)) = true := decide_eq_true c7
            clear c7
            replace H := Option.bind_eq_some_iff.mp H
            obtain ⟨t280, A80, H⟩ := H
            replace H : (letter_answered.l0 k1 a0 ji5 t280) = some r := H
            have A8 := Aside0.mk A80
            clear A80
            have H' := Aside0.mk H
            clear H
            go_wp2_with (first | ((with_reducible refine gate_callee (f := 91) rfl ?_); refine goesL_ (some 15) rfl rfl Tryd.func91 (by kernel_rfl) rfl #[.string (a0.extract ((ji5) : Int).toNat a0.size)] rfl (by (try simp only [List.map_toArray, List.map_cons, List.map_nil]); first | done | (simp only [hji5]; rfl) | rfl | (simp only [List.length_drop, List.length_take]; rfl)) ?_; (with_reducible refine (letter_blob.calls k1 (a0.extract ((ji5) : Int).toNat a0.size) t280 _ A8.out).mono ?_); rintro e w9 ⟨rfl, hb⟩; refine ⟨_, rfl, ?_⟩; have n0_ := Aside0.mk (below_step (by repeat (first | (with_reducible first | exact HB.out | apply below_alloc | apply pw_below_drewN | apply below_drew1) | exact HB.out)) hb); clear HB; have HB := n0_; clear n0_; (try clear hb); (try clear hb2); (try clear hk); (try clear hi)))
            go_roundg k1
            case measure => have := HK1.out; omega
            case rel => exact ⟨(ji5), (t280), (by first | rfl | (simp; done) | (simp only [← hji5] <;> (first | rfl | simp)) | (simp [*]; done)), (by first | rfl | (simp; done) | (simp [*]; done)), H', ⟨by have := HK1.out; omega⟩, ⟨by repeat (first | (with_reducible first | exact HB.out | apply below_alloc | apply pw_below_drewN | apply below_drew1) | exact HB.out)⟩⟩
          · rw [if_neg c7] at H
            exact absurd H (by simp)
        · rw [if_neg c6] at H
          exact absurd H (by simp)
      · rw [if_neg c4] at H
        have c4b0 : decide (0 < x4_1) = false := decide_eq_false c4
        clear c4
        obtain ⟨y281, hy281⟩ : ∃ y_ : List ByteArray, y_ = (([(⟨#[114, 101]⟩ : ByteArray), (⟨#[102, 119, 100]⟩ : ByteArray), (⟨#[102, 119]⟩ : ByteArray)] : List ByteArray)) := ⟨_, rfl⟩
        replace H : (letter_answered.l1 k1 a0 x3_1 y281 (y281.length : Int) 0) = some r := by first | (rw [hy281]; with_reducible exact H) | (have H2_ := (Option.bind_some _ _).symm.trans H; rw [hy281]; with_reducible exact H2_) | (have H2_ := (Option.bind_some _ _).symm.trans H; with_reducible exact H2_) | with_reducible exact H | (rw [hy281]; exact H) | exact H
        have Ny281 := Aside0.mk hy281
        clear hy281
        have H' := Aside0.mk H
        clear H
        go_wp2_with (first | ((with_reducible refine gate_dst (N := 19) rfl ?_); refine Kd.R_lit Kd.string _ 9 ?hg (N := 19) ?hd (xs := ([(⟨#[114, 101]⟩ : ByteArray), (⟨#[102, 119, 100]⟩ : ByteArray), (⟨#[102, 119]⟩ : ByteArray)] : List ByteArray)) (inner := [.string (⟨#[114, 101]⟩ : ByteArray), .string (⟨#[102, 119, 100]⟩ : ByteArray), .string (⟨#[102, 119]⟩ : ByteArray)]) (ok := fun _ => True) (okp := fun _ => True) ?hr ?hp (fun _ hk => hk) trivial (Below.refl _ _) (Nat.le_refl _) (by simp) ?_; (case hd => rfl); (case hg => rfl); (case hr => first | (go_simp; done) | (go_simp; rfl)); (case hp => exact (Reps.one (show Kd.M Kd.string _ _ _ (⟨#[114, 101]⟩ : ByteArray) [.string (⟨#[114, 101]⟩ : ByteArray)] from rfl) (Reps.one (show Kd.M Kd.string _ _ _ (⟨#[102, 119, 100]⟩ : ByteArray) [.string (⟨#[102, 119, 100]⟩ : ByteArray)] from rfl) (Reps.one (show Kd.M Kd.string _ _ _ (⟨#[102, 119]⟩ : ByteArray) [.string (⟨#[102, 119]⟩ : ByteArray)] from rfl) (Reps.none _ _))))); intro v282 w10 ho11 hb hg_ hnew_; clear hg_ hnew_; (first | rw [← Ny281.out] at ho11 | (simp only [Int.reduceToNat] at ho11; rw [← Ny281.out] at ho11)); have n0_ := Aside0.mk (Kd.R_lower ho11 (below_size (by repeat (first | (with_reducible first | exact HB.out | apply below_alloc | apply pw_below_drewN | apply below_drew1) | exact HB.out)))); have n1_ := Aside0.mk (below_step (by repeat (first | (with_reducible first | exact HB.out | apply below_alloc | apply pw_below_drewN | apply below_drew1) | exact HB.out)) hb); clear HB; have HO283 := n0_; have HB := n1_; clear n0_ n1_; clear hb ho11; obtain ⟨Ao12, co12, eo12⟩ := Kd.R_slice HO283.out; subst eo12))
        go_loopg [21] k1 (fun kq v21 w' => ∃ (x21_2 : Int), v21 = .int .i64 x21_2 ∧ Aside0 (letter_answered.l1 kq a0 x3_1 y281 (y281.length : Int) x21_2 = some r) ∧ Aside0 (kq ≤ k1) ∧ Aside0 (Kd.R Kd.string 9 w' w.heap.size (fun _ => True) (.slice Ao12 y281.length co12) y281) ∧ Aside0 (Below w.heap.size w w'))
        case atStart => exact ⟨(0), (by first | rfl | (simp; done) | (simp [*]; done)), H', ⟨Nat.le_refl _⟩, ⟨by (with_reducible repeat (first | apply Kd.R_alloc | apply Kd.R_drewN | apply Kd.R_drew)); exact HO283.out⟩, ⟨by repeat (first | (with_reducible first | exact HB.out | apply below_alloc | apply pw_below_drewN | apply below_drew1) | exact HB.out)⟩⟩
        case round =>
          clear H'
          try clear p2
          try clear c4
          try clear c4b0
          try clear c6
          try clear c6b0
          try clear c6b1
          try clear p6
          try clear c7
          try clear c7b0
          try clear c7b1
          try clear c8
          try clear c9
          try clear p2
          obtain ⟨x21_2, rfl, HA, HK2, HO_19, HB⟩ := hrel
          cases gk with
          | zero => exact absurd HA.out (by simp [letter_answered.l1])
          | succ k2 =>
            have H := HA.out
            clear HA
            simp only [letter_answered.l1] at H
            by_cases c13 : x21_2 < (y281.length : Int)
            · rw [if_pos c13] at H
              have c13b0 : decide (x21_2 < (y281.length : Int)) = true := decide_eq_true c13
              clear c13
              by_cases c14 : 0 ≤ x21_2
              · rw [if_pos c14] at H
                have c14b0 : decide (0 ≤ x21_2) = true := decide_eq_true c14
                clear c14
                by_cases c15 : x21_2 < (y281.length : Int)
                · rw [if_pos c15] at H
                  have c15b0 : decide (x21_2 < (y281.length : Int)) = true := decide_eq_true c15
                  clear c15
                  by_cases c16 : 0 ≤ x3_1
                  · rw [if_pos c16] at H
                    have c16b0 := eq_true c16
                    have c16b1 : decide (0 ≤ x3_1) = true := decide_eq_true c16
                    clear c16
                    by_cases c17 : x3_1 ≤ (a0.size : Int)
                    · rw [if_pos c17] at H
                      have c17b0 := eq_true c17
                      have c17b1 : decide (x3_1 ≤ (a0.size : Int)) = true := decide_eq_true c17
                      clear c17
                      replace H := Option.bind_eq_some_iff.mp H
                      obtain ⟨t285, A180, H⟩ := H
                      replace H : (if t285 = true then ((letter_blanks.f k2 a0 (wrap64 (x3_1 + ((rdOf ByteArray.empty y281 x21_2).size : Int)))).bind fun t286 => (if 0 ≤ t286 then (if t286 ≤ (a0.size : Int) then ((letter_blob.f k2 (a0.extract (t286 : Int).toNat a0.size)).bind fun t287 => (if (wrap64 (t286 + t287)) < (a0.size : Int) then (if 0 ≤ (wrap64 (t286 + t287)) then (if (bt a0 (wrap64 (t286 + t287))) = 58 then (some (wrap64 ((wrap64 (t286 + t287)) + 1))) else (letter_answered.l1 k2 a0 x3_1 y281 (y281.length : Int) (wrap64 (x21_2 + 1)))) else (none)) else (letter_answered.l1 k2 a0 x3_1 y281 (y281.length : Int) (wrap64 (x21_2 + 1))))) else (none)) else (none))) else (letter_answered.l1 k2 a0 x3_1 y281 (y281.length : Int) (wrap64 (x21_2 + 1)))) = some r := H
                      have A18 := Aside0.mk A180
                      clear A180
                      by_cases c19 : t285 = true
                      · subst c19
                        have H1 : ((letter_blanks.f k2 a0 (wrap64 (x3_1 + ((rdOf ByteArray.empty y281 x21_2).size : Int)))).bind fun t286 => (if 0 ≤ t286 then (if t286 ≤ (a0.size : Int) then ((letter_blob.f k2 (a0.extract (t286 : Int).toNat a0.size)).bind fun t287 => (if (wrap64 (t286 + t287)) < (a0.size : Int) then (if 0 ≤ (wrap64 (t286 + t287)) then (if (bt a0 (wrap64 (t286 + t287))) = 58 then (some (wrap64 ((wrap64 (t286 + t287)) + 1))) else (letter_answered.l1 k2 a0 x3_1 y281 (y281.length : Int) (wrap64 (x21_2 + 1)))) else (none)) else (letter_answered.l1 k2 a0 x3_1 y281 (y281.length : Int) (wrap64 (x21_2 + 1))))) else (none)) else (none))) = some r := by rw [if_pos rfl] at H; exact H
                        clear H
                        have H := H1
                        clear H1
                        replace H := Option.bind_eq_some_iff.mp H
                        obtain ⟨t286, A200, H⟩ := H
                        replace H : (if 0 ≤ t286 then (if t286 ≤ (a0.size : Int) then ((letter_blob.f k2 (a0.extract (t286 : Int).toNat a0.size)).bind fun t287 => (if (wrap64 (t286 + t287)) < (a0.size : Int) then (if 0 ≤ (wrap64 (t286 + t287)) then (if (bt a0 (wrap64 (t286 + t287))) = 58 then (some (wrap64 ((wrap64 (t286 + t287)) + 1))) else (letter_answered.l1 k2 a0 x3_1 y281 (y281.length : Int) (wrap64 (x21_2 + 1)))) else (none)) else (letter_answered.l1 k2 a0 x3_1 y281 (y281.length : Int) (wrap64 (x21_2 + 1))))) else (none)) else (none)) = some r := H
                        have A20 := Aside0.mk A200
                        clear A200
                        by_cases c21 : 0 ≤ t286
                        · rw [if_pos c21] at H
                          have c21b0 := eq_true c21
                          have c21b1 : decide (0 ≤ t286) = true := decide_eq_true c21
                          clear c21
                          by_cases c22 : t286 ≤ (a0.size : Int)
                          · rw [if_pos c22] at H
                            have c22b0 := eq_true c22
                            have c22b1 : decide (t286 ≤ (a0.size : Int)) = true := decide_eq_true c22
                            clear c22
                            replace H := Option.bind_eq_some_iff.mp H
                            obtain ⟨t287, A230, H⟩ := H
                            replace H : (if (wrap64 (t286 + t287)) < (a0.size : Int) then (if 0 ≤ (wrap64 (t286 + t287)) then (if (bt a0 (wrap64 (t286 + t287))) = 58 then (some (wrap64 ((wrap64 (t286 + t287)) + 1))) else (letter_answered.l1 k2 a0 x3_1 y281 (y281.length : Int) (wrap64 (x21_2 + 1)))) else (none)) else (letter_answered.l1 k2 a0 x3_1 y281 (y281.length : Int) (wrap64 (x21_2 + 1)))) = some r := H
                            have A23 := Aside0.mk A230
                            clear A230
                            by_cases c24 : (wrap64 (t286 + t287)) < (a0.size : Int)
                            · rw [if_pos c24] at H
                              have c24b0 : decide ((wrap64 (t286 + t287)) < (a0.size : Int)) = true := decide_eq_true c24
                              clear c24
                              obtain ⟨ji25, hji25⟩ : ∃ j_ : Int, (wrap64 (t286 + t287)) = j_ := ⟨_, rfl⟩
                              replace H : (if 0 ≤ (ji25) then (if (bt a0 (ji25)) = 58 then (some (wrap64 ((ji25) + 1))) else (letter_answered.l1 k2 a0 x3_1 y281 (y281.length : Int) (wrap64 (x21_2 + 1)))) else (none)) = some r := by first | (rw [hji25] at H; exact H) | (simp only [hji25] at H ⊢; exact H)
                              (try rw [hji25] at c24b0)
                              (try rw [hji25] at A18)
                              (try rw [hji25] at A20)
                              (try rw [hji25] at A23)
                              have hji25w : (IntKind.i64.wrap (t286 + t287)) = ji25 := (i64_w _).trans hji25
                              by_cases c26 : 0 ≤ (ji25)
                              · rw [if_pos c26] at H
                                have c26b0 : decide (0 ≤ (ji25)) = true := decide_eq_true c26
                                clear c26
                                by_cases c28 : (bt a0 (ji25)) = 58
                                · rw [if_pos c28] at H
                                  have c28b0 : ((bt a0 (ji25)) == 58) = true := beq_iff_eq.mpr c28
                                  have c28b1 : ((bt a0 (ji25)) != 58) = false := bne_eq_false_iff_eq.mpr c28
                                  clear c28
                                  obtain rfl := Option.some.inj H
                                  have p284 : 0 ≤ (x21_2 : Int) := of_decide_eq_true (by first | (with_reducible assumption) | assumption)
                                  have q284 : x21_2 < (y281.length : Int) := of_decide_eq_true (by first | (with_reducible assumption) | assumption)
                                  obtain ⟨ad284, e284, hx284_0⟩ := Kd.at_string (Kd.R_reads' HO_19.out).2.2 x21_2 p284 q284
                                  cases e284
                                  replace p284 := eq_true p284
                                  replace q284 := eq_true q284
                                  go_wp2_with (first | ((with_reducible refine gate_callee (f := 93) rfl ?_); refine goesL_ (some 29) rfl rfl Tryd.func93 (by kernel_rfl) rfl #[.string (a0.extract (x3_1 : Int).toNat a0.size), .string (rdOf ByteArray.empty y281 x21_2)] rfl (by (try simp only [List.map_toArray, List.map_cons, List.map_nil]); first | done | rfl | (simp only [List.length_drop, List.length_take]; rfl)) ?_; (with_reducible refine (letter_begin.calls (a0.extract (x3_1 : Int).toNat a0.size) (rdOf ByteArray.empty y281 x21_2) true _ A18.out).mono ?_); rintro e w29 ⟨rfl, hb⟩; refine ⟨_, rfl, ?_⟩; have n0_ := Aside0.mk (Kd.R_below (by (with_reducible repeat (first | apply Kd.R_alloc | apply Kd.R_drewN | apply Kd.R_drew)); exact HO_19.out) hb); have n1_ := Aside0.mk (below_step (by repeat (first | (with_reducible first | exact HB.out | apply below_alloc | apply pw_below_drewN | apply below_drew1) | exact HB.out)) hb); clear HO_19; clear HB; have HO_19 := n0_; have HB := n1_; clear n0_ n1_; (try clear hb); (try clear hb2); (try clear hk); (try clear hi)) | ((with_reducible refine gate_callee (f := 125) rfl ?_); refine goesL_ (some 36) rfl rfl Tryd.func125 (by kernel_rfl) rfl #[.string a0, .int .i64 (wrap64 (x3_1 + ((rdOf ByteArray.empty y281 x21_2).size : Int)))] rfl (by (try simp only [List.map_toArray, List.map_cons, List.map_nil]); first | done | rfl | (simp only [List.length_drop, List.length_take]; rfl)) ?_; (with_reducible refine (letter_blanks.calls k2 a0 (wrap64 (x3_1 + ((rdOf ByteArray.empty y281 x21_2).size : Int))) t286 _ A20.out).mono ?_); rintro e w' ⟨rfl, ⟨nd, rfl⟩⟩; refine ⟨_, rfl, ?_⟩) | ((with_reducible refine gate_callee (f := 91) rfl ?_); refine goesL_ (some 41) rfl rfl Tryd.func91 (by kernel_rfl) rfl #[.string (a0.extract (t286 : Int).toNat a0.size)] rfl (by (try simp only [List.map_toArray, List.map_cons, List.map_nil]); first | done | rfl | (simp only [List.length_drop, List.length_take]; rfl)) ?_; (with_reducible refine (letter_blob.calls k2 (a0.extract (t286 : Int).toNat a0.size) t287 _ A23.out).mono ?_); rintro e w30 ⟨rfl, hb⟩; refine ⟨_, rfl, ?_⟩; have n0_ := Aside0.mk (Kd.R_below (by (with_reducible repeat (first | apply Kd.R_alloc | apply Kd.R_drewN | apply Kd.R_drew)); exact HO_19.out) hb); have n1_ := Aside0.mk (below_step (by repeat (first | (with_reducible first | exact HB.out | apply below_alloc | apply pw_below_drewN | apply below_drew1) | exact HB.out)) hb); clear HO_19; clear HB; have HO_19 := n0_; have HB := n1_; clear n0_ n1_; (try clear hb); (try clear hb2); (try clear hk); (try clear hi); have p27 : 0 ≤ ((ji25) : Int) := of_decide_eq_true (by first | (with_reducible assumption) | assumption); have q27 : (ji25) < (a0.size : Int) := of_decide_eq_true (by first | (with_reducible assumption) | assumption); have hx27 := bt_at a0 (ji25); replace p27 := eq_true p27; replace q27 := eq_true q27))
                                  go_ret
                                  exact ⟨by first | rfl | (simp [errW_none, errW_some] <;> rfl) | (simp only [← hji25]; first | rfl | (simp [errW_none, errW_some] <;> rfl)) | (simp [*, errW_none, errW_some] <;> rfl), by repeat (first | (with_reducible first | exact HB.out | apply below_alloc | apply pw_below_drewN | apply below_drew1) | exact HB.out)⟩
                                · rw [if_neg c28] at H
                                  have c28b0 : ((bt a0 (ji25)) == 58) = false := beq_eq_false_iff_ne.mpr c28
                                  have c28b1 : ((bt a0 (ji25)) != 58) = true := bne_iff_ne.mpr c28
                                  have H' := Aside0.mk H
                                  clear H
                                  have p284 : 0 ≤ (x21_2 : Int) := of_decide_eq_true (by first | (with_reducible assumption) | assumption)
                                  have q284 : x21_2 < (y281.length : Int) := of_decide_eq_true (by first | (with_reducible assumption) | assumption)
                                  obtain ⟨ad284, e284, hx284_0⟩ := Kd.at_string (Kd.R_reads' HO_19.out).2.2 x21_2 p284 q284
                                  cases e284
                                  replace p284 := eq_true p284
                                  replace q284 := eq_true q284
                                  go_wp2_with (first | ((with_reducible refine gate_callee (f := 93) rfl ?_); refine goesL_ (some 29) rfl rfl Tryd.func93 (by kernel_rfl) rfl #[.string (a0.extract (x3_1 : Int).toNat a0.size), .string (rdOf ByteArray.empty y281 x21_2)] rfl (by (try simp only [List.map_toArray, List.map_cons, List.map_nil]); first | done | rfl | (simp only [List.length_drop, List.length_take]; rfl)) ?_; (with_reducible refine (letter_begin.calls (a0.extract (x3_1 : Int).toNat a0.size) (rdOf ByteArray.empty y281 x21_2) true _ A18.out).mono ?_); rintro e w31 ⟨rfl, hb⟩; refine ⟨_, rfl, ?_⟩; have n0_ := Aside0.mk (Kd.R_below (by (with_reducible repeat (first | apply Kd.R_alloc | apply Kd.R_drewN | apply Kd.R_drew)); exact HO_19.out) hb); have n1_ := Aside0.mk (below_step (by repeat (first | (with_reducible first | exact HB.out | apply below_alloc | apply pw_below_drewN | apply below_drew1) | exact HB.out)) hb); clear HO_19; clear HB; have HO_19 := n0_; have HB := n1_; clear n0_ n1_; (try clear hb); (try clear hb2); (try clear hk); (try clear hi)) | ((with_reducible refine gate_callee (f := 125) rfl ?_); refine goesL_ (some 36) rfl rfl Tryd.func125 (by kernel_rfl) rfl #[.string a0, .int .i64 (wrap64 (x3_1 + ((rdOf ByteArray.empty y281 x21_2).size : Int)))] rfl (by (try simp only [List.map_toArray, List.map_cons, List.map_nil]); first | done | rfl | (simp only [List.length_drop, List.length_take]; rfl)) ?_; (with_reducible refine (letter_blanks.calls k2 a0 (wrap64 (x3_1 + ((rdOf ByteArray.empty y281 x21_2).size : Int))) t286 _ A20.out).mono ?_); rintro e w' ⟨rfl, ⟨nd, rfl⟩⟩; refine ⟨_, rfl, ?_⟩) | ((with_reducible refine gate_callee (f := 91) rfl ?_); refine goesL_ (some 41) rfl rfl Tryd.func91 (by kernel_rfl) rfl #[.string (a0.extract (t286 : Int).toNat a0.size)] rfl (by (try simp only [List.map_toArray, List.map_cons, List.map_nil]); first | done | rfl | (simp only [List.length_drop, List.length_take]; rfl)) ?_; (with_reducible refine (letter_blob.calls k2 (a0.extract (t286 : Int).toNat a0.size) t287 _ A23.out).mono ?_); rintro e w32 ⟨rfl, hb⟩; refine ⟨_, rfl, ?_⟩; have n0_ := Aside0.mk (Kd.R_below (by (with_reducible repeat (first | apply Kd.R_alloc | apply Kd.R_drewN | apply Kd.R_drew)); exact HO_19.out) hb); have n1_ := Aside0.mk (below_step (by repeat (first | (with_reducible first | exact HB.out | apply below_alloc | apply pw_below_drewN | apply below_drew1) | exact HB.out)) hb); clear HO_19; clear HB; have HO_19 := n0_; have HB := n1_; clear n0_ n1_; (try clear hb); (try clear hb2); (try clear hk); (try clear hi); have p27 : 0 ≤ ((ji25) : Int) := of_decide_eq_true (by first | (with_reducible assumption) | assumption); have q27 : (ji25) < (a0.size : Int) := of_decide_eq_true (by first | (with_reducible assumption) | assumption); have hx27 := bt_at a0 (ji25); replace p27 := eq_true p27; replace q27 := eq_true q27))
                                  go_roundg k2
                                  case measure => have := HK1.out; have := HK2.out; omega
                                  case rel => exact ⟨(wrap64 (x21_2 + 1)), (by first | rfl | (simp; done) | (simp [*]; done)), H', ⟨by have := HK1.out; have := HK2.out; omega⟩, ⟨by (with_reducible repeat (first | apply Kd.R_alloc | apply Kd.R_drewN | apply Kd.R_drew)); exact HO_19.out⟩, ⟨by repeat (first | (with_reducible first | exact HB.out | apply below_alloc | apply pw_below_drewN | apply below_drew1) | exact HB.out)⟩⟩
                              · rw [if_neg c26] at H
                                exact absurd H (by simp)
                            · rw [if_neg c24] at H
                              have c24b0 : decide ((wrap64 (t286 + t287)) < (a0.size : Int)) = false := decide_eq_false c24
                              clear c24
                              have H' := Aside0.mk H
                              clear H
                              have p284 : 0 ≤ (x21_2 : Int) := of_decide_eq_true (by first | (with_reducible assumption) | assumption)
                              have q284 : x21_2 < (y281.length : Int) := of_decide_eq_true (by first | (with_reducible assumption) | assumption)
                              obtain ⟨ad284, e284, hx284_0⟩ := Kd.at_string (Kd.R_reads' HO_19.out).2.2 x21_2 p284 q284
                              cases e284
                              replace p284 := eq_true p284
                              replace q284 := eq_true q284
                              go_wp2_with (first | ((with_reducible refine gate_callee (f := 93) rfl ?_); refine goesL_ (some 29) rfl rfl Tryd.func93 (by kernel_rfl) rfl #[.string (a0.extract (x3_1 : Int).toNat a0.size), .string (rdOf ByteArray.empty y281 x21_2)] rfl (by (try simp only [List.map_toArray, List.map_cons, List.map_nil]); first | done | rfl | (simp only [List.length_drop, List.length_take]; rfl)) ?_; (with_reducible refine (letter_begin.calls (a0.extract (x3_1 : Int).toNat a0.size) (rdOf ByteArray.empty y281 x21_2) true _ A18.out).mono ?_); rintro e w33 ⟨rfl, hb⟩; refine ⟨_, rfl, ?_⟩; have n0_ := Aside0.mk (Kd.R_below (by (with_reducible repeat (first | apply Kd.R_alloc | apply Kd.R_drewN | apply Kd.R_drew)); exact HO_19.out) hb); have n1_ := Aside0.mk (below_step (by repeat (first | (with_reducible first | exact HB.out | apply below_alloc | apply pw_below_drewN | apply below_drew1) | exact HB.out)) hb); clear HO_19; clear HB; have HO_19 := n0_; have HB := n1_; clear n0_ n1_; (try clear hb); (try clear hb2); (try clear hk); (try clear hi)) | ((with_reducible refine gate_callee (f := 125) rfl ?_); refine goesL_ (some 36) rfl rfl Tryd.func125 (by kernel_rfl) rfl #[.string a0, .int .i64 (wrap64 (x3_1 + ((rdOf ByteArray.empty y281 x21_2).size : Int)))] rfl (by (try simp only [List.map_toArray, List.map_cons, List.map_nil]); first | done | rfl | (simp only [List.length_drop, List.length_take]; rfl)) ?_; (with_reducible refine (letter_blanks.calls k2 a0 (wrap64 (x3_1 + ((rdOf ByteArray.empty y281 x21_2).size : Int))) t286 _ A20.out).mono ?_); rintro e w' ⟨rfl, ⟨nd, rfl⟩⟩; refine ⟨_, rfl, ?_⟩) | ((with_reducible refine gate_callee (f := 91) rfl ?_); refine goesL_ (some 41) rfl rfl Tryd.func91 (by kernel_rfl) rfl #[.string (a0.extract (t286 : Int).toNat a0.size)] rfl (by (try simp only [List.map_toArray, List.map_cons, List.map_nil]); first | done | rfl | (simp only [List.length_drop, List.length_take]; rfl)) ?_; (with_reducible refine (letter_blob.calls k2 (a0.extract (t286 : Int).toNat a0.size) t287 _ A23.out).mono ?_); rintro e w34 ⟨rfl, hb⟩; refine ⟨_, rfl, ?_⟩; have n0_ := Aside0.mk (Kd.R_below (by (with_reducible repeat (first | apply Kd.R_alloc | apply Kd.R_drewN | apply Kd.R_drew)); exact HO_19.out) hb); have n1_ := Aside0.mk (below_step (by repeat (first | (with_reducible first | exact HB.out | apply below_alloc | apply pw_below_drewN | apply below_drew1) | exact HB.out)) hb); clear HO_19; clear HB; have HO_19 := n0_; have HB := n1_; clear n0_ n1_; (try clear hb); (try clear hb2); (try clear hk); (try clear hi)))
                              go_roundg k2
                              case measure => have := HK1.out; have := HK2.out; omega
                              case rel => exact ⟨(wrap64 (x21_2 + 1)), (by first | rfl | (simp; done) | (simp [*]; done)), H', ⟨by have := HK1.out; have := HK2.out; omega⟩, ⟨by (with_reducible repeat (first | apply Kd.R_alloc | apply Kd.R_drewN | apply Kd.R_drew)); exact HO_19.out⟩, ⟨by repeat (first | (with_reducible first | exact HB.out | apply below_alloc | apply pw_below_drewN | apply below_drew1) | exact HB.out)⟩⟩
                          · rw [if_neg c22] at H
                            exact absurd H (by simp)
                        · rw [if_neg c21] at H
                          exact absurd H (by simp)
                      · replace c19 := Bool.eq_false_iff.mpr c19
                        subst c19
                        have H1 : (letter_answered.l1 k2 a0 x3_1 y281 (y281.length : Int) (wrap64 (x21_2 + 1))) = some r := by rw [if_neg (show ¬ (false = true) by decide)] at H; exact H
                        clear H
                        have H := H1
                        clear H1
                        have H' := Aside0.mk H
                        clear H
                        have p284 : 0 ≤ (x21_2 : Int) := of_decide_eq_true (by first | (with_reducible assumption) | assumption)
                        have q284 : x21_2 < (y281.length : Int) := of_decide_eq_true (by first | (with_reducible assumption) | assumption)
                        obtain ⟨ad284, e284, hx284_0⟩ := Kd.at_string (Kd.R_reads' HO_19.out).2.2 x21_2 p284 q284
                        cases e284
                        replace p284 := eq_true p284
                        replace q284 := eq_true q284
                        go_wp2_with (first | ((with_reducible refine gate_callee (f := 93) rfl ?_); refine goesL_ (some 29) rfl rfl Tryd.func93 (by kernel_rfl) rfl #[.string (a0.extract (x3_1 : Int).toNat a0.size), .string (rdOf ByteArray.empty y281 x21_2)] rfl (by (try simp only [List.map_toArray, List.map_cons, List.map_nil]); first | done | rfl | (simp only [List.length_drop, List.length_take]; rfl)) ?_; (with_reducible refine (letter_begin.calls (a0.extract (x3_1 : Int).toNat a0.size) (rdOf ByteArray.empty y281 x21_2) false _ A18.out).mono ?_); rintro e w35 ⟨rfl, hb⟩; refine ⟨_, rfl, ?_⟩; have n0_ := Aside0.mk (Kd.R_below (by (with_reducible repeat (first | apply Kd.R_alloc | apply Kd.R_drewN | apply Kd.R_drew)); exact HO_19.out) hb); have n1_ := Aside0.mk (below_step (by repeat (first | (with_reducible first | exact HB.out | apply below_alloc | apply pw_below_drewN | apply below_drew1) | exact HB.out)) hb); clear HO_19; clear HB; have HO_19 := n0_; have HB := n1_; clear n0_ n1_; (try clear hb); (try clear hb2); (try clear hk); (try clear hi)))
                        go_roundg k2
                        case measure => have := HK1.out; have := HK2.out; omega
                        case rel => exact ⟨(wrap64 (x21_2 + 1)), (by first | rfl | (simp; done) | (simp [*]; done)), H', ⟨by have := HK1.out; have := HK2.out; omega⟩, ⟨by (with_reducible repeat (first | apply Kd.R_alloc | apply Kd.R_drewN | apply Kd.R_drew)); exact HO_19.out⟩, ⟨by repeat (first | (with_reducible first | exact HB.out | apply below_alloc | apply pw_below_drewN | apply below_drew1) | exact HB.out)⟩⟩
                    · rw [if_neg c17] at H
                      exact absurd H (by simp)
                  · rw [if_neg c16] at H
                    exact absurd H (by simp)
                · rw [if_neg c15] at H
                  exact absurd H (by simp)
              · rw [if_neg c14] at H
                exact absurd H (by simp)
            · rw [if_neg c13] at H
              have c13b0 : decide (x21_2 < (y281.length : Int)) = false := decide_eq_false c13
              clear c13
              obtain rfl := Option.some.inj H
              go_wp2
              go_ret
              exact ⟨by first | rfl | (simp [errW_none, errW_some] <;> rfl) | (simp [*, errW_none, errW_some] <;> rfl), by repeat (first | (with_reducible first | exact HB.out | apply below_alloc | apply pw_below_drewN | apply below_drew1) | exact HB.out)⟩

/-! ### letter_rules_4: function 88 -/
def letter_rules_4.f (k : Nat) (a0 : ByteArray) : Option (ByteArray × Bool) := (letter_answered.f k a0).bind fun t288 => (if 0 ≤ t288 then (if t288 ≤ (a0.size : Int) then (some (a0.extract (t288 : Int).toNat a0.size, decide (t288 > 0))) else (none)) else (none))
theorem letter_rules_4.mono : ∀ a0 k, LeO (letter_rules_4.f k a0) (letter_rules_4.f (k + 1) a0) := by
  intro a0 k
  unfold letter_rules_4.f
  repeat' first
      | (with_reducible exact letter_answered.mono _ _)
      | (with_reducible exact LeO.refl _)
      | (with_reducible exact LeO.none _)
      | (with_reducible refine LeO.ite ?_ ?_)
      | (with_reducible refine LeO.bind ?_ (fun _ => ?_))
      | exact letter_answered.mono _ _
      | exact LeO.none _
      | refine LeO.ite ?_ ?_
      | refine LeO.bind ?_ (fun _ => ?_)
set_option maxHeartbeats 8000000 in
set_option maxRecDepth 100000 in
theorem letter_rules_4.calls (k : Nat) (a0 : ByteArray) (r1 : ByteArray) (r2 : Bool) (w : World) (h : letter_rules_4.f k a0 = some (r1, r2)) :
    Calls Tryd.prog 88 #[.string a0] w fun e w' => e = .returned (.tuple #[.string r1, .bool r2]) ∧ Below w.heap.size w w' := by
  have HB := Aside0.mk (Below.refl w.heap.size w)
  have H : ((letter_answered.f k a0).bind fun t288 => (if 0 ≤ t288 then (if t288 ≤ (a0.size : Int) then (some (a0.extract (t288 : Int).toNat a0.size, decide (t288 > 0))) else (none)) else (none))) = some (r1, r2) := h
  clear h
  replace H := Option.bind_eq_some_iff.mp H
  obtain ⟨t288, A20, H⟩ := H
  replace H : (if 0 ≤ t288 then (if t288 ≤ (a0.size : Int) then (some (a0.extract (t288 : Int).toNat a0.size, decide (t288 > 0))) else (none)) else (none)) = some (r1, r2) := H
  have A2 := Aside0.mk A20
  clear A20
  by_cases c3 : 0 ≤ t288
  · rw [if_pos c3] at H
    have c3b0 := eq_true c3
    have c3b1 : decide (0 ≤ t288) = true := decide_eq_true c3
    clear c3
    by_cases c4 : t288 ≤ (a0.size : Int)
    · rw [if_pos c4] at H
      have c4b0 := eq_true c4
      have c4b1 : decide (t288 ≤ (a0.size : Int)) = true := decide_eq_true c4
      clear c4
      simp only [Option.some.injEq, Prod.mk.injEq] at H
      obtain ⟨rfl, rfl⟩ := H
      go_enter Tryd.func88, Tryd.ntmps88
      go_wp2_with (first | ((with_reducible refine gate_callee (f := 89) rfl ?_); refine goesL_ (some 6) rfl rfl Tryd.func89 (by kernel_rfl) rfl #[.string a0] rfl (by (try simp only [List.map_toArray, List.map_cons, List.map_nil]); first | done | rfl | (simp only [List.length_drop, List.length_take]; rfl)) ?_; (with_reducible refine (letter_answered.calls k a0 t288 _ A2.out).mono ?_); rintro e w5 ⟨rfl, hb⟩; refine ⟨_, rfl, ?_⟩; have n0_ := Aside0.mk (below_step (by repeat (first | (with_reducible first | exact HB.out | apply below_alloc | apply pw_below_drewN | apply below_drew1) | exact HB.out)) hb); clear HB; have HB := n0_; clear n0_; (try clear hb); (try clear hb2); (try clear hk); (try clear hi)))
      go_ret2
      exact ⟨by first | rfl | (simp [errW_none, errW_some] <;> rfl) | (simp [*, errW_none, errW_some] <;> rfl), by repeat (first | (with_reducible first | exact HB.out | apply below_alloc | apply pw_below_drewN | apply below_drew1) | exact HB.out)⟩
    · rw [if_neg c4] at H
      exact absurd H (by simp)
  · rw [if_neg c3] at H
    exact absurd H (by simp)

/-! ### letter_rules_5: function 90 -/
def letter_rules_5.f (k : Nat) (a0 : ByteArray) : Option (ByteArray × Bool) := (letter_blob.f k a0).bind fun t289 => (if t289 = (a0.size : Int) then (some (a0, false)) else (if 0 ≤ t289 then (if t289 ≤ (a0.size : Int) then (some (a0.extract (t289 : Int).toNat a0.size, decide (t289 > 0))) else (none)) else (none)))
theorem letter_rules_5.mono : ∀ a0 k, LeO (letter_rules_5.f k a0) (letter_rules_5.f (k + 1) a0) := by
  intro a0 k
  unfold letter_rules_5.f
  repeat' first
      | (with_reducible exact letter_blob.mono _ _)
      | (with_reducible exact LeO.refl _)
      | (with_reducible exact LeO.none _)
      | (with_reducible refine LeO.ite ?_ ?_)
      | (with_reducible refine LeO.bind ?_ (fun _ => ?_))
      | exact letter_blob.mono _ _
      | exact LeO.none _
      | refine LeO.ite ?_ ?_
      | refine LeO.bind ?_ (fun _ => ?_)
set_option maxHeartbeats 8000000 in
set_option maxRecDepth 100000 in
theorem letter_rules_5.calls (k : Nat) (a0 : ByteArray) (r1 : ByteArray) (r2 : Bool) (w : World) (h : letter_rules_5.f k a0 = some (r1, r2)) :
    Calls Tryd.prog 90 #[.string a0] w fun e w' => e = .returned (.tuple #[.string r1, .bool r2]) ∧ Below w.heap.size w w' := by
  have HB := Aside0.mk (Below.refl w.heap.size w)
  have H : ((letter_blob.f k a0).bind fun t289 => (if t289 = (a0.size : Int) then (some (a0, false)) else (if 0 ≤ t289 then (if t289 ≤ (a0.size : Int) then (some (a0.extract (t289 : Int).toNat a0.size, decide (t289 > 0))) else (none)) else (none)))) = some (r1, r2) := h
  clear h
  replace H := Option.bind_eq_some_iff.mp H
  obtain ⟨t289, A20, H⟩ := H
  replace H : (if t289 = (a0.size : Int) then (some (a0, false)) else (if 0 ≤ t289 then (if t289 ≤ (a0.size : Int) then (some (a0.extract (t289 : Int).toNat a0.size, decide (t289 > 0))) else (none)) else (none))) = some (r1, r2) := H
  have A2 := Aside0.mk A20
  clear A20
  by_cases c3 : t289 = (a0.size : Int)
  · rw [if_pos c3] at H
    have c3b0 : (t289 == (a0.size : Int)) = true := beq_iff_eq.mpr c3
    have c3b1 : (t289 != (a0.size : Int)) = false := bne_eq_false_iff_eq.mpr c3
    clear c3
    simp only [Option.some.injEq, Prod.mk.injEq] at H
    obtain ⟨rfl, rfl⟩ := H
    go_enter Tryd.func90, Tryd.ntmps90
    go_wp2_with (first | ((with_reducible refine gate_callee (f := 91) rfl ?_); refine goesL_ (some 6) rfl rfl Tryd.func91 (by kernel_rfl) rfl #[.string a0] rfl (by (try simp only [List.map_toArray, List.map_cons, List.map_nil]); first | done | rfl | (simp only [List.length_drop, List.length_take]; rfl)) ?_; (with_reducible refine (letter_blob.calls k a0 t289 _ A2.out).mono ?_); rintro e w4 ⟨rfl, hb⟩; refine ⟨_, rfl, ?_⟩; have n0_ := Aside0.mk (below_step (by repeat (first | (with_reducible first | exact HB.out | apply below_alloc | apply pw_below_drewN | apply below_drew1) | exact HB.out)) hb); clear HB; have HB := n0_; clear n0_; (try clear hb); (try clear hb2); (try clear hk); (try clear hi)))
    go_ret2
    exact ⟨by first | rfl | (simp [errW_none, errW_some] <;> rfl) | (simp [*, errW_none, errW_some] <;> rfl), by repeat (first | (with_reducible first | exact HB.out | apply below_alloc | apply pw_below_drewN | apply below_drew1) | exact HB.out)⟩
  · rw [if_neg c3] at H
    have c3b0 : (t289 == (a0.size : Int)) = false := beq_eq_false_iff_ne.mpr c3
    have c3b1 : (t289 != (a0.size : Int)) = true := bne_iff_ne.mpr c3
    by_cases c5 : 0 ≤ t289
    · rw [if_pos c5] at H
      have c5b0 := eq_true c5
      have c5b1 : decide (0 ≤ t289) = true := decide_eq_true c5
      clear c5
      by_cases c6 : t289 ≤ (a0.size : Int)
      · rw [if_pos c6] at H
        have c6b0 := eq_true c6
        have c6b1 : decide (t289 ≤ (a0.size : Int)) = true := decide_eq_true c6
        clear c6
        simp only [Option.some.injEq, Prod.mk.injEq] at H
        obtain ⟨rfl, rfl⟩ := H
        go_enter Tryd.func90, Tryd.ntmps90
        go_wp2_with (first | ((with_reducible refine gate_callee (f := 91) rfl ?_); refine goesL_ (some 6) rfl rfl Tryd.func91 (by kernel_rfl) rfl #[.string a0] rfl (by (try simp only [List.map_toArray, List.map_cons, List.map_nil]); first | done | rfl | (simp only [List.length_drop, List.length_take]; rfl)) ?_; (with_reducible refine (letter_blob.calls k a0 t289 _ A2.out).mono ?_); rintro e w7 ⟨rfl, hb⟩; refine ⟨_, rfl, ?_⟩; have n0_ := Aside0.mk (below_step (by repeat (first | (with_reducible first | exact HB.out | apply below_alloc | apply pw_below_drewN | apply below_drew1) | exact HB.out)) hb); clear HB; have HB := n0_; clear n0_; (try clear hb); (try clear hb2); (try clear hk); (try clear hi)))
        go_ret2
        exact ⟨by first | rfl | (simp [errW_none, errW_some] <;> rfl) | (simp [*, errW_none, errW_some] <;> rfl), by repeat (first | (with_reducible first | exact HB.out | apply below_alloc | apply pw_below_drewN | apply below_drew1) | exact HB.out)⟩
      · rw [if_neg c6] at H
        exact absurd H (by simp)
    · rw [if_neg c5] at H
      exact absurd H (by simp)

/-! ### strings_HasSuffix: function 56 -/
def strings_HasSuffix.f (a0 : ByteArray) (a1 : ByteArray) : Option (Bool) := (stringslite_HasSuffix.f a0 a1).bind fun t290 => (some t290)
set_option maxHeartbeats 8000000 in
set_option maxRecDepth 100000 in
theorem strings_HasSuffix.calls (a0 : ByteArray) (a1 : ByteArray) (r : Bool) (w : World) (h : strings_HasSuffix.f a0 a1 = some r) :
    Calls Tryd.prog 56 #[.string a0, .string a1] w fun e w' => e = .returned (.bool r) ∧ Drawn0 w w' := by
  have H : ((stringslite_HasSuffix.f a0 a1).bind fun t290 => (some t290)) = some r := h
  clear h
  replace H := Option.bind_eq_some_iff.mp H
  obtain ⟨t290, A30, H⟩ := H
  replace H : (some t290) = some r := H
  have A3 := Aside0.mk A30
  clear A30
  obtain rfl := Option.some.inj H
  go_enter Tryd.func56, Tryd.ntmps56
  go_wp2_with (first | ((with_reducible refine gate_callee (f := 96) rfl ?_); refine goesL_ (some 7) rfl rfl Tryd.func96 (by kernel_rfl) rfl #[.string a0, .string a1] rfl (by (try simp only [List.map_toArray, List.map_cons, List.map_nil]); first | done | rfl | (simp only [List.length_drop, List.length_take]; rfl)) ?_; (with_reducible refine (stringslite_HasSuffix.calls a0 a1 t290 _ A3.out).mono ?_); rintro e w' ⟨rfl, ⟨nd, rfl⟩⟩; refine ⟨_, rfl, ?_⟩))
  go_ret
  exact ⟨by first | rfl | (simp; done) | (simp [*]; done), by repeat (first | exact Drawn0.refl _ | apply Drawn0.step)⟩

/-! ### letter_rules_6: function 92 -/
def letter_rules_6.f (a0 : ByteArray) : Option (ByteArray × Bool) := (letter_begin.f a0 (⟨#[91, 102, 119, 100, 58]⟩ : ByteArray)).bind fun t291 => (if t291 = true then ((strings_HasSuffix.f a0 (⟨#[93]⟩ : ByteArray)).bind fun t292 => (if t292 = true then (if 5 ≤ (wrap64 ((a0.size : Int) - 1)) then (if (wrap64 ((a0.size : Int) - 1)) ≤ (a0.size : Int) then (some (a0.extract 5 ((wrap64 ((a0.size : Int) - 1)) : Int).toNat, true)) else (none)) else (none)) else (some (a0, false)))) else (some (a0, false)))
set_option maxHeartbeats 8000000 in
set_option maxRecDepth 100000 in
theorem letter_rules_6.calls (a0 : ByteArray) (r1 : ByteArray) (r2 : Bool) (w : World) (h : letter_rules_6.f a0 = some (r1, r2)) :
    Calls Tryd.prog 92 #[.string a0] w fun e w' => e = .returned (.tuple #[.string r1, .bool r2]) ∧ Below w.heap.size w w' := by
  have HB := Aside0.mk (Below.refl w.heap.size w)
  have H : ((letter_begin.f a0 (⟨#[91, 102, 119, 100, 58]⟩ : ByteArray)).bind fun t291 => (if t291 = true then ((strings_HasSuffix.f a0 (⟨#[93]⟩ : ByteArray)).bind fun t292 => (if t292 = true then (if 5 ≤ (wrap64 ((a0.size : Int) - 1)) then (if (wrap64 ((a0.size : Int) - 1)) ≤ (a0.size : Int) then (some (a0.extract 5 ((wrap64 ((a0.size : Int) - 1)) : Int).toNat, true)) else (none)) else (none)) else (some (a0, false)))) else (some (a0, false)))) = some (r1, r2) := h
  clear h
  replace H := Option.bind_eq_some_iff.mp H
  obtain ⟨t291, A20, H⟩ := H
  replace H : (if t291 = true then ((strings_HasSuffix.f a0 (⟨#[93]⟩ : ByteArray)).bind fun t292 => (if t292 = true then (if 5 ≤ (wrap64 ((a0.size : Int) - 1)) then (if (wrap64 ((a0.size : Int) - 1)) ≤ (a0.size : Int) then (some (a0.extract 5 ((wrap64 ((a0.size : Int) - 1)) : Int).toNat, true)) else (none)) else (none)) else (some (a0, false)))) else (some (a0, false))) = some (r1, r2) := H
  have A2 := Aside0.mk A20
  clear A20
  by_cases c3 : t291 = true
  · subst c3
    have H1 : ((strings_HasSuffix.f a0 (⟨#[93]⟩ : ByteArray)).bind fun t292 => (if t292 = true then (if 5 ≤ (wrap64 ((a0.size : Int) - 1)) then (if (wrap64 ((a0.size : Int) - 1)) ≤ (a0.size : Int) then (some (a0.extract 5 ((wrap64 ((a0.size : Int) - 1)) : Int).toNat, true)) else (none)) else (none)) else (some (a0, false)))) = some (r1, r2) := by rw [if_pos rfl] at H; exact H
    clear H
    have H := H1
    clear H1
    replace H := Option.bind_eq_some_iff.mp H
    obtain ⟨t292, A40, H⟩ := H
    replace H : (if t292 = true then (if 5 ≤ (wrap64 ((a0.size : Int) - 1)) then (if (wrap64 ((a0.size : Int) - 1)) ≤ (a0.size : Int) then (some (a0.extract 5 ((wrap64 ((a0.size : Int) - 1)) : Int).toNat, true)) else (none)) else (none)) else (some (a0, false))) = some (r1, r2) := H
    have A4 := Aside0.mk A40
    clear A40
    by_cases c5 : t292 = true
    · subst c5
      have H1 : (if 5 ≤ (wrap64 ((a0.size : Int) - 1)) then (if (wrap64 ((a0.size : Int) - 1)) ≤ (a0.size : Int) then (some (a0.extract 5 ((wrap64 ((a0.size : Int) - 1)) : Int).toNat, true)) else (none)) else (none)) = some (r1, r2) := by rw [if_pos rfl] at H; exact H
      clear H
      have H := H1
      clear H1
      by_cases c6 : 5 ≤ (wrap64 ((a0.size : Int) - 1))
      · rw [if_pos c6] at H
        have c6b0 := eq_true c6
        have c6b1 : decide (5 ≤ (wrap64 ((a0.size : Int) - 1))) = true := decide_eq_true c6
        clear c6
        by_cases c7 : (wrap64 ((a0.size : Int) - 1)) ≤ (a0.size : Int)
        · rw [if_pos c7] at H
          have c7b0 := eq_true c7
          have c7b1 : decide ((wrap64 ((a0.size : Int) - 1)) ≤ (a0.size : Int)) = true := decide_eq_true c7
          clear c7
          simp only [Option.some.injEq, Prod.mk.injEq] at H
          obtain ⟨rfl, rfl⟩ := H
          go_enter Tryd.func92, Tryd.ntmps92
          go_wp2_with (first | ((with_reducible refine gate_callee (f := 93) rfl ?_); refine goesL_ (some 5) rfl rfl Tryd.func93 (by kernel_rfl) rfl #[.string a0, .string (⟨#[91, 102, 119, 100, 58]⟩ : ByteArray)] rfl (by (try simp only [List.map_toArray, List.map_cons, List.map_nil]); first | done | rfl | (simp only [List.length_drop, List.length_take]; rfl)) ?_; (with_reducible refine (letter_begin.calls a0 (⟨#[91, 102, 119, 100, 58]⟩ : ByteArray) true _ A2.out).mono ?_); rintro e w8 ⟨rfl, hb⟩; refine ⟨_, rfl, ?_⟩; have n0_ := Aside0.mk (below_step (by repeat (first | (with_reducible first | exact HB.out | apply below_alloc | apply pw_below_drewN | apply below_drew1) | exact HB.out)) hb); clear HB; have HB := n0_; clear n0_; (try clear hb); (try clear hb2); (try clear hk); (try clear hi)) | (go_at_call 56; (with_reducible refine (strings_HasSuffix.calls a0 (⟨#[93]⟩ : ByteArray) true _ A4.out).mono ?_); rintro e w' ⟨rfl, ⟨nd, rfl⟩⟩))
          go_ret2
          exact ⟨by first | rfl | (simp [errW_none, errW_some] <;> rfl) | (simp [*, errW_none, errW_some] <;> rfl), by repeat (first | (with_reducible first | exact HB.out | apply below_alloc | apply pw_below_drewN | apply below_drew1) | exact HB.out)⟩
        · rw [if_neg c7] at H
          exact absurd H (by simp)
      · rw [if_neg c6] at H
        exact absurd H (by simp)
    · replace c5 := Bool.eq_false_iff.mpr c5
      subst c5
      have H1 : (some (a0, false)) = some (r1, r2) := by rw [if_neg (show ¬ (false = true) by decide)] at H; exact H
      clear H
      have H := H1
      clear H1
      simp only [Option.some.injEq, Prod.mk.injEq] at H
      obtain ⟨rfl, rfl⟩ := H
      go_enter Tryd.func92, Tryd.ntmps92
      go_wp2_with (first | ((with_reducible refine gate_callee (f := 93) rfl ?_); refine goesL_ (some 5) rfl rfl Tryd.func93 (by kernel_rfl) rfl #[.string a0, .string (⟨#[91, 102, 119, 100, 58]⟩ : ByteArray)] rfl (by (try simp only [List.map_toArray, List.map_cons, List.map_nil]); first | done | rfl | (simp only [List.length_drop, List.length_take]; rfl)) ?_; (with_reducible refine (letter_begin.calls a0 (⟨#[91, 102, 119, 100, 58]⟩ : ByteArray) true _ A2.out).mono ?_); rintro e w9 ⟨rfl, hb⟩; refine ⟨_, rfl, ?_⟩; have n0_ := Aside0.mk (below_step (by repeat (first | (with_reducible first | exact HB.out | apply below_alloc | apply pw_below_drewN | apply below_drew1) | exact HB.out)) hb); clear HB; have HB := n0_; clear n0_; (try clear hb); (try clear hb2); (try clear hk); (try clear hi)) | (go_at_call 56; (with_reducible refine (strings_HasSuffix.calls a0 (⟨#[93]⟩ : ByteArray) false _ A4.out).mono ?_); rintro e w' ⟨rfl, ⟨nd, rfl⟩⟩))
      go_ret2
      exact ⟨by first | rfl | (simp [errW_none, errW_some] <;> rfl) | (simp [*, errW_none, errW_some] <;> rfl), by repeat (first | (with_reducible first | exact HB.out | apply below_alloc | apply pw_below_drewN | apply below_drew1) | exact HB.out)⟩
  · replace c3 := Bool.eq_false_iff.mpr c3
    subst c3
    have H1 : (some (a0, false)) = some (r1, r2) := by rw [if_neg (show ¬ (false = true) by decide)] at H; exact H
    clear H
    have H := H1
    clear H1
    simp only [Option.some.injEq, Prod.mk.injEq] at H
    obtain ⟨rfl, rfl⟩ := H
    go_enter Tryd.func92, Tryd.ntmps92
    go_wp2_with (first | ((with_reducible refine gate_callee (f := 93) rfl ?_); refine goesL_ (some 5) rfl rfl Tryd.func93 (by kernel_rfl) rfl #[.string a0, .string (⟨#[91, 102, 119, 100, 58]⟩ : ByteArray)] rfl (by (try simp only [List.map_toArray, List.map_cons, List.map_nil]); first | done | rfl | (simp only [List.length_drop, List.length_take]; rfl)) ?_; (with_reducible refine (letter_begin.calls a0 (⟨#[91, 102, 119, 100, 58]⟩ : ByteArray) false _ A2.out).mono ?_); rintro e w10 ⟨rfl, hb⟩; refine ⟨_, rfl, ?_⟩; have n0_ := Aside0.mk (below_step (by repeat (first | (with_reducible first | exact HB.out | apply below_alloc | apply pw_below_drewN | apply below_drew1) | exact HB.out)) hb); clear HB; have HB := n0_; clear n0_; (try clear hb); (try clear hb2); (try clear hk); (try clear hi)))
    go_ret2
    exact ⟨by first | rfl | (simp [errW_none, errW_some] <;> rfl) | (simp [*, errW_none, errW_some] <;> rfl), by repeat (first | (with_reducible first | exact HB.out | apply below_alloc | apply pw_below_drewN | apply below_drew1) | exact HB.out)⟩

end Go.Proofs.YtgmlhmojcemliaaDoor.P
end
section
namespace Go.Proofs.YtgmlhmojcemliaaDoor.P
open Go.RowKit Go.Proofs.YtgmlhmojcemliaaDoorW.PrintWords Go.Proofs.YtgmlhmojcemliaaDoorW.PrintLast Go.Proofs.YtgmlhmojcemliaaDoorW.PrintMore
attribute [local go_sem] max2_int min2_int max_two min_two max_three min_three max_four min_four   -- for this text's walks alone
set_option linter.unusedVariables false
set_option linter.unusedSimpArgs false

/-! ### letter_Base: function 25, GIVEN -/
def letter_Base.f (a0 : ByteArray) : Option (ByteArray × Bool) := if a0 = subj then some (⟨#[104, 105]⟩, true) else none
def bt0 : ByteArray := ⟨#[82, 101, 58, 32, 104, 105]⟩
def bt1 : ByteArray := ⟨#[32, 104, 105]⟩
def bt2 : ByteArray := ⟨#[104, 105]⟩
theorem bf01 : letter_rules_1.f bt0 = some (bt0, false) := by decide +kernel
theorem bf02 : letter_rules_2.f bt0 = some (bt0, false) := by decide +kernel
theorem bf03 : letter_rules_3.f bt0 = some (bt0, false) := by decide +kernel
theorem bf04 : letter_rules_4.f 40 bt0 = some (bt1, true) := by decide +kernel
theorem bf11 : letter_rules_1.f bt1 = some (bt1, false) := by decide +kernel
theorem bf12 : letter_rules_2.f bt1 = some (bt1, false) := by decide +kernel
theorem bf13 : letter_rules_3.f bt1 = some (bt2, true) := by decide +kernel
theorem bf21 : letter_rules_1.f bt2 = some (bt2, false) := by decide +kernel
theorem bf22 : letter_rules_2.f bt2 = some (bt2, false) := by decide +kernel
theorem bf23 : letter_rules_3.f bt2 = some (bt2, false) := by decide +kernel
theorem bf24 : letter_rules_4.f 40 bt2 = some (bt2, false) := by decide +kernel
theorem bf25 : letter_rules_5.f 40 bt2 = some (bt2, false) := by decide +kernel
theorem bf26 : letter_rules_6.f bt2 = some (bt2, false) := by decide +kernel
theorem bf_one : letter_one.f bt0 = some bt0 := by decide +kernel
def bRules : Array Value := #[.func (.func 83) #[] #[], .bool false, .func (.func 85) #[] #[], .bool true, .func (.func 86) #[] #[], .bool false, .func (.func 88) #[] #[], .bool true, .func (.func 90) #[] #[], .bool false, .func (.func 92) #[] #[], .bool true]
set_option maxHeartbeats 1000000 in
set_option maxRecDepth 100000 in
theorem letter_rules.calls (w : World) : Calls Tryd.prog 53 #[] w fun e w' => e = .returned (.agg bRules) ∧ Below w.heap.size w w' := by
  go_enter Tryd.func53, Tryd.ntmps53
  go_wp2
  refine bodyPost_ret (v := .agg bRules) (by simp [results, bRules, go_sem]) rfl ⟨rfl, below_alloc (Below.refl _ _) _⟩
theorem bI0 (w : World) : (Instr.index 100 (.agg bRules) (.int .i64 0)).run Tryd.prog w = .ok (.agg #[.func (.func 83) #[] #[], .bool false]) w := by kernel_rfl
theorem bI1 (w : World) : (Instr.index 100 (.agg bRules) (.int .i64 1)).run Tryd.prog w = .ok (.agg #[.func (.func 85) #[] #[], .bool true]) w := by kernel_rfl
theorem bI2 (w : World) : (Instr.index 100 (.agg bRules) (.int .i64 2)).run Tryd.prog w = .ok (.agg #[.func (.func 86) #[] #[], .bool false]) w := by kernel_rfl
theorem bI3 (w : World) : (Instr.index 100 (.agg bRules) (.int .i64 3)).run Tryd.prog w = .ok (.agg #[.func (.func 88) #[] #[], .bool true]) w := by kernel_rfl
theorem bI4 (w : World) : (Instr.index 100 (.agg bRules) (.int .i64 4)).run Tryd.prog w = .ok (.agg #[.func (.func 90) #[] #[], .bool false]) w := by kernel_rfl
theorem bI5 (w : World) : (Instr.index 100 (.agg bRules) (.int .i64 5)).run Tryd.prog w = .ok (.agg #[.func (.func 92) #[] #[], .bool true]) w := by kernel_rfl
set_option maxHeartbeats 1000000 in
set_option maxRecDepth 100000 in
theorem letter_Base.calls (a0 : ByteArray) (r : ByteArray) (r1 : Bool) (w : World) (h : letter_Base.f a0 = some (r, r1)) :
    Calls Tryd.prog 25 #[.string a0] w fun e w' => e = .returned (.tuple #[.string r, .bool r1]) ∧ Below w.heap.size w w' := by
  unfold letter_Base.f at h
  split at h
  case isFalse => cases h
  rename_i hs
  have hw : letter_Words.f a0 = some bt0 := by unfold letter_Words.f; rw [if_pos hs]; rfl
  simp only [Option.some.injEq, Prod.mk.injEq] at h
  obtain ⟨rfl, rfl⟩ := h
  have HW := Aside0.mk hw
  clear hw hs
  have i0 := bI0
  have i1 := bI1
  have i2 := bI2
  have i3 := bI3
  have i4 := bI4
  have i5 := bI5
  go_enter Tryd.func25, Tryd.ntmps25
  go_wp2
  refine wp_scope_jumps 0 (fun a' W => Aside0 (Below w.heap.size w W) ∧ ∃ (t : ByteArray) (m : Bool) (u1 u6 u7 u8 u9 u10 u11 u12 u13 u14 u15 u16 u17 u18 u19 u20 u21 u22 u23 u24 u25 u26 u27 u28 u29 u30 u31 u32 u33 : Value), ((t = bt1 ∧ m = true) ∨ (t = bt2 ∧ m = true)) ∧ a' = { tmps := #[.string a0, u1, .string ⟨#[]⟩, .bool false, .string t, .bool m, u6, u7, u8, u9, u10, u11, u12, u13, u14, u15, u16, u17, u18, u19, u20, u21, u22, u23, u24, u25, u26, u27, u28, u29, u30, u31, u32, u33], defers := [] }) (fun a' _ => match a'.tmps.getD 4 undef with | .string s => s.size | _ => 0) rfl ?_ ?_
  · go_wp2_with (go_at_call 52; refine (letter_Words.calls _ _ _ HW.out).mono ?_; rintro e w1 ⟨rfl, hB1⟩)
    go_wp2_with (go_at_call 51; refine (letter_one.calls _ _ _ bf_one).mono ?_; rintro e w2 ⟨rfl, hB2⟩)
    go_step3
    go_wp2_with (go_at_call 53; refine (letter_rules.calls _).mono ?_; rintro e w3 ⟨rfl, hB3⟩)
    have HB3 : Aside0 (Below w.heap.size w w3) := ⟨below_step (below_step hB1 hB2) hB3⟩
    refine wp_loop_rounds 4 ?_
    rw [rounds_succ]
    go_wp2_with (go_at_call 83; refine (letter_rules_1.calls _ _ _ _ bf01).mono ?_; rintro e w4 ⟨rfl, hh4⟩; have HB4 : Aside0 (Below w.heap.size w w4) := ⟨below_step (below_alloc HB3.out _) hh4.below⟩; clear hh4)
    rw [rounds_succ]
    go_wp2_with (go_at_call 85; refine (letter_rules_2.calls _ _ _ _ bf02).mono ?_; rintro e w5 ⟨rfl, hh5⟩; have HB5 : Aside0 (Below w.heap.size w w5) := ⟨below_step (below_alloc HB4.out _) hh5⟩; clear hh5)
    rw [rounds_succ]
    go_wp2_with (go_at_call 86; refine (letter_rules_3.calls _ _ _ _ bf03).mono ?_; rintro e w6 ⟨rfl, hh6⟩; have HB6 : Aside0 (Below w.heap.size w w6) := ⟨below_step (below_alloc HB5.out _) hh6.below⟩; clear hh6)
    rw [rounds_succ]
    go_wp2_with (go_at_call 88; refine (letter_rules_4.calls 40 _ _ _ _ bf04).mono ?_; rintro e w7 ⟨rfl, hh7⟩; have HB7 : Aside0 (Below w.heap.size w w7) := ⟨below_step (below_alloc HB6.out _) hh7⟩; have cm7 : w7.cell? ⟨w6.heap.size, 1, none⟩ = some (.bool true) := (blk_cell ((hh7.block w6.heap.size (by simp)).trans (heap_alloc_new w6 _)) 1).trans rfl; clear hh7)
    go_step3
    exact ⟨rfl, HB7, bt1, true, _, _, _, _, _, _, _, _, _, _, _, _, _, _, _, _, _, _, _, _, _, _, _, _, _, _, _, _, _, .inl ⟨rfl, rfl⟩, rfl⟩
  · rintro a' W ⟨HBW, t, m, u1, u6, u7, u8, u9, u10, u11, u12, u13, u14, u15, u16, u17, u18, u19, u20, u21, u22, u23, u24, u25, u26, u27, u28, u29, u30, u31, u32, u33, hst, rfl⟩
    rcases hst with ⟨rfl, rfl⟩ | ⟨rfl, rfl⟩
    · go_wp2_with (go_at_call 53; refine (letter_rules.calls _).mono ?_; rintro e w3 ⟨rfl, hB3⟩)
      have HB3 : Aside0 (Below w.heap.size w w3) := ⟨below_step HBW.out hB3⟩
      refine wp_loop_rounds 3 ?_
      rw [rounds_succ]
      go_wp2_with (go_at_call 83; refine (letter_rules_1.calls _ _ _ _ bf11).mono ?_; rintro e w4 ⟨rfl, hh4⟩; have HB4 : Aside0 (Below w.heap.size w w4) := ⟨below_step (below_alloc HB3.out _) hh4.below⟩; clear hh4)
      rw [rounds_succ]
      go_wp2_with (go_at_call 85; refine (letter_rules_2.calls _ _ _ _ bf12).mono ?_; rintro e w5 ⟨rfl, hh5⟩; have HB5 : Aside0 (Below w.heap.size w w5) := ⟨below_step (below_alloc HB4.out _) hh5⟩; clear hh5)
      rw [rounds_succ]
      go_wp2_with (go_at_call 86; refine (letter_rules_3.calls _ _ _ _ bf13).mono ?_; rintro e w6 ⟨rfl, hh6⟩; have HB6 : Aside0 (Below w.heap.size w w6) := ⟨below_step (below_alloc HB5.out _) hh6.below⟩; have cm6 : w6.cell? ⟨w5.heap.size, 1, none⟩ = some (.bool false) := (blk_cell ((hh6.below.block w5.heap.size (by simp)).trans (heap_alloc_new w5 _)) 1).trans rfl; clear hh6)
      go_step3
      exact ⟨rfl, ⟨HB6, bt2, true, _, _, _, _, _, _, _, _, _, _, _, _, _, _, _, _, _, _, _, _, _, _, _, _, _, _, _, _, _, .inr ⟨rfl, rfl⟩, rfl⟩, (show bt2.size < bt1.size from by decide)⟩
    · go_wp2_with (go_at_call 53; refine (letter_rules.calls _).mono ?_; rintro e w3 ⟨rfl, hB3⟩)
      have HB3 : Aside0 (Below w.heap.size w w3) := ⟨below_step HBW.out hB3⟩
      refine wp_loop_rounds 7 ?_
      rw [rounds_succ]
      go_wp2_with (go_at_call 83; refine (letter_rules_1.calls _ _ _ _ bf21).mono ?_; rintro e w4 ⟨rfl, hh4⟩; have HB4 : Aside0 (Below w.heap.size w w4) := ⟨below_step (below_alloc HB3.out _) hh4.below⟩; clear hh4)
      rw [rounds_succ]
      go_wp2_with (go_at_call 85; refine (letter_rules_2.calls _ _ _ _ bf22).mono ?_; rintro e w5 ⟨rfl, hh5⟩; have HB5 : Aside0 (Below w.heap.size w w5) := ⟨below_step (below_alloc HB4.out _) hh5⟩; clear hh5)
      rw [rounds_succ]
      go_wp2_with (go_at_call 86; refine (letter_rules_3.calls _ _ _ _ bf23).mono ?_; rintro e w6 ⟨rfl, hh6⟩; have HB6 : Aside0 (Below w.heap.size w w6) := ⟨below_step (below_alloc HB5.out _) hh6.below⟩; clear hh6)
      rw [rounds_succ]
      go_wp2_with (go_at_call 88; refine (letter_rules_4.calls 40 _ _ _ _ bf24).mono ?_; rintro e w7 ⟨rfl, hh7⟩; have HB7 : Aside0 (Below w.heap.size w w7) := ⟨below_step (below_alloc HB6.out _) hh7⟩; clear hh7)
      rw [rounds_succ]
      go_wp2_with (go_at_call 90; refine (letter_rules_5.calls 40 _ _ _ _ bf25).mono ?_; rintro e w8 ⟨rfl, hh8⟩; have HB8 : Aside0 (Below w.heap.size w w8) := ⟨below_step (below_alloc HB7.out _) hh8⟩; clear hh8)
      rw [rounds_succ]
      go_wp2_with (go_at_call 92; refine (letter_rules_6.calls _ _ _ _ bf26).mono ?_; rintro e w9 ⟨rfl, hh9⟩; have HB9 : Aside0 (Below w.heap.size w w9) := ⟨below_step (below_alloc HB8.out _) hh9⟩; clear hh9)
      rw [rounds_succ]
      go_wp2
      simp only [Exit.jump]
      go_ret2
      exact ⟨rfl, HB9.out⟩
end Go.Proofs.YtgmlhmojcemliaaDoor.P
end
section
namespace Go.Proofs.YtgmlhmojcemliaaDoor.P
open Go.RowKit Go.Proofs.YtgmlhmojcemliaaDoorW.PrintWords Go.Proofs.YtgmlhmojcemliaaDoorW.PrintLast Go.Proofs.YtgmlhmojcemliaaDoorW.PrintMore
attribute [local go_sem] max2_int min2_int max_two min_two max_three min_three max_four min_four   -- for this text's walks alone
set_option linter.unusedVariables false
set_option linter.unusedSimpArgs false

/-! ### letter_Get: function 26 -/
def letter_Get.l0 : Nat → ByteArray → List (S64) → Int → Int → Option (Bool × ByteArray)
  | 0, _, _, _, _ => none
  | k + 1, x1, x7, x8, x9 => if x9 < x8 then (if 0 ≤ x9 then (if x9 < (x7.length : Int) then ((octet_Same.f ((rd_T64 x7 x9).f0) x1).bind fun t296 => (if t296 = true then (some (true, (rd_T64 x7 x9).f1)) else (letter_Get.l0 k x1 x7 x8 (wrap64 (x9 + 1))))) else (none)) else (none)) else (some (false, (⟨#[]⟩ : ByteArray)))
def letter_Get.f (k : Nat) (l0 : List (S64)) (a1 : ByteArray) : Option (Bool × ByteArray) := letter_Get.l0 k a1 l0 (l0.length : Int) 0
theorem letter_Get.mono_l : ∀ k, (∀ y0 y1 y2 y3, LeO (letter_Get.l0 k y0 y1 y2 y3) (letter_Get.l0 (k + 1) y0 y1 y2 y3))
  | 0 => fun _ _ _ _ r h => by simp [letter_Get.l0] at h
  | k + 1 => by
    have ih0 := letter_Get.mono_l k
    · intro y0 y1 y2 y3
      unfold letter_Get.l0
      repeat' first
      | (with_reducible exact ih0 _ _ _ _)
      | (with_reducible exact LeO.refl _)
      | (with_reducible exact LeO.none _)
      | (with_reducible refine LeO.ite ?_ ?_)
      | (with_reducible refine LeO.bind ?_ (fun _ => ?_))
      | exact ih0 _ _ _ _
      | exact LeO.none _
      | refine LeO.ite ?_ ?_
      | refine LeO.bind ?_ (fun _ => ?_)
theorem letter_Get.mono : ∀ a0 a1 k, LeO (letter_Get.f k a0 a1) (letter_Get.f (k + 1) a0 a1) := by
  intro a0 a1 k
  have ih0 := letter_Get.mono_l k
  unfold letter_Get.f
  repeat' first
      | (with_reducible exact ih0 _ _ _ _)
      | (with_reducible exact LeO.refl _)
      | (with_reducible exact LeO.none _)
      | (with_reducible refine LeO.ite ?_ ?_)
      | (with_reducible refine LeO.bind ?_ (fun _ => ?_))
      | exact ih0 _ _ _ _
      | exact LeO.none _
      | refine LeO.ite ?_ ?_
      | refine LeO.bind ?_ (fun _ => ?_)
set_option maxHeartbeats 8000000 in
set_option maxRecDepth 100000 in
theorem letter_Get.calls (k : Nat) (A0 : Option Addr) (c0 : Nat) (l0 : List (S64)) (a1 : ByteArray) (r1 : Bool) (r2 : ByteArray) (w : World) (hr0 : Kd.C k64 w A0 l0.length l0) (hc0 : l0.length ≤ c0) (h : letter_Get.f k l0 a1 = some (r1, r2)) :
    Calls Tryd.prog 26 #[.slice A0 l0.length c0, .string a1] w fun e w' => e = .returned (.agg #[.bool r1, .string r2]) ∧ Below w.heap.size w w' := by
  have hu30 := Tryd.underlying30
  have hu64 := Tryd.underlying64
  have HR0 := Aside0.mk hr0
  have HC0 := Aside0.mk hc0
  clear hr0 hc0
  have HB := Aside0.mk (Below.refl w.heap.size w)
  have H : (letter_Get.l0 k a1 l0 (l0.length : Int) 0) = some (r1, r2) := h
  clear h
  have H' := Aside0.mk H
  clear H
  go_enter Tryd.func26, Tryd.ntmps26
  go_wp2_with (first | ((with_reducible refine gate_dst (N := 4) rfl ?_); refine box_event ?hg (N := 4) ?hd (cs := #[.bool false, .string (⟨#[]⟩ : ByteArray)]) (t := 30) ?hr ?_; (case hd => rfl); (case hg => rfl); (case hr => first | (go_simp; done) | (go_simp; rfl)); intro gb293 hg w3 hbox hb; have n0_ := Aside0.mk (below_step (by repeat (first | (with_reducible first | exact HB.out | apply below_alloc | apply pw_below_drewN | apply below_drew1) | exact HB.out)) hb); have n1_ := Aside0.mk (hbox); have n2_ := Aside0.mk ((by rw [hg]; exact (below_size (by repeat (first | (with_reducible first | exact HB.out | apply below_alloc | apply pw_below_drewN | apply below_drew1) | exact HB.out))) : w.heap.size ≤ gb293)); have n3_ := Aside0.mk ((by rw [hg]; exact (below_size (by repeat (first | (with_reducible first | exact HB.out | apply below_alloc | apply pw_below_drewN | apply below_drew1) | exact HB.out))) : w.heap.size ≤ gb293)); clear HB; have HB := n0_; have BK293 := n1_; have GW293 := n2_; have GE293 := n3_; clear n0_ n1_ n2_ n3_; clear hb hbox hg))
  go_loopg [9] k (fun kq v9 w' => ∃ (x9_1 : Int) (x294000_1 : Bool) (x294001_1 : ByteArray), v9 = .int .i64 x9_1 ∧ Aside0 (letter_Get.l0 kq a1 l0 (l0.length : Int) x9_1 = some (r1, r2)) ∧ Aside0 (kq ≤ k) ∧ Aside0 (w'.heap[gb293]? = some (.cells #[.bool x294000_1, .string x294001_1] 30 (0, 0))) ∧ Aside0 (Below w.heap.size w w'))
  case atStart => exact ⟨(0), (false), ((⟨#[]⟩ : ByteArray)), (by first | rfl | (simp; done) | (simp [*]; done)), H', ⟨Nat.le_refl _⟩, ⟨by (with_reducible repeat (first | refine blk_drewN ?_ _ | refine blk_drew ?_ | refine blk_alloc ?_ _)); exact BK293.out⟩, ⟨by repeat (first | (with_reducible first | exact HB.out | apply below_alloc | apply pw_below_drewN | apply below_drew1 | refine below_set ?_ GE293.out) | exact HB.out)⟩⟩
  case round =>
    clear H'
    try clear c2
    try clear p2
    obtain ⟨x9_1, x294000_1, x294001_1, rfl, HA, HK1, BK293, HB⟩ := hrel
    cases gk with
    | zero => exact absurd HA.out (by simp [letter_Get.l0])
    | succ k1 =>
      have H := HA.out
      clear HA
      simp only [letter_Get.l0] at H
      by_cases c4 : x9_1 < (l0.length : Int)
      · rw [if_pos c4] at H
        have c4b0 : decide (x9_1 < (l0.length : Int)) = true := decide_eq_true c4
        clear c4
        by_cases c5 : 0 ≤ x9_1
        · rw [if_pos c5] at H
          have c5b0 : decide (0 ≤ x9_1) = true := decide_eq_true c5
          clear c5
          by_cases c6 : x9_1 < (l0.length : Int)
          · rw [if_pos c6] at H
            have c6b0 : decide (x9_1 < (l0.length : Int)) = true := decide_eq_true c6
            clear c6
            replace H := Option.bind_eq_some_iff.mp H
            obtain ⟨t296, A70, H⟩ := H
            replace H : (if t296 = true then (some (true, (rd_T64 l0 x9_1).f1)) else (letter_Get.l0 k1 a1 l0 (l0.length : Int) (wrap64 (x9_1 + 1)))) = some (r1, r2) := H
            have A7 := Aside0.mk A70
            clear A70
            by_cases c8 : t296 = true
            · subst c8
              have H1 : (some (true, (rd_T64 l0 x9_1).f1)) = some (r1, r2) := by rw [if_pos rfl] at H; exact H
              clear H
              have H := H1
              clear H1
              simp only [Option.some.injEq, Prod.mk.injEq] at H
              obtain ⟨rfl, rfl⟩ := H
              have p294 : 0 ≤ (x9_1 : Int) := of_decide_eq_true (by first | (with_reducible assumption) | assumption)
              have q294 : x9_1 < (l0.length : Int) := of_decide_eq_true (by first | (with_reducible assumption) | assumption)
              obtain ⟨ad294, e294, hx294_0, hx294_1, hx294_2⟩ := at_T64 HR0.out x9_1 p294 q294
              cases e294
              replace hx294_0 := (HB.out.cell (World.block_lt_of_cell? w _ hx294_0)).trans hx294_0
              replace hx294_1 := (HB.out.cell (World.block_lt_of_cell? w _ hx294_1)).trans hx294_1
              replace hx294_2 := (HB.out.cell (World.block_lt_of_cell? w _ hx294_2)).trans hx294_2
              replace p294 := eq_true p294
              replace q294 := eq_true q294
              go_wp2_with (first | ((with_reducible refine gate_dst (N := 6) rfl ?_); refine box_event ?hg (N := 6) ?hd (cs := #[.string (⟨#[]⟩ : ByteArray), .string (⟨#[]⟩ : ByteArray), .string (⟨#[]⟩ : ByteArray)]) (t := 64) ?hr ?_; (case hd => rfl); (case hg => rfl); (case hr => first | (go_simp; done) | (go_simp; rfl)); intro gb295 hg w9 hbox hb; have n0_ := Aside0.mk (blk_below (g := gb293) (o := .cells #[.bool x294000_1, .string x294001_1] 30 (0, 0)) (by (with_reducible repeat (first | refine blk_drewN ?_ _ | refine blk_drew ?_ | refine blk_alloc ?_ _)); exact BK293.out) hb); have n1_ := Aside0.mk (below_step (by repeat (first | (with_reducible first | exact HB.out | apply below_alloc | apply pw_below_drewN | apply below_drew1 | refine below_set ?_ GE293.out) | exact HB.out)) hb); have n2_ := Aside0.mk (hbox); have n3_ := Aside0.mk ((by rw [hg]; exact (below_size (by repeat (first | (with_reducible first | exact HB.out | apply below_alloc | apply pw_below_drewN | apply below_drew1 | refine below_set ?_ GE293.out) | exact HB.out))) : w.heap.size ≤ gb295)); have n4_ := Aside0.mk ((by rw [hg]; exact (below_size (by repeat (first | (with_reducible first | exact HB.out | apply below_alloc | apply pw_below_drewN | apply below_drew1 | refine below_set ?_ GE293.out) | exact HB.out))) : w.heap.size ≤ gb295)); have n5_ := Aside0.mk ((by rw [hg]; exact Nat.ne_of_lt (blk_lt (g := gb293) (o := .cells #[.bool x294000_1, .string x294001_1] 30 (0, 0)) (by (with_reducible repeat (first | refine blk_drewN ?_ _ | refine blk_drew ?_ | refine blk_alloc ?_ _)); exact BK293.out)) : gb293 ≠ gb295)); have n6_ := Aside0.mk ((by rw [hg]; exact Nat.ne_of_gt (blk_lt (g := gb293) (o := .cells #[.bool x294000_1, .string x294001_1] 30 (0, 0)) (by (with_reducible repeat (first | refine blk_drewN ?_ _ | refine blk_drew ?_ | refine blk_alloc ?_ _)); exact BK293.out)) : gb295 ≠ gb293)); clear BK293; clear HB; have BK293 := n0_; have HB := n1_; have BK295 := n2_; have GW295 := n3_; have GE295 := n4_; have NB293_295 := n5_; have NB295_293 := n6_; clear n0_ n1_ n2_ n3_ n4_ n5_ n6_; clear hb hbox hg; have hnb10 := NB295_293.out; have hnc10 := NB293_295.out; have hcz11_0 : w9.cell? ⟨gb295, 0, none⟩ = some (.string (⟨#[]⟩ : ByteArray)) := (blk_cell BK295.out 0).trans rfl; have hcz11_1 : w9.cell? ⟨gb295, 1, none⟩ = some (.string (⟨#[]⟩ : ByteArray)) := (blk_cell BK295.out 1).trans rfl; have hcz11_2 : w9.cell? ⟨gb295, 2, none⟩ = some (.string (⟨#[]⟩ : ByteArray)) := (blk_cell BK295.out 2).trans rfl; have hfz11_0 := blk_frozen BK295.out 0; have hfz11_1 := blk_frozen BK295.out 1; have hfz11_2 := blk_frozen BK295.out 2) | ((with_reducible refine gate_callee (f := 54) rfl ?_); refine goesL_ (some 16) rfl rfl Tryd.func54 (by kernel_rfl) rfl #[.string ((rd_T64 l0 x9_1).f0), .string a1] rfl (by (try simp only [List.map_toArray, List.map_cons, List.map_nil]); first | done | rfl | (simp only [List.length_drop, List.length_take]; rfl)) ?_; (with_reducible refine (octet_Same.calls ((rd_T64 l0 x9_1).f0) a1 true _ A7.out).mono ?_); rintro e w12 ⟨rfl, hb⟩; refine ⟨_, rfl, ?_⟩; have n0_ := Aside0.mk (blk_below (g := gb293) (o := .cells #[.bool x294000_1, .string x294001_1] 30 (0, 0)) (by (with_reducible repeat (first | refine blk_drewN ?_ _ | refine blk_drew ?_ | refine blk_alloc ?_ _)); refine blk_far ?_ NB293_295.out _; (with_reducible repeat (first | refine blk_drewN ?_ _ | refine blk_drew ?_ | refine blk_alloc ?_ _)); refine blk_far ?_ NB293_295.out _; (with_reducible repeat (first | refine blk_drewN ?_ _ | refine blk_drew ?_ | refine blk_alloc ?_ _)); refine blk_far ?_ NB293_295.out _; (with_reducible repeat (first | refine blk_drewN ?_ _ | refine blk_drew ?_ | refine blk_alloc ?_ _)); exact BK293.out) hb); have n1_ := Aside0.mk (blk_below (g := gb295) (o := .cells #[.string ((rd_T64 l0 x9_1).f0), .string ((rd_T64 l0 x9_1).f1), .string ((rd_T64 l0 x9_1).f2)] 64 (0, 0)) (by (with_reducible repeat (first | refine blk_drewN ?_ _ | refine blk_drew ?_ | refine blk_alloc ?_ _)); refine blk_put (cs := #[.string ((rd_T64 l0 x9_1).f0), .string ((rd_T64 l0 x9_1).f1), .string (⟨#[]⟩ : ByteArray)]) ?_ 2 _ rfl; (with_reducible repeat (first | refine blk_drewN ?_ _ | refine blk_drew ?_ | refine blk_alloc ?_ _)); refine blk_put (cs := #[.string ((rd_T64 l0 x9_1).f0), .string (⟨#[]⟩ : ByteArray), .string (⟨#[]⟩ : ByteArray)]) ?_ 1 _ rfl; (with_reducible repeat (first | refine blk_drewN ?_ _ | refine blk_drew ?_ | refine blk_alloc ?_ _)); refine blk_put (cs := #[.string (⟨#[]⟩ : ByteArray), .string (⟨#[]⟩ : ByteArray), .string (⟨#[]⟩ : ByteArray)]) ?_ 0 _ rfl; (with_reducible repeat (first | refine blk_drewN ?_ _ | refine blk_drew ?_ | refine blk_alloc ?_ _)); exact BK295.out) hb); have n2_ := Aside0.mk (below_step (by repeat (first | (with_reducible first | exact HB.out | apply below_alloc | apply pw_below_drewN | apply below_drew1 | refine below_set ?_ GE293.out | refine below_set ?_ GE295.out) | exact HB.out)) hb); clear BK293; clear BK295; clear HB; have BK293 := n0_; have BK295 := n1_; have HB := n2_; clear n0_ n1_ n2_; (try clear hb); (try clear hb2); (try clear hk); (try clear hi); have hcz13_0 : w12.cell? ⟨gb295, 0, none⟩ = some (.string ((rd_T64 l0 x9_1).f0)) := (blk_cell BK295.out 0).trans rfl; have hcz13_1 : w12.cell? ⟨gb295, 1, none⟩ = some (.string ((rd_T64 l0 x9_1).f1)) := (blk_cell BK295.out 1).trans rfl; have hcz13_2 : w12.cell? ⟨gb295, 2, none⟩ = some (.string ((rd_T64 l0 x9_1).f2)) := (blk_cell BK295.out 2).trans rfl; have hfz13_0 := blk_frozen BK295.out 0; have hfz13_1 := blk_frozen BK295.out 1; have hfz13_2 := blk_frozen BK295.out 2; have hcz14_0 : w12.cell? ⟨gb293, 0, none⟩ = some (.bool x294000_1) := (blk_cell BK293.out 0).trans rfl; have hcz14_1 : w12.cell? ⟨gb293, 1, none⟩ = some (.string x294001_1) := (blk_cell BK293.out 1).trans rfl; have hfz14_0 := blk_frozen BK293.out 0; have hfz14_1 := blk_frozen BK293.out 1))
              refine bodyPost_ret (results_cell_row rfl _ _ gb293 30 #[.bool true, .string ((rd_T64 l0 x9_1).f1)] (0, 0) _ rfl (by (with_reducible repeat (first | refine blk_drewN ?_ _ | refine blk_drew ?_ | refine blk_alloc ?_ _)); refine blk_put (cs := #[.bool true, .string x294001_1]) ?_ 1 _ rfl; (with_reducible repeat (first | refine blk_drewN ?_ _ | refine blk_drew ?_ | refine blk_alloc ?_ _)); refine blk_put (cs := #[.bool x294000_1, .string x294001_1]) ?_ 0 _ rfl; (with_reducible repeat (first | refine blk_drewN ?_ _ | refine blk_drew ?_ | refine blk_alloc ?_ _)); exact BK293.out) Tryd.underlying30 rfl (by kernel_rfl)) rfl ?_
              exact ⟨by first | rfl | (simp [errW_none, errW_some] <;> rfl) | (simp [*, errW_none, errW_some] <;> rfl), by repeat (first | (with_reducible first | exact HB.out | apply below_alloc | apply pw_below_drewN | apply below_drew1 | refine below_set ?_ GE293.out | refine below_set ?_ GE295.out) | exact HB.out)⟩
            · replace c8 := Bool.eq_false_iff.mpr c8
              subst c8
              have H1 : (letter_Get.l0 k1 a1 l0 (l0.length : Int) (wrap64 (x9_1 + 1))) = some (r1, r2) := by rw [if_neg (show ¬ (false = true) by decide)] at H; exact H
              clear H
              have H := H1
              clear H1
              have H' := Aside0.mk H
              clear H
              have p294 : 0 ≤ (x9_1 : Int) := of_decide_eq_true (by first | (with_reducible assumption) | assumption)
              have q294 : x9_1 < (l0.length : Int) := of_decide_eq_true (by first | (with_reducible assumption) | assumption)
              obtain ⟨ad294, e294, hx294_0, hx294_1, hx294_2⟩ := at_T64 HR0.out x9_1 p294 q294
              cases e294
              replace hx294_0 := (HB.out.cell (World.block_lt_of_cell? w _ hx294_0)).trans hx294_0
              replace hx294_1 := (HB.out.cell (World.block_lt_of_cell? w _ hx294_1)).trans hx294_1
              replace hx294_2 := (HB.out.cell (World.block_lt_of_cell? w _ hx294_2)).trans hx294_2
              replace p294 := eq_true p294
              replace q294 := eq_true q294
              go_wp2_with (first | ((with_reducible refine gate_dst (N := 6) rfl ?_); refine box_event ?hg (N := 6) ?hd (cs := #[.string (⟨#[]⟩ : ByteArray), .string (⟨#[]⟩ : ByteArray), .string (⟨#[]⟩ : ByteArray)]) (t := 64) ?hr ?_; (case hd => rfl); (case hg => rfl); (case hr => first | (go_simp; done) | (go_simp; rfl)); intro gb295 hg w15 hbox hb; have n0_ := Aside0.mk (blk_below (g := gb293) (o := .cells #[.bool x294000_1, .string x294001_1] 30 (0, 0)) (by (with_reducible repeat (first | refine blk_drewN ?_ _ | refine blk_drew ?_ | refine blk_alloc ?_ _)); exact BK293.out) hb); have n1_ := Aside0.mk (below_step (by repeat (first | (with_reducible first | exact HB.out | apply below_alloc | apply pw_below_drewN | apply below_drew1 | refine below_set ?_ GE293.out) | exact HB.out)) hb); have n2_ := Aside0.mk (hbox); have n3_ := Aside0.mk ((by rw [hg]; exact (below_size (by repeat (first | (with_reducible first | exact HB.out | apply below_alloc | apply pw_below_drewN | apply below_drew1 | refine below_set ?_ GE293.out) | exact HB.out))) : w.heap.size ≤ gb295)); have n4_ := Aside0.mk ((by rw [hg]; exact (below_size (by repeat (first | (with_reducible first | exact HB.out | apply below_alloc | apply pw_below_drewN | apply below_drew1 | refine below_set ?_ GE293.out) | exact HB.out))) : w.heap.size ≤ gb295)); have n5_ := Aside0.mk ((by rw [hg]; exact Nat.ne_of_lt (blk_lt (g := gb293) (o := .cells #[.bool x294000_1, .string x294001_1] 30 (0, 0)) (by (with_reducible repeat (first | refine blk_drewN ?_ _ | refine blk_drew ?_ | refine blk_alloc ?_ _)); exact BK293.out)) : gb293 ≠ gb295)); have n6_ := Aside0.mk ((by rw [hg]; exact Nat.ne_of_gt (blk_lt (g := gb293) (o := .cells #[.bool x294000_1, .string x294001_1] 30 (0, 0)) (by (with_reducible repeat (first | refine blk_drewN ?_ _ | refine blk_drew ?_ | refine blk_alloc ?_ _)); exact BK293.out)) : gb295 ≠ gb293)); clear BK293; clear HB; have BK293 := n0_; have HB := n1_; have BK295 := n2_; have GW295 := n3_; have GE295 := n4_; have NB293_295 := n5_; have NB295_293 := n6_; clear n0_ n1_ n2_ n3_ n4_ n5_ n6_; clear hb hbox hg; have hnb16 := NB295_293.out; have hnc16 := NB293_295.out; have hcz17_0 : w15.cell? ⟨gb295, 0, none⟩ = some (.string (⟨#[]⟩ : ByteArray)) := (blk_cell BK295.out 0).trans rfl; have hcz17_1 : w15.cell? ⟨gb295, 1, none⟩ = some (.string (⟨#[]⟩ : ByteArray)) := (blk_cell BK295.out 1).trans rfl; have hcz17_2 : w15.cell? ⟨gb295, 2, none⟩ = some (.string (⟨#[]⟩ : ByteArray)) := (blk_cell BK295.out 2).trans rfl; have hfz17_0 := blk_frozen BK295.out 0; have hfz17_1 := blk_frozen BK295.out 1; have hfz17_2 := blk_frozen BK295.out 2) | ((with_reducible refine gate_callee (f := 54) rfl ?_); refine goesL_ (some 16) rfl rfl Tryd.func54 (by kernel_rfl) rfl #[.string ((rd_T64 l0 x9_1).f0), .string a1] rfl (by (try simp only [List.map_toArray, List.map_cons, List.map_nil]); first | done | rfl | (simp only [List.length_drop, List.length_take]; rfl)) ?_; (with_reducible refine (octet_Same.calls ((rd_T64 l0 x9_1).f0) a1 false _ A7.out).mono ?_); rintro e w18 ⟨rfl, hb⟩; refine ⟨_, rfl, ?_⟩; have n0_ := Aside0.mk (blk_below (g := gb293) (o := .cells #[.bool x294000_1, .string x294001_1] 30 (0, 0)) (by (with_reducible repeat (first | refine blk_drewN ?_ _ | refine blk_drew ?_ | refine blk_alloc ?_ _)); refine blk_far ?_ NB293_295.out _; (with_reducible repeat (first | refine blk_drewN ?_ _ | refine blk_drew ?_ | refine blk_alloc ?_ _)); refine blk_far ?_ NB293_295.out _; (with_reducible repeat (first | refine blk_drewN ?_ _ | refine blk_drew ?_ | refine blk_alloc ?_ _)); refine blk_far ?_ NB293_295.out _; (with_reducible repeat (first | refine blk_drewN ?_ _ | refine blk_drew ?_ | refine blk_alloc ?_ _)); exact BK293.out) hb); have n1_ := Aside0.mk (blk_below (g := gb295) (o := .cells #[.string ((rd_T64 l0 x9_1).f0), .string ((rd_T64 l0 x9_1).f1), .string ((rd_T64 l0 x9_1).f2)] 64 (0, 0)) (by (with_reducible repeat (first | refine blk_drewN ?_ _ | refine blk_drew ?_ | refine blk_alloc ?_ _)); refine blk_put (cs := #[.string ((rd_T64 l0 x9_1).f0), .string ((rd_T64 l0 x9_1).f1), .string (⟨#[]⟩ : ByteArray)]) ?_ 2 _ rfl; (with_reducible repeat (first | refine blk_drewN ?_ _ | refine blk_drew ?_ | refine blk_alloc ?_ _)); refine blk_put (cs := #[.string ((rd_T64 l0 x9_1).f0), .string (⟨#[]⟩ : ByteArray), .string (⟨#[]⟩ : ByteArray)]) ?_ 1 _ rfl; (with_reducible repeat (first | refine blk_drewN ?_ _ | refine blk_drew ?_ | refine blk_alloc ?_ _)); refine blk_put (cs := #[.string (⟨#[]⟩ : ByteArray), .string (⟨#[]⟩ : ByteArray), .string (⟨#[]⟩ : ByteArray)]) ?_ 0 _ rfl; (with_reducible repeat (first | refine blk_drewN ?_ _ | refine blk_drew ?_ | refine blk_alloc ?_ _)); exact BK295.out) hb); have n2_ := Aside0.mk (below_step (by repeat (first | (with_reducible first | exact HB.out | apply below_alloc | apply pw_below_drewN | apply below_drew1 | refine below_set ?_ GE293.out | refine below_set ?_ GE295.out) | exact HB.out)) hb); clear BK293; clear BK295; clear HB; have BK293 := n0_; have BK295 := n1_; have HB := n2_; clear n0_ n1_ n2_; (try clear hb); (try clear hb2); (try clear hk); (try clear hi)))
              go_roundg k1
              case measure => have := HK1.out; omega
              case rel => exact ⟨(wrap64 (x9_1 + 1)), (x294000_1), (x294001_1), (by first | rfl | (simp; done) | (simp [*]; done)), H', ⟨by have := HK1.out; omega⟩, ⟨by (with_reducible repeat (first | refine blk_drewN ?_ _ | refine blk_drew ?_ | refine blk_alloc ?_ _)); exact BK293.out⟩, ⟨by repeat (first | (with_reducible first | exact HB.out | apply below_alloc | apply pw_below_drewN | apply below_drew1 | refine below_set ?_ GE293.out | refine below_set ?_ GE295.out) | exact HB.out)⟩⟩
          · rw [if_neg c6] at H
            exact absurd H (by simp)
        · rw [if_neg c5] at H
          exact absurd H (by simp)
      · rw [if_neg c4] at H
        have c4b0 : decide (x9_1 < (l0.length : Int)) = false := decide_eq_false c4
        clear c4
        simp only [Option.some.injEq, Prod.mk.injEq] at H
        obtain ⟨rfl, rfl⟩ := H
        have hcz19_0 : wr.cell? ⟨gb293, 0, none⟩ = some (.bool x294000_1) := (blk_cell BK293.out 0).trans rfl
        have hcz19_1 : wr.cell? ⟨gb293, 1, none⟩ = some (.string x294001_1) := (blk_cell BK293.out 1).trans rfl
        have hfz19_0 := blk_frozen BK293.out 0
        have hfz19_1 := blk_frozen BK293.out 1
        go_wp2
        refine bodyPost_ret (results_cell_row rfl _ _ gb293 30 #[.bool false, .string (⟨#[]⟩ : ByteArray)] (0, 0) _ rfl (by (with_reducible repeat (first | refine blk_drewN ?_ _ | refine blk_drew ?_ | refine blk_alloc ?_ _)); refine blk_put (cs := #[.bool false, .string x294001_1]) ?_ 1 _ rfl; (with_reducible repeat (first | refine blk_drewN ?_ _ | refine blk_drew ?_ | refine blk_alloc ?_ _)); refine blk_put (cs := #[.bool x294000_1, .string x294001_1]) ?_ 0 _ rfl; (with_reducible repeat (first | refine blk_drewN ?_ _ | refine blk_drew ?_ | refine blk_alloc ?_ _)); exact BK293.out) Tryd.underlying30 rfl (by kernel_rfl)) rfl ?_
        exact ⟨by first | rfl | (simp [errW_none, errW_some] <;> rfl) | (simp [*, errW_none, errW_some] <;> rfl), by repeat (first | (with_reducible first | exact HB.out | apply below_alloc | apply pw_below_drewN | apply below_drew1 | refine below_set ?_ GE293.out) | exact HB.out)⟩

end Go.Proofs.YtgmlhmojcemliaaDoor.P
end
section
namespace Go.Proofs.YtgmlhmojcemliaaDoor.P
open Go.RowKit Go.Proofs.YtgmlhmojcemliaaDoorW.PrintWords Go.Proofs.YtgmlhmojcemliaaDoorW.PrintLast Go.Proofs.YtgmlhmojcemliaaDoorW.PrintMore
attribute [local go_sem] max2_int min2_int max_two min_two max_three min_three max_four min_four   -- for this text's walks alone
set_option linter.unusedVariables false
set_option linter.unusedSimpArgs false

/-! ### letter_Pick: function 27, GIVEN -/
def lowL (b : ByteArray) : List UInt8 := b.data.toList.map lowB
theorem same_f (a b : ByteArray) (ha : a.size ≤ 140737488351232) (hb : b.size ≤ 140737488351232) : octet_Same.f a b = some (lowL a == lowL b) := by
  unfold octet_Same.f octet_Lower.f
  rw [if_pos ha, if_pos hb]
  simp [lowL, Lib.toList_data]
def pickB (r : S95) (ns : List ByteArray) : Bool := ns.any (fun n => r.f3 && (lowL r.f1 == lowL n))
def pickGo : List S95 → Bool → List ByteArray → Option (List UInt8)
  | [], _, _ => some []
  | r :: rs, b, ns => if pickB r ns = b then pickGo rs b ns else (strings_HasSuffix.f r.f0 ⟨#[13, 10]⟩).bind fun s => (pickGo rs b ns).bind fun l => some (r.f0.data.toList ++ ((if s = true then [] else [13, 10]) ++ l))
def letter_Pick.f (a0 : ByteArray) (a1 : Bool) (l2 : List ByteArray) : Option ByteArray :=
  (letter_rows.f a0).bind fun rs => (pickGo rs a1 l2).bind fun l => if l.length + 2 ≤ 140737488355328 ∧ l2.all (fun n => decide (n.size ≤ 140737488351232)) = true ∧ rs.all (fun r => decide (r.f1.size ≤ 140737488351232)) = true then some ⟨(l ++ [13, 10]).toArray⟩ else none
theorem R_okept {α : Type} {d : Kd α} {e base b : Nat} {W W1 : World} {ok : Nat → Prop} {v : Value} {xs : List α} (h : d.R e W base ok v xs) (hE : d.E = []) (hk : Lib.OthersKept 5 (some b) W W1) (he : e ≠ 5) (hb : b < base) : d.R e W1 base ok v xs := by
  refine Kd.R_mono (Kd.R_step (Kd.R_tight2 hE h) (fun k hok hlt => ?_)) (fun k hk => hk.2)
  obtain ⟨cs, hc⟩ := Kd.R_typed h k hok.1.symm
  rw [hc]
  exact okept hk hc he (by have := Kd.R_base h k hok.1.symm; omega)
theorem any_take_succ (p : ByteArray → Bool) (l : List ByteArray) (j : Nat) (h : j < l.length) : (l.take (j + 1)).any p = ((l.take j).any p || p (rdOf ByteArray.empty l (j : Int))) := by
  rw [List.take_succ_eq_append_getElem h, List.any_append]
  simp [rdOf, List.getD_eq_getElem?_getD, List.getElem?_eq_getElem h]
set_option maxHeartbeats 4000000 in
set_option maxRecDepth 100000 in
theorem letter_Pick.calls (a0 : ByteArray) (a1 : Bool) (A2 : Option Addr) (c2 : Nat) (l2 : List ByteArray) (r : ByteArray) (w : World) (hr2 : Kd.C Kd.string w A2 l2.length l2) (hc2 : l2.length ≤ c2) (hG : Good w) (h : letter_Pick.f a0 a1 l2 = some r) :
    Calls Tryd.prog 27 #[.string a0, .bool a1, .slice A2 l2.length c2] w fun e w' => e = .returned (.string r) ∧ Below w.heap.size w w' := by
  unfold letter_Pick.f at h
  obtain ⟨rs, hrs, h⟩ := Option.bind_eq_some_iff.mp h
  obtain ⟨tot, htot, h⟩ := Option.bind_eq_some_iff.mp h
  split at h
  case isFalse => cases h
  rename_i hc
  obtain ⟨hlen, hl2, hl1⟩ := hc
  obtain rfl := Option.some.inj h
  have HRS := Aside0.mk hrs
  have HT := Aside0.mk htot
  have HL2 := Aside0.mk hl2
  have HL1 := Aside0.mk hl1
  have HR2 := Aside0.mk hr2
  have hn2 : l2.length ≤ 9223372036854775807 := hr2.2.1
  clear h hrs htot hl2 hl1 hr2
  go_enter Tryd.func27, Tryd.ntmps27
  go_wp2_with (go_at_call 47; refine (letter_rows.calls _ _ _ (hG.below (below_alloc (Below.refl _ _) _)) HRS.out).mono ?_; rintro e w1 ⟨v1, rfl, hR, hB1⟩; obtain ⟨A, c, rfl⟩ := Kd.R_slice hR)
  have hI0 := (IsB.new w).below hB1
  have hB0 := below_step (below_alloc (Below.refl w.heap.size w) _) hB1
  have hrl : rs.length ≤ 9223372036854775807 := (Kd.R_reads' hR).2.2.2.1
  go_loopg [16] (rs.length) (fun kq v16 wr => ∃ (k : Nat) (acc rest : List UInt8), v16 = .int .i64 k ∧ k ≤ rs.length ∧ Aside0 (kq = rs.length - k) ∧ Aside0 (pickGo (rs.drop k) a1 l2 = some rest) ∧ Aside0 (tot = acc ++ rest) ∧ Aside0 (IsB w.heap.size acc wr) ∧ Aside0 (Kd.R k95 95 wr (w.heap.size + 1) (fun _ => True) (.slice A rs.length c) rs) ∧ Aside0 (Below w.heap.size w wr))
  case atStart => exact ⟨0, [], tot, rfl, Nat.zero_le _, ⟨rfl⟩, HT, ⟨rfl⟩, ⟨hI0⟩, ⟨by simpa using hR⟩, ⟨hB0⟩⟩
  case round =>
    obtain ⟨k, acc, rest, rfl, hk, hkq, hP, hA, hI, hR5, hB⟩ := hrel
    clear hR hB1 hI0 hB0
    by_cases hlt : k < rs.length
    · have hd : rs.drop k = rd_T95 rs k :: rs.drop (k + 1) := by
        rw [List.drop_eq_getElem_cons hlt]; simp [rd_T95, List.getD_eq_getElem?_getD, List.getElem?_eq_getElem hlt]
      have hq1 : (rd_T95 rs k).f1.size ≤ 140737488351232 := by
        have := List.all_eq_true.1 HL1.out rs[k] (List.getElem_mem hlt)
        simpa [rd_T95, List.getD_eq_getElem?_getD, List.getElem?_eq_getElem hlt] using this
      obtain ⟨ad, e1, hx0, hx1, hx2, hx3⟩ := at_T95 (Kd.R_reads' hR5.out).2.2 (k : Int) (by omega) (by omega)
      simp only [Int.toNat_natCast] at hx0 hx1 hx2 hx3
      cases e1
      have hp := hP.out
      rw [hd, pickGo] at hp
      generalize rd_T95 rs k = q at hp hx0 hx1 hx2 hx3 hq1
      obtain ⟨q0, q1, q2, q3⟩ := q
      have HP := Aside0.mk hp
      clear hp hd hP
      have hwb := hB.out.size
      have HX := Aside0.mk (heap_alloc_new wr (.cells #[.string q0, .string q1, .bool q2, .bool q3] 95))
      have HI := Aside0.mk (hI.out.alloc (.cells #[.string q0, .string q1, .bool q2, .bool q3] 95))
      have HR := Aside0.mk (Kd.R_alloc hR5.out (.cells #[.string q0, .string q1, .bool q2, .bool q3] 95))
      have HB := Aside0.mk (below_alloc hB.out (.cells #[.string q0, .string q1, .bool q2, .bool q3] 95))
      have hbg := hI.out.lt
      go_wp2_with fail
      generalize wr.heap.size = g at HX hwb hbg ⊢
      generalize hwx : wr.alloc (.cells #[.string q0, .string q1, .bool q2, .bool q3] 95) = wx at HX HI HR HB ⊢
      clear hwx hx0 hx1 hx2 hx3 hI hR5 hB
      go_loopg [10, 22] (l2.length) (fun jq v10 v22 wj => ∃ (j : Nat) (nm : Bool), v10 = .bool nm ∧ v22 = .int .i64 j ∧ j ≤ l2.length ∧ Aside0 (jq = l2.length - j) ∧ Aside0 (nm = (l2.take j).any (fun n => q3 && (lowL q1 == lowL n))) ∧ Aside0 (wj.heap[g]? = some (.cells #[.string q0, .string q1, .bool q2, .bool q3] 95 (0, 0))) ∧ Aside0 (IsB w.heap.size acc wj) ∧ Aside0 (Kd.R k95 95 wj (w.heap.size + 1) (fun _ => True) (.slice (some ad) rs.length c) rs) ∧ Aside0 (Below w.heap.size w wj))
      case atStart => exact ⟨0, false, rfl, rfl, Nat.zero_le _, ⟨rfl⟩, ⟨rfl⟩, HX, HI, HR, HB⟩
      case round =>
        obtain ⟨j, nm, rfl, rfl, hj, hjq, hnm, hX, hI, hR, hB⟩ := hrel
        have b0 := (blk_cell hX.out 0).trans rfl
        have b1 := (blk_cell hX.out 1).trans rfl
        have b3 := (blk_cell hX.out 3).trans rfl
        by_cases hjl : j < l2.length
        · obtain ⟨ad2, e2, hz⟩ := Kd.at_string HR2.out (j : Int) (by omega) (by omega)
          cases e2
          rw [Int.toNat_natCast] at hz
          replace hz := (hB.out.cell (World.block_lt_of_cell? w _ hz)).trans hz
          have hst := any_take_succ (fun n => q3 && (lowL q1 == lowL n)) l2 j hjl
          rw [← hnm.out] at hst
          have hn2 : (rdOf ByteArray.empty l2 (j : Int)).size ≤ 140737488351232 := by
            have := List.all_eq_true.1 HL2.out l2[j] (List.getElem_mem hjl)
            simpa [rdOf, List.getD_eq_getElem?_getD, List.getElem?_eq_getElem hjl] using this
          have hsm := same_f q1 _ hq1 hn2
          generalize rdOf ByteArray.empty l2 (j : Int) = n at hz hst hn2 hsm
          cases nm
          · cases q3
            · have HST := Aside0.mk hst
              clear hst hsm hn2
              go_wp2
              go_roundg (l2.length - (j + 1))
              case measure => have := hjq.out; omega
              case rel => exact ⟨j + 1, false, rfl, by go_num, by omega, ⟨rfl⟩, ⟨by rw [HST.out]; rfl⟩, hX, hI, hR, hB⟩
            · have HST := Aside0.mk hst
              have HSM := Aside0.mk hsm
              clear hst hsm hn2
              go_wp2_with fail
              refine (octet_Same.calls _ _ _ _ HSM.out).mono ?_
              rintro e w2 ⟨rfl, hb2⟩
              have HX2 := Aside0.mk ((hb2.block g (Array.getElem?_eq_some_iff.1 hX.out).1).trans hX.out)
              have HI2 := Aside0.mk (hI.out.below hb2)
              have HR2' := Aside0.mk (Kd.R_below hR.out hb2)
              have HB2 := Aside0.mk (below_step hB.out hb2)
              clear hb2 b0 b1 b3 hz
              go_wp2_with fail
              go_roundg (l2.length - (j + 1))
              case measure => have := hjq.out; omega
              case rel => exact ⟨j + 1, _, rfl, by go_num, by omega, ⟨rfl⟩, ⟨by rw [HST.out]; simp⟩, HX2, HI2, HR2', HB2⟩
          · have HST := Aside0.mk hst
            clear hst hsm hn2
            go_wp2
            go_roundg (l2.length - (j + 1))
            case measure => have := hjq.out; omega
            case rel => exact ⟨j + 1, true, rfl, by go_num, by omega, ⟨rfl⟩, ⟨by rw [HST.out]; rfl⟩, hX, hI, hR, hB⟩
        · have hnm' : nm = pickB ⟨q0, q1, q2, q3⟩ l2 := by
            have := hnm.out
            rw [List.take_of_length_le (by omega)] at this
            exact this
          have hp := HP.out
          rw [← hnm'] at hp
          clear hnm'
          by_cases hna : nm = a1
          · subst hna
            rw [if_pos rfl] at hp
            have HP' := Aside0.mk hp
            have hbb : (nm == nm) = true := by simp
            clear hp
            go_wp2
            go_roundg (rs.length - (k + 1))
            case measure => have := hkq.out; omega
            case rel => exact ⟨k + 1, acc, rest, by go_num, by omega, ⟨rfl⟩, HP', hA, hI, hR, hB⟩
          · rw [if_neg hna] at hp
            obtain ⟨s, hs, hp⟩ := Option.bind_eq_some_iff.mp hp
            obtain ⟨l, hl, hp⟩ := Option.bind_eq_some_iff.mp hp
            have hbb : (nm == a1) = false := by simpa using hna
            obtain rfl := Option.some.inj hp
            have HS := Aside0.mk hs
            have HL := Aside0.mk hl
            have hlen2 : acc.length + q0.data.toList.length + 2 ≤ 140737488355328 := by
              have := hA.out
              have h3 : acc.length + q0.data.toList.length ≤ tot.length := by rw [this]; simp
              omega
            have hlen3 : acc.length + q0.size + 2 ≤ 140737488355328 := by simpa using hlen2
            clear hp hs hl hna
            go_wp2_with fail
            refine (bWS w.heap.size acc q0 _ hI.out (by omega)).mono ?_
            rintro e w2 ⟨rfl, hI2, hB2, hK2⟩
            have HX2 := Aside0.mk (okept hK2 hX.out (by decide) (by omega))
            have HI2 := Aside0.mk hI2
            have HR2' := Aside0.mk (R_okept hR.out rfl hK2 (by decide) (by omega))
            have HB2 := Aside0.mk (hB.out.trans hB2)
            clear hI2 hB2 hK2 b0 b1 b3
            have b0 := (blk_cell HX2.out 0).trans rfl
            go_wp2_with fail
            refine (strings_HasSuffix.calls _ _ s _ HS.out).mono ?_
            rintro e w3 ⟨rfl, hw3⟩
            have HX3 := Aside0.mk ((hw3.below.block g (Array.getElem?_eq_some_iff.1 HX2.out).1).trans HX2.out)
            have HI3 := Aside0.mk (HI2.out.below hw3.below)
            have HR3' := Aside0.mk (Kd.R_below HR2'.out hw3.below)
            have HB3 := Aside0.mk (below_step HB2.out hw3.below)
            clear hw3 b0
            cases s
            · go_wp2_with fail
              refine (bWS w.heap.size (acc ++ q0.data.toList) ⟨#[13, 10]⟩ _ HI3.out (by simp; omega)).mono ?_
              rintro e w4 ⟨rfl, hI4, hB4, hK4⟩
              have HI4 := Aside0.mk hI4
              have HR4 := Aside0.mk (R_okept HR3'.out rfl hK4 (by decide) (by omega))
              have HB4 := Aside0.mk (HB3.out.trans hB4)
              clear hI4 hB4 hK4
              go_wp2
              go_roundg (rs.length - (k + 1))
              case measure => have := hkq.out; omega
              case rel => exact ⟨k + 1, _, l, by go_num, by omega, ⟨rfl⟩, HL, ⟨by rw [hA.out]; simp⟩, HI4, HR4, HB4⟩
            · go_wp2
              go_roundg (rs.length - (k + 1))
              case measure => have := hkq.out; omega
              case rel => exact ⟨k + 1, _, l, by go_num, by omega, ⟨rfl⟩, HL, ⟨by rw [hA.out]; simp⟩, HI3, HR3', HB3⟩
    · have hke : rs.drop k = [] := by simp; omega
      have hp := hP.out
      rw [hke, pickGo] at hp
      obtain rfl := Option.some.inj hp
      have hA' := hA.out
      rw [List.append_nil] at hA'
      subst hA'
      clear hke hp
      go_wp2_with fail
      refine (bWS w.heap.size tot ⟨#[13, 10]⟩ _ hI.out (by simp; omega)).mono ?_
      rintro e w4 ⟨rfl, hI4, hB4, hK4⟩
      go_wp2_with (go_at_call 57; refine (bStr w.heap.size _ w4 hI4).mono ?_; rintro e w' ⟨rfl, hI', hB', hK'⟩)
      go_ret
      exact ⟨by simp, (hB.out.trans hB4).trans hB'⟩
end Go.Proofs.YtgmlhmojcemliaaDoor.P
end
section
namespace Go.Proofs.YtgmlhmojcemliaaDoor.P
open Go.RowKit Go.Proofs.YtgmlhmojcemliaaDoorW.PrintWords Go.Proofs.YtgmlhmojcemliaaDoorW.PrintLast Go.Proofs.YtgmlhmojcemliaaDoorW.PrintMore
attribute [local go_sem] max2_int min2_int max_two min_two max_three min_three max_four min_four   -- for this text's walks alone
set_option linter.unusedVariables false
set_option linter.unusedSimpArgs false

/-! ### postbaglaw5_known: function 7, GIVEN -/
def kFld : S64 := ⟨nm0, ⟨#[97, 32, 98]⟩, ⟨#[83, 117, 98, 106, 101, 99, 116, 58, 32, 97, 13, 10, 32, 98, 13, 10]⟩⟩
def kAdr : S32 := ⟨⟨true, ⟨#[74, 32, 68]⟩⟩, ⟨false, ⟨#[]⟩⟩, ⟨true, ⟨#[97]⟩⟩, ⟨true, ⟨#[98]⟩⟩⟩
theorem kSplit : letter_Split.f (⟨#[83, 117, 98, 106, 101, 99, 116, 58, 32, 97, 13, 10, 32, 98, 13, 10, 13, 10, 120]⟩ : ByteArray) = some (head0, ⟨#[120]⟩) := by decide +kernel
theorem kRows : letter_rows.f head0 = some [row1, row2] := by unfold letter_rows.f; rw [if_pos rfl]
theorem kFields : letter_Fields.f head0 = some [kFld] := by
  unfold letter_Fields.f
  rw [kRows]
  kernel_rfl
theorem kPcs1 : pcs [74, 32, 68, 32, 60, 97, 64, 98, 62] = [⟨4, ⟨#[74]⟩⟩, ⟨0, ⟨#[]⟩⟩, ⟨4, ⟨#[68]⟩⟩, ⟨0, ⟨#[]⟩⟩, ⟨3, ⟨#[60]⟩⟩, ⟨4, ⟨#[97]⟩⟩, ⟨3, ⟨#[64]⟩⟩, ⟨4, ⟨#[98]⟩⟩, ⟨3, ⟨#[62]⟩⟩] := by
  simp [pcs_cons, pcs_nil, nxt, isSg, isAt, isSp]
theorem kPcs2 : pcs [60, 99, 64, 100, 62] = [⟨3, ⟨#[60]⟩⟩, ⟨4, ⟨#[99]⟩⟩, ⟨3, ⟨#[64]⟩⟩, ⟨4, ⟨#[100]⟩⟩, ⟨3, ⟨#[62]⟩⟩] := by
  simp [pcs_cons, pcs_nil, nxt, isSg, isAt, isSp]
theorem kAddrs : letter_Addresses.f 60 (⟨#[74, 32, 68, 32, 60, 97, 64, 98, 62]⟩ : ByteArray) = some [kAdr] := by
  unfold letter_Addresses.f letter_pieces.f
  rw [if_pos (by decide)]
  show (some (pcs [74, 32, 68, 32, 60, 97, 64, 98, 62])).bind _ = _
  rw [kPcs1]
  kernel_rfl
theorem kIds : letter_Ids.f 60 (⟨#[60, 99, 64, 100, 62]⟩ : ByteArray) = some [⟨#[99, 64, 100]⟩] := by
  unfold letter_Ids.f letter_pieces.f
  rw [if_pos (by decide)]
  show (some (pcs [60, 99, 64, 100, 62])).bind _ = _
  rw [kPcs2]
  kernel_rfl
theorem kBase : letter_Base.f (⟨#[82, 101, 58, 32, 61, 63, 117, 116, 102, 45, 56, 63, 113, 63, 104, 105, 63, 61]⟩ : ByteArray) = some (⟨#[104, 105]⟩, true) := by
  show letter_Base.f subj = _
  unfold letter_Base.f
  rw [if_pos rfl]
theorem kGet : letter_Get.f 40 [kFld] (⟨#[83, 85, 66, 74, 69, 67, 84]⟩ : ByteArray) = some (true, ⟨#[97, 32, 98]⟩) := by kernel_rfl
theorem kPick : letter_Pick.f head0 true [] = some head0 := by
  unfold letter_Pick.f
  rw [kRows]
  kernel_rfl
set_option maxHeartbeats 2000000 in
set_option maxRecDepth 100000 in
theorem postbaglaw5_known.calls (w : World) (hG : Good w) :
    Calls Tryd.prog 7 #[] w fun e w' => e = .returned (.bool true) ∧ Below w.heap.size w w' := by
  have hfd : ∀ (b : Bool) (s : ByteArray) (W : World), (Instr.field 30 (.agg #[.bool b, .string s]) 1).run Tryd.prog W = .ok (.string s) W := fun _ _ _ => by kernel_rfl
  go_enter Tryd.func7, Tryd.ntmps7
  go_wp2_with fail
  refine (letter_Split.calls _ _ _ _ hG kSplit).mono ?_
  rintro e w1 ⟨rfl, hB1⟩
  go_wp2_with fail
  refine (letter_Fields.calls _ _ _ (hG.below hB1) kFields).mono ?_
  rintro e w2 ⟨v3, rfl, hR3, hb⟩
  have hB2 := below_step hB1 hb
  clear hb
  obtain ⟨A3, c3, rfl⟩ := Kd.R_slice hR3
  go_wp2_with fail
  refine (letter_Addresses.calls _ _ _ _ kAddrs).mono ?_
  rintro e w3 ⟨v4, rfl, hR4, hb⟩
  replace hR3 := Kd.R_below hR3 hb
  have hB3 := below_step hB2 hb
  clear hb
  obtain ⟨A4, c4, rfl⟩ := Kd.R_slice hR4
  go_wp2_with fail
  refine (letter_Ids.calls _ _ _ _ (hG.below hB3) kIds).mono ?_
  rintro e w4 ⟨v5, rfl, hR5, hb⟩
  replace hR3 := Kd.R_below hR3 hb
  replace hR4 := Kd.R_below hR4 hb
  have hB4 := below_step hB3 hb
  clear hb
  obtain ⟨A5, c5, rfl⟩ := Kd.R_slice hR5
  go_wp2_with fail
  refine (letter_Base.calls _ _ _ _ kBase).mono ?_
  rintro e w5 ⟨rfl, hb⟩
  replace hR3 := Kd.R_below hR3 hb
  replace hR4 := Kd.R_below hR4 hb
  replace hR5 := Kd.R_below hR5 hb
  have hB5 := below_step hB4 hb
  clear hb
  obtain ⟨ad3, e3, _, y1, _⟩ := at_T64 (Kd.R_reads' hR3).2.2 0 (by decide) (by decide)
  obtain ⟨ad4, e4, _⟩ := at_T32 (Kd.R_reads' hR4).2.2 0 (by decide) (by decide)
  obtain ⟨ad5, e5, _⟩ := Kd.at_string (Kd.R_reads' hR5).2.2 0 (by decide) (by decide)
  cases e3
  cases e4
  cases e5
  obtain ⟨g3, rfl⟩ := Kd.R_head hR3
  obtain ⟨g4, rfl⟩ := Kd.R_head hR4
  obtain ⟨g5, rfl⟩ := Kd.R_head hR5
  have y1' : w5.cell? ⟨g3, 1, none⟩ = some (.string ⟨#[97, 32, 98]⟩) := y1
  have HR3 := Aside0.mk hR3
  have HR4 := Aside0.mk hR4
  have HR5 := Aside0.mk hR5
  have HB5 := Aside0.mk hB5
  have HG := Aside0.mk hG
  clear y1 hR3 hR4 hR5 hB1 hB2 hB3 hB4 hB5 hG
  go_wp2_with fail
  refine (letter_Get.calls 40 _ _ [kFld] _ _ _ _ (Kd.R_reads' HR3.out).2.2 (Kd.R_reads' HR3.out).2.1 kGet).mono ?_
  rintro e w6 ⟨rfl, hb⟩
  have hR4 := Kd.R_below HR4.out hb
  have hR5 := Kd.R_below HR5.out hb
  have HB6 := Aside0.mk (below_step HB5.out hb)
  clear hb
  obtain ⟨_, e4, _, z1, _, _, _, z5, _⟩ := at_T32 (Kd.R_reads' hR4).2.2 0 (by decide) (by decide)
  obtain ⟨_, e5, z0⟩ := Kd.at_string (Kd.R_reads' hR5).2.2 0 (by decide) (by decide)
  cases e4
  cases e5
  have z1' : w6.cell? ⟨g4, 1, none⟩ = some (.string ⟨#[74, 32, 68]⟩) := z1
  have z5' : w6.cell? ⟨g4, 5, none⟩ = some (.string ⟨#[97]⟩) := z5
  have z0' : w6.cell? ⟨g5, 0, none⟩ = some (.string ⟨#[99, 64, 100]⟩) := z0
  clear z1 z5 z0 hR4 hR5
  go_wp2_with fail
  refine (letter_Pick.calls head0 true none 0 [] _ _ (Kd.C_nil _ _) (Nat.le_refl _) (HG.out.below HB6.out) kPick).mono ?_
  rintro e w7 ⟨rfl, hb⟩
  have HB7 := Aside0.mk (below_step HB6.out hb)
  clear hb
  go_wp2
  go_ret
  exact ⟨rfl, HB7.out⟩
end Go.Proofs.YtgmlhmojcemliaaDoor.P
end
section
namespace Go.Proofs.YtgmlhmojcemliaaDoor.P
open Go.RowKit Go.Proofs.YtgmlhmojcemliaaDoorW.PrintWords Go.Proofs.YtgmlhmojcemliaaDoorW.PrintLast Go.Proofs.YtgmlhmojcemliaaDoorW.PrintMore
attribute [local go_sem] max2_int min2_int max_two min_two max_three min_three max_four min_four   -- for this text's walks alone
set_option linter.unusedVariables false
set_option linter.unusedSimpArgs false

/-! ### postbaglaw5_atom: function 8, GIVEN -/
def atomC (c : UInt8) : UInt8 := 97 + c % 26
def atomL (l : List UInt8) : List UInt8 := 97 :: (l.take 20).map atomC
def postbaglaw5_atom.f (a0 : ByteArray) : Option ByteArray := some ⟨(atomL a0.data.toList).toArray⟩
def atomN (l : List UInt8) (k : Nat) : List Int := 97 :: (l.take k).map (fun c => ((atomC c).toNat : Int))
theorem atomC_int (c : UInt8) : ((atomC c).toNat : Int) = 97 + (c.toNat : Int) % 26 := by
  have h : ∀ n : Fin 256, ((atomC (UInt8.ofNat n.val)).toNat : Int) = 97 + (n.val : Int) % 26 := by decide +kernel
  have := h ⟨c.toNat, c.toNat_lt⟩
  simpa using this
theorem atomN_snoc (s : ByteArray) (k : Nat) (h : k < s.size) : atomN s.data.toList (k + 1) = atomN s.data.toList k ++ [97 + (s[k].toNat : Int) % 26] := by
  unfold atomN
  rw [List.take_succ_eq_append_getElem (by simpa using h), List.map_append]
  simp [atomC_int]
  rfl
theorem atomN_len (l : List UInt8) (k : Nat) (h : k ≤ l.length) : (atomN l k).length = k + 1 := by simp [atomN]; omega
theorem atomN_str (s : ByteArray) (k : Nat) (hk : k = min 20 s.size) : strOfNums (atomN s.data.toList k) = ⟨(atomL s.data.toList).toArray⟩ := by
  unfold strOfNums atomN atomL
  congr 2
  rw [List.map_cons, List.map_map]
  have e : s.data.toList.take k = s.data.toList.take 20 := by
    subst hk
    rw [List.take_eq_take_min, List.take_eq_take_min (i := 20)]; simp
  rw [e]
  congr 1
  apply List.map_congr_left
  intro c _
  simp
theorem owns_base {w : World} {B B' e sz n : Nat} {v : Value} {xs : List Value} (h : w.ownsRow B e sz v n xs) (hb : B' ≤ B) : w.ownsRow B' e sz v n xs := by
  refine ⟨h.1, ?_⟩
  rcases h.2 with h | ⟨g, cap, cur, h1, h2, h3⟩
  · exact .inl h
  · exact .inr ⟨g, cap, cur, h1, Nat.le_trans hb h2, h3⟩
set_option maxHeartbeats 1000000 in
set_option maxRecDepth 100000 in
theorem postbaglaw5_atom.calls (a0 : ByteArray) (r : ByteArray) (w : World) (h : postbaglaw5_atom.f a0 = some r) :
    Calls Tryd.prog 8 #[.string a0] w fun e w' => e = .returned (.string r) ∧ Below w.heap.size w w' := by
  obtain rfl := Option.some.inj h
  clear h
  obtain ⟨i0, hi, hz0, hz1, hz2⟩ := info_parts bInfoByte
  have kc := fun (w : World) (C : Array Value) (n c : Nat) => Lib.run_convert_bytes_const (P := Tryd.prog) w 56 5 C n c Tryd.underlying56 Tryd.underlying5
  go_enter Tryd.func8, Tryd.ntmps8
  go_wp2
  clear kc
  go_loopw [3, 4] (fun v3 v4 wr => ∃ (k : Nat) (vs : Value), vs = v3 ∧ v4 = .int .i64 k ∧ k ≤ a0.size ∧ k ≤ 20 ∧ Aside0 ((k = 0 ∧ vs = .slice (some ⟨w.heap.size, 0, none⟩) 1 1 ∧ wr.heap[w.heap.size]? = some (.cells #[.int .u8 97] 5 (1, 2))) ∨ (0 < k ∧ wr.ownsRow w.heap.size 5 1 vs (k + 1) (nums .u8 (atomN a0.data.toList k)))) ∧ Aside0 (Below w.heap.size w wr)) (fun _ i _ => a0.size - (intOf i).toNat)
  case atStart => exact ⟨0, _, rfl, rfl, Nat.zero_le _, Nat.zero_le _, ⟨.inl ⟨rfl, rfl, heap_alloc_new _ _⟩⟩, ⟨below_alloc (Below.refl _ _) _⟩⟩
  case round =>
    obtain ⟨k, vs, rfl, rfl, hk, hk2, hrow, hB⟩ := hrel
    have hbs := hB.out.size
    by_cases hlt : k < a0.size ∧ k < 20
    · obtain ⟨hlt, hlt2⟩ := hlt
      have hlt3 : (k : Int) < 20 := by omega
      have hsn := atomN_snoc a0 k hlt
      have hln := atomN_len a0.data.toList k (by simp; omega)
      have HS := Aside0.mk hsn
      have HL := Aside0.mk hln
      clear hsn hln
      have hmod : (0 : Int) ≤ (a0[k].toNat : Int) % 26 ∧ (a0[k].toNat : Int) % 26 ≤ 25 := by omega
      obtain ⟨hm1, hm2⟩ := hmod
      rcases hrow.out with ⟨rfl, rfl, hb⟩ | ⟨hk0, hown⟩
      · have HH := Aside0.mk hb
        have hwl : w.heap.size < wr.heap.size := (Array.getElem?_eq_some_iff.1 hb).1
        clear hb hrow
        go_wp2_with (at_builtin; refine wpList_append_grows _ rfl _ _ 56 rfl 5 i0 (.int .u8 0) 1 1 Tryd.underlying56 hi hz0 hz1 hz2 rfl (by decide) _ 1 1 [.int .u8 97] rfl (by simp) rfl ?c1 ⟨wr.heap.size, 0, none⟩ 1 1 [.int .u8 (97 + (a0[0].toNat : Int) % 26)] rfl rfl ?c2 ?c3 (by decide) (by decide) (by decide) ?_)
        case c1 =>
          intro b hb
          obtain rfl := Option.some.inj hb
          exact World.news_of_block (cs := #[.int .u8 97]) ((heap_alloc_old _ _ hwl).trans HH.out)
        case c2 => exact World.news_of_block (cs := #[.int .u8 (97 + (a0[0].toNat : Int) % 26)]) (heap_alloc_new wr _)
        case c3 => simp [Value.oneCell']
        intro v1 w1 hown hg
        have hg' : wr.grownBy w1 none := World.grownBy.trans (World.grownBy_alloc wr _ _) hg
        have H1 := Aside0.mk hown
        have H2 := Aside0.mk (pw_below_grown hB.out none hbs hg' (fun k hk => by cases hk))
        clear hown hg hg'
        go_wp2
        go_roundw
        case rel =>
          refine ⟨1, _, rfl, rfl, by omega, by omega, ⟨.inr ⟨by omega, ?_⟩⟩, H2⟩
          rw [HS.out]
          exact owns_base (B := wr.heap.size + 1) (by simpa [nums, atomN] using H1.out) (by omega)
        case measure => simp [intOf]; omega
      · have H0 : wr.ownsRow w.heap.size 5 1 vs (atomN a0.data.toList k).length (nums .u8 (atomN a0.data.toList k)) := by rw [HL.out]; exact hown
        have H0' := Aside0.mk H0
        clear H0 hown hrow
        go_wp2_with (at_builtin; refine print_append_num w.heap.size rfl _ _ 56 5 .u8 1 rfl Tryd.underlying56 (by rw [hi]; simp [hz0, hz1, hz2]) (by decide) vs (atomN a0.data.toList k) (97 + (a0[k].toNat : Int) % 26) rfl rfl H0'.out hB.out hbs (by rw [HL.out]; omega) ?_)
        intro v1 w1 hown hB1 hg hat
        have H1 := Aside0.mk hown
        have H2 := Aside0.mk hB1
        clear hown hB1 hg hat
        go_wp2
        go_roundw
        case rel =>
          refine ⟨k + 1, _, rfl, by go_num, by omega, by omega, ⟨.inr ⟨by omega, ?_⟩⟩, H2⟩
          have := H1.out
          rw [← HS.out] at this
          simpa [HL.out] using this
        case measure => simp [intOf]; omega
    · have hmin : k = min 20 a0.size := by omega
      have hstr := atomN_str a0 k hmin
      have hcv : (convert 56 9 vs).run Tryd.prog wr = .ok (.string ⟨(atomL a0.data.toList).toArray⟩) wr := by
        rw [← hstr]
        rcases hrow.out with ⟨rfl, rfl, hb⟩ | ⟨hk0, hown⟩
        · refine string_of_reads (P := Tryd.prog) Tryd.underlying56 Tryd.underlying5 Tryd.underlying9 ⟨rfl, by omega, fun _ => ⟨_, rfl, fun j hj => ?_⟩⟩
          obtain rfl : j = 0 := by omega
          simp [World.cell?, hb, Addr.add, atomN]
        · exact own_string (P := Tryd.prog) Tryd.underlying56 Tryd.underlying5 Tryd.underlying9 hown
      have hend : (k < a0.size ∧ ¬ k < 20) ∨ ¬ k < a0.size := by omega
      rcases hend with ⟨h1, h2⟩ | h1
      · have h2' : ¬ ((k : Int) < 20) := by omega
        go_wp2
        go_ret
        exact ⟨rfl, hB.out⟩
      · go_wp2
        go_ret
        exact ⟨rfl, hB.out⟩
end Go.Proofs.YtgmlhmojcemliaaDoor.P
end
section
namespace Go.Proofs.YtgmlhmojcemliaaDoor.P
open Go.RowKit Go.Proofs.YtgmlhmojcemliaaDoorW.PrintWords Go.Proofs.YtgmlhmojcemliaaDoorW.PrintLast Go.Proofs.YtgmlhmojcemliaaDoorW.PrintMore
attribute [local go_sem] max2_int min2_int max_two min_two max_three min_three max_four min_four   -- for this text's walks alone
set_option linter.unusedVariables false
set_option linter.unusedSimpArgs false

attribute [local go_sem high] eqA32
/-! ### postbaglaw5_quote: function 9 -/
def postbaglaw5_quote.l0 : Nat → ByteArray → List Int → Int → Option (ByteArray)
  | 0, _, _, _ => none
  | k + 1, x0, x3, x4 => if x4 < (x0.size : Int) then (if 0 ≤ x4 then (if (bt x0 x4) = 34 then (if x3.length < 140737488355328 then ((some (x3 ++ [92] : List Int)).bind fun y300 => (if y300.length < 140737488355328 then (postbaglaw5_quote.l0 k x0 (y300 ++ [bt x0 x4]) (wrap64 (x4 + 1))) else (none))) else (none)) else (if (bt x0 x4) = 92 then (if x3.length < 140737488355328 then ((some (x3 ++ [92] : List Int)).bind fun y306 => (if y306.length < 140737488355328 then (postbaglaw5_quote.l0 k x0 (y306 ++ [bt x0 x4]) (wrap64 (x4 + 1))) else (none))) else (none)) else (if x3.length < 140737488355328 then (postbaglaw5_quote.l0 k x0 (x3 ++ [bt x0 x4]) (wrap64 (x4 + 1))) else (none)))) else (none)) else (if x3.length < 140737488355328 then (some (strOfNums (x3 ++ [34]))) else (none))
def postbaglaw5_quote.f (k : Nat) (a0 : ByteArray) : Option (ByteArray) := postbaglaw5_quote.l0 k a0 (([34] : List Int)) 0
theorem postbaglaw5_quote.mono_l : ∀ k, (∀ y0 y1 y2, LeO (postbaglaw5_quote.l0 k y0 y1 y2) (postbaglaw5_quote.l0 (k + 1) y0 y1 y2))
  | 0 => fun _ _ _ r h => by simp [postbaglaw5_quote.l0] at h
  | k + 1 => by
    have ih0 := postbaglaw5_quote.mono_l k
    · intro y0 y1 y2
      unfold postbaglaw5_quote.l0
      repeat' first
      | (with_reducible exact ih0 _ _ _)
      | (with_reducible exact LeO.refl _)
      | (with_reducible exact LeO.none _)
      | (with_reducible refine LeO.ite ?_ ?_)
      | (with_reducible refine LeO.bind ?_ (fun _ => ?_))
      | exact ih0 _ _ _
      | exact LeO.none _
      | refine LeO.ite ?_ ?_
      | refine LeO.bind ?_ (fun _ => ?_)
theorem postbaglaw5_quote.mono : ∀ a0 k, LeO (postbaglaw5_quote.f k a0) (postbaglaw5_quote.f (k + 1) a0) := by
  intro a0 k
  have ih0 := postbaglaw5_quote.mono_l k
  unfold postbaglaw5_quote.f
  repeat' first
      | (with_reducible exact ih0 _ _ _)
      | (with_reducible exact LeO.refl _)
      | (with_reducible exact LeO.none _)
      | (with_reducible refine LeO.ite ?_ ?_)
      | (with_reducible refine LeO.bind ?_ (fun _ => ?_))
      | exact ih0 _ _ _
      | exact LeO.none _
      | refine LeO.ite ?_ ?_
      | refine LeO.bind ?_ (fun _ => ?_)
set_option maxHeartbeats 8000000 in
set_option maxRecDepth 100000 in
theorem postbaglaw5_quote.calls (k : Nat) (a0 : ByteArray) (r : ByteArray) (w : World) (h : postbaglaw5_quote.f k a0 = some r) :
    Calls Tryd.prog 9 #[.string a0] w fun e w' => e = .returned (.string r) ∧ Below w.heap.size w w' := by
  have HB := Aside0.mk (Below.refl w.heap.size w)
  have H : (postbaglaw5_quote.l0 k a0 (([34] : List Int)) 0) = some r := h
  clear h
  obtain ⟨y297, hy297⟩ : ∃ y_ : List Int, y_ = (([34] : List Int)) := ⟨_, rfl⟩
  replace H : (postbaglaw5_quote.l0 k a0 y297 0) = some r := by first | (rw [hy297]; with_reducible exact H) | (have H2_ := (Option.bind_some _ _).symm.trans H; rw [hy297]; with_reducible exact H2_) | (have H2_ := (Option.bind_some _ _).symm.trans H; with_reducible exact H2_) | with_reducible exact H | (rw [hy297]; exact H) | exact H
  have Ny297 := Aside0.mk hy297
  clear hy297
  have H' := Aside0.mk H
  clear H
  go_enter Tryd.func9, Tryd.ntmps9
  go_wp2_with (first | ((with_reducible refine gate_dst (N := 5) rfl ?_); refine Kd.R_lit (Kd.int .u8) _ 5 ?hg (N := 5) ?hd (xs := ([34] : List Int)) (inner := [.int .u8 34]) (ok := fun _ => True) (okp := fun _ => True) ?hr ?hp (fun _ hk => hk) trivial (Below.refl _ _) (Nat.le_refl _) (by simp) ?_; (case hd => rfl); (case hg => rfl); (case hr => first | (go_simp; done) | (go_simp; rfl)); (case hp => exact (Reps.one (show Kd.M (Kd.int .u8) _ _ _ 34 [.int .u8 34] from rfl) (Reps.none _ _))); intro v298 w2 ho3 hb hg_ hnew_; clear hg_ hnew_; (first | rw [← Ny297.out] at ho3 | (simp only [Int.reduceToNat] at ho3; rw [← Ny297.out] at ho3)); have n0_ := Aside0.mk (Kd.R_lower ho3 (below_size (by repeat (first | (with_reducible first | exact HB.out | apply below_alloc | apply pw_below_drewN | apply below_drew1) | exact HB.out)))); have n1_ := Aside0.mk (below_step (by repeat (first | (with_reducible first | exact HB.out | apply below_alloc | apply pw_below_drewN | apply below_drew1) | exact HB.out)) hb); clear HB; have HO299 := n0_; have HB := n1_; clear n0_ n1_; clear hb ho3))
  go_loopg [3, 4] k (fun kq v3 v4 w' => ∃ (x3_1 : List Int) (x4_1 : Int), v4 = .int .i64 x4_1 ∧ Aside0 (postbaglaw5_quote.l0 kq a0 x3_1 x4_1 = some r) ∧ Aside0 (kq ≤ k) ∧ Aside0 (Kd.R (Kd.int .u8) 5 w' w.heap.size (fun _ => True) v3 x3_1) ∧ Aside0 (Below w.heap.size w w'))
  case atStart => exact ⟨(y297), (0), (by first | rfl | (simp; done) | (simp [*]; done)), H', ⟨Nat.le_refl _⟩, ⟨by (with_reducible repeat (first | apply Kd.R_alloc | apply Kd.R_drewN | apply Kd.R_drew)); exact HO299.out⟩, ⟨by repeat (first | (with_reducible first | exact HB.out | apply below_alloc | apply pw_below_drewN | apply below_drew1) | exact HB.out)⟩⟩
  case round =>
    clear H'
    try clear p2
    obtain ⟨x3_1, x4_1, rfl, HA, HK1, HO_3, HB⟩ := hrel
    cases gk with
    | zero => exact absurd HA.out (by simp [postbaglaw5_quote.l0])
    | succ k1 =>
      have H := HA.out
      clear HA
      simp only [postbaglaw5_quote.l0] at H
      by_cases c4 : x4_1 < (a0.size : Int)
      · rw [if_pos c4] at H
        have c4b0 : decide (x4_1 < (a0.size : Int)) = true := decide_eq_true c4
        clear c4
        by_cases c5 : 0 ≤ x4_1
        · rw [if_pos c5] at H
          have c5b0 : decide (0 ≤ x4_1) = true := decide_eq_true c5
          clear c5
          by_cases c7 : (bt a0 x4_1) = 34
          · rw [if_pos c7] at H
            have c7b0 : ((bt a0 x4_1) == 34) = true := beq_iff_eq.mpr c7
            have c7b1 : ((bt a0 x4_1) != 34) = false := bne_eq_false_iff_eq.mpr c7
            clear c7
            by_cases c8 : x3_1.length < 140737488355328
            · rw [if_pos c8] at H
              have LMc8 := Aside0.mk c8
              clear c8
              obtain ⟨y300, hy300⟩ : ∃ y_ : List Int, y_ = (x3_1 ++ [92]) := ⟨_, rfl⟩
              replace H : (if y300.length < 140737488355328 then (postbaglaw5_quote.l0 k1 a0 (y300 ++ [bt a0 x4_1]) (wrap64 (x4_1 + 1))) else (none)) = some r := by first | (rw [hy300]; with_reducible exact H) | (have H2_ := (Option.bind_some _ _).symm.trans H; rw [hy300]; with_reducible exact H2_) | (have H2_ := (Option.bind_some _ _).symm.trans H; with_reducible exact H2_) | with_reducible exact H | (rw [hy300]; exact H) | exact H
              have Ny300 := Aside0.mk hy300
              clear hy300
              by_cases c10 : y300.length < 140737488355328
              · rw [if_pos c10] at H
                have LMc10 := Aside0.mk c10
                clear c10
                obtain ⟨y303, hy303⟩ : ∃ y_ : List Int, y_ = (y300 ++ [bt a0 x4_1]) := ⟨_, rfl⟩
                replace H : (postbaglaw5_quote.l0 k1 a0 y303 (wrap64 (x4_1 + 1))) = some r := by first | (rw [hy303]; with_reducible exact H) | (have H2_ := (Option.bind_some _ _).symm.trans H; rw [hy303]; with_reducible exact H2_) | (have H2_ := (Option.bind_some _ _).symm.trans H; with_reducible exact H2_) | with_reducible exact H | (rw [hy303]; exact H) | exact H
                have Ny303 := Aside0.mk hy303
                clear hy303
                have H' := Aside0.mk H
                clear H
                have p6 : 0 ≤ (x4_1 : Int) := of_decide_eq_true (by first | (with_reducible assumption) | assumption)
                have q6 : x4_1 < (a0.size : Int) := of_decide_eq_true (by first | (with_reducible assumption) | assumption)
                have hx6 := bt_at a0 x4_1
                replace p6 := eq_true p6
                replace q6 := eq_true q6
                go_wp2_with (first | ((with_reducible refine gate_builtin (b := .append) (xs := #[.tmp 22, .tmp 23]) rfl ?_); at_builtin; refine Kd.R_append (Kd.int .u8) (w0 := w) w.heap.size rfl (.tmp 22) (.tmp 23) 56 5 (.int .u8 0) 1 rfl Tryd.underlying56 info5 rfl (by decide) (by omega) u3 x3_1 92 [.int .u8 92] (fun _ => True) (fun _ => False) rfl rfl ?aP (fun _ hk => hk.elim) ?aF ?aO ?aB ?aS ?aL ?_; (case aP => exact rfl); (case aB => exact (by repeat (first | (with_reducible first | exact HB.out | apply below_alloc | apply pw_below_drewN | apply below_drew1) | exact HB.out))); (case aF => exact (fun _ _ => trivial)); (case aO => exact (by (with_reducible repeat (first | apply Kd.R_alloc | apply Kd.R_drewN | apply Kd.R_drew)); exact HO_3.out)); (case aS => exact (below_size (by repeat (first | (with_reducible first | exact HB.out | apply below_alloc | apply pw_below_drewN | apply below_drew1) | exact HB.out)))); (case aL => have := LMc8.out; omega); intro v301 w11 ho hb hg hat; rw [← Ny300.out] at ho; have n0_ := Aside0.mk (hb); have n1_ := Aside0.mk (ho); clear HB; clear HO_3; have HB := n0_; have HO302 := n1_; clear n0_ n1_; clear ho hb hg hat; have p9 : 0 ≤ (x4_1 : Int) := of_decide_eq_true (by first | (with_reducible assumption) | assumption); have q9 : x4_1 < (a0.size : Int) := of_decide_eq_true (by first | (with_reducible assumption) | assumption); have hx9 := bt_at a0 x4_1; replace p9 := eq_true p9; replace q9 := eq_true q9) | ((with_reducible refine gate_builtin (b := .append) (xs := #[.tmp 25, .tmp 29]) rfl ?_); at_builtin; refine Kd.R_append (Kd.int .u8) (w0 := w) w.heap.size rfl (.tmp 25) (.tmp 29) 56 5 (.int .u8 0) 1 rfl Tryd.underlying56 info5 rfl (by decide) (by omega) v301 y300 (bt a0 x4_1) [.int .u8 (bt a0 x4_1)] (fun _ => True) (fun _ => False) rfl rfl ?aP (fun _ hk => hk.elim) ?aF ?aO ?aB ?aS ?aL ?_; (case aP => exact rfl); (case aB => exact (by repeat (first | (with_reducible first | exact HB.out | apply below_alloc | apply pw_below_drewN | apply below_drew1) | exact HB.out))); (case aF => exact (fun _ _ => trivial)); (case aO => exact (by (with_reducible repeat (first | apply Kd.R_alloc | apply Kd.R_drewN | apply Kd.R_drew)); exact HO302.out)); (case aS => exact (below_size (by repeat (first | (with_reducible first | exact HB.out | apply below_alloc | apply pw_below_drewN | apply below_drew1) | exact HB.out)))); (case aL => have := LMc10.out; omega); intro v304 w12 ho hb hg hat; rw [← Ny303.out] at ho; have n0_ := Aside0.mk (hb); have n1_ := Aside0.mk (ho); clear HB; clear HO302; have HB := n0_; have HO305 := n1_; clear n0_ n1_; clear ho hb hg hat))
                go_roundg k1
                case measure => have := HK1.out; omega
                case rel => exact ⟨(y303), (wrap64 (x4_1 + 1)), (by first | rfl | (simp; done) | (simp [*]; done)), H', ⟨by have := HK1.out; omega⟩, ⟨by (with_reducible repeat (first | apply Kd.R_alloc | apply Kd.R_drewN | apply Kd.R_drew)); exact HO305.out⟩, ⟨by repeat (first | (with_reducible first | exact HB.out | apply below_alloc | apply pw_below_drewN | apply below_drew1) | exact HB.out)⟩⟩
              · rw [if_neg c10] at H
                exact absurd H (by simp)
            · rw [if_neg c8] at H
              exact absurd H (by simp)
          · rw [if_neg c7] at H
            have c7b0 : ((bt a0 x4_1) == 34) = false := beq_eq_false_iff_ne.mpr c7
            have c7b1 : ((bt a0 x4_1) != 34) = true := bne_iff_ne.mpr c7
            by_cases c14 : (bt a0 x4_1) = 92
            · rw [if_pos c14] at H
              have c14b0 : ((bt a0 x4_1) == 92) = true := beq_iff_eq.mpr c14
              have c14b1 : ((bt a0 x4_1) != 92) = false := bne_eq_false_iff_eq.mpr c14
              clear c14
              by_cases c15 : x3_1.length < 140737488355328
              · rw [if_pos c15] at H
                have LMc15 := Aside0.mk c15
                clear c15
                obtain ⟨y306, hy306⟩ : ∃ y_ : List Int, y_ = (x3_1 ++ [92]) := ⟨_, rfl⟩
                replace H : (if y306.length < 140737488355328 then (postbaglaw5_quote.l0 k1 a0 (y306 ++ [bt a0 x4_1]) (wrap64 (x4_1 + 1))) else (none)) = some r := by first | (rw [hy306]; with_reducible exact H) | (have H2_ := (Option.bind_some _ _).symm.trans H; rw [hy306]; with_reducible exact H2_) | (have H2_ := (Option.bind_some _ _).symm.trans H; with_reducible exact H2_) | with_reducible exact H | (rw [hy306]; exact H) | exact H
                have Ny306 := Aside0.mk hy306
                clear hy306
                by_cases c17 : y306.length < 140737488355328
                · rw [if_pos c17] at H
                  have LMc17 := Aside0.mk c17
                  clear c17
                  obtain ⟨y309, hy309⟩ : ∃ y_ : List Int, y_ = (y306 ++ [bt a0 x4_1]) := ⟨_, rfl⟩
                  replace H : (postbaglaw5_quote.l0 k1 a0 y309 (wrap64 (x4_1 + 1))) = some r := by first | (rw [hy309]; with_reducible exact H) | (have H2_ := (Option.bind_some _ _).symm.trans H; rw [hy309]; with_reducible exact H2_) | (have H2_ := (Option.bind_some _ _).symm.trans H; with_reducible exact H2_) | with_reducible exact H | (rw [hy309]; exact H) | exact H
                  have Ny309 := Aside0.mk hy309
                  clear hy309
                  have H' := Aside0.mk H
                  clear H
                  have p6 : 0 ≤ (x4_1 : Int) := of_decide_eq_true (by first | (with_reducible assumption) | assumption)
                  have q6 : x4_1 < (a0.size : Int) := of_decide_eq_true (by first | (with_reducible assumption) | assumption)
                  have hx6 := bt_at a0 x4_1
                  replace p6 := eq_true p6
                  replace q6 := eq_true q6
                  have p13 : 0 ≤ (x4_1 : Int) := of_decide_eq_true (by first | (with_reducible assumption) | assumption)
                  have q13 : x4_1 < (a0.size : Int) := of_decide_eq_true (by first | (with_reducible assumption) | assumption)
                  have hx13 := bt_at a0 x4_1
                  replace p13 := eq_true p13
                  replace q13 := eq_true q13
                  go_wp2_with (first | ((with_reducible refine gate_builtin (b := .append) (xs := #[.tmp 22, .tmp 23]) rfl ?_); at_builtin; refine Kd.R_append (Kd.int .u8) (w0 := w) w.heap.size rfl (.tmp 22) (.tmp 23) 56 5 (.int .u8 0) 1 rfl Tryd.underlying56 info5 rfl (by decide) (by omega) u3 x3_1 92 [.int .u8 92] (fun _ => True) (fun _ => False) rfl rfl ?aP (fun _ hk => hk.elim) ?aF ?aO ?aB ?aS ?aL ?_; (case aP => exact rfl); (case aB => exact (by repeat (first | (with_reducible first | exact HB.out | apply below_alloc | apply pw_below_drewN | apply below_drew1) | exact HB.out))); (case aF => exact (fun _ _ => trivial)); (case aO => exact (by (with_reducible repeat (first | apply Kd.R_alloc | apply Kd.R_drewN | apply Kd.R_drew)); exact HO_3.out)); (case aS => exact (below_size (by repeat (first | (with_reducible first | exact HB.out | apply below_alloc | apply pw_below_drewN | apply below_drew1) | exact HB.out)))); (case aL => have := LMc15.out; omega); intro v307 w18 ho hb hg hat; rw [← Ny306.out] at ho; have n0_ := Aside0.mk (hb); have n1_ := Aside0.mk (ho); clear HB; clear HO_3; have HB := n0_; have HO308 := n1_; clear n0_ n1_; clear ho hb hg hat; have p16 : 0 ≤ (x4_1 : Int) := of_decide_eq_true (by first | (with_reducible assumption) | assumption); have q16 : x4_1 < (a0.size : Int) := of_decide_eq_true (by first | (with_reducible assumption) | assumption); have hx16 := bt_at a0 x4_1; replace p16 := eq_true p16; replace q16 := eq_true q16) | ((with_reducible refine gate_builtin (b := .append) (xs := #[.tmp 25, .tmp 29]) rfl ?_); at_builtin; refine Kd.R_append (Kd.int .u8) (w0 := w) w.heap.size rfl (.tmp 25) (.tmp 29) 56 5 (.int .u8 0) 1 rfl Tryd.underlying56 info5 rfl (by decide) (by omega) v307 y306 (bt a0 x4_1) [.int .u8 (bt a0 x4_1)] (fun _ => True) (fun _ => False) rfl rfl ?aP (fun _ hk => hk.elim) ?aF ?aO ?aB ?aS ?aL ?_; (case aP => exact rfl); (case aB => exact (by repeat (first | (with_reducible first | exact HB.out | apply below_alloc | apply pw_below_drewN | apply below_drew1) | exact HB.out))); (case aF => exact (fun _ _ => trivial)); (case aO => exact (by (with_reducible repeat (first | apply Kd.R_alloc | apply Kd.R_drewN | apply Kd.R_drew)); exact HO308.out)); (case aS => exact (below_size (by repeat (first | (with_reducible first | exact HB.out | apply below_alloc | apply pw_below_drewN | apply below_drew1) | exact HB.out)))); (case aL => have := LMc17.out; omega); intro v310 w19 ho hb hg hat; rw [← Ny309.out] at ho; have n0_ := Aside0.mk (hb); have n1_ := Aside0.mk (ho); clear HB; clear HO308; have HB := n0_; have HO311 := n1_; clear n0_ n1_; clear ho hb hg hat))
                  go_roundg k1
                  case measure => have := HK1.out; omega
                  case rel => exact ⟨(y309), (wrap64 (x4_1 + 1)), (by first | rfl | (simp; done) | (simp [*]; done)), H', ⟨by have := HK1.out; omega⟩, ⟨by (with_reducible repeat (first | apply Kd.R_alloc | apply Kd.R_drewN | apply Kd.R_drew)); exact HO311.out⟩, ⟨by repeat (first | (with_reducible first | exact HB.out | apply below_alloc | apply pw_below_drewN | apply below_drew1) | exact HB.out)⟩⟩
                · rw [if_neg c17] at H
                  exact absurd H (by simp)
              · rw [if_neg c15] at H
                exact absurd H (by simp)
            · rw [if_neg c14] at H
              have c14b0 : ((bt a0 x4_1) == 92) = false := beq_eq_false_iff_ne.mpr c14
              have c14b1 : ((bt a0 x4_1) != 92) = true := bne_iff_ne.mpr c14
              by_cases c21 : x3_1.length < 140737488355328
              · rw [if_pos c21] at H
                have LMc21 := Aside0.mk c21
                clear c21
                obtain ⟨y312, hy312⟩ : ∃ y_ : List Int, y_ = (x3_1 ++ [bt a0 x4_1]) := ⟨_, rfl⟩
                replace H : (postbaglaw5_quote.l0 k1 a0 y312 (wrap64 (x4_1 + 1))) = some r := by first | (rw [hy312]; with_reducible exact H) | (have H2_ := (Option.bind_some _ _).symm.trans H; rw [hy312]; with_reducible exact H2_) | (have H2_ := (Option.bind_some _ _).symm.trans H; with_reducible exact H2_) | with_reducible exact H | (rw [hy312]; exact H) | exact H
                have Ny312 := Aside0.mk hy312
                clear hy312
                have H' := Aside0.mk H
                clear H
                have p6 : 0 ≤ (x4_1 : Int) := of_decide_eq_true (by first | (with_reducible assumption) | assumption)
                have q6 : x4_1 < (a0.size : Int) := of_decide_eq_true (by first | (with_reducible assumption) | assumption)
                have hx6 := bt_at a0 x4_1
                replace p6 := eq_true p6
                replace q6 := eq_true q6
                have p13 : 0 ≤ (x4_1 : Int) := of_decide_eq_true (by first | (with_reducible assumption) | assumption)
                have q13 : x4_1 < (a0.size : Int) := of_decide_eq_true (by first | (with_reducible assumption) | assumption)
                have hx13 := bt_at a0 x4_1
                replace p13 := eq_true p13
                replace q13 := eq_true q13
                have p20 : 0 ≤ (x4_1 : Int) := of_decide_eq_true (by first | (with_reducible assumption) | assumption)
                have q20 : x4_1 < (a0.size : Int) := of_decide_eq_true (by first | (with_reducible assumption) | assumption)
                have hx20 := bt_at a0 x4_1
                replace p20 := eq_true p20
                replace q20 := eq_true q20
                go_wp2_with (first | ((with_reducible refine gate_builtin (b := .append) (xs := #[.tmp 25, .tmp 29]) rfl ?_); at_builtin; refine Kd.R_append (Kd.int .u8) (w0 := w) w.heap.size rfl (.tmp 25) (.tmp 29) 56 5 (.int .u8 0) 1 rfl Tryd.underlying56 info5 rfl (by decide) (by omega) u3 x3_1 (bt a0 x4_1) [.int .u8 (bt a0 x4_1)] (fun _ => True) (fun _ => False) rfl rfl ?aP (fun _ hk => hk.elim) ?aF ?aO ?aB ?aS ?aL ?_; (case aP => exact rfl); (case aB => exact (by repeat (first | (with_reducible first | exact HB.out | apply below_alloc | apply pw_below_drewN | apply below_drew1) | exact HB.out))); (case aF => exact (fun _ _ => trivial)); (case aO => exact (by (with_reducible repeat (first | apply Kd.R_alloc | apply Kd.R_drewN | apply Kd.R_drew)); exact HO_3.out)); (case aS => exact (below_size (by repeat (first | (with_reducible first | exact HB.out | apply below_alloc | apply pw_below_drewN | apply below_drew1) | exact HB.out)))); (case aL => have := LMc21.out; omega); intro v313 w22 ho hb hg hat; rw [← Ny312.out] at ho; have n0_ := Aside0.mk (hb); have n1_ := Aside0.mk (ho); clear HB; clear HO_3; have HB := n0_; have HO314 := n1_; clear n0_ n1_; clear ho hb hg hat))
                go_roundg k1
                case measure => have := HK1.out; omega
                case rel => exact ⟨(y312), (wrap64 (x4_1 + 1)), (by first | rfl | (simp; done) | (simp [*]; done)), H', ⟨by have := HK1.out; omega⟩, ⟨by (with_reducible repeat (first | apply Kd.R_alloc | apply Kd.R_drewN | apply Kd.R_drew)); exact HO314.out⟩, ⟨by repeat (first | (with_reducible first | exact HB.out | apply below_alloc | apply pw_below_drewN | apply below_drew1) | exact HB.out)⟩⟩
              · rw [if_neg c21] at H
                exact absurd H (by simp)
        · rw [if_neg c5] at H
          exact absurd H (by simp)
      · rw [if_neg c4] at H
        have c4b0 : decide (x4_1 < (a0.size : Int)) = false := decide_eq_false c4
        clear c4
        by_cases c23 : x3_1.length < 140737488355328
        · rw [if_pos c23] at H
          have LMc23 := Aside0.mk c23
          clear c23
          obtain ⟨y315, hy315⟩ : ∃ y_ : List Int, y_ = (x3_1 ++ [34]) := ⟨_, rfl⟩
          replace H : (some (strOfNums y315)) = some r := by first | (rw [hy315]; with_reducible exact H) | (have H2_ := (Option.bind_some _ _).symm.trans H; rw [hy315]; with_reducible exact H2_) | (have H2_ := (Option.bind_some _ _).symm.trans H; with_reducible exact H2_) | with_reducible exact H | (rw [hy315]; exact H) | exact H
          have Ny315 := Aside0.mk hy315
          clear hy315
          obtain rfl := Option.some.inj H
          go_wp2_with (first | ((with_reducible refine gate_builtin (b := .append) (xs := #[.tmp 31, .tmp 32]) rfl ?_); at_builtin; refine Kd.R_append (Kd.int .u8) (w0 := w) w.heap.size rfl (.tmp 31) (.tmp 32) 56 5 (.int .u8 0) 1 rfl Tryd.underlying56 info5 rfl (by decide) (by omega) u3 x3_1 34 [.int .u8 34] (fun _ => True) (fun _ => False) rfl rfl ?aP (fun _ hk => hk.elim) ?aF ?aO ?aB ?aS ?aL ?_; (case aP => exact rfl); (case aB => exact (by repeat (first | (with_reducible first | exact HB.out | apply below_alloc | apply pw_below_drewN | apply below_drew1) | exact HB.out))); (case aF => exact (fun _ _ => trivial)); (case aO => exact (by (with_reducible repeat (first | apply Kd.R_alloc | apply Kd.R_drewN | apply Kd.R_drew)); exact HO_3.out)); (case aS => exact (below_size (by repeat (first | (with_reducible first | exact HB.out | apply below_alloc | apply pw_below_drewN | apply below_drew1) | exact HB.out)))); (case aL => have := LMc23.out; omega); intro v316 w24 ho hb hg hat; rw [← Ny315.out] at ho; have n0_ := Aside0.mk (hb); have n1_ := Aside0.mk (ho); clear HB; clear HO_3; have HB := n0_; have HO317 := n1_; clear n0_ n1_; clear ho hb hg hat; have hcv25 := own_string (P := Tryd.prog) Tryd.underlying56 Tryd.underlying5 Tryd.underlying9 (Kd.own_of_R HO317.out)))
          go_ret
          exact ⟨by first | rfl | (simp [errW_none, errW_some] <;> rfl) | (simp [*, errW_none, errW_some] <;> rfl), by repeat (first | (with_reducible first | exact HB.out | apply below_alloc | apply pw_below_drewN | apply below_drew1) | exact HB.out)⟩
        · rw [if_neg c23] at H
          exact absurd H (by simp)

/-! ### postbaglaw5_addresses: function 12 -/
def postbaglaw5_addresses.l0 : Nat → List (S32) → List (S32) → Int → Option (Bool)
  | 0, _, _, _ => none
  | k + 1, x0, x1, x5 => if x5 < (x0.length : Int) then (if 0 ≤ x5 then (if x5 < (x1.length : Int) then (if ((!(((rd_T32 x0 x5).f0.f0) == ((rd_T32 x1 x5).f0.f0)) || (!((((rd_T32 x0 x5).f0.f1).toList) == (((rd_T32 x1 x5).f0.f1).toList)))) || ((!(((rd_T32 x0 x5).f1.f0) == ((rd_T32 x1 x5).f1.f0)) || (!((((rd_T32 x0 x5).f1.f1).toList) == (((rd_T32 x1 x5).f1.f1).toList)))) || ((!(((rd_T32 x0 x5).f2.f0) == ((rd_T32 x1 x5).f2.f0)) || (!((((rd_T32 x0 x5).f2.f1).toList) == (((rd_T32 x1 x5).f2.f1).toList)))) || ((!(((rd_T32 x0 x5).f3.f0) == ((rd_T32 x1 x5).f3.f0)) || (!((((rd_T32 x0 x5).f3.f1).toList) == (((rd_T32 x1 x5).f3.f1).toList)))))))) = true then (some false) else (postbaglaw5_addresses.l0 k x0 x1 (wrap64 (x5 + 1)))) else (none)) else (none)) else (some true)
def postbaglaw5_addresses.f (k : Nat) (l0 : List (S32)) (l1 : List (S32)) : Option (Bool) := if (l0.length : Int) = (l1.length : Int) then (postbaglaw5_addresses.l0 k l0 l1 0) else (some false)
theorem postbaglaw5_addresses.mono_l : ∀ k, (∀ y0 y1 y2, LeO (postbaglaw5_addresses.l0 k y0 y1 y2) (postbaglaw5_addresses.l0 (k + 1) y0 y1 y2))
  | 0 => fun _ _ _ r h => by simp [postbaglaw5_addresses.l0] at h
  | k + 1 => by
    have ih0 := postbaglaw5_addresses.mono_l k
    · intro y0 y1 y2
      unfold postbaglaw5_addresses.l0
      repeat' first
      | (with_reducible exact ih0 _ _ _)
      | (with_reducible exact LeO.refl _)
      | (with_reducible exact LeO.none _)
      | (with_reducible refine LeO.ite ?_ ?_)
      | (with_reducible refine LeO.bind ?_ (fun _ => ?_))
      | exact ih0 _ _ _
      | exact LeO.none _
      | refine LeO.ite ?_ ?_
      | refine LeO.bind ?_ (fun _ => ?_)
theorem postbaglaw5_addresses.mono : ∀ a0 a1 k, LeO (postbaglaw5_addresses.f k a0 a1) (postbaglaw5_addresses.f (k + 1) a0 a1) := by
  intro a0 a1 k
  have ih0 := postbaglaw5_addresses.mono_l k
  unfold postbaglaw5_addresses.f
  repeat' first
      | (with_reducible exact ih0 _ _ _)
      | (with_reducible exact LeO.refl _)
      | (with_reducible exact LeO.none _)
      | (with_reducible refine LeO.ite ?_ ?_)
      | (with_reducible refine LeO.bind ?_ (fun _ => ?_))
      | exact ih0 _ _ _
      | exact LeO.none _
      | refine LeO.ite ?_ ?_
      | refine LeO.bind ?_ (fun _ => ?_)
set_option maxHeartbeats 8000000 in
set_option maxRecDepth 100000 in
theorem postbaglaw5_addresses.calls (k : Nat) (A0 : Option Addr) (c0 : Nat) (l0 : List (S32)) (A1 : Option Addr) (c1 : Nat) (l1 : List (S32)) (r : Bool) (w : World) (hr0 : Kd.C k32 w A0 l0.length l0) (hc0 : l0.length ≤ c0) (hr1 : Kd.C k32 w A1 l1.length l1) (hc1 : l1.length ≤ c1) (h : postbaglaw5_addresses.f k l0 l1 = some r) :
    Calls Tryd.prog 12 #[.slice A0 l0.length c0, .slice A1 l1.length c1] w fun e w' => e = .returned (.bool r) ∧ Drawn0 w w' := by
  have hu32 := Tryd.underlying32
  have HR0 := Aside0.mk hr0
  have HC0 := Aside0.mk hc0
  clear hr0 hc0
  have HR1 := Aside0.mk hr1
  have HC1 := Aside0.mk hc1
  clear hr1 hc1
  have H : (if (l0.length : Int) = (l1.length : Int) then (postbaglaw5_addresses.l0 k l0 l1 0) else (some false)) = some r := h
  clear h
  by_cases c3 : (l0.length : Int) = (l1.length : Int)
  · rw [if_pos c3] at H
    have c3b0 : ((l0.length : Int) == (l1.length : Int)) = true := beq_iff_eq.mpr c3
    have c3b1 : ((l0.length : Int) != (l1.length : Int)) = false := bne_eq_false_iff_eq.mpr c3
    have c3b2 : (l0.length == l1.length) = true := by first | simpa using c3 | (simp at c3 ⊢; omega)
    clear c3
    have H' := Aside0.mk H
    clear H
    go_enter Tryd.func12, Tryd.ntmps12
    go_wp2
    repeat (go_quiet (fail); try go_wp2)
    go_loopg [5] k (fun kq v5 w' => ∃ (x5_1 : Int), v5 = .int .i64 x5_1 ∧ Aside0 (postbaglaw5_addresses.l0 kq l0 l1 x5_1 = some r) ∧ Aside0 (kq ≤ k) ∧ Drawn0 w w')
    case atStart => exact ⟨(0), (by first | rfl | (simp; done) | (simp [*]; done)), H', ⟨Nat.le_refl _⟩, by repeat (first | exact Drawn0.refl _ | apply Drawn0.step)⟩
    case round =>
      clear H'
      try clear c1
      try clear p2
      try clear c3
      try clear c3b0
      try clear c3b1
      try clear c3b2
      obtain ⟨x5_1, rfl, HA, HK1, ⟨m1, rfl⟩⟩ := hrel
      cases gk with
      | zero => exact absurd HA.out (by simp [postbaglaw5_addresses.l0])
      | succ k1 =>
        have H := HA.out
        clear HA
        simp only [postbaglaw5_addresses.l0] at H
        by_cases c4 : x5_1 < (l0.length : Int)
        · rw [if_pos c4] at H
          have c4b0 : decide (x5_1 < (l0.length : Int)) = true := decide_eq_true c4
          clear c4
          by_cases c5 : 0 ≤ x5_1
          · rw [if_pos c5] at H
            have c5b0 : decide (0 ≤ x5_1) = true := decide_eq_true c5
            clear c5
            by_cases c6 : x5_1 < (l1.length : Int)
            · rw [if_pos c6] at H
              have c6b0 : decide (x5_1 < (l1.length : Int)) = true := decide_eq_true c6
              clear c6
              by_cases c7 : ((!(((rd_T32 l0 x5_1).f0.f0) == ((rd_T32 l1 x5_1).f0.f0)) || (!((((rd_T32 l0 x5_1).f0.f1).toList) == (((rd_T32 l1 x5_1).f0.f1).toList)))) || ((!(((rd_T32 l0 x5_1).f1.f0) == ((rd_T32 l1 x5_1).f1.f0)) || (!((((rd_T32 l0 x5_1).f1.f1).toList) == (((rd_T32 l1 x5_1).f1.f1).toList)))) || ((!(((rd_T32 l0 x5_1).f2.f0) == ((rd_T32 l1 x5_1).f2.f0)) || (!((((rd_T32 l0 x5_1).f2.f1).toList) == (((rd_T32 l1 x5_1).f2.f1).toList)))) || ((!(((rd_T32 l0 x5_1).f3.f0) == ((rd_T32 l1 x5_1).f3.f0)) || (!((((rd_T32 l0 x5_1).f3.f1).toList) == (((rd_T32 l1 x5_1).f3.f1).toList)))))))) = true
              · rw [if_pos c7] at H
                have c7b0 : ((!(((rd_T32 l0 x5_1).f0.f0) == ((rd_T32 l1 x5_1).f0.f0)) || (!((((rd_T32 l0 x5_1).f0.f1).toList) == (((rd_T32 l1 x5_1).f0.f1).toList)))) || ((!(((rd_T32 l0 x5_1).f1.f0) == ((rd_T32 l1 x5_1).f1.f0)) || (!((((rd_T32 l0 x5_1).f1.f1).toList) == (((rd_T32 l1 x5_1).f1.f1).toList)))) || ((!(((rd_T32 l0 x5_1).f2.f0) == ((rd_T32 l1 x5_1).f2.f0)) || (!((((rd_T32 l0 x5_1).f2.f1).toList) == (((rd_T32 l1 x5_1).f2.f1).toList)))) || ((!(((rd_T32 l0 x5_1).f3.f0) == ((rd_T32 l1 x5_1).f3.f0)) || (!((((rd_T32 l0 x5_1).f3.f1).toList) == (((rd_T32 l1 x5_1).f3.f1).toList)))))))) = true := c7
                clear c7
                obtain rfl := Option.some.inj H
                have p318 : 0 ≤ (x5_1 : Int) := of_decide_eq_true (by first | (with_reducible assumption) | assumption)
                have q318 : x5_1 < (l0.length : Int) := of_decide_eq_true (by first | (with_reducible assumption) | assumption)
                obtain ⟨ad318, e318, hx318_0, hx318_1, hx318_2, hx318_3, hx318_4, hx318_5, hx318_6, hx318_7⟩ := at_T32 HR0.out x5_1 p318 q318
                cases e318
                replace p318 := eq_true p318
                replace q318 := eq_true q318
                have p319 : 0 ≤ (x5_1 : Int) := of_decide_eq_true (by first | (with_reducible assumption) | assumption)
                have q319 : x5_1 < (l1.length : Int) := of_decide_eq_true (by first | (with_reducible assumption) | assumption)
                obtain ⟨ad319, e319, hx319_0, hx319_1, hx319_2, hx319_3, hx319_4, hx319_5, hx319_6, hx319_7⟩ := at_T32 HR1.out x5_1 p319 q319
                cases e319
                replace p319 := eq_true p319
                replace q319 := eq_true q319
                go_wp2
                repeat (go_quiet (fail); try go_wp2)
                go_ret
                exact ⟨by first | rfl | (simp; done) | (simp [*]; done), by repeat (first | exact Drawn0.refl _ | apply Drawn0.step)⟩
              · rw [if_neg c7] at H
                have c7b0 : ((!(((rd_T32 l0 x5_1).f0.f0) == ((rd_T32 l1 x5_1).f0.f0)) || (!((((rd_T32 l0 x5_1).f0.f1).toList) == (((rd_T32 l1 x5_1).f0.f1).toList)))) || ((!(((rd_T32 l0 x5_1).f1.f0) == ((rd_T32 l1 x5_1).f1.f0)) || (!((((rd_T32 l0 x5_1).f1.f1).toList) == (((rd_T32 l1 x5_1).f1.f1).toList)))) || ((!(((rd_T32 l0 x5_1).f2.f0) == ((rd_T32 l1 x5_1).f2.f0)) || (!((((rd_T32 l0 x5_1).f2.f1).toList) == (((rd_T32 l1 x5_1).f2.f1).toList)))) || ((!(((rd_T32 l0 x5_1).f3.f0) == ((rd_T32 l1 x5_1).f3.f0)) || (!((((rd_T32 l0 x5_1).f3.f1).toList) == (((rd_T32 l1 x5_1).f3.f1).toList)))))))) = false := by simpa using c7
                clear c7
                have H' := Aside0.mk H
                clear H
                have p318 : 0 ≤ (x5_1 : Int) := of_decide_eq_true (by first | (with_reducible assumption) | assumption)
                have q318 : x5_1 < (l0.length : Int) := of_decide_eq_true (by first | (with_reducible assumption) | assumption)
                obtain ⟨ad318, e318, hx318_0, hx318_1, hx318_2, hx318_3, hx318_4, hx318_5, hx318_6, hx318_7⟩ := at_T32 HR0.out x5_1 p318 q318
                cases e318
                replace p318 := eq_true p318
                replace q318 := eq_true q318
                have p319 : 0 ≤ (x5_1 : Int) := of_decide_eq_true (by first | (with_reducible assumption) | assumption)
                have q319 : x5_1 < (l1.length : Int) := of_decide_eq_true (by first | (with_reducible assumption) | assumption)
                obtain ⟨ad319, e319, hx319_0, hx319_1, hx319_2, hx319_3, hx319_4, hx319_5, hx319_6, hx319_7⟩ := at_T32 HR1.out x5_1 p319 q319
                cases e319
                replace p319 := eq_true p319
                replace q319 := eq_true q319
                go_wp2
                repeat (go_quiet (fail); try go_wp2)
                go_roundg k1
                case measure => have := HK1.out; omega
                case rel => exact ⟨(wrap64 (x5_1 + 1)), (by first | rfl | (simp; done) | (simp [*]; done)), H', ⟨by have := HK1.out; omega⟩, by repeat (first | exact Drawn0.refl _ | apply Drawn0.step)⟩
            · rw [if_neg c6] at H
              exact absurd H (by simp)
          · rw [if_neg c5] at H
            exact absurd H (by simp)
        · rw [if_neg c4] at H
          have c4b0 : decide (x5_1 < (l0.length : Int)) = false := decide_eq_false c4
          clear c4
          obtain rfl := Option.some.inj H
          go_wp2
          repeat (go_quiet (fail); try go_wp2)
          go_ret
          exact ⟨by first | rfl | (simp; done) | (simp [*]; done), by repeat (first | exact Drawn0.refl _ | apply Drawn0.step)⟩
  · rw [if_neg c3] at H
    have c3b0 : ((l0.length : Int) == (l1.length : Int)) = false := beq_eq_false_iff_ne.mpr c3
    have c3b1 : ((l0.length : Int) != (l1.length : Int)) = true := bne_iff_ne.mpr c3
    have c3b2 : (l0.length == l1.length) = false := by first | simpa using c3 | (simp at c3 ⊢; omega)
    obtain rfl := Option.some.inj H
    go_enter Tryd.func12, Tryd.ntmps12
    go_wp2
    repeat (go_quiet (fail); try go_wp2)
    go_ret
    exact ⟨by first | rfl | (simp; done) | (simp [*]; done), by repeat (first | exact Drawn0.refl _ | apply Drawn0.step)⟩

/-! ### postbaglaw5_texts: function 13 -/
def postbaglaw5_texts.l0 : Nat → List ByteArray → List ByteArray → Int → Option (Bool)
  | 0, _, _, _ => none
  | k + 1, x0, x1, x5 => if x5 < (x0.length : Int) then (if 0 ≤ x5 then (if x5 < (x1.length : Int) then (if (rdOf ByteArray.empty x0 x5).toList = (rdOf ByteArray.empty x1 x5).toList then (postbaglaw5_texts.l0 k x0 x1 (wrap64 (x5 + 1))) else (some false)) else (none)) else (none)) else (some true)
def postbaglaw5_texts.f (k : Nat) (l0 : List ByteArray) (l1 : List ByteArray) : Option (Bool) := if (l0.length : Int) = (l1.length : Int) then (postbaglaw5_texts.l0 k l0 l1 0) else (some false)
theorem postbaglaw5_texts.mono_l : ∀ k, (∀ y0 y1 y2, LeO (postbaglaw5_texts.l0 k y0 y1 y2) (postbaglaw5_texts.l0 (k + 1) y0 y1 y2))
  | 0 => fun _ _ _ r h => by simp [postbaglaw5_texts.l0] at h
  | k + 1 => by
    have ih0 := postbaglaw5_texts.mono_l k
    · intro y0 y1 y2
      unfold postbaglaw5_texts.l0
      repeat' first
      | (with_reducible exact ih0 _ _ _)
      | (with_reducible exact LeO.refl _)
      | (with_reducible exact LeO.none _)
      | (with_reducible refine LeO.ite ?_ ?_)
      | (with_reducible refine LeO.bind ?_ (fun _ => ?_))
      | exact ih0 _ _ _
      | exact LeO.none _
      | refine LeO.ite ?_ ?_
      | refine LeO.bind ?_ (fun _ => ?_)
theorem postbaglaw5_texts.mono : ∀ a0 a1 k, LeO (postbaglaw5_texts.f k a0 a1) (postbaglaw5_texts.f (k + 1) a0 a1) := by
  intro a0 a1 k
  have ih0 := postbaglaw5_texts.mono_l k
  unfold postbaglaw5_texts.f
  repeat' first
      | (with_reducible exact ih0 _ _ _)
      | (with_reducible exact LeO.refl _)
      | (with_reducible exact LeO.none _)
      | (with_reducible refine LeO.ite ?_ ?_)
      | (with_reducible refine LeO.bind ?_ (fun _ => ?_))
      | exact ih0 _ _ _
      | exact LeO.none _
      | refine LeO.ite ?_ ?_
      | refine LeO.bind ?_ (fun _ => ?_)
set_option maxHeartbeats 8000000 in
set_option maxRecDepth 100000 in
theorem postbaglaw5_texts.calls (k : Nat) (A0 : Option Addr) (c0 : Nat) (l0 : List ByteArray) (A1 : Option Addr) (c1 : Nat) (l1 : List ByteArray) (r : Bool) (w : World) (hr0 : Kd.C Kd.string w A0 l0.length l0) (hc0 : l0.length ≤ c0) (hr1 : Kd.C Kd.string w A1 l1.length l1) (hc1 : l1.length ≤ c1) (h : postbaglaw5_texts.f k l0 l1 = some r) :
    Calls Tryd.prog 13 #[.slice A0 l0.length c0, .slice A1 l1.length c1] w fun e w' => e = .returned (.bool r) ∧ Drawn0 w w' := by
  have HR0 := Aside0.mk hr0
  have HC0 := Aside0.mk hc0
  clear hr0 hc0
  have HR1 := Aside0.mk hr1
  have HC1 := Aside0.mk hc1
  clear hr1 hc1
  have H : (if (l0.length : Int) = (l1.length : Int) then (postbaglaw5_texts.l0 k l0 l1 0) else (some false)) = some r := h
  clear h
  by_cases c3 : (l0.length : Int) = (l1.length : Int)
  · rw [if_pos c3] at H
    have c3b0 : ((l0.length : Int) == (l1.length : Int)) = true := beq_iff_eq.mpr c3
    have c3b1 : ((l0.length : Int) != (l1.length : Int)) = false := bne_eq_false_iff_eq.mpr c3
    have c3b2 : (l0.length == l1.length) = true := by first | simpa using c3 | (simp at c3 ⊢; omega)
    clear c3
    have H' := Aside0.mk H
    clear H
    go_enter Tryd.func13, Tryd.ntmps13
    go_wp2
    repeat (go_quiet (fail); try go_wp2)
    go_loopg [5] k (fun kq v5 w' => ∃ (x5_1 : Int), v5 = .int .i64 x5_1 ∧ Aside0 (postbaglaw5_texts.l0 kq l0 l1 x5_1 = some r) ∧ Aside0 (kq ≤ k) ∧ Drawn0 w w')
    case atStart => exact ⟨(0), (by first | rfl | (simp; done) | (simp [*]; done)), H', ⟨Nat.le_refl _⟩, by repeat (first | exact Drawn0.refl _ | apply Drawn0.step)⟩
    case round =>
      clear H'
      try clear c1
      try clear p2
      try clear c3
      try clear c3b0
      try clear c3b1
      try clear c3b2
      obtain ⟨x5_1, rfl, HA, HK1, ⟨m1, rfl⟩⟩ := hrel
      cases gk with
      | zero => exact absurd HA.out (by simp [postbaglaw5_texts.l0])
      | succ k1 =>
        have H := HA.out
        clear HA
        simp only [postbaglaw5_texts.l0] at H
        by_cases c4 : x5_1 < (l0.length : Int)
        · rw [if_pos c4] at H
          have c4b0 : decide (x5_1 < (l0.length : Int)) = true := decide_eq_true c4
          clear c4
          by_cases c5 : 0 ≤ x5_1
          · rw [if_pos c5] at H
            have c5b0 : decide (0 ≤ x5_1) = true := decide_eq_true c5
            clear c5
            by_cases c6 : x5_1 < (l1.length : Int)
            · rw [if_pos c6] at H
              have c6b0 : decide (x5_1 < (l1.length : Int)) = true := decide_eq_true c6
              clear c6
              by_cases c7 : (rdOf ByteArray.empty l0 x5_1).toList = (rdOf ByteArray.empty l1 x5_1).toList
              · rw [if_pos c7] at H
                have c7b0 : ((rdOf ByteArray.empty l0 x5_1).toList == (rdOf ByteArray.empty l1 x5_1).toList) = true := beq_iff_eq.mpr c7
                have c7b1 : ((rdOf ByteArray.empty l0 x5_1).toList != (rdOf ByteArray.empty l1 x5_1).toList) = false := bne_eq_false_iff_eq.mpr c7
                clear c7
                have H' := Aside0.mk H
                clear H
                have p320 : 0 ≤ (x5_1 : Int) := of_decide_eq_true (by first | (with_reducible assumption) | assumption)
                have q320 : x5_1 < (l0.length : Int) := of_decide_eq_true (by first | (with_reducible assumption) | assumption)
                obtain ⟨ad320, e320, hx320_0⟩ := Kd.at_string HR0.out x5_1 p320 q320
                cases e320
                replace p320 := eq_true p320
                replace q320 := eq_true q320
                have p321 : 0 ≤ (x5_1 : Int) := of_decide_eq_true (by first | (with_reducible assumption) | assumption)
                have q321 : x5_1 < (l1.length : Int) := of_decide_eq_true (by first | (with_reducible assumption) | assumption)
                obtain ⟨ad321, e321, hx321_0⟩ := Kd.at_string HR1.out x5_1 p321 q321
                cases e321
                replace p321 := eq_true p321
                replace q321 := eq_true q321
                go_wp2
                repeat (go_quiet (fail); try go_wp2)
                go_roundg k1
                case measure => have := HK1.out; omega
                case rel => exact ⟨(wrap64 (x5_1 + 1)), (by first | rfl | (simp; done) | (simp [*]; done)), H', ⟨by have := HK1.out; omega⟩, by repeat (first | exact Drawn0.refl _ | apply Drawn0.step)⟩
              · rw [if_neg c7] at H
                have c7b0 : ((rdOf ByteArray.empty l0 x5_1).toList == (rdOf ByteArray.empty l1 x5_1).toList) = false := beq_eq_false_iff_ne.mpr c7
                have c7b1 : ((rdOf ByteArray.empty l0 x5_1).toList != (rdOf ByteArray.empty l1 x5_1).toList) = true := bne_iff_ne.mpr c7
                obtain rfl := Option.some.inj H
                have p320 : 0 ≤ (x5_1 : Int) := of_decide_eq_true (by first | (with_reducible assumption) | assumption)
                have q320 : x5_1 < (l0.length : Int) := of_decide_eq_true (by first | (with_reducible assumption) | assumption)
                obtain ⟨ad320, e320, hx320_0⟩ := Kd.at_string HR0.out x5_1 p320 q320
                cases e320
                replace p320 := eq_true p320
                replace q320 := eq_true q320
                have p321 : 0 ≤ (x5_1 : Int) := of_decide_eq_true (by first | (with_reducible assumption) | assumption)
                have q321 : x5_1 < (l1.length : Int) := of_decide_eq_true (by first | (with_reducible assumption) | assumption)
                obtain ⟨ad321, e321, hx321_0⟩ := Kd.at_string HR1.out x5_1 p321 q321
                cases e321
                replace p321 := eq_true p321
                replace q321 := eq_true q321
                go_wp2
                repeat (go_quiet (fail); try go_wp2)
                go_ret
                exact ⟨by first | rfl | (simp; done) | (simp [*]; done), by repeat (first | exact Drawn0.refl _ | apply Drawn0.step)⟩
            · rw [if_neg c6] at H
              exact absurd H (by simp)
          · rw [if_neg c5] at H
            exact absurd H (by simp)
        · rw [if_neg c4] at H
          have c4b0 : decide (x5_1 < (l0.length : Int)) = false := decide_eq_false c4
          clear c4
          obtain rfl := Option.some.inj H
          go_wp2
          repeat (go_quiet (fail); try go_wp2)
          go_ret
          exact ⟨by first | rfl | (simp; done) | (simp [*]; done), by repeat (first | exact Drawn0.refl _ | apply Drawn0.step)⟩
  · rw [if_neg c3] at H
    have c3b0 : ((l0.length : Int) == (l1.length : Int)) = false := beq_eq_false_iff_ne.mpr c3
    have c3b1 : ((l0.length : Int) != (l1.length : Int)) = true := bne_iff_ne.mpr c3
    have c3b2 : (l0.length == l1.length) = false := by first | simpa using c3 | (simp at c3 ⊢; omega)
    obtain rfl := Option.some.inj H
    go_enter Tryd.func13, Tryd.ntmps13
    go_wp2
    repeat (go_quiet (fail); try go_wp2)
    go_ret
    exact ⟨by first | rfl | (simp; done) | (simp [*]; done), by repeat (first | exact Drawn0.refl _ | apply Drawn0.step)⟩

end Go.Proofs.YtgmlhmojcemliaaDoor.P
end
section
namespace Go.Proofs.YtgmlhmojcemliaaDoor.P
open Go.RowKit Go.Proofs.YtgmlhmojcemliaaDoorW.PrintWords Go.Proofs.YtgmlhmojcemliaaDoorW.PrintLast Go.Proofs.YtgmlhmojcemliaaDoorW.PrintMore
attribute [local go_sem] max2_int min2_int max_two min_two max_three min_three max_four min_four   -- for this text's walks alone
set_option linter.unusedVariables false
set_option linter.unusedSimpArgs false

/-! ### postbaglaw5_LetterSaid: function 3, GIVEN -/
theorem ls_stub : True := trivial
end Go.Proofs.YtgmlhmojcemliaaDoor.P
end
section
namespace Go.Proofs.YtgmlhmojcemliaaDoor.P
open Go.RowKit Go.Proofs.YtgmlhmojcemliaaDoorW.PrintWords Go.Proofs.YtgmlhmojcemliaaDoorW.PrintLast Go.Proofs.YtgmlhmojcemliaaDoorW.PrintMore
attribute [local go_sem] max2_int min2_int max_two min_two max_three min_three max_four min_four   -- for this text's walks alone
set_option linter.unusedVariables false
set_option linter.unusedSimpArgs false

end Go.Proofs.YtgmlhmojcemliaaDoor.P
end
section
/- Plain Lean for the law LetterSaid: texts that are put together by the rules are cut into just these pieces; signs in rows of pieces. -/
namespace Go.Proofs.YtgmlhmojcemliaaDoor.P
open Go.RowKit Go.Proofs.YtgmlhmojcemliaaDoorW.PrintWords Go.Proofs.YtgmlhmojcemliaaDoorW.PrintLast Go.Proofs.YtgmlhmojcemliaaDoorW.PrintMore
set_option linter.unusedVariables false
set_option linter.unusedSimpArgs false
/-! ### what is read of texts that are put together by the rules -/
def esc : List UInt8 → List UInt8
  | [] => []
  | c :: l => (if c = 34 ∨ c = 92 then [92, c] else [c]) ++ esc l
theorem qtx_esc (s rest : List UInt8) : qtx (esc s ++ 34 :: rest) = (s, (esc s).length + 1) := by
  induction s with
  | nil => simp [esc, qtx_cons]
  | cons c l ih =>
    by_cases h : c = 34 ∨ c = 92
    · simp only [esc, if_pos h, List.cons_append, List.nil_append, List.append_assoc]
      rw [qtx_cons, if_neg (by decide), if_pos rfl]
      simp only [ih, List.length_cons]
      congr 1; omega
    · have h1 : c ≠ 34 := fun e => h (.inl e)
      have h2 : c ≠ 92 := fun e => h (.inr e)
      simp only [esc, if_neg h, List.cons_append, List.nil_append]
      rw [qtx_cons, if_neg h1, if_neg h2]
      simp only [ih, List.length_cons]
      congr 1; omega
def quo (s : List UInt8) : List UInt8 := 34 :: (esc s ++ [34])
theorem pcs_quo (s rest : List UInt8) : pcs (quo s ++ rest) = ⟨1, ⟨s.toArray⟩⟩ :: pcs rest := by
  have e : quo s ++ rest = 34 :: (esc s ++ 34 :: rest) := by simp [quo]
  rw [e, pcs_cons]
  have h : nxt (34 :: (esc s ++ 34 :: rest)) = (1, s, 1 + ((esc s).length + 1)) := by
    rw [nxt.eq_2, if_neg (by decide), if_pos rfl, qtx_esc]
  rw [h]
  congr 2
  simp [List.drop_append]
  rw [show 1 + ((esc s).length + 1) = (esc s).length + 1 + 1 from by omega]
  simp
theorem pcs_sign (c : UInt8) (rest : List UInt8) (h : isSg c = true) (h1 : c ≠ 40) (h2 : c ≠ 34) (h3 : c ≠ 91) : pcs (c :: rest) = ⟨3, ⟨#[c]⟩⟩ :: pcs rest := by
  have e : nxt (c :: rest) = (3, [c], 1) := by rw [nxt.eq_2, if_neg h1, if_neg h2, if_neg h3, if_pos h]
  rw [pcs_cons, e]; rfl
theorem pcs_space (rest : List UInt8) : pcs (32 :: rest) = ⟨0, ⟨#[]⟩⟩ :: pcs rest := by
  have e : nxt (32 :: rest) = (0, [], 1) := by rw [nxt.eq_2]; rfl
  rw [pcs_cons, e]; rfl
theorem takeWhile_all (p : UInt8 → Bool) (l rest : List UInt8) (h : ∀ c ∈ l, p c = true) (hr : ∀ c t, rest = c :: t → p c = false) : (l ++ rest).takeWhile p = l := by
  induction l with
  | nil =>
    cases rest with
    | nil => rfl
    | cons c t => simp [List.takeWhile_cons, hr c t rfl]
  | cons c l ih =>
    have h1 : p c = true := h c (by simp)
    simp only [List.cons_append, List.takeWhile_cons, h1, if_true]
    rw [ih (fun c hc => h c (by simp [hc]))]
/-- letters alone -/
def low (l : List UInt8) : Prop := ∀ c ∈ l, 97 ≤ c.toNat ∧ c.toNat ≤ 122
theorem low_at (c : UInt8) (h : 97 ≤ c.toNat ∧ c.toNat ≤ 122) : isAt c = true ∧ isSg c = false ∧ c ≠ 40 ∧ c ≠ 41 ∧ c ≠ 34 ∧ c ≠ 91 ∧ c ≠ 92 := by
  have h' : ∀ n : Fin 256, 97 ≤ (UInt8.ofNat n.val).toNat ∧ (UInt8.ofNat n.val).toNat ≤ 122 → isAt (UInt8.ofNat n.val) = true ∧ isSg (UInt8.ofNat n.val) = false ∧ UInt8.ofNat n.val ≠ 40 ∧ UInt8.ofNat n.val ≠ 41 ∧ UInt8.ofNat n.val ≠ 34 ∧ UInt8.ofNat n.val ≠ 91 ∧ UInt8.ofNat n.val ≠ 92 := by decide +kernel
  have := h' ⟨c.toNat, c.toNat_lt⟩
  simp only [UInt8.ofNat_toNat] at this
  exact this h
theorem pcs_atom (c : UInt8) (l rest : List UInt8) (h : low (c :: l)) (hr : ∀ d t, rest = d :: t → isAt d = false) : pcs (c :: l ++ rest) = ⟨4, ⟨(c :: l).toArray⟩⟩ :: pcs rest := by
  obtain ⟨h0, h1, h2, h3, h4, h5, h6⟩ := low_at c (h c (by simp))
  have ht : (c :: l ++ rest).takeWhile isAt = c :: l := takeWhile_all isAt (c :: l) rest (fun d hd => (low_at d (h d hd)).1) hr
  have e : nxt (c :: (l ++ rest)) = (4, c :: l, (c :: l).length) := by
    rw [nxt.eq_2, if_neg h2, if_neg h4, if_neg h5, if_neg (by rw [h1]; decide), if_pos h0, ← List.cons_append, ht]
  rw [List.cons_append, pcs_cons, e]
  congr 2
  simp
theorem cmt_low (l rest : List UInt8) (d : Nat) (h : low l) : cmt (l ++ rest) d = l.length + cmt rest d := by
  induction l with
  | nil => simp
  | cons c l ih =>
    obtain ⟨h0, h1, h2, h3, h4, h5, h6⟩ := low_at c (h c (by simp))
    rw [List.cons_append, cmt_cons, if_neg h2, if_neg h3, if_neg h6, ih (fun c hc => h c (by simp [hc]))]
    simp; omega
/-- what stands behind the letters of a comment: ' \) , <q@r>; q: \\ ((x)))' -/
def tailC : List UInt8 := [32, 92, 41, 32, 44, 32, 60, 113, 64, 114, 62, 59, 32, 113, 58, 32, 92, 92, 32, 40, 40, 120, 41, 41, 41]
theorem cmt_tail (rest : List UInt8) : cmt (tailC ++ rest) 1 = 25 := by
  simp [tailC, cmt_cons]
def btw (a : List UInt8) : List UInt8 := 40 :: (a ++ tailC)
theorem pcs_btw (a rest : List UInt8) (h : low a) : pcs (btw a ++ rest) = ⟨0, ⟨#[]⟩⟩ :: pcs rest := by
  have e : btw a ++ rest = 40 :: (a ++ (tailC ++ rest)) := by simp [btw]
  have h1 : nxt (40 :: (a ++ (tailC ++ rest))) = (0, [], 1 + (a.length + 25)) := by
    rw [nxt.eq_2, if_pos rfl, cmt_low _ _ _ h, cmt_tail]
  rw [e, pcs_cons, h1]
  congr 2
  rw [show 1 + (a.length + 25) = (a.length + 25) + 1 from by omega, List.drop_succ_cons, List.drop_append, List.drop_eq_nil_of_le (by omega)]
  simp [List.drop_append, tailC]

theorem low_atomL (l : List UInt8) : low (atomL l) := by
  intro c hc
  simp only [atomL, List.mem_cons, List.mem_map] at hc
  have h : ∀ n : Fin 256, 97 ≤ (atomC (UInt8.ofNat n.val)).toNat ∧ (atomC (UInt8.ofNat n.val)).toNat ≤ 122 := by decide +kernel
  rcases hc with rfl | ⟨d, _, rfl⟩
  · decide
  · have := h ⟨d.toNat, d.toNat_lt⟩
    simpa using this
theorem pcs_host (l rest : List UInt8) (hr : ∀ d t, rest = d :: t → isAt d = false) : pcs (atomL l ++ rest) = ⟨4, ⟨(atomL l).toArray⟩⟩ :: pcs rest := pcs_atom 97 _ rest (low_atomL l) hr
/-! ### signs in rows of pieces -/
theorem is_f (p : S71) (c : UInt8) : letter_piece_is.f p.f0 p.f1 ⟨#[c]⟩ = some (decide (p.f0 = 3) && (p.f1.toList == [c])) := by
  unfold letter_piece_is.f
  by_cases h : p.f0 = 3
  · rw [if_pos h]; simp [h, Lib.toList_data]
  · rw [if_neg h]; simp [h]
def isS (p : S71) (c : UInt8) : Bool := decide (p.f0 = 3) && (p.f1.toList == [c])
theorem isS_f (p : S71) (c : UInt8) : letter_piece_is.f p.f0 p.f1 ⟨#[c]⟩ = some (isS p c) := is_f p c
theorem rdT_at (pre post : List S71) (p : S71) : rd_T71 (pre ++ p :: post) (pre.length : Int) = p := by simp [rd_T71, List.getD_eq_getElem?_getD]
theorem w1 {n : Nat} (h : n < 4294967296) : wrap64 ((n : Int) + 1) = ((n + 1 : Nat) : Int) := by unfold wrap64; omega
/-- From a place on, no piece is this sign, then one is. -/
theorem find_at (c : UInt8) (x : S71) (hx : isS x c = true) (post : List S71) : ∀ (mid pre : List S71) (k : Nat), (∀ p ∈ mid, isS p c = false) → mid.length < k → (pre ++ mid ++ x :: post).length < 4294967296 → letter_find.l0 k (pre ++ mid ++ x :: post) ⟨#[c]⟩ (pre.length : Int) = some ((pre.length + mid.length : Nat) : Int)
  | [], pre, k + 1, _, _, hl => by
    unfold letter_find.l0
    rw [if_pos (by simp; omega), if_pos (by omega), List.append_nil, rdT_at, isS_f, hx]
    simp
  | m :: mid, pre, k + 1, hm, hk, hl => by
    unfold letter_find.l0
    have e : pre ++ (m :: mid) ++ x :: post = pre ++ m :: (mid ++ x :: post) := by simp
    rw [if_pos (by simp; omega), if_pos (by omega)]
    rw [show rd_T71 (pre ++ (m :: mid) ++ x :: post) (pre.length : Int) = m by rw [e]; exact rdT_at _ _ _, isS_f, hm m (by simp)]
    simp only [Option.bind_some]
    rw [if_neg (by simp), w1 (by simp at hl; omega)]
    have e2 : pre ++ (m :: mid) ++ x :: post = (pre ++ [m]) ++ mid ++ x :: post := by simp
    have := find_at c x hx post mid (pre ++ [m]) k (fun p hp => hm p (by simp [hp])) (by simp at hk; omega) (by rw [← e2]; exact hl)
    rw [e2]
    simp only [List.length_append, List.length_cons, List.length_nil] at this ⊢
    rw [show pre.length + (mid.length + 1) = pre.length + (0 + 1) + mid.length by omega]
    exact this
theorem find_none (c : UInt8) : ∀ (mid pre : List S71) (k : Nat), (∀ p ∈ mid, isS p c = false) → mid.length < k → (pre ++ mid).length < 4294967296 → letter_find.l0 k (pre ++ mid) ⟨#[c]⟩ (pre.length : Int) = some ((pre ++ mid).length : Int)
  | [], pre, k + 1, _, _, hl => by
    unfold letter_find.l0
    rw [if_neg (by simp)]
  | m :: mid, pre, k + 1, hm, hk, hl => by
    unfold letter_find.l0
    rw [if_pos (by simp; omega), if_pos (by omega), rdT_at, isS_f, hm m (by simp)]
    simp only [Option.bind_some]
    rw [if_neg (by simp), w1 (by simp at hl; omega)]
    have e2 : pre ++ (m :: mid) = (pre ++ [m]) ++ mid := by simp
    have := find_none c mid (pre ++ [m]) k (fun p hp => hm p (by simp [hp])) (by simp at hk; omega) (by rw [← e2]; exact hl)
    rw [e2]
    simpa using this
/-- A piece at which a part goes on. -/
def plainS (p : S71) : Prop := isS p 60 = false ∧ isS p 44 = false ∧ isS p 59 = false ∧ isS p 58 = false
def stopS (p : S71) : Prop := isS p 60 = false ∧ (isS p 44 = true ∨ isS p 59 = true ∨ isS p 58 = true)
theorem part_plain (post : List S71) : ∀ (mid pre : List S71) (k : Nat), (∀ p ∈ mid, plainS p) → (pre ++ mid ++ post).length < 4294967296 → letter_part.l0 (k + mid.length) (pre ++ mid ++ post) (pre.length : Int) = letter_part.l0 k (pre ++ mid ++ post) ((pre.length + mid.length : Nat) : Int)
  | [], pre, k, _, _ => by simp
  | m :: mid, pre, k, hm, hl => by
    obtain ⟨h1, h2, h3, h4⟩ := hm m (by simp)
    have e : pre ++ (m :: mid) ++ post = pre ++ m :: (mid ++ post) := by simp
    have e2 : pre ++ (m :: mid) ++ post = (pre ++ [m]) ++ mid ++ post := by simp
    rw [show k + (m :: mid).length = (k + mid.length) + 1 by simp; omega]
    conv => lhs; unfold letter_part.l0
    rw [if_pos (by simp; omega), if_pos (by omega)]
    rw [show rd_T71 (pre ++ (m :: mid) ++ post) (pre.length : Int) = m by rw [e]; exact rdT_at _ _ _]
    simp only [isS_f, h1, h2, h3, h4, Option.bind_some]
    rw [if_neg (by simp), if_neg (by simp), if_neg (by simp), if_neg (by simp), w1 (by simp at hl; omega)]
    have := part_plain post mid (pre ++ [m]) k (fun p hp => hm p (by simp [hp])) (by rw [← e2]; exact hl)
    rw [e2]
    simp only [List.length_append, List.length_cons, List.length_nil, Nat.zero_add] at this ⊢
    rw [show pre.length + (mid.length + 1) = pre.length + 1 + mid.length by omega]
    exact this
theorem part_angle (lt gt : S71) (mid pre post : List S71) (k : Nat) (hlt : isS lt 60 = true) (hgt : isS gt 62 = true) (hlt2 : isS lt 62 = false) (hm : ∀ p ∈ mid, isS p 62 = false) (hk : mid.length + 1 < k) (hl : (pre ++ lt :: mid ++ gt :: post).length < 4294967296) :
    letter_part.l0 (k + 1) (pre ++ lt :: mid ++ gt :: post) (pre.length : Int) = letter_part.l0 k (pre ++ lt :: mid ++ gt :: post) ((pre.length + mid.length + 2 : Nat) : Int) := by
  have e : pre ++ lt :: mid ++ gt :: post = pre ++ lt :: (mid ++ gt :: post) := by simp
  have hf := find_at 62 gt hgt post (lt :: mid) pre k (fun p hp => (List.mem_cons.1 hp).elim (fun h => h ▸ hlt2) (hm p)) (by simpa using hk) hl
  conv => lhs; unfold letter_part.l0
  rw [if_pos (by simp; omega), if_pos (by omega)]
  rw [show rd_T71 (pre ++ lt :: mid ++ gt :: post) (pre.length : Int) = lt by rw [e]; exact rdT_at _ _ _]
  simp only [isS_f, hlt, Option.bind_some, if_true]
  rw [show letter_find.f k (pre ++ lt :: mid ++ gt :: post) (pre.length : Int) ⟨#[62]⟩ = _ from hf]
  simp only [Option.bind_some]
  rw [if_neg (by simp; omega), w1 (by simp at hl ⊢; omega)]
  congr 2
theorem part_stop (x : S71) (pre post : List S71) (k : Nat) (hx : stopS x) : letter_part.l0 (k + 1) (pre ++ x :: post) (pre.length : Int) = some (pre.length : Int) := by
  obtain ⟨h0, h⟩ := hx
  unfold letter_part.l0
  rw [if_pos (by simp; omega), if_pos (by omega), rdT_at]
  simp only [isS_f, h0, Option.bind_some]
  rw [if_neg (by simp)]
  by_cases h1 : isS x 44 = true
  · rw [if_pos h1]
  · rw [if_neg h1]
    by_cases h2 : isS x 59 = true
    · rw [if_pos h2]
    · rw [if_neg h2, if_pos (by rcases h with h | h | h <;> simp_all)]
theorem part_end (l : List S71) (k : Nat) : letter_part.l0 (k + 1) l (l.length : Int) = some (l.length : Int) := by
  unfold letter_part.l0
  rw [if_neg (by omega)]

end Go.Proofs.YtgmlhmojcemliaaDoor.P
end
section
/- Plain Lean for the law LetterSaid: the address of a part. -/
namespace Go.Proofs.YtgmlhmojcemliaaDoor.P
open Go.RowKit Go.Proofs.YtgmlhmojcemliaaDoorW.PrintWords Go.Proofs.YtgmlhmojcemliaaDoorW.PrintLast Go.Proofs.YtgmlhmojcemliaaDoorW.PrintMore
set_option linter.unusedVariables false
set_option linter.unusedSimpArgs false
/-! ### the address of a part -/
def pQ (s : ByteArray) : S71 := ⟨1, s⟩
def pE : S71 := ⟨0, ⟨#[]⟩⟩
def pG (c : UInt8) : S71 := ⟨3, ⟨#[c]⟩⟩
def pA (s : ByteArray) : S71 := ⟨4, s⟩
def row0 (box host : ByteArray) : List S71 := [pQ box, pE, pG 64, pA host, pE, pG 46, pE, pA host]
def row1' (name box host : ByteArray) : List S71 := [pQ name, pE, pG 60, pQ box, pE, pG 64, pA host, pE, pG 46, pE, pA host, pG 62]
theorem text_f (l : List S71) (c : Bool) (h : (letter_text.go l c false false).length ≤ 100000) : letter_text.f l c = some ⟨(letter_text.go l c false false).toArray⟩ := by
  unfold letter_text.f; rw [if_pos (by omega)]
theorem toArr (s : ByteArray) : (⟨s.data.toList.toArray⟩ : ByteArray) = s := by cases s; rfl
def hostD (host : ByteArray) : ByteArray := ⟨(host.data.toList ++ (46 :: host.data.toList)).toArray⟩
theorem text_box (box : ByteArray) (c : Bool) (h : box.size ≤ 1000) : letter_text.f [pQ box, pE] c = some box := by
  rw [text_f _ _ (by simp [letter_text.go, pQ, pE]; omega)]
  simp [letter_text.go, pQ, pE]
theorem text_host (host : ByteArray) (h : host.size ≤ 1000) : letter_text.f [pA host, pE, pG 46, pE, pA host] true = some (hostD host) := by
  rw [text_f _ _ (by simp [letter_text.go, pA, pE, pG]; omega)]
  simp [letter_text.go, pA, pE, pG, hostD]
theorem text_hostE (host : ByteArray) (h : host.size ≤ 1000) : letter_text.f [pA host, pE, pG 46, pE, pA host, pE] true = some (hostD host) := by
  rw [text_f _ _ (by simp [letter_text.go, pA, pE, pG]; omega)]
  simp [letter_text.go, pA, pE, pG, hostD]
def adrBare (box host : ByteArray) : Bool × ByteArray × Bool × ByteArray × Bool × ByteArray × Bool × ByteArray := (false, ⟨#[]⟩, false, ⟨#[]⟩, true, box, true, hostD host)
def adrNamed (name box host : ByteArray) : Bool × ByteArray × Bool × ByteArray × Bool × ByteArray × Bool × ByteArray := (true, name, false, ⟨#[]⟩, true, box, true, hostD host)
set_option maxHeartbeats 4000000 in
theorem adr0 (box host : ByteArray) (k : Nat) (hb : box.size ≤ 1000) (hh : host.size ≤ 1000) : letter_address.f (k + 30) (row0 box host) = some (adrBare box host) := by
  have hf : letter_find.f (k + 30) (row0 box host) 0 ⟨#[60]⟩ = some ((row0 box host).length : Int) := find_none 60 (row0 box host) [] (k + 30) (by simp [row0, isS, pQ, pE, pG, pA]) (by simp [row0]) (by simp [row0])
  have tb := text_box box true hb
  have th := text_host host hh
  simp only [pQ, pE, pG, pA] at tb th
  unfold letter_address.f
  rw [hf]
  simp [letter_address.j2, letter_address.l0, row0, rd_T71, letter_piece_is.f, pQ, pE, pG, pA, wrap64, tb, th, letter_some.f, adrBare]
set_option maxHeartbeats 4000000 in
theorem adr0E (box host : ByteArray) (k : Nat) (hb : box.size ≤ 1000) (hh : host.size ≤ 1000) : letter_address.f (k + 30) (row0 box host ++ [pE]) = some (adrBare box host) := by
  have hf : letter_find.f (k + 30) (row0 box host ++ [pE]) 0 ⟨#[60]⟩ = some ((row0 box host ++ [pE]).length : Int) := find_none 60 (row0 box host ++ [pE]) [] (k + 30) (by simp [row0, isS, pQ, pE, pG, pA]) (by simp [row0]) (by simp [row0])
  have tb := text_box box true hb
  have th := text_hostE host hh
  simp only [pQ, pE, pG, pA] at tb th
  unfold letter_address.f
  rw [hf]
  simp [letter_address.j2, letter_address.l0, row0, rd_T71, letter_piece_is.f, pQ, pE, pG, pA, wrap64, tb, th, letter_some.f, adrBare]
set_option maxHeartbeats 4000000 in
theorem adr1 (name box host : ByteArray) (k : Nat) (hn : name.size ≤ 1000) (hb : box.size ≤ 1000) (hh : host.size ≤ 1000) (ts : List S71) (hts : ts = [] ∨ ts = [pE]) : letter_address.f (k + 40) (row1' name box host ++ ts) = some (adrNamed name box host) := by
  have hf : letter_find.f (k + 40) (row1' name box host ++ ts) 0 ⟨#[60]⟩ = some 2 := find_at 60 (pG 60) (by decide +kernel) (row0 box host ++ (pG 62 :: ts)) [pQ name, pE] [] (k + 40) (by simp [isS, pQ, pE]) (by simp) (by rcases hts with rfl | rfl <;> simp [row0])
  have hf2 : letter_find.f (k + 39) (row1' name box host ++ ts) 2 ⟨#[62]⟩ = some 11 := find_at 62 (pG 62) (by decide +kernel) ts (pG 60 :: row0 box host) [pQ name, pE] (k + 39) (by simp [isS, row0, pQ, pE, pG, pA]) (by simp [row0]) (by rcases hts with rfl | rfl <;> simp [row0])
  have hf3 : letter_find.f (k + 39) (row0 box host) 0 ⟨#[58]⟩ = some ((row0 box host).length : Int) := find_none 58 (row0 box host) [] (k + 39) (by simp [row0, isS, pQ, pE, pG, pA]) (by simp [row0]) (by simp [row0])
  have tn := text_box name false hn
  have tb := text_box box true hb
  have th := text_host host hh
  unfold letter_address.f
  rw [hf]
  simp only [Option.bind_some]
  rw [if_pos (by rcases hts with rfl | rfl <;> simp [row1']), if_pos (by decide), if_pos (by rcases hts with rfl | rfl <;> simp [row1'])]
  rw [show (row1' name box host ++ ts).take (2 : Int).toNat = [pQ name, pE] by simp [row1']]
  try simp only [Option.bind_some]
  rw [show letter_held.f (k + 40) [pQ name, pE] = some true by simp [letter_held.f, letter_held.l0, rd_T71, pQ, pE]]
  simp only [Option.bind_some, if_true]
  rw [tn]
  simp only [Option.bind_some, letter_some.f]
  simp only [letter_address.j0]
  rw [hf2]
  simp only [Option.bind_some]
  rw [show wrap64 ((2 : Int) + 1) = 3 by unfold wrap64; decide]
  rw [if_pos (by decide), if_pos (by decide), if_pos (by rcases hts with rfl | rfl <;> simp [row1'])]
  rw [show ((row1' name box host ++ ts).take (11 : Int).toNat).drop (3 : Int).toNat = row0 box host by rcases hts with rfl | rfl <;> rfl]
  try simp only [Option.bind_some]
  rw [hf3]
  simp only [Option.bind_some]
  rw [if_neg (by omega)]
  simp only [pQ, pE, pG, pA] at tb th
  simp [letter_address.j1, letter_address.j2, letter_address.l0, row0, rd_T71, letter_piece_is.f, pQ, pE, pG, pA, wrap64, tb, th, letter_some.f, adrNamed]

end Go.Proofs.YtgmlhmojcemliaaDoor.P
end
section
/- Plain Lean for the law LetterSaid: a row of parts. -/
namespace Go.Proofs.YtgmlhmojcemliaaDoor.P
open Go.RowKit Go.Proofs.YtgmlhmojcemliaaDoorW.PrintWords Go.Proofs.YtgmlhmojcemliaaDoorW.PrintLast Go.Proofs.YtgmlhmojcemliaaDoorW.PrintMore
set_option linter.unusedVariables false
set_option linter.unusedSimpArgs false
/-! ### a whole text of addresses -/
def hostB (p : S28) : ByteArray := ⟨(atomL p.f2.data.toList).toArray⟩
def rowP (p : S28) : List S71 := if p.f3 = true then row1' p.f0 p.f1 (hostB p) else row0 p.f1 (hostB p)
def adrP (p : S28) : Bool × ByteArray × Bool × ByteArray × Bool × ByteArray × Bool × ByteArray := if p.f3 = true then adrNamed p.f0 p.f1 (hostB p) else adrBare p.f1 (hostB p)
def wantA (p : S28) : S32 := ⟨⟨p.f3, if p.f3 = true then p.f0 else ⟨#[]⟩⟩, ⟨false, ⟨#[]⟩⟩, ⟨true, p.f1⟩, ⟨true, hostD (hostB p)⟩⟩
def gB : ByteArray := ⟨#[103]⟩
def gA : S32 := ⟨⟨false, ⟨#[]⟩⟩, ⟨false, ⟨#[]⟩⟩, ⟨true, gB⟩, ⟨false, ⟨#[]⟩⟩⟩
def zA : S32 := ⟨⟨false, ⟨#[]⟩⟩, ⟨false, ⟨#[]⟩⟩, ⟨false, ⟨#[]⟩⟩, ⟨false, ⟨#[]⟩⟩⟩
def wantP (p : S28) : List S32 := if p.f4 = true then [gA, wantA p, zA] else [wantA p]
def toks (p : S28) : List S71 := if p.f4 = true then [pA gB, pE] ++ pG 58 :: ((rowP p ++ [pE]) ++ [pG 59]) else rowP p
def okP (p : S28) : Prop := p.f0.size ≤ 1000 ∧ p.f1.size ≤ 1000
theorem hostB_size (p : S28) : (hostB p).size ≤ 1000 := by
  show (atomL p.f2.data.toList).toArray.size ≤ 1000
  rw [List.size_toArray]; unfold atomL; rw [List.length_cons, List.length_map, List.length_take]; omega
/-- So many rounds of part go over this row. -/
def Over (row : List S71) (n : Nat) : Prop := ∀ pre post k, 20 ≤ k → (pre ++ row ++ post).length < 4294967296 → letter_part.l0 (k + n) (pre ++ row ++ post) (pre.length : Int) = letter_part.l0 k (pre ++ row ++ post) ((pre.length + row.length : Nat) : Int)
theorem Over.plain (row : List S71) (h : ∀ p ∈ row, plainS p) : Over row row.length := fun pre post k _ hl => part_plain post row pre k h hl
theorem Over.join {a b : List S71} {n m : Nat} (ha : Over a n) (hb : Over b m) : Over (a ++ b) (n + m) := by
  intro pre post k hk hl
  have e1 : pre ++ (a ++ b) ++ post = pre ++ a ++ (b ++ post) := by simp
  have e2 : pre ++ (a ++ b) ++ post = (pre ++ a) ++ b ++ post := by simp
  have h1 := ha pre (b ++ post) (k + m) (by omega) (by rw [← e1]; exact hl)
  have h2 := hb (pre ++ a) post k hk (by rw [← e2]; exact hl)
  rw [show k + (n + m) = k + m + n by omega, e1, h1, ← e1, e2]
  simp only [List.length_append] at h2 ⊢
  rw [h2]; congr 2; omega
theorem over_E : Over [pE] 1 := Over.plain [pE] (by simp [plainS, isS, pE])
theorem over_g : Over [pA gB, pE] 2 := Over.plain [pA gB, pE] (by simp [plainS, isS, pE, pA])
theorem over_nil : Over [] 0 := Over.plain [] (by simp)
theorem dE (c d : UInt8) : isS (pG c) d = (c == d) := by
  have : (⟨#[c]⟩ : ByteArray).toList = [c] := by rw [Lib.toList_data]
  simp [isS, pG, this]
theorem over_0 (box host : ByteArray) : Over (row0 box host) 8 := Over.plain (row0 box host) (by
  intro p hp
  simp only [row0, List.mem_cons, List.not_mem_nil, or_false] at hp
  rcases hp with rfl | rfl | rfl | rfl | rfl | rfl | rfl | rfl <;> (simp [plainS, dE]; try simp [isS, pQ, pE, pA]))
theorem over_1 (name box host : ByteArray) : Over (row1' name box host) 3 := by
  have h1 : Over [pQ name, pE] 2 := Over.plain [pQ name, pE] (by simp [plainS, isS, pE, pQ])
  have h2 : Over (pG 60 :: (row0 box host ++ [pG 62])) 1 := by
    intro pre post k hk hl
    have e : pre ++ (pG 60 :: (row0 box host ++ [pG 62])) ++ post = pre ++ pG 60 :: row0 box host ++ pG 62 :: post := by simp
    rw [e] at hl ⊢
    have := part_angle (pG 60) (pG 62) (row0 box host) pre post k (by simp [dE]) (by simp [dE]) (by simp [dE]) (by
      intro p hp
      simp only [row0, List.mem_cons, List.not_mem_nil, or_false] at hp
      rcases hp with rfl | rfl | rfl | rfl | rfl | rfl | rfl | rfl <;> first | (simp [dE]; done) | simp [isS, pQ, pE, pA]) (by simp [row0]; omega) hl
    rw [this]
    congr 2
  have := h1.join h2
  simpa [row1', row0] using this
theorem over_P (p : S28) : ∃ n, n ≤ 8 ∧ Over (rowP p) n := by
  unfold rowP
  split
  · exact ⟨3, by omega, over_1 _ _ _⟩
  · exact ⟨8, by omega, over_0 _ _⟩
theorem part_to {row : List S71} {n : Nat} (h : Over row n) (x : S71) (hx : stopS x) (pre post : List S71) (k : Nat) (hk : n + 21 ≤ k) (hl : (pre ++ row ++ x :: post).length < 4294967296) :
    letter_part.f k (pre ++ row ++ x :: post) (pre.length : Int) = some ((pre.length + row.length : Nat) : Int) := by
  obtain ⟨j, rfl⟩ : ∃ j, k = j + 1 + n := ⟨k - n - 1, by omega⟩
  unfold letter_part.f
  rw [h pre (x :: post) (j + 1) (by omega) hl]
  have := part_stop x (pre ++ row) post j hx
  simpa using this
theorem part_fin {row : List S71} {n : Nat} (h : Over row n) (pre : List S71) (k : Nat) (hk : n + 21 ≤ k) (hl : (pre ++ row).length < 4294967296) :
    letter_part.f k (pre ++ row) (pre.length : Int) = some ((pre ++ row).length : Int) := by
  obtain ⟨j, rfl⟩ : ∃ j, k = j + 1 + n := ⟨k - n - 1, by omega⟩
  unfold letter_part.f
  have := h pre [] (j + 1) (by omega) (by simpa using hl)
  simp only [List.append_nil] at this
  rw [this]
  have := part_end (pre ++ row) j
  simpa using this
theorem cut_mid (pre row rest : List S71) : ((pre ++ row ++ rest).take (pre.length + row.length)).drop pre.length = row := by
  rw [← List.length_append, List.take_left, List.drop_left]
theorem len1 (c : UInt8) : (⟨#[c]⟩ : ByteArray).toList = [c] := by rw [Lib.toList_data]
theorem adr_l0 {row : List S71} {n : Nat} (h : Over row n) (c : UInt8) (hx : stopS (pG c)) (pre post : List S71) (k : Nat) (hk : n + 30 ≤ k) (hl : (pre ++ row ++ pG c :: post).length < 4294967296) (acc : List S32) (g : Bool) :
    letter_Addresses.l0 (k + 2) acc (pre ++ row ++ pG c :: post) g (pre.length : Int) = letter_Addresses.j2 k acc (pre ++ row ++ pG c :: post) g ((pre.length + row.length : Nat) : Int) ⟨#[c]⟩ row ((c == 58) && !g) := by
  have hr : rd_T71 (pre ++ row ++ pG c :: post) ((pre.length + row.length : Nat) : Int) = pG c := by
    have := rdT_at (pre ++ row) post (pG c)
    simpa using this
  simp only [letter_Addresses.l0]
  rw [if_pos (by simp; omega), part_to h (pG c) hx pre post (k + 1) (by omega) hl]
  simp only [Option.bind_some]
  rw [if_pos (by simp; omega), if_pos (by omega), hr]
  simp only [letter_Addresses.j1]
  rw [if_pos (by omega), if_pos (by omega), if_pos (by simp; omega)]
  simp only [Int.toNat_natCast, cut_mid, Option.bind_some, pG, len1]
  by_cases e : c = 58
  · subst e; simp
  · rw [if_neg (by simpa using e), show (c == 58) = false by simpa using e]; simp
theorem adr_l0e {row : List S71} {n : Nat} (h : Over row n) (pre : List S71) (k : Nat) (hk : n + 30 ≤ k) (hl : (pre ++ row).length < 4294967296) (acc : List S32) (g : Bool) :
    letter_Addresses.l0 (k + 2) acc (pre ++ row) g (pre.length : Int) = letter_Addresses.j2 k acc (pre ++ row) g ((pre ++ row).length : Int) ⟨#[]⟩ row false := by
  simp only [letter_Addresses.l0]
  rw [if_pos (by simp; omega), part_fin h pre (k + 1) (by omega) hl]
  simp only [Option.bind_some]
  rw [if_neg (by omega)]
  simp only [letter_Addresses.j1]
  rw [if_pos (by omega), if_pos (by simp; omega), if_pos (by omega)]
  have e : ((pre ++ row).take (pre ++ row).length).drop pre.length = row := by rw [List.take_length, List.drop_left]
  simp only [Int.toNat_natCast, e, Option.bind_some]
  rw [if_neg (by decide +kernel)]
theorem adr_end (acc : List S32) (l : List S71) (g : Bool) (k : Nat) (i : Int) (hi : (l.length : Int) < i) (ha : acc.length ≤ 32) : letter_Addresses.l0 (k + 1) acc l g i = some acc := by
  simp only [letter_Addresses.l0]
  rw [if_neg (by omega), if_neg (by omega)]
theorem held_E : ∀ (p : S28) (k : Nat) (ts : List S71), (ts = [] ∨ ts = [pE]) → letter_held.f (k + 1) (rowP p ++ ts) = some true := by
  intro p k ts hts
  unfold rowP
  split <;> rcases hts with rfl | rfl <;> simp [letter_held.f, letter_held.l0, row0, row1', rd_T71, pQ]
theorem adr_P (p : S28) (hp : okP p) (k : Nat) (ts : List S71) (hts : ts = [] ∨ ts = [pE]) : letter_address.f (k + 40) (rowP p ++ ts) = some (adrP p) := by
  unfold rowP adrP
  split
  · exact adr1 _ _ _ k hp.1 hp.2 (hostB_size p) ts hts
  · rcases hts with rfl | rfl
    · rw [List.append_nil]; exact adr0 _ _ (k + 10) hp.2 (hostB_size p)
    · exact adr0E _ _ (k + 10) hp.2 (hostB_size p)
theorem adrP_want (p : S28) : (⟨(⟨(adrP p).1, (adrP p).2.1⟩ : S30), (⟨(adrP p).2.2.1, (adrP p).2.2.2.1⟩ : S30), (⟨(adrP p).2.2.2.2.1, (adrP p).2.2.2.2.2.1⟩ : S30), (⟨(adrP p).2.2.2.2.2.2.1, (adrP p).2.2.2.2.2.2.2⟩ : S30)⟩ : S32) = wantA p := by
  unfold adrP wantA
  split <;> rename_i h
  · simp [adrNamed, h]
  · simp [adrBare, h]
/-- What a part does: one by one, in a group, behind a group. -/
theorem j2_one (p : S28) (hp : okP p) (acc : List S32) (ha : acc.length < 40) (L : List S71) (x7 : Int) (en : ByteArray) (ts : List S71) (hts : ts = [] ∨ ts = [pE]) (k : Nat) :
    letter_Addresses.j2 (k + 41) acc L false x7 en (rowP p ++ ts) false = letter_Addresses.l0 (k + 40) (acc ++ [wantA p]) L false (wrap64 (x7 + 1)) := by
  simp only [letter_Addresses.j2]
  rw [if_neg (by simp), held_E p (k + 39) ts hts]
  simp only [Option.bind_some, if_true]
  rw [adr_P p hp k ts hts]
  simp only [Option.bind_some]
  rw [if_pos (by omega), if_neg (by simp), adrP_want]
theorem j2_open (acc : List S32) (ha : acc.length < 40) (L : List S71) (x7 : Int) (en : ByteArray) (k : Nat) :
    letter_Addresses.j2 (k + 1) acc L false x7 en [pA gB, pE] true = letter_Addresses.l0 k (acc ++ [gA]) L true (wrap64 (x7 + 1)) := by
  simp only [letter_Addresses.j2]
  rw [if_pos (by simp), show letter_text.f [pA gB, pE] false = some gB by rw [text_f _ _ (by decide +kernel)]; rfl]
  simp only [Option.bind_some, letter_some.f]
  rw [if_pos (by omega)]
  rfl
theorem j2_in (p : S28) (hp : okP p) (acc : List S32) (ha : acc.length < 40) (L : List S71) (x7 : Int) (k : Nat) :
    letter_Addresses.j2 (k + 41) acc L true x7 ⟨#[59]⟩ (rowP p ++ [pE]) false = letter_Addresses.l0 (k + 40) (acc ++ [wantA p] ++ [zA]) L false (wrap64 (x7 + 1)) := by
  simp only [letter_Addresses.j2]
  rw [if_neg (by simp), held_E p (k + 39) [pE] (.inr rfl)]
  simp only [Option.bind_some, if_true]
  rw [adr_P p hp k [pE] (.inr rfl)]
  simp only [Option.bind_some]
  rw [if_pos (by omega), if_pos (by decide +kernel), if_pos (by simp; omega), adrP_want]
  rfl
theorem j2_gap (acc : List S32) (L : List S71) (x7 : Int) (en : ByteArray) (row : List S71) (hr : row = [] ∨ row = [pE]) (k : Nat) :
    letter_Addresses.j2 (k + 3) acc L false x7 en row false = letter_Addresses.l0 (k + 2) acc L false (wrap64 (x7 + 1)) := by
  simp only [letter_Addresses.j2]
  rw [if_neg (by simp), show letter_held.f (k + 2) row = some false by rcases hr with rfl | rfl <;> simp [letter_held.f, letter_held.l0, rd_T71, pE, wrap64]]
  simp only [Option.bind_some]
  rw [if_neg (by simp), if_neg (by simp)]
def joinT : List S28 → List S71
  | [] => []
  | [p] => toks p
  | p :: q :: r => toks p ++ pE :: pG 44 :: joinT (q :: r)
theorem stop44 : stopS (pG 44) := ⟨by simp [dE], .inl (by simp [dE])⟩
theorem stop59 : stopS (pG 59) := ⟨by simp [dE], .inr (.inl (by simp [dE]))⟩
theorem stop58 : stopS (pG 58) := ⟨by simp [dE], .inr (.inr (by simp [dE]))⟩
theorem toks_len (p : S28) : (toks p).length ≤ 20 := by unfold toks rowP; split <;> split <;> simp [row0, row1']
theorem joinT_len : ∀ ps : List S28, (joinT ps).length ≤ 22 * ps.length
  | [] => by simp [joinT]
  | [p] => by have := toks_len p; simp [joinT]; omega
  | p :: q :: r => by have := toks_len p; have := joinT_len (q :: r); simp [joinT] at this ⊢; omega
theorem adr_grp (p : S28) (h4 : p.f4 = true) (hp : okP p) (pre tl : List S71) (acc : List S32) (ha : acc.length < 38) (k : Nat) (hk : 60 ≤ k) (hl : (pre ++ toks p ++ tl).length < 4294967296) :
    letter_Addresses.l0 (k + 6) acc (pre ++ toks p ++ tl) false (pre.length : Int) = letter_Addresses.l0 k (acc ++ wantP p) (pre ++ toks p ++ tl) false ((pre ++ toks p).length : Int) := by
  obtain ⟨n, hn, ho⟩ := over_P p
  have e1 : pre ++ toks p ++ tl = pre ++ [pA gB, pE] ++ pG 58 :: ((rowP p ++ [pE]) ++ pG 59 :: tl) := by simp [toks, h4]
  have e2 : pre ++ toks p ++ tl = (pre ++ [pA gB, pE, pG 58]) ++ (rowP p ++ [pE]) ++ pG 59 :: tl := by simp [toks, h4]
  have e3 : (pre ++ toks p).length = (pre ++ [pA gB, pE, pG 58]).length + (rowP p ++ [pE]).length + 1 := by simp [toks, h4]; omega
  have ew : wantP p = [gA, wantA p, zA] := by simp [wantP, h4]
  have htl : (toks p).length = (rowP p).length + 5 := by simp [toks, h4]
  have s1 := adr_l0 over_g 58 stop58 pre ((rowP p ++ [pE]) ++ pG 59 :: tl) (k + 4) (by omega) (by rw [← e1]; exact hl) acc false
  rw [← e1] at s1
  rw [show k + 6 = k + 4 + 2 by omega, s1]
  rw [show ((58 : UInt8) == 58 && !false) = true by decide, show k + 4 = (k + 3) + 1 by omega, j2_open acc (by omega)]
  rw [w1 (by simp at hl ⊢; omega)]
  have s2 := adr_l0 (ho.join over_E) 59 stop59 (pre ++ [pA gB, pE, pG 58]) tl (k + 1) (by omega) (by rw [← e2]; exact hl) (acc ++ [gA]) true
  rw [← e2] at s2
  rw [show ((pre.length + [pA gB, pE].length + 1 : Nat) : Int) = ((pre ++ [pA gB, pE, pG 58]).length : Int) by simp; omega, show k + 3 = k + 1 + 2 by omega, s2]
  obtain ⟨j, rfl⟩ : ∃ j, k = j + 40 := ⟨k - 40, by omega⟩
  rw [show ((59 : UInt8) == 58 && !true) = false by decide, show j + 40 + 1 = j + 41 by omega, j2_in p hp (acc ++ [gA]) (by simp; omega)]
  rw [w1 (by simp at hl ⊢; omega), ew, e3]
  simp only [List.append_assoc, List.cons_append, List.nil_append]
theorem adr_all : ∀ (ps : List S28) (pre : List S71) (acc : List S32) (k : Nat), ps ≠ [] → (∀ p ∈ ps, okP p) → acc.length + 3 * ps.length ≤ 32 → 100 + 12 * ps.length ≤ k → (pre ++ joinT ps).length < 4294967296 →
    letter_Addresses.l0 k acc (pre ++ joinT ps) false (pre.length : Int) = some (acc ++ ps.flatMap wantP)
  | [], _, _, _, h, _, _, _, _ => absurd rfl h
  | [p], pre, acc, k, _, hp, ha, hk, hl => by
    have hpp := hp p (by simp)
    obtain ⟨n, hn, ho⟩ := over_P p
    simp only [joinT] at hl ⊢
    simp only [List.length_cons, List.length_nil] at ha hk
    cases h4 : p.f4
    · have et : toks p = rowP p := by simp [toks, h4]
      have ew : wantP p = [wantA p] := by simp [wantP, h4]
      rw [et] at hl ⊢
      obtain ⟨j, rfl⟩ : ∃ j, k = j + 41 + 2 := ⟨k - 43, by omega⟩
      rw [adr_l0e ho pre (j + 41) (by omega) hl acc false]
      have := j2_one p hpp acc (by omega) (pre ++ rowP p) ((pre ++ rowP p).length : Int) ⟨#[]⟩ [] (.inl rfl) j
      rw [List.append_nil] at this
      rw [this, w1 (by omega), show j + 40 = (j + 39) + 1 by omega, adr_end _ _ _ _ _ (by omega) (by simp; omega)]
      simp [ew]
    · have := adr_grp p h4 hpp pre [] acc (by omega) (k - 6) (by omega) (by simpa using hl)
      simp only [List.append_nil] at this
      rw [show k = k - 6 + 6 by omega, this]
      have hw : (wantP p).length = 3 := by simp [wantP, h4]
      obtain ⟨j, hj⟩ : ∃ j, k - 6 = j + 3 + 2 := ⟨k - 11, by omega⟩
      have e := adr_l0e over_nil (pre ++ toks p) (j + 3) (by omega) (by simpa using hl) (acc ++ wantP p) false
      simp only [List.append_nil] at e
      rw [hj, e, j2_gap _ _ _ _ [] (.inl rfl), w1 (by omega), show j + 2 = (j + 1) + 1 by omega, adr_end _ _ _ _ _ (by omega) (by simp [hw]; omega)]
      simp
  | p :: q :: r, pre, acc, k, _, hp, ha, hk, hl => by
    have hpp := hp p (by simp)
    obtain ⟨n, hn, ho⟩ := over_P p
    have hIH := adr_all (q :: r)
    simp only [joinT] at hl ⊢
    generalize hrest : joinT (q :: r) = rest at hl hIH ⊢
    simp only [List.length_cons] at ha hk
    cases h4 : p.f4
    · have et : toks p = rowP p := by simp [toks, h4]
      have ew : wantP p = [wantA p] := by simp [wantP, h4]
      rw [et] at hl ⊢
      have e1 : pre ++ (rowP p ++ pE :: pG 44 :: rest) = pre ++ (rowP p ++ [pE]) ++ pG 44 :: rest := by simp
      have e2 : pre ++ (rowP p ++ pE :: pG 44 :: rest) = (pre ++ (rowP p ++ [pE]) ++ [pG 44]) ++ rest := by simp
      obtain ⟨j, rfl⟩ : ∃ j, k = j + 41 + 2 := ⟨k - 43, by omega⟩
      have s1 := adr_l0 (ho.join over_E) 44 stop44 pre rest (j + 41) (by omega) (by rw [← e1]; exact hl) acc false
      rw [← e1] at s1
      rw [s1, show ((44 : UInt8) == 58 && !false) = false by decide, j2_one p hpp acc (by omega) _ _ _ [pE] (.inr rfl) j, w1 (by simp at hl ⊢; omega)]
      have := hIH (pre ++ (rowP p ++ [pE]) ++ [pG 44]) (acc ++ [wantA p]) (j + 40) (by simp) (fun x hx => hp x (by simp at hx ⊢; exact .inr hx)) (by simp; omega) (by simp; omega) (by rw [← e2]; exact hl)
      rw [e2]
      rw [show (((pre.length + (rowP p ++ [pE]).length + 1 : Nat)) : Int) = ((pre ++ (rowP p ++ [pE]) ++ [pG 44]).length : Int) by simp; omega, this]
      simp [ew]
    · have hw : (wantP p).length = 3 := by simp [wantP, h4]
      have e1 : pre ++ (toks p ++ pE :: pG 44 :: rest) = pre ++ toks p ++ (pE :: pG 44 :: rest) := by simp
      have e2 : pre ++ toks p ++ (pE :: pG 44 :: rest) = (pre ++ toks p) ++ [pE] ++ pG 44 :: rest := by simp
      have e3 : pre ++ toks p ++ (pE :: pG 44 :: rest) = (pre ++ toks p ++ [pE] ++ [pG 44]) ++ rest := by simp
      rw [e1] at hl ⊢
      have s0 := adr_grp p h4 hpp pre (pE :: pG 44 :: rest) acc (by omega) (k - 6) (by omega) hl
      rw [show k = k - 6 + 6 by omega, s0]
      obtain ⟨j, hj⟩ : ∃ j, k - 6 = j + 3 + 2 := ⟨k - 11, by omega⟩
      have s1 := adr_l0 over_E 44 stop44 (pre ++ toks p) rest (j + 3) (by omega) (by rw [← e2]; exact hl) (acc ++ wantP p) false
      rw [← e2] at s1
      rw [hj, s1, show ((44 : UInt8) == 58 && !false) = false by decide, j2_gap _ _ _ _ [pE] (.inr rfl), w1 (by simp at hl ⊢; omega)]
      have := hIH (pre ++ toks p ++ [pE] ++ [pG 44]) (acc ++ wantP p) (j + 2) (by simp) (fun x hx => hp x (by simp at hx ⊢; exact .inr hx)) (by simp [hw]; omega) (by simp; omega) (by rw [← e3]; exact hl)
      rw [e3]
      rw [show ((((pre ++ toks p).length + [pE].length + 1 : Nat)) : Int) = ((pre ++ toks p ++ [pE] ++ [pG 44]).length : Int) by simp; omega, this]
      simp

end Go.Proofs.YtgmlhmojcemliaaDoor.P
end
section
/- Plain Lean for the law LetterSaid: ids; the texts are cut into these pieces. -/
namespace Go.Proofs.YtgmlhmojcemliaaDoor.P
open Go.RowKit Go.Proofs.YtgmlhmojcemliaaDoorW.PrintWords Go.Proofs.YtgmlhmojcemliaaDoorW.PrintLast Go.Proofs.YtgmlhmojcemliaaDoorW.PrintMore
set_option linter.unusedVariables false
set_option linter.unusedSimpArgs false
/-! ### ids -/
def nameB (p : S28) : ByteArray := p.f1 ++ (⟨#[97, 64]⟩ : ByteArray) ++ hostB p
def idBox (p : S28) : ByteArray := p.f1 ++ (⟨#[97]⟩ : ByteArray)
def idT (p : S28) : List S71 := [pE, pG 60, pQ (idBox p), pG 64, pA (hostB p), pG 62]
theorem index_has (c : UInt8) (a b : List UInt8) : 0 ≤ Lib.index (a ++ c :: b) [c] := by
  induction a with
  | nil => simp [Lib.index, List.isPrefixOf]
  | cons x a ih =>
    rw [List.cons_append, Lib.index]
    split
    · omega
    · split
      · rename_i h; simp at h; omega
      · omega
theorem nameB_list (p : S28) : (nameB p).data.toList = p.f1.data.toList ++ [97, 64] ++ (hostB p).data.toList := by
  simp [nameB]
theorem text_id (p : S28) (hp : okP p) : letter_text.f [pQ (idBox p), pG 64, pA (hostB p)] true = some (nameB p) := by
  have hh := hostB_size p
  have h1 := hp.2
  have e : letter_text.go [pQ (idBox p), pG 64, pA (hostB p)] true false false = (nameB p).data.toList := by
    rw [nameB_list]; simp [letter_text.go, pQ, pG, pA, idBox]
  rw [text_f _ _ (by rw [e, nameB_list]; simp; omega), e, toArr]
theorem hostB_cons (p : S28) : ∃ t, (hostB p).data.toList = 97 :: t := ⟨_, rfl⟩
theorem nameB_size (p : S28) : (nameB p).size = p.f1.size + 2 + (hostB p).size := by
  have : (nameB p).data.toList.length = p.f1.size + 2 + (hostB p).size := by rw [nameB_list]; simp; omega
  simpa using this
theorem hostB_pos (p : S28) : 1 ≤ (hostB p).size := by
  obtain ⟨t, ht⟩ := hostB_cons p
  have : (hostB p).data.toList.length = t.length + 1 := by rw [ht]; simp
  simp at this; omega
theorem nameB_at (p : S28) (hp : okP p) : strings_Contains.f ((nameB p).extract 1 ((nameB p).size - 1)) ⟨#[64]⟩ = some true := by
  have hs := nameB_size p
  have hh := hostB_pos p
  have hh2 := hostB_size p
  have h1 := hp.2
  unfold strings_Contains.f
  rw [if_pos (by simp; omega)]
  congr 1
  unfold Lib.contains
  rw [decide_eq_true_iff]
  have e : ((nameB p).extract 1 ((nameB p).size - 1)).data.toList = ((nameB p).data.toList.drop 1).take ((nameB p).size - 1 - 1) := by
    simp [ByteArray.data_extract, Array.toList_extract, List.extract_eq_take_drop]
  obtain ⟨t, ht⟩ := hostB_cons p
  have htl : t.length + 1 = (hostB p).size := by
    have : (hostB p).data.toList.length = t.length + 1 := by rw [ht]; simp
    simp at this; omega
  rw [e, nameB_list, ht]
  cases hb : p.f1.data.toList with
  | nil =>
    have hz : p.f1.size = 0 := by have : p.f1.data.toList.length = 0 := by rw [hb]; rfl
                                  simpa using this
    have e2 : (([] ++ [97, 64] ++ 97 :: t : List UInt8).drop 1).take ((nameB p).size - 1 - 1) = [] ++ 64 :: (97 :: t).take ((nameB p).size - 1 - 1 - 1) := by
      obtain ⟨m, hm⟩ : ∃ m, (nameB p).size - 1 - 1 = m + 1 := ⟨(nameB p).size - 3, by omega⟩
      rw [hm]; simp
    rw [e2]; exact index_has 64 _ _
  | cons c l =>
    have hz : p.f1.size = l.length + 1 := by have : p.f1.data.toList.length = l.length + 1 := by rw [hb]; rfl
                                             simpa using this
    have e2 : ((c :: l ++ [97, 64] ++ 97 :: t : List UInt8).drop 1).take ((nameB p).size - 1 - 1) = (l ++ [97]) ++ 64 :: (97 :: t).take ((nameB p).size - 1 - 1 - (l.length + 2)) := by
      rw [show c :: l ++ [97, 64] ++ 97 :: t = c :: ((l ++ [97, 64]) ++ 97 :: t) by simp, List.drop_succ_cons, List.drop_zero, List.take_append, List.take_of_length_le (by simp; omega)]
      simp
    rw [e2]; exact index_has 64 _ _
theorem ids_space (pre post : List S71) (acc : List ByteArray) (k : Nat) (hl : (pre ++ pE :: post).length < 4294967296) :
    letter_Ids.l0 (k + 1) acc (pre ++ pE :: post) (pre.length : Int) = letter_Ids.l0 k acc (pre ++ pE :: post) ((pre.length + 1 : Nat) : Int) := by
  have hlen : (pre ++ pE :: post).length = pre.length + 1 + post.length := by simp; omega
  rw [letter_Ids.l0]
  rw [if_pos (by omega), if_pos (by omega), rdT_at, isS_f]
  rw [show isS pE 60 = false by simp [isS, pE]]
  rw [Option.bind_some, if_neg Bool.false_ne_true, w1 (by omega)]
def midI (p : S28) : List S71 := [pQ (idBox p), pG 64, pA (hostB p)]
theorem ids_angle (p : S28) (hp : okP p) (pre post : List S71) (acc : List ByteArray) (ha : acc.length < 32) (k : Nat) (hk : 10 ≤ k) (L : List S71) (hL : L = pre ++ (pG 60 :: midI p) ++ pG 62 :: post) (hl : L.length < 4294967296) :
    letter_Ids.l0 (k + 1) acc L (pre.length : Int) = letter_Ids.l0 k (acc ++ [nameB p]) L ((pre.length + 5 : Nat) : Int) := by
  have hh := hostB_pos p
  have hs := nameB_size p
  have h1 := hp.2
  have hh2 := hostB_size p
  have hlen : L.length = pre.length + 5 + post.length := by rw [hL]; simp [midI]; omega
  have r2 : rd_T71 L (pre.length : Int) = pG 60 := by rw [hL, List.append_assoc]; exact rdT_at _ _ _
  have hf : letter_find.f k L (pre.length : Int) ⟨#[62]⟩ = some ((pre.length + 4 : Nat) : Int) := by
    rw [hL]
    exact find_at 62 (pG 62) (by simp [dE]) post (pG 60 :: midI p) pre k (by
      intro q hq
      simp only [midI, List.mem_cons, List.not_mem_nil, or_false] at hq
      rcases hq with rfl | rfl | rfl | rfl <;> first | (simp [dE]; done) | simp [isS, pQ, pA]) (by simp [midI]; omega) (by rw [← hL]; exact hl)
  have ec : (L.take (pre.length + 4)).drop (pre.length + 1) = [pQ (idBox p), pG 64, pA (hostB p)] := by
    have := cut_mid (pre ++ [pG 60]) (midI p) (pG 62 :: post)
    rw [hL]
    simpa [midI] using this
  have ew : wrap64 (((nameB p).size : Int) - 1) = (((nameB p).size - 1 : Nat) : Int) := by unfold wrap64; omega
  have ht := text_id p hp
  have hn := nameB_at p hp
  generalize nameB p = nb at hs ew ht hn
  generalize hostB p = hb at *
  clear hL
  rw [letter_Ids.l0]
  rw [if_pos (by omega), if_pos (by omega), r2, isS_f]
  rw [show isS (pG 60) 60 = true by simp [dE]]
  rw [Option.bind_some, if_pos rfl, hf, Option.bind_some]
  rw [if_neg (by omega), w1 (by omega), if_pos (by omega), if_pos (by omega), if_pos (by omega)]
  rw [Int.toNat_natCast, Int.toNat_natCast, ec, ht, Option.bind_some]
  rw [if_pos (by omega), ew, if_pos (by omega), if_pos (by omega), Int.toNat_natCast, hn, Option.bind_some, if_pos rfl, if_pos (by omega), w1 (by omega)]
theorem ids_all : ∀ (ps : List S28) (pre : List S71) (acc : List ByteArray) (k : Nat), (∀ p ∈ ps, okP p) → acc.length + ps.length ≤ 32 → 20 + 2 * ps.length ≤ k → (pre ++ ps.flatMap idT).length < 4294967296 →
    letter_Ids.l0 k acc (pre ++ ps.flatMap idT) (pre.length : Int) = some (acc ++ ps.map nameB)
  | [], pre, acc, k, _, ha, hk, _ => by
    obtain ⟨j, rfl⟩ : ∃ j, k = j + 1 := ⟨k - 1, by simp at hk; omega⟩
    rw [List.flatMap_nil, List.append_nil, List.map_nil, List.append_nil, letter_Ids.l0]
    rw [if_neg (by omega), if_neg (by simp at ha; omega)]
  | p :: ps, pre, acc, k, hp, ha, hk, hl => by
    simp only [List.length_cons] at ha hk
    obtain ⟨j, rfl⟩ : ∃ j, k = j + 1 + 1 := ⟨k - 2, by omega⟩
    have e1 : pre ++ (p :: ps).flatMap idT = pre ++ pE :: ((pG 60 :: midI p) ++ pG 62 :: ps.flatMap idT) := by simp [idT, midI]
    have e2 : pre ++ (p :: ps).flatMap idT = (pre ++ [pE]) ++ (pG 60 :: midI p) ++ pG 62 :: ps.flatMap idT := by simp [idT, midI]
    have e3 : pre ++ (p :: ps).flatMap idT = (pre ++ idT p) ++ ps.flatMap idT := by simp
    have s1 := ids_space pre ((pG 60 :: midI p) ++ pG 62 :: ps.flatMap idT) acc (j + 1) (by rw [← e1]; exact hl)
    rw [← e1] at s1
    have s2 := ids_angle p (hp p (by simp)) (pre ++ [pE]) (ps.flatMap idT) acc (by omega) j (by omega) _ e2 hl
    rw [s1, show ((pre.length + 1 : Nat) : Int) = ((pre ++ [pE]).length : Int) by simp, s2]
    have := ids_all ps (pre ++ idT p) (acc ++ [nameB p]) j (fun q hq => hp q (by simp [hq])) (by simp; omega) (by omega) (by rw [← e3]; exact hl)
    rw [e3, show (((pre ++ [pE]).length + 5 : Nat) : Int) = ((pre ++ idT p).length : Int) by simp [idT]; omega, this]
    simp
/-! ### the texts are cut into these pieces -/
def t0L (a : List UInt8) (p : S28) : List UInt8 := quo p.f1.data.toList ++ (btw a ++ (64 :: (atomL p.f2.data.toList ++ (32 :: 46 :: 32 :: atomL p.f2.data.toList))))
def t1L (a : List UInt8) (p : S28) : List UInt8 := if p.f3 = true then quo p.f0.data.toList ++ (btw a ++ (60 :: (t0L a p ++ [62]))) else t0L a p
def tL (a : List UInt8) (p : S28) : List UInt8 := if p.f4 = true then 103 :: (btw a ++ (58 :: (t1L a p ++ (btw a ++ [59])))) else t1L a p
def iL (a : List UInt8) (p : S28) : List UInt8 := btw a ++ (60 :: (quo (idBox p).data.toList ++ (64 :: (atomL p.f2.data.toList ++ [62]))))
def gapL (rest : List UInt8) : Prop := ∀ d t, rest = d :: t → isAt d = false
theorem gap_btw (a rest : List UInt8) : gapL (btw a ++ rest) := by
  intro d t h
  have : d = 40 := by simp [btw] at h; exact h.1.symm
  subst this; decide
theorem gap_c (c : UInt8) (rest : List UInt8) (h : isAt c = false) : gapL (c :: rest) := by
  intro d t e
  have : c = d := (List.cons.inj e).1
  subst this; exact h
theorem pcs_t0 (a rest : List UInt8) (p : S28) (ha : low a) (hr : gapL rest) : pcs (t0L a p ++ rest) = row0 p.f1 (hostB p) ++ pcs rest := by
  unfold t0L
  simp only [List.append_assoc, List.cons_append]
  rw [pcs_quo, pcs_btw _ _ ha, pcs_sign 64 _ (by decide) (by decide) (by decide) (by decide), pcs_host _ _ (gap_c 32 _ (by decide)), pcs_space, pcs_sign 46 _ (by decide) (by decide) (by decide) (by decide), pcs_space, pcs_host _ _ hr]
  simp [row0, pQ, pE, pG, pA, toArr, hostB]
theorem pcs_t1 (a rest : List UInt8) (p : S28) (ha : low a) (hr : gapL rest) : pcs (t1L a p ++ rest) = rowP p ++ pcs rest := by
  unfold t1L rowP
  split
  · simp only [List.append_assoc, List.cons_append, List.nil_append]
    rw [pcs_quo, pcs_btw _ _ ha, pcs_sign 60 _ (by decide) (by decide) (by decide) (by decide), pcs_t0 a _ p ha (gap_c 62 _ (by decide)), pcs_sign 62 _ (by decide) (by decide) (by decide) (by decide)]
    simp [row0, row1', pQ, pE, pG, toArr]
  · exact pcs_t0 a rest p ha hr
theorem pcs_t (a rest : List UInt8) (p : S28) (ha : low a) (hr : gapL rest) : pcs (tL a p ++ rest) = toks p ++ pcs rest := by
  unfold tL toks
  split
  · simp only [List.append_assoc, List.cons_append, List.nil_append]
    have hg : pcs ([103] ++ (btw a ++ 58 :: (t1L a p ++ (btw a ++ 59 :: rest)))) = _ := pcs_atom 103 [] _ (by intro c hc; simp at hc; subst hc; decide) (gap_btw a _)
    simp only [List.cons_append, List.nil_append] at hg
    rw [hg, pcs_btw _ _ ha, pcs_sign 58 _ (by decide) (by decide) (by decide) (by decide), pcs_t1 a _ p ha (gap_btw a _), pcs_btw _ _ ha, pcs_sign 59 _ (by decide) (by decide) (by decide) (by decide)]
    simp [pE, pG, pA, gB]
  · exact pcs_t1 a rest p ha hr
theorem pcs_i (a rest : List UInt8) (p : S28) (ha : low a) : pcs (iL a p ++ rest) = idT p ++ pcs rest := by
  unfold iL idT
  simp only [List.append_assoc, List.cons_append, List.nil_append]
  rw [pcs_btw _ _ ha, pcs_sign 60 _ (by decide) (by decide) (by decide) (by decide), pcs_quo, pcs_sign 64 _ (by decide) (by decide) (by decide) (by decide), pcs_host _ _ (gap_c 62 _ (by decide)), pcs_sign 62 _ (by decide) (by decide) (by decide) (by decide)]
  simp [pE, pG, pA, pQ, hostB, toArr]
def sL (a : List UInt8) : List S28 → List UInt8
  | [] => []
  | [p] => tL a p
  | p :: q :: r => tL a p ++ (btw a ++ (44 :: sL a (q :: r)))
theorem pcs_s (a : List UInt8) (ha : low a) : ∀ ps : List S28, pcs (sL a ps) = joinT ps
  | [] => by simp [sL, joinT, pcs_nil]
  | [p] => by
    have := pcs_t a [] p ha (by intro d t h; cases h)
    simpa [sL, joinT, pcs_nil] using this
  | p :: q :: r => by
    simp only [sL, joinT]
    rw [pcs_t a _ p ha (gap_btw a _), pcs_btw _ _ ha, pcs_sign 44 _ (by decide) (by decide) (by decide) (by decide), pcs_s a ha (q :: r)]
    rfl
theorem pcs_is (a : List UInt8) (ha : low a) : ∀ ps : List S28, pcs (ps.flatMap (iL a)) = ps.flatMap idT
  | [] => by simp [pcs_nil]
  | p :: r => by
    rw [List.flatMap_cons, List.flatMap_cons, pcs_i a _ p ha, pcs_is a ha r]
theorem sL_snoc (a : List UInt8) (p : S28) : ∀ ps : List S28, sL a (ps ++ [p]) = if ps = [] then tL a p else sL a ps ++ (btw a ++ (44 :: tL a p))
  | [] => by simp [sL]
  | [q] => by simp [sL]
  | q :: x :: r => by
    have := sL_snoc a p (x :: r)
    simp only [List.cons_append] at this ⊢
    rw [sL, this]
    simp [sL]

end Go.Proofs.YtgmlhmojcemliaaDoor.P
end
section
/- Plain Lean for the law LetterSaid: the texts as the law puts them together, and what is read of them. -/
namespace Go.Proofs.YtgmlhmojcemliaaDoor.P
open Go.RowKit Go.Proofs.YtgmlhmojcemliaaDoorW.PrintWords Go.Proofs.YtgmlhmojcemliaaDoorW.PrintLast Go.Proofs.YtgmlhmojcemliaaDoorW.PrintMore
set_option linter.unusedVariables false
set_option linter.unusedSimpArgs false
/-! ### the texts as the law puts them together -/
def quoB (s : ByteArray) : ByteArray := ⟨(quo s.data.toList).toArray⟩
def atomB (s : ByteArray) : ByteArray := ⟨(atomL s.data.toList).toArray⟩
def gapB (g : ByteArray) : ByteArray := (⟨#[40]⟩ : ByteArray) ++ atomB g ++ (⟨#[32, 92, 41, 32, 44, 32, 60, 113, 64, 114, 62, 59, 32, 113, 58, 32, 92, 92, 32, 40, 40, 120, 41, 41, 41]⟩ : ByteArray)
def t0B (B : ByteArray) (p : S28) : ByteArray := quoB p.f1 ++ B ++ (⟨#[64]⟩ : ByteArray) ++ atomB p.f2 ++ (⟨#[32, 46, 32]⟩ : ByteArray) ++ atomB p.f2
def t1B (B : ByteArray) (p : S28) : ByteArray := if p.f3 = true then quoB p.f0 ++ B ++ (⟨#[60]⟩ : ByteArray) ++ t0B B p ++ (⟨#[62]⟩ : ByteArray) else t0B B p
def t2B (B : ByteArray) (p : S28) : ByteArray := if p.f4 = true then (⟨#[103]⟩ : ByteArray) ++ B ++ (⟨#[58]⟩ : ByteArray) ++ t1B B p ++ B ++ (⟨#[59]⟩ : ByteArray) else t1B B p
def iB (B : ByteArray) (p : S28) (ids : ByteArray) : ByteArray := ids ++ B ++ (⟨#[60]⟩ : ByteArray) ++ quoB (p.f1 ++ (⟨#[97]⟩ : ByteArray)) ++ (⟨#[64]⟩ : ByteArray) ++ atomB p.f2 ++ (⟨#[62]⟩ : ByteArray)
def sNext (B : ByteArray) (k : Nat) (p : S28) (s : ByteArray) : ByteArray := (if 0 < k then s ++ B ++ (⟨#[44]⟩ : ByteArray) else s) ++ t2B B p
def sAt (B : ByteArray) (l : List S28) : Nat → ByteArray
  | 0 => ⟨#[]⟩
  | k + 1 => sNext B k (rd_T28 l (k : Int)) (sAt B l k)
def iAt (B : ByteArray) (l : List S28) : Nat → ByteArray
  | 0 => ⟨#[]⟩
  | k + 1 => iB B (rd_T28 l (k : Int)) (iAt B l k)
theorem esc_len (s : List UInt8) : (esc s).length ≤ 2 * s.length := by
  induction s with
  | nil => simp [esc]
  | cons c l ih => simp only [esc, List.length_append, List.length_cons]; split <;> simp <;> omega
theorem quoB_size (s : ByteArray) : (quoB s).size ≤ 2 * s.size + 2 := by
  show (quo s.data.toList).toArray.size ≤ _
  have := esc_len s.data.toList
  rw [List.size_toArray]; unfold quo; simp at this ⊢; omega
theorem atomB_size (s : ByteArray) : (atomB s).size ≤ 21 := by
  show (atomL s.data.toList).toArray.size ≤ _
  rw [List.size_toArray]; unfold atomL; rw [List.length_cons, List.length_map, List.length_take]; omega
/-! ### quote -/
theorem quote_l0 (s : ByteArray) (hs : s.size ≤ 100000) : ∀ (d k i : Nat) (acc : List Int), s.size = i + d → d < k → acc.length ≤ 2 * i + 1 →
    postbaglaw5_quote.l0 k s acc (i : Int) = some (strOfNums (acc ++ (esc (s.data.toList.drop i)).map (fun c => (c.toNat : Int)) ++ [34]))
  | 0, k + 1, i, acc, hi, _, ha => by
    have hd : s.data.toList.drop i = [] := by simp; omega
    rw [postbaglaw5_quote.l0, if_neg (by omega), if_pos (by omega), hd]
    simp [esc]
  | d + 1, k + 1, i, acc, hi, hk, ha => by
    have hlt : i < s.size := by omega
    have hd := drop_byte s i hlt
    have hb : bt s (i : Int) = (s[i].toNat : Int) := by simp [bt, hlt]
    have IH := fun acc' h => quote_l0 s hs d k (i + 1) acc' (by omega) (by omega) h
    have hw : wrap64 ((i : Int) + 1) = ((i + 1 : Nat) : Int) := w1 (by omega)
    rw [postbaglaw5_quote.l0, if_pos (by omega), if_pos (by omega), hb, hw, hd]
    generalize s[i] = c at *
    by_cases h1 : c = 34
    · subst h1
      rw [if_pos (by decide), if_pos (by omega), Option.bind_some, if_pos (by simp; omega), IH _ (by simp; omega)]
      simp [esc]
    · by_cases h2 : c = 92
      · subst h2
        rw [if_neg (by decide), if_pos (by decide), if_pos (by omega), Option.bind_some, if_pos (by simp; omega), IH _ (by simp; omega)]
        simp [esc]
      · have n1 : ¬ ((c.toNat : Int) = 34) := fun e => h1 (UInt8.toNat_inj.1 (by simpa using (by omega : c.toNat = 34)))
        have n2 : ¬ ((c.toNat : Int) = 92) := fun e => h2 (UInt8.toNat_inj.1 (by simpa using (by omega : c.toNat = 92)))
        rw [if_neg n1, if_neg n2, if_pos (by omega), IH _ (by simp; omega)]
        simp [esc, h1, h2]
theorem nums_str (l : List UInt8) : strOfNums (l.map (fun c => (c.toNat : Int))) = ⟨l.toArray⟩ := by
  unfold strOfNums
  rw [List.map_map]
  congr 2
  conv => rhs; rw [← List.map_id l]
  apply List.map_congr_left
  intro c _
  simp
theorem quote_f (s : ByteArray) (hs : s.size ≤ 100000) (k : Nat) (hk : s.size < k) : postbaglaw5_quote.f k s = some (quoB s) := by
  have := quote_l0 s hs s.size k 0 [34] (by omega) hk (by simp)
  unfold postbaglaw5_quote.f
  rw [show (0 : Int) = ((0 : Nat) : Int) from rfl, this]
  congr 1
  show _ = (⟨(quo s.data.toList).toArray⟩ : ByteArray)
  rw [← nums_str]
  congr 1
  simp [quo]
/-! ### two lists that are one -/
theorem addresses_l0 (l : List S32) (hl : l.length ≤ 100000) : ∀ (d k i : Nat), l.length = i + d → d < k → postbaglaw5_addresses.l0 k l l (i : Int) = some true
  | 0, k + 1, i, hi, _ => by rw [postbaglaw5_addresses.l0, if_neg (by omega)]
  | d + 1, k + 1, i, hi, hk => by
    rw [postbaglaw5_addresses.l0, if_pos (by omega), if_pos (by omega), if_pos (by omega), if_neg (by simp), w1 (by omega)]
    exact addresses_l0 l hl d k (i + 1) (by omega) (by omega)
theorem addresses_f (l : List S32) (hl : l.length ≤ 100000) (k : Nat) (hk : l.length < k) : postbaglaw5_addresses.f k l l = some true := by
  unfold postbaglaw5_addresses.f
  rw [if_pos rfl]
  exact addresses_l0 l hl l.length k 0 (by omega) hk
theorem texts_l0 (l : List ByteArray) (hl : l.length ≤ 100000) : ∀ (d k i : Nat), l.length = i + d → d < k → postbaglaw5_texts.l0 k l l (i : Int) = some true
  | 0, k + 1, i, hi, _ => by rw [postbaglaw5_texts.l0, if_neg (by omega)]
  | d + 1, k + 1, i, hi, hk => by
    rw [postbaglaw5_texts.l0, if_pos (by omega), if_pos (by omega), if_pos (by omega), if_pos rfl, w1 (by omega)]
    exact texts_l0 l hl d k (i + 1) (by omega) (by omega)
theorem texts_f (l : List ByteArray) (hl : l.length ≤ 100000) (k : Nat) (hk : l.length < k) : postbaglaw5_texts.f k l l = some true := by
  unfold postbaglaw5_texts.f
  rw [if_pos rfl]
  exact texts_l0 l hl l.length k 0 (by omega) hk
/-! ### the two readings -/
theorem gapB_list (g : ByteArray) : (gapB g).data.toList = btw (atomL g.data.toList) := by simp [gapB, atomB, btw, tailC]
theorem t0B_list (g : ByteArray) (p : S28) : (t0B (gapB g) p).data.toList = t0L (atomL g.data.toList) p := by
  simp [t0B, gapB_list, t0L, quoB, atomB]
theorem t1B_list (g : ByteArray) (p : S28) : (t1B (gapB g) p).data.toList = t1L (atomL g.data.toList) p := by
  unfold t1B t1L
  split
  · simp [t0B_list, gapB_list, quoB]
  · exact t0B_list g p
theorem t2B_list (g : ByteArray) (p : S28) : (t2B (gapB g) p).data.toList = tL (atomL g.data.toList) p := by
  unfold t2B tL
  split
  · simp [t1B_list, gapB_list]
  · exact t1B_list g p
theorem take_rd (l : List S28) (k : Nat) (hk : k < l.length) : l.take (k + 1) = l.take k ++ [rd_T28 l (k : Int)] := by
  rw [List.take_succ_eq_append_getElem hk]
  simp [rd_T28, List.getD_eq_getElem?_getD, List.getElem?_eq_getElem hk]
theorem sAt_list (g : ByteArray) (l : List S28) : ∀ k, k ≤ l.length → (sAt (gapB g) l k).data.toList = sL (atomL g.data.toList) (l.take k)
  | 0, _ => by simp [sAt, sL]
  | k + 1, hk => by
    rw [take_rd l k (by omega), sL_snoc, sAt, sNext]
    by_cases h0 : 0 < k
    · have hne : l.take k ≠ [] := by intro e; have := congrArg List.length e; rw [List.length_take, List.length_nil] at this; omega
      rw [if_pos h0, if_neg hne]
      simp [t2B_list, gapB_list, sAt_list g l k (by omega)]
    · obtain rfl : k = 0 := by omega
      simp [t2B_list, sAt]
theorem iAt_list (g : ByteArray) (l : List S28) : ∀ k, k ≤ l.length → (iAt (gapB g) l k).data.toList = (l.take k).flatMap (iL (atomL g.data.toList))
  | 0, _ => by simp [iAt]
  | k + 1, hk => by
    rw [take_rd l k (by omega), List.flatMap_append, iAt, iB]
    simp [iAt_list g l k (by omega), iL, gapB_list, quoB, atomB, idBox]
theorem read_addresses (g : ByteArray) (l : List S28) (hn : l.length ≤ 10) (hok : ∀ p ∈ l, okP p) (hs : (sAt (gapB g) l l.length).size ≤ 100000) :
    letter_Addresses.f 300 (sAt (gapB g) l l.length) = some (l.flatMap wantP) := by
  have e := sAt_list g l l.length (Nat.le_refl _)
  rw [List.take_length] at e
  unfold letter_Addresses.f letter_pieces.f
  rw [if_pos (by omega), Option.bind_some, e, pcs_s _ (low_atomL _)]
  have hl := joinT_len l
  cases l with
  | nil =>
    simp only [joinT, List.flatMap_nil]
    have s1 := adr_l0e over_nil [] 298 (by omega) (by simp) [] false
    simp only [List.append_nil] at s1
    rw [show (0 : Int) = (([] : List S71).length : Int) from rfl, s1, show 298 = 295 + 3 from rfl, j2_gap _ _ _ _ [] (.inl rfl)]
    exact adr_end [] [] false 296 _ (by show ((0 : Nat) : Int) < wrap64 (((0 : Nat) : Int) + 1); rw [w1 (by omega)]; omega) (by simp)
  | cons p r =>
    have := adr_all (p :: r) [] [] 300 (by simp) hok (by simp at hn ⊢; omega) (by simp at hn ⊢; omega) (by simp at hl hn ⊢; omega)
    simpa using this
theorem read_ids (g : ByteArray) (l : List S28) (hn : l.length ≤ 10) (hok : ∀ p ∈ l, okP p) (hs : (iAt (gapB g) l l.length).size ≤ 100000) :
    letter_Ids.f 300 (iAt (gapB g) l l.length) = some (l.map nameB) := by
  have e := iAt_list g l l.length (Nat.le_refl _)
  rw [List.take_length] at e
  unfold letter_Ids.f letter_pieces.f
  rw [if_pos (by omega), Option.bind_some, e, pcs_is _ (low_atomL _)]
  have hlen : (l.flatMap idT).length = 6 * l.length := by
    clear hs e hok hn
    induction l with
    | nil => rfl
    | cons p r ih => simp [idT] at ih ⊢; omega
  have := ids_all l [] [] 300 hok (by simp; omega) (by omega) (by rw [List.nil_append, hlen]; omega)
  simpa using this

end Go.Proofs.YtgmlhmojcemliaaDoor.P
end
