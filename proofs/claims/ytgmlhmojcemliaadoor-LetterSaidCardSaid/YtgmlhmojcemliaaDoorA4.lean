import Derived.Test.YtgmlhmojcemliaaDoorA3
section
namespace Go.Proofs.YtgmlhmojcemliaaDoor.P
open Go.RowKit Go.Proofs.YtgmlhmojcemliaaDoorW.PrintWords Go.Proofs.YtgmlhmojcemliaaDoorW.PrintLast Go.Proofs.YtgmlhmojcemliaaDoorW.PrintMore
attribute [local go_sem] max2_int min2_int max_two min_two max_three min_three max_four min_four   -- for this text's walks alone
set_option linter.unusedVariables false
set_option linter.unusedSimpArgs false

/-! ### letter_Addresses: function 10 -/
mutual
def letter_Addresses.l0 : Nat → List (S32) → List (S71) → Bool → Int → Option ((List (S32)))
  | 0, _, _, _, _ => none
  | k + 1, x3, x4, x5, x6 => if x6 ≤ (x4.length : Int) then ((letter_part.f k x4 x6).bind fun t193 => (if t193 < (x4.length : Int) then (if 0 ≤ t193 then (letter_Addresses.j1 k x3 x4 x5 x6 t193 ((rd_T71 x4 t193).f1)) else (none)) else (letter_Addresses.j1 k x3 x4 x5 x6 t193 (⟨#[]⟩ : ByteArray)))) else (if (x3.length : Int) > 32 then (if 32 ≤ (x3.length : Int) then (none) else (none)) else (some x3))
def letter_Addresses.j1 : Nat → List (S32) → List (S71) → Bool → Int → Int → ByteArray → Option ((List (S32)))
  | 0, _, _, _, _, _, _ => none
  | k + 1, x3, x4, x5, x6, x7, x8 => if 0 ≤ x6 then (if x6 ≤ x7 then (if x7 ≤ (x4.length : Int) then ((some ((x4.take (x7 : Int).toNat).drop (x6 : Int).toNat : List (S71))).bind fun y195 => (if x8.toList = ([58] : List UInt8) then (letter_Addresses.j2 k x3 x4 x5 x7 x8 y195 (!x5)) else (letter_Addresses.j2 k x3 x4 x5 x7 x8 y195 false))) else (none)) else (none)) else (none)
def letter_Addresses.j2 : Nat → List (S32) → List (S71) → Bool → Int → ByteArray → List (S71) → Bool → Option ((List (S32)))
  | 0, _, _, _, _, _, _, _ => none
  | k + 1, x3, x4, x5, x7, x8, x9, x52 => if x52 = true then ((letter_text.f x9 false).bind fun t200 => ((letter_some.f t200).bind fun bt201 => (if x3.length < 1466015503701 then (letter_Addresses.l0 k (x3 ++ [(⟨(⟨false, (⟨#[]⟩ : ByteArray)⟩ : S30), (⟨false, (⟨#[]⟩ : ByteArray)⟩ : S30), (⟨bt201.1, bt201.2⟩ : S30), (⟨false, (⟨#[]⟩ : ByteArray)⟩ : S30)⟩ : S32)]) x4 true (wrap64 (x7 + 1))) else (none)))) else ((letter_held.f k x9).bind fun t206 => (if t206 = true then ((letter_address.f k x9).bind fun bt207 => (if x3.length < 1466015503701 then ((some (x3 ++ [(⟨(⟨bt207.1, bt207.2.1⟩ : S30), (⟨bt207.2.2.1, bt207.2.2.2.1⟩ : S30), (⟨bt207.2.2.2.2.1, bt207.2.2.2.2.2.1⟩ : S30), (⟨bt207.2.2.2.2.2.2.1, bt207.2.2.2.2.2.2.2⟩ : S30)⟩ : S32)] : List (S32))).bind fun y215 => (if x5 = true then (if x8.toList = ([59] : List UInt8) then (if y215.length < 1466015503701 then (letter_Addresses.l0 k (y215 ++ [(⟨(⟨false, (⟨#[]⟩ : ByteArray)⟩ : S30), (⟨false, (⟨#[]⟩ : ByteArray)⟩ : S30), (⟨false, (⟨#[]⟩ : ByteArray)⟩ : S30), (⟨false, (⟨#[]⟩ : ByteArray)⟩ : S30)⟩ : S32)]) x4 false (wrap64 (x7 + 1))) else (none)) else (if x8.toList = ([] : List UInt8) then (if y215.length < 1466015503701 then (letter_Addresses.l0 k (y215 ++ [(⟨(⟨false, (⟨#[]⟩ : ByteArray)⟩ : S30), (⟨false, (⟨#[]⟩ : ByteArray)⟩ : S30), (⟨false, (⟨#[]⟩ : ByteArray)⟩ : S30), (⟨false, (⟨#[]⟩ : ByteArray)⟩ : S30)⟩ : S32)]) x4 false (wrap64 (x7 + 1))) else (none)) else (letter_Addresses.l0 k y215 x4 x5 (wrap64 (x7 + 1))))) else (letter_Addresses.l0 k y215 x4 x5 (wrap64 (x7 + 1))))) else (none))) else (if x5 = true then (if x8.toList = ([59] : List UInt8) then (if x3.length < 1466015503701 then (letter_Addresses.l0 k (x3 ++ [(⟨(⟨false, (⟨#[]⟩ : ByteArray)⟩ : S30), (⟨false, (⟨#[]⟩ : ByteArray)⟩ : S30), (⟨false, (⟨#[]⟩ : ByteArray)⟩ : S30), (⟨false, (⟨#[]⟩ : ByteArray)⟩ : S30)⟩ : S32)]) x4 false (wrap64 (x7 + 1))) else (none)) else (if x8.toList = ([] : List UInt8) then (if x3.length < 1466015503701 then (letter_Addresses.l0 k (x3 ++ [(⟨(⟨false, (⟨#[]⟩ : ByteArray)⟩ : S30), (⟨false, (⟨#[]⟩ : ByteArray)⟩ : S30), (⟨false, (⟨#[]⟩ : ByteArray)⟩ : S30), (⟨false, (⟨#[]⟩ : ByteArray)⟩ : S30)⟩ : S32)]) x4 false (wrap64 (x7 + 1))) else (none)) else (letter_Addresses.l0 k x3 x4 x5 (wrap64 (x7 + 1))))) else (letter_Addresses.l0 k x3 x4 x5 (wrap64 (x7 + 1))))))
end
def letter_Addresses.f (k : Nat) (a0 : ByteArray) : Option ((List (S32))) := (letter_pieces.f a0).bind fun t186 => (letter_Addresses.l0 k ([] : List (S32)) t186 false 0)
theorem letter_Addresses.mono_l : ∀ k, (∀ y0 y1 y2 y3, LeO (letter_Addresses.l0 k y0 y1 y2 y3) (letter_Addresses.l0 (k + 1) y0 y1 y2 y3)) ∧ (∀ y0 y1 y2 y3 y4 y5, LeO (letter_Addresses.j1 k y0 y1 y2 y3 y4 y5) (letter_Addresses.j1 (k + 1) y0 y1 y2 y3 y4 y5)) ∧ (∀ y0 y1 y2 y3 y4 y5 y6, LeO (letter_Addresses.j2 k y0 y1 y2 y3 y4 y5 y6) (letter_Addresses.j2 (k + 1) y0 y1 y2 y3 y4 y5 y6))
  | 0 => ⟨fun _ _ _ _ r h => by simp [letter_Addresses.l0] at h, fun _ _ _ _ _ _ r h => by simp [letter_Addresses.j1] at h, fun _ _ _ _ _ _ _ r h => by simp [letter_Addresses.j2] at h⟩
  | k + 1 => by
    obtain ⟨ih0, ih1, ih2⟩ := letter_Addresses.mono_l k
    refine ⟨?_, ?_, ?_⟩
    · intro y0 y1 y2 y3
      unfold letter_Addresses.l0
      repeat' first
      | (with_reducible exact ih0 _ _ _ _)
      | (with_reducible exact ih1 _ _ _ _ _ _)
      | (with_reducible exact ih2 _ _ _ _ _ _ _)
      | (with_reducible exact letter_address.mono _ _)
      | (with_reducible exact letter_held.mono _ _)
      | (with_reducible exact letter_part.mono _ _ _)
      | (with_reducible exact LeO.refl _)
      | (with_reducible exact LeO.none _)
      | (with_reducible refine LeO.ite ?_ ?_)
      | (with_reducible refine LeO.bind ?_ (fun _ => ?_))
      | exact ih0 _ _ _ _
      | exact ih1 _ _ _ _ _ _
      | exact ih2 _ _ _ _ _ _ _
      | exact letter_address.mono _ _
      | exact letter_held.mono _ _
      | exact letter_part.mono _ _ _
      | exact LeO.none _
      | refine LeO.ite ?_ ?_
      | refine LeO.bind ?_ (fun _ => ?_)
    · intro y0 y1 y2 y3 y4 y5
      unfold letter_Addresses.j1
      repeat' first
      | (with_reducible exact ih0 _ _ _ _)
      | (with_reducible exact ih1 _ _ _ _ _ _)
      | (with_reducible exact ih2 _ _ _ _ _ _ _)
      | (with_reducible exact letter_address.mono _ _)
      | (with_reducible exact letter_held.mono _ _)
      | (with_reducible exact letter_part.mono _ _ _)
      | (with_reducible exact LeO.refl _)
      | (with_reducible exact LeO.none _)
      | (with_reducible refine LeO.ite ?_ ?_)
      | (with_reducible refine LeO.bind ?_ (fun _ => ?_))
      | exact ih0 _ _ _ _
      | exact ih1 _ _ _ _ _ _
      | exact ih2 _ _ _ _ _ _ _
      | exact letter_address.mono _ _
      | exact letter_held.mono _ _
      | exact letter_part.mono _ _ _
      | exact LeO.none _
      | refine LeO.ite ?_ ?_
      | refine LeO.bind ?_ (fun _ => ?_)
    · intro y0 y1 y2 y3 y4 y5 y6
      unfold letter_Addresses.j2
      repeat' first
      | (with_reducible exact ih0 _ _ _ _)
      | (with_reducible exact ih1 _ _ _ _ _ _)
      | (with_reducible exact ih2 _ _ _ _ _ _ _)
      | (with_reducible exact letter_address.mono _ _)
      | (with_reducible exact letter_held.mono _ _)
      | (with_reducible exact letter_part.mono _ _ _)
      | (with_reducible exact LeO.refl _)
      | (with_reducible exact LeO.none _)
      | (with_reducible refine LeO.ite ?_ ?_)
      | (with_reducible refine LeO.bind ?_ (fun _ => ?_))
      | exact ih0 _ _ _ _
      | exact ih1 _ _ _ _ _ _
      | exact ih2 _ _ _ _ _ _ _
      | exact letter_address.mono _ _
      | exact letter_held.mono _ _
      | exact letter_part.mono _ _ _
      | exact LeO.none _
      | refine LeO.ite ?_ ?_
      | refine LeO.bind ?_ (fun _ => ?_)
theorem letter_Addresses.mono : ∀ a0 k, LeO (letter_Addresses.f k a0) (letter_Addresses.f (k + 1) a0) := by
  intro a0 k
  obtain ⟨ih0, ih1, ih2⟩ := letter_Addresses.mono_l k
  unfold letter_Addresses.f
  repeat' first
      | (with_reducible exact ih0 _ _ _ _)
      | (with_reducible exact ih1 _ _ _ _ _ _)
      | (with_reducible exact ih2 _ _ _ _ _ _ _)
      | (with_reducible exact letter_address.mono _ _)
      | (with_reducible exact letter_held.mono _ _)
      | (with_reducible exact letter_part.mono _ _ _)
      | (with_reducible exact LeO.refl _)
      | (with_reducible exact LeO.none _)
      | (with_reducible refine LeO.ite ?_ ?_)
      | (with_reducible refine LeO.bind ?_ (fun _ => ?_))
      | exact ih0 _ _ _ _
      | exact ih1 _ _ _ _ _ _
      | exact ih2 _ _ _ _ _ _ _
      | exact letter_address.mono _ _
      | exact letter_held.mono _ _
      | exact letter_part.mono _ _ _
      | exact LeO.none _
      | refine LeO.ite ?_ ?_
      | refine LeO.bind ?_ (fun _ => ?_)
set_option maxHeartbeats 8000000 in
set_option maxRecDepth 100000 in
theorem letter_Addresses.calls (k : Nat) (a0 : ByteArray) (r : List (S32)) (w : World) (h : letter_Addresses.f k a0 = some r) :
    Calls Tryd.prog 10 #[.string a0] w fun e w' => ∃ v0_ : Value, e = .returned (v0_) ∧ Kd.R k32 32 w' w.heap.size (fun _ => True) v0_ r ∧ Below w.heap.size w w' := by
  have hu32 := Tryd.underlying32
  have HB := Aside0.mk (Below.refl w.heap.size w)
  have H : ((letter_pieces.f a0).bind fun t186 => (letter_Addresses.l0 k ([] : List (S32)) t186 false 0)) = some r := h
  clear h
  replace H := Option.bind_eq_some_iff.mp H
  obtain ⟨t186, A20, H⟩ := H
  replace H : (letter_Addresses.l0 k ([] : List (S32)) t186 false 0) = some r := H
  have A2 := Aside0.mk A20
  clear A20
  have H' := Aside0.mk H
  clear H
  go_enter Tryd.func10, Tryd.ntmps10
  go_wp2_with (first | ((with_reducible refine gate_callee (f := 28) rfl ?_); refine goesL_ (some 11) rfl rfl Tryd.func28 (by kernel_rfl) rfl #[.string a0] rfl (by (try simp only [List.map_toArray, List.map_cons, List.map_nil]); first | done | rfl | (simp only [List.length_drop, List.length_take]; rfl)) ?_; (with_reducible refine (letter_pieces.calls a0 t186 _ A2.out).mono ?_); rintro e w3 ⟨v187, rfl, ho0, hb⟩; refine ⟨_, rfl, ?_⟩; have n0_ := Aside0.mk (Kd.V_lower (Kd.V_mono (ok' := fun k_ => True) ho0 (fun k_ hk_ => trivial)) (below_size (by repeat (first | (with_reducible first | exact HB.out | apply below_alloc | apply pw_below_drewN | apply below_drew1) | exact HB.out)))); have n1_ := Aside0.mk (below_step (by repeat (first | (with_reducible first | exact HB.out | apply below_alloc | apply pw_below_drewN | apply below_drew1) | exact HB.out)) hb); clear HB; have HO188 := n0_; have HB := n1_; clear n0_ n1_; (try clear hb); (try clear hb2); (try clear hk); (try clear hi); (try clear ho0)))
  go_loopg [3, 5, 6] k (fun kq v3 v5 v6 w' => ∃ (x3_1 : List (S32)) (x5_1 : Bool) (x6_1 : Int), v5 = .bool x5_1 ∧ v6 = .int .i64 x6_1 ∧ Aside0 (letter_Addresses.l0 kq x3_1 t186 x5_1 x6_1 = some r) ∧ Aside0 (kq ≤ k) ∧ Aside0 (Kd.R k32 32 w' w.heap.size (fun _ => True) v3 x3_1) ∧ Aside0 (Kd.V k71 71 w' w.heap.size (fun k_ => some k_ ≠ (v3 : Value).ownBlock) v187 t186) ∧ Aside0 (Below w.heap.size w w'))
  case atStart => exact ⟨(([] : List (S32))), (false), (0), (by first | rfl | (simp; done) | (simp [*]; done)), (by first | rfl | (simp; done) | (simp [*]; done)), H', ⟨Nat.le_refl _⟩, ⟨by first | exact Kd.R_nil _ _ _ _ _ | exact Kd.N_nil _ _ _ _ _ | exact Kd.V_nil _ _ _ _ _ | exact Kd.Q_nil _ _ _ _ _ | exact Kd.S_nil _ _ _ _ _⟩, ⟨by (with_reducible repeat (first | apply Kd.V_alloc | apply Kd.V_drewN | apply Kd.V_drew)); exact Kd.V_mono HO188.out (fun _ hk => (by simp [Value.ownBlock]))⟩, ⟨by repeat (first | (with_reducible first | exact HB.out | apply below_alloc | apply pw_below_drewN | apply below_drew1) | exact HB.out)⟩⟩
  case round =>
    clear H'
    try clear c1
    try clear c2
    try clear p2
    obtain ⟨x3_1, x5_1, x6_1, rfl, rfl, HA, HK1, HO_3, HO_4, HB⟩ := hrel
    cases gk with
    | zero => exact absurd HA.out (by simp [letter_Addresses.l0])
    | succ k1 =>
      have H := HA.out
      clear HA
      simp only [letter_Addresses.l0] at H
      by_cases c4 : x6_1 ≤ (t186.length : Int)
      · rw [if_pos c4] at H
        have c4b0 : decide (x6_1 ≤ (t186.length : Int)) = true := decide_eq_true c4
        clear c4
        replace H := Option.bind_eq_some_iff.mp H
        obtain ⟨t193, A50, H⟩ := H
        replace H : (if t193 < (t186.length : Int) then (if 0 ≤ t193 then (letter_Addresses.j1 k1 x3_1 t186 x5_1 x6_1 t193 ((rd_T71 t186 t193).f1)) else (none)) else (letter_Addresses.j1 k1 x3_1 t186 x5_1 x6_1 t193 (⟨#[]⟩ : ByteArray))) = some r := H
        have A5 := Aside0.mk A50
        clear A50
        have HC6 := Aside0.mk H
        clear H
        obtain ⟨Ao7, co7, eo7⟩ := Kd.V_slice HO_4.out
        subst eo7
        go_upto_if 22 with (first | ((with_reducible refine gate_callee (f := 29) rfl ?_); refine goesL_ (some 18) rfl rfl Tryd.func29 (by kernel_rfl) rfl #[.slice Ao7 t186.length co7, .int .i64 x6_1] rfl (by (try simp only [List.map_toArray, List.map_cons, List.map_nil]); first | done | rfl | (simp only [List.length_drop, List.length_take]; rfl)) ?_; (with_reducible refine (letter_part.calls k1 _ _ t186 x6_1 t193 _ ?side1 ?side2 A5.out).mono ?_); (case side1 => repeat (first | exact (Kd.V_reads' HO_4.out).2.2 | (with_reducible refine Kd.C_alloc ?_ _) | (with_reducible refine Kd.C_drewN ?_ _) | (with_reducible refine Kd.C_drew ?_))); (case side2 => exact (Kd.V_reads' HO_4.out).2.1); rintro e w8 ⟨rfl, hb⟩; refine ⟨_, rfl, ?_⟩; have n0_ := Aside0.mk (Kd.R_below (by (with_reducible repeat (first | apply Kd.R_alloc | apply Kd.R_drewN | apply Kd.R_drew)); exact HO_3.out) hb); have n1_ := Aside0.mk (Kd.V_below (by (with_reducible repeat (first | apply Kd.V_alloc | apply Kd.V_drewN | apply Kd.V_drew)); exact HO_4.out) hb); have n2_ := Aside0.mk (below_step (by repeat (first | (with_reducible first | exact HB.out | apply below_alloc | apply pw_below_drewN | apply below_drew1) | exact HB.out)) hb); clear HO_3; clear HO_4; clear HB; have HO_3 := n0_; have HO_4 := n1_; have HB := n2_; clear n0_ n1_ n2_; (try clear hb); (try clear hb2); (try clear hk); (try clear hi)))
        (try simp only [Act.put, List.setIfInBounds_toArray, List.set_cons_zero, List.set_cons_succ])
        go_cut [8] (fun v8 wc => ∃ (kq : Nat) (x8_5 : ByteArray), v8 = .string x8_5 ∧ Aside0 (letter_Addresses.j1 kq x3_1 t186 x5_1 x6_1 t193 x8_5 = some r) ∧ Aside0 (kq ≤ k1) ∧ Aside0 (Kd.R k32 32 wc w.heap.size (fun _ => True) u3 x3_1) ∧ Aside0 (Kd.V k71 71 wc w.heap.size (fun k_ => some k_ ≠ (u3 : Value).ownBlock) (.slice Ao7 t186.length co7) t186) ∧ Aside0 (Below w.heap.size w wc))
        case first =>
          have H := HC6.out
          clear HC6
          by_cases c9 : t193 < (t186.length : Int)
          · rw [if_pos c9] at H
            have c9b0 : decide (t193 < (t186.length : Int)) = true := decide_eq_true c9
            clear c9
            (first | rw [c9b0] | (simp only [i64_w, i32_w]; rw [c9b0]) | skip)
            by_cases c10 : 0 ≤ t193
            · rw [if_pos c10] at H
              have c10b0 : decide (0 ≤ t193) = true := decide_eq_true c10
              clear c10
              have H' := Aside0.mk H
              clear H
              have p194 : 0 ≤ (t193 : Int) := of_decide_eq_true (by first | (with_reducible assumption) | assumption)
              have q194 : t193 < (t186.length : Int) := of_decide_eq_true (by first | (with_reducible assumption) | assumption)
              obtain ⟨ad194, e194, hx194_0, hx194_1⟩ := at_T71 (Kd.V_reads' HO_4.out).2.2 t193 p194 q194
              cases e194
              replace p194 := eq_true p194
              replace q194 := eq_true q194
              go_wp2
              go_meet
              case rel => exact ⟨_, ((rd_T71 t186 t193).f1), (by first | rfl | (simp; done) | (simp [*]; done)), H', ⟨by have := HK1.out; first | omega | exact Nat.le_refl _⟩, ⟨by (with_reducible repeat (first | apply Kd.R_alloc | apply Kd.R_drewN | apply Kd.R_drew)); exact HO_3.out⟩, ⟨by (with_reducible repeat (first | apply Kd.V_alloc | apply Kd.V_drewN | apply Kd.V_drew)); exact HO_4.out⟩, ⟨by repeat (first | (with_reducible first | exact HB.out | apply below_alloc | apply pw_below_drewN | apply below_drew1) | exact HB.out)⟩⟩
            · rw [if_neg c10] at H
              exact absurd H (by simp)
          · rw [if_neg c9] at H
            have c9b0 : decide (t193 < (t186.length : Int)) = false := decide_eq_false c9
            clear c9
            (first | rw [c9b0] | (simp only [i64_w, i32_w]; rw [c9b0]) | skip)
            have H' := Aside0.mk H
            clear H
            go_wp2
            go_meet
            case rel => exact ⟨_, ((⟨#[]⟩ : ByteArray)), (by first | rfl | (simp; done) | (simp [*]; done)), H', ⟨by have := HK1.out; first | omega | exact Nat.le_refl _⟩, ⟨by (with_reducible repeat (first | apply Kd.R_alloc | apply Kd.R_drewN | apply Kd.R_drew)); exact HO_3.out⟩, ⟨by (with_reducible repeat (first | apply Kd.V_alloc | apply Kd.V_drewN | apply Kd.V_drew)); exact HO_4.out⟩, ⟨by repeat (first | (with_reducible first | exact HB.out | apply below_alloc | apply pw_below_drewN | apply below_drew1) | exact HB.out)⟩⟩
        case rest =>
          clear HC6
          try clear c1
          try clear p1
          try clear q1
          try clear hx1
          try clear c2
          try clear p2
          try clear c4
          try clear c4b0
          try clear c9
          try clear c9b0
          try clear c10
          try clear c10b0
          try clear hx194_0
          try clear hx194_1
          try clear p194
          try clear p2
          try clear q194
          obtain ⟨kq, x8_5, rfl, HA, HJ5, HO_3, HO_4, HB⟩ := hcut
          cases kq with
          | zero => exact absurd HA.out (by simp [letter_Addresses.j1])
          | succ kj5 =>
            have H := HA.out
            clear HA
            simp only [letter_Addresses.j1] at H
            by_cases c11 : 0 ≤ x6_1
            · rw [if_pos c11] at H
              have c11b0 := eq_true c11
              have c11b1 : decide (0 ≤ x6_1) = true := decide_eq_true c11
              clear c11
              by_cases c12 : x6_1 ≤ t193
              · rw [if_pos c12] at H
                have c12b0 := eq_true c12
                have c12b1 : decide (x6_1 ≤ t193) = true := decide_eq_true c12
                clear c12
                by_cases c13 : t193 ≤ (t186.length : Int)
                · rw [if_pos c13] at H
                  have c13b0 := eq_true c13
                  have c13b1 : decide (t193 ≤ (t186.length : Int)) = true := decide_eq_true c13
                  clear c13
                  obtain ⟨y195, hy195⟩ : ∃ y_ : List (S71), y_ = ((t186.take (t193 : Int).toNat).drop (x6_1 : Int).toNat) := ⟨_, rfl⟩
                  replace H : (if x8_5.toList = ([58] : List UInt8) then (letter_Addresses.j2 kj5 x3_1 t186 x5_1 t193 x8_5 y195 (!x5_1)) else (letter_Addresses.j2 kj5 x3_1 t186 x5_1 t193 x8_5 y195 false)) = some r := by first | (rw [hy195]; with_reducible exact H) | (have H2_ := (Option.bind_some _ _).symm.trans H; rw [hy195]; with_reducible exact H2_) | (have H2_ := (Option.bind_some _ _).symm.trans H; with_reducible exact H2_) | with_reducible exact H | (rw [hy195]; exact H) | exact H
                  have Ny195 := Aside0.mk hy195
                  clear hy195
                  have HC14 := Aside0.mk H
                  clear H
                  have q15 : (t193 : Int) ≤ ((t186.length : Int) : Int) := of_decide_eq_true (by first | (with_reducible assumption) | assumption)
                  obtain ⟨i015, hi015, _, hsz15, _⟩ := info_parts info71
                  have hroom15 : t186.length ≤ co7 := (Kd.V_reads' HO_4.out).2.1
                  have hC15 : Kd.F k71 _ _ Ao7 t186.length t186 := (Kd.V_at (base := w.heap.size) HO_4.out).2.2
                  have ql15 : (x6_1 : Int) ≤ (t193 : Int) := of_decide_eq_true (by first | (with_reducible assumption) | assumption)
                  have q015 : (0 : Int) ≤ (x6_1 : Int) := of_decide_eq_true (by first | (with_reducible assumption) | assumption)
                  have hcut15 := cut_mid (P := Tryd.prog) 67 71 .i64 .i64 Tryd.underlying67 hi015 2 hsz15 Ao7 t186.length co7 x6_1 t193 q015 ql15 q15 hroom15
                  have hr15 := Kd.F_mid (lo := (x6_1 : Int).toNat) (hi := (t193 : Int).toNat) (c := co7) hC15 (by omega) (by omega) hroom15
                  obtain ⟨A15, hA15⟩ : ∃ A1, A1 = (if co7 = (x6_1 : Int).toNat then Ao7 else (Ao7 : Option Addr).map (·.add ((x6_1 : Int).toNat * 2))) := ⟨_, rfl⟩
                  obtain ⟨c15, hc15⟩ : ∃ c1, c1 = co7 - (x6_1 : Int).toNat := ⟨_, rfl⟩
                  have hy15 : y195.length = (t193 : Int).toNat - (x6_1 : Int).toNat := (by rw [Ny195.out, List.length_drop, List.length_take] <;> omega)
                  rw [show ((t186).take (t193 : Int).toNat).drop (x6_1 : Int).toNat = y195 from Ny195.out.symm] at hr15
                  replace hr15 : Kd.F k71 _ _ A15 y195.length y195 := (by rw [hA15]; exact hr15)
                  rw [← hy15, ← hA15, ← hc15] at hcut15
                  have HO199 := Aside0.mk (show Kd.V k71 71 _ w.heap.size _ (.slice A15 y195.length c15) y195 from Kd.V_mk (by rw [hy15, hc15]; exact Nat.sub_le_sub_right (Nat.le_trans (by omega) hroom15) _) hr15)
                  have HC199 := Aside0.mk (show y195.length ≤ c15 from by rw [hy15, hc15]; exact Nat.sub_le_sub_right (Nat.le_trans (by omega) hroom15) _)
                  clear hr15 hC15 hroom15 hi015 hsz15 hc15
                  have KY15 := Aside0.mk hy15
                  have KA15 := Aside0.mk hA15
                  clear hy15 hA15
                  replace q15 := eq_true q15
                  go_upto_region 16 with (fail)
                  go_cut [52] (fun v52 wc => ∃ (kq : Nat) (x52_13 : Bool), v52 = .bool x52_13 ∧ Aside0 (letter_Addresses.j2 kq x3_1 t186 x5_1 t193 x8_5 y195 x52_13 = some r) ∧ Aside0 (kq ≤ kj5) ∧ Aside0 (Kd.R k32 32 wc w.heap.size (fun _ => True) u3 x3_1) ∧ Aside0 (Kd.V k71 71 wc w.heap.size (fun k_ => some k_ ≠ (u3 : Value).ownBlock) (.slice Ao7 t186.length co7) t186) ∧ Aside0 (Kd.V k71 71 wc w.heap.size (fun k_ => some k_ ≠ (u3 : Value).ownBlock) (.slice A15 y195.length c15) y195) ∧ Aside0 (Below w.heap.size w wc))
                  case first =>
                    have H := HC14.out
                    clear HC14
                    by_cases c16 : x8_5.toList = ([58] : List UInt8)
                    · rw [if_pos c16] at H
                      have c16b0 : (x8_5.toList == ([58] : List UInt8)) = true := beq_iff_eq.mpr c16
                      have c16b1 : (x8_5.toList != ([58] : List UInt8)) = false := bne_eq_false_iff_eq.mpr c16
                      clear c16
                      (first | rw [c16b0] | (simp only [i64_w, i32_w]; rw [c16b0]) | skip)
                      have H' := Aside0.mk H
                      clear H
                      go_wp2
                      go_meet
                      case rel => exact ⟨_, (!x5_1), (by first | rfl | (simp; done) | (simp [*]; done)), H', ⟨by have := HK1.out; have := HJ5.out; first | omega | exact Nat.le_refl _⟩, ⟨by (with_reducible repeat (first | apply Kd.R_alloc | apply Kd.R_drewN | apply Kd.R_drew)); exact HO_3.out⟩, ⟨by (with_reducible repeat (first | apply Kd.V_alloc | apply Kd.V_drewN | apply Kd.V_drew)); exact HO_4.out⟩, ⟨by (with_reducible repeat (first | apply Kd.V_alloc | apply Kd.V_drewN | apply Kd.V_drew)); exact HO199.out⟩, ⟨by repeat (first | (with_reducible first | exact HB.out | apply below_alloc | apply pw_below_drewN | apply below_drew1) | exact HB.out)⟩⟩
                    · rw [if_neg c16] at H
                      have c16b0 : (x8_5.toList == ([58] : List UInt8)) = false := beq_eq_false_iff_ne.mpr c16
                      have c16b1 : (x8_5.toList != ([58] : List UInt8)) = true := bne_iff_ne.mpr c16
                      (first | rw [c16b0] | (simp only [i64_w, i32_w]; rw [c16b0]) | skip)
                      have H' := Aside0.mk H
                      clear H
                      go_wp2
                      go_meet
                      case rel => exact ⟨_, (false), (by first | rfl | (simp; done) | (simp [*]; done)), H', ⟨by have := HK1.out; have := HJ5.out; first | omega | exact Nat.le_refl _⟩, ⟨by (with_reducible repeat (first | apply Kd.R_alloc | apply Kd.R_drewN | apply Kd.R_drew)); exact HO_3.out⟩, ⟨by (with_reducible repeat (first | apply Kd.V_alloc | apply Kd.V_drewN | apply Kd.V_drew)); exact HO_4.out⟩, ⟨by (with_reducible repeat (first | apply Kd.V_alloc | apply Kd.V_drewN | apply Kd.V_drew)); exact HO199.out⟩, ⟨by repeat (first | (with_reducible first | exact HB.out | apply below_alloc | apply pw_below_drewN | apply below_drew1) | exact HB.out)⟩⟩
                  case rest =>
                    clear HC14
                    try clear c1
                    try clear p1
                    try clear q1
                    try clear hx1
                    try clear c2
                    try clear p2
                    try clear c4
                    try clear c4b0
                    try clear c9
                    try clear c9b0
                    try clear c10
                    try clear c10b0
                    try clear c11
                    try clear c11b0
                    try clear c11b1
                    try clear c12
                    try clear c12b0
                    try clear c12b1
                    try clear c13
                    try clear c13b0
                    try clear c13b1
                    try clear c15
                    try clear q15
                    try clear c16
                    try clear c16b0
                    try clear c16b1
                    try clear hx194_0
                    try clear hx194_1
                    try clear p1
                    try clear p194
                    try clear p2
                    try clear q015
                    try clear q1
                    try clear q15
                    try clear q194
                    obtain ⟨kq, x52_13, rfl, HA, HJ13, HO_3, HO_4, HO_9, HB⟩ := hcut
                    cases kq with
                    | zero => exact absurd HA.out (by simp [letter_Addresses.j2])
                    | succ kj13 =>
                      have H := HA.out
                      clear HA
                      simp only [letter_Addresses.j2] at H
                      by_cases c17 : x52_13 = true
                      · subst c17
                        have H1 : ((letter_text.f y195 false).bind fun t200 => ((letter_some.f t200).bind fun bt201 => (if x3_1.length < 1466015503701 then (letter_Addresses.l0 kj13 (x3_1 ++ [(⟨(⟨false, (⟨#[]⟩ : ByteArray)⟩ : S30), (⟨false, (⟨#[]⟩ : ByteArray)⟩ : S30), (⟨bt201.1, bt201.2⟩ : S30), (⟨false, (⟨#[]⟩ : ByteArray)⟩ : S30)⟩ : S32)]) t186 true (wrap64 (t193 + 1))) else (none)))) = some r := by rw [if_pos rfl] at H; exact H
                        clear H
                        have H := H1
                        clear H1
                        replace H := Option.bind_eq_some_iff.mp H
                        obtain ⟨t200, A180, H⟩ := H
                        replace H : ((letter_some.f t200).bind fun bt201 => (if x3_1.length < 1466015503701 then (letter_Addresses.l0 kj13 (x3_1 ++ [(⟨(⟨false, (⟨#[]⟩ : ByteArray)⟩ : S30), (⟨false, (⟨#[]⟩ : ByteArray)⟩ : S30), (⟨bt201.1, bt201.2⟩ : S30), (⟨false, (⟨#[]⟩ : ByteArray)⟩ : S30)⟩ : S32)]) t186 true (wrap64 (t193 + 1))) else (none))) = some r := H
                        have A18 := Aside0.mk A180
                        clear A180
                        replace H := Option.bind_eq_some_iff.mp H
                        obtain ⟨⟨t201, t202⟩, A190, H⟩ := H
                        replace H : (if x3_1.length < 1466015503701 then (letter_Addresses.l0 kj13 (x3_1 ++ [(⟨(⟨false, (⟨#[]⟩ : ByteArray)⟩ : S30), (⟨false, (⟨#[]⟩ : ByteArray)⟩ : S30), (⟨t201, t202⟩ : S30), (⟨false, (⟨#[]⟩ : ByteArray)⟩ : S30)⟩ : S32)]) t186 true (wrap64 (t193 + 1))) else (none)) = some r := H
                        have A19 := Aside0.mk A190
                        clear A190
                        by_cases c20 : x3_1.length < 1466015503701
                        · rw [if_pos c20] at H
                          have LMc20 := Aside0.mk c20
                          clear c20
                          obtain ⟨y203, hy203⟩ : ∃ y_ : List (S32), y_ = (x3_1 ++ [(⟨(⟨false, (⟨#[]⟩ : ByteArray)⟩ : S30), (⟨false, (⟨#[]⟩ : ByteArray)⟩ : S30), (⟨t201, t202⟩ : S30), (⟨false, (⟨#[]⟩ : ByteArray)⟩ : S30)⟩ : S32)]) := ⟨_, rfl⟩
                          replace H : (letter_Addresses.l0 kj13 y203 t186 true (wrap64 (t193 + 1))) = some r := by first | (rw [hy203]; with_reducible exact H) | (have H2_ := (Option.bind_some _ _).symm.trans H; rw [hy203]; with_reducible exact H2_) | (have H2_ := (Option.bind_some _ _).symm.trans H; with_reducible exact H2_) | with_reducible exact H | (rw [hy203]; exact H) | exact H
                          have Ny203 := Aside0.mk hy203
                          clear hy203
                          have H' := Aside0.mk H
                          clear H
                          go_wp2_with (first | ((with_reducible refine gate_callee (f := 31) rfl ?_); refine goesL_ (some 61) rfl rfl Tryd.func31 (by kernel_rfl) rfl #[.slice A15 y195.length c15, .bool false] rfl (by (try simp only [List.map_toArray, List.map_cons, List.map_nil]); first | done | rfl | (simp only [List.length_drop, List.length_take]; rfl)) ?_; (with_reducible refine (letter_text.calls _ _ y195 false t200 _ ?side1 ?side2 A18.out).mono ?_); (case side1 => repeat (first | exact (Kd.V_reads' HO_9.out).2.2 | (with_reducible refine Kd.C_alloc ?_ _) | (with_reducible refine Kd.C_drewN ?_ _) | (with_reducible refine Kd.C_drew ?_))); (case side2 => exact (Kd.V_reads' HO_9.out).2.1); rintro e w21 ⟨rfl, hb⟩; refine ⟨_, rfl, ?_⟩; have n0_ := Aside0.mk (Kd.R_below (by (with_reducible repeat (first | apply Kd.R_alloc | apply Kd.R_drewN | apply Kd.R_drew)); exact HO_3.out) hb); have n1_ := Aside0.mk (Kd.V_below (by (with_reducible repeat (first | apply Kd.V_alloc | apply Kd.V_drewN | apply Kd.V_drew)); exact HO_4.out) hb); have n2_ := Aside0.mk (Kd.V_below (by (with_reducible repeat (first | apply Kd.V_alloc | apply Kd.V_drewN | apply Kd.V_drew)); exact HO_9.out) hb); have n3_ := Aside0.mk (below_step (by repeat (first | (with_reducible first | exact HB.out | apply below_alloc | apply pw_below_drewN | apply below_drew1) | exact HB.out)) hb); clear HO_3; clear HO_4; clear HO_9; clear HB; have HO_3 := n0_; have HO_4 := n1_; have HO_9 := n2_; have HB := n3_; clear n0_ n1_ n2_ n3_; (try clear hb); (try clear hb2); (try clear hk); (try clear hi)) | ((with_reducible refine gate_callee (f := 30) rfl ?_); refine goesL_ (some 62) rfl rfl Tryd.func30 (by kernel_rfl) rfl #[.string t200] rfl (by (try simp only [List.map_toArray, List.map_cons, List.map_nil]); first | done | rfl | (simp only [List.length_drop, List.length_take]; rfl)) ?_; (with_reducible refine (letter_some.calls t200 t201 t202 _ A19.out).mono ?_); rintro e w22 ⟨rfl, hb⟩; refine ⟨_, rfl, ?_⟩; have n0_ := Aside0.mk (Kd.R_below (by (with_reducible repeat (first | apply Kd.R_alloc | apply Kd.R_drewN | apply Kd.R_drew)); exact HO_3.out) hb); have n1_ := Aside0.mk (Kd.V_below (by (with_reducible repeat (first | apply Kd.V_alloc | apply Kd.V_drewN | apply Kd.V_drew)); exact HO_4.out) hb); have n2_ := Aside0.mk (Kd.V_below (by (with_reducible repeat (first | apply Kd.V_alloc | apply Kd.V_drewN | apply Kd.V_drew)); exact HO_9.out) hb); have n3_ := Aside0.mk (below_step (by repeat (first | (with_reducible first | exact HB.out | apply below_alloc | apply pw_below_drewN | apply below_drew1) | exact HB.out)) hb); clear HO_3; clear HO_4; clear HO_9; clear HB; have HO_3 := n0_; have HO_4 := n1_; have HO_9 := n2_; have HB := n3_; clear n0_ n1_ n2_ n3_; (try clear hb); (try clear hb2); (try clear hk); (try clear hi)) | ((with_reducible refine gate_builtin (b := .append) (xs := #[.tmp 59, .tmp 64]) rfl ?_); at_builtin; refine Kd.R_append k32 (w0 := w) w.heap.size rfl (.tmp 59) (.tmp 64) 25 32 (.agg #[(.bool false), (.string ⟨#[]⟩), (.bool false), (.string ⟨#[]⟩), (.bool false), (.string ⟨#[]⟩), (.bool false), (.string ⟨#[]⟩)]) 96 rfl Tryd.underlying25 info32 rfl (by decide) (by omega) u3 x3_1 (⟨(⟨false, (⟨#[]⟩ : ByteArray)⟩ : S30), (⟨false, (⟨#[]⟩ : ByteArray)⟩ : S30), (⟨t201, t202⟩ : S30), (⟨false, (⟨#[]⟩ : ByteArray)⟩ : S30)⟩ : S32) [.bool false, .string (⟨#[]⟩ : ByteArray), .bool false, .string (⟨#[]⟩ : ByteArray), .bool t201, .string t202, .bool false, .string (⟨#[]⟩ : ByteArray)] (fun _ => True) (fun _ => False) rfl rfl ?aP (fun _ hk => hk.elim) ?aF ?aO ?aB ?aS ?aL ?_; (case aP => exact k32_mkM _ _ _ (⟨(⟨false, (⟨#[]⟩ : ByteArray)⟩ : S30), (⟨false, (⟨#[]⟩ : ByteArray)⟩ : S30), (⟨t201, t202⟩ : S30), (⟨false, (⟨#[]⟩ : ByteArray)⟩ : S30)⟩ : S32)); (case aB => exact (by repeat (first | (with_reducible first | exact HB.out | apply below_alloc | apply pw_below_drewN | apply below_drew1) | exact HB.out))); (case aF => exact (fun _ _ => trivial)); (case aO => exact (by (with_reducible repeat (first | apply Kd.R_alloc | apply Kd.R_drewN | apply Kd.R_drew)); exact HO_3.out)); (case aS => exact (below_size (by repeat (first | (with_reducible first | exact HB.out | apply below_alloc | apply pw_below_drewN | apply below_drew1) | exact HB.out)))); (case aL => have := LMc20.out; omega); intro v204 w23 ho hb hg hat; rw [← Ny203.out] at ho; have n0_ := Aside0.mk (Kd.V_afterv (ok := (fun _ => True)) (by (with_reducible repeat (first | apply Kd.V_alloc | apply Kd.V_drewN | apply Kd.V_drew)); exact Kd.V_mono HO_4.out (fun _ hk => ⟨trivial, hk⟩)) hg hat); have n1_ := Aside0.mk (Kd.V_afterv (ok := (fun _ => True)) (by (with_reducible repeat (first | apply Kd.V_alloc | apply Kd.V_drewN | apply Kd.V_drew)); exact Kd.V_mono HO_9.out (fun _ hk => ⟨trivial, hk⟩)) hg hat); have n2_ := Aside0.mk (hb); have n3_ := Aside0.mk (ho); clear HO_4; clear HO_9; clear HB; clear HO_3; have HO_4 := n0_; have HO_9 := n1_; have HB := n2_; have HO205 := n3_; clear n0_ n1_ n2_ n3_; clear ho hb hg hat))
                          go_roundg kj13
                          case measure => have := HK1.out; have := HJ5.out; have := HJ13.out; omega
                          case rel => exact ⟨(y203), (true), (wrap64 (t193 + 1)), (by first | rfl | (simp; done) | (simp [*]; done)), (by first | rfl | (simp; done) | (simp [*]; done)), H', ⟨by have := HK1.out; have := HJ5.out; have := HJ13.out; omega⟩, ⟨by (with_reducible repeat (first | apply Kd.R_alloc | apply Kd.R_drewN | apply Kd.R_drew)); exact HO205.out⟩, ⟨by (with_reducible repeat (first | apply Kd.V_alloc | apply Kd.V_drewN | apply Kd.V_drew)); exact Kd.V_mono HO_4.out (fun _ hk => hk.2)⟩, ⟨by repeat (first | (with_reducible first | exact HB.out | apply below_alloc | apply pw_below_drewN | apply below_drew1) | exact HB.out)⟩⟩
                        · rw [if_neg c20] at H
                          exact absurd H (by simp)
                      · replace c17 := Bool.eq_false_iff.mpr c17
                        subst c17
                        have H1 : ((letter_held.f kj13 y195).bind fun t206 => (if t206 = true then ((letter_address.f kj13 y195).bind fun bt207 => (if x3_1.length < 1466015503701 then ((some (x3_1 ++ [(⟨(⟨bt207.1, bt207.2.1⟩ : S30), (⟨bt207.2.2.1, bt207.2.2.2.1⟩ : S30), (⟨bt207.2.2.2.2.1, bt207.2.2.2.2.2.1⟩ : S30), (⟨bt207.2.2.2.2.2.2.1, bt207.2.2.2.2.2.2.2⟩ : S30)⟩ : S32)] : List (S32))).bind fun y215 => (if x5_1 = true then (if x8_5.toList = ([59] : List UInt8) then (if y215.length < 1466015503701 then (letter_Addresses.l0 kj13 (y215 ++ [(⟨(⟨false, (⟨#[]⟩ : ByteArray)⟩ : S30), (⟨false, (⟨#[]⟩ : ByteArray)⟩ : S30), (⟨false, (⟨#[]⟩ : ByteArray)⟩ : S30), (⟨false, (⟨#[]⟩ : ByteArray)⟩ : S30)⟩ : S32)]) t186 false (wrap64 (t193 + 1))) else (none)) else (if x8_5.toList = ([] : List UInt8) then (if y215.length < 1466015503701 then (letter_Addresses.l0 kj13 (y215 ++ [(⟨(⟨false, (⟨#[]⟩ : ByteArray)⟩ : S30), (⟨false, (⟨#[]⟩ : ByteArray)⟩ : S30), (⟨false, (⟨#[]⟩ : ByteArray)⟩ : S30), (⟨false, (⟨#[]⟩ : ByteArray)⟩ : S30)⟩ : S32)]) t186 false (wrap64 (t193 + 1))) else (none)) else (letter_Addresses.l0 kj13 y215 t186 x5_1 (wrap64 (t193 + 1))))) else (letter_Addresses.l0 kj13 y215 t186 x5_1 (wrap64 (t193 + 1))))) else (none))) else (if x5_1 = true then (if x8_5.toList = ([59] : List UInt8) then (if x3_1.length < 1466015503701 then (letter_Addresses.l0 kj13 (x3_1 ++ [(⟨(⟨false, (⟨#[]⟩ : ByteArray)⟩ : S30), (⟨false, (⟨#[]⟩ : ByteArray)⟩ : S30), (⟨false, (⟨#[]⟩ : ByteArray)⟩ : S30), (⟨false, (⟨#[]⟩ : ByteArray)⟩ : S30)⟩ : S32)]) t186 false (wrap64 (t193 + 1))) else (none)) else (if x8_5.toList = ([] : List UInt8) then (if x3_1.length < 1466015503701 then (letter_Addresses.l0 kj13 (x3_1 ++ [(⟨(⟨false, (⟨#[]⟩ : ByteArray)⟩ : S30), (⟨false, (⟨#[]⟩ : ByteArray)⟩ : S30), (⟨false, (⟨#[]⟩ : ByteArray)⟩ : S30), (⟨false, (⟨#[]⟩ : ByteArray)⟩ : S30)⟩ : S32)]) t186 false (wrap64 (t193 + 1))) else (none)) else (letter_Addresses.l0 kj13 x3_1 t186 x5_1 (wrap64 (t193 + 1))))) else (letter_Addresses.l0 kj13 x3_1 t186 x5_1 (wrap64 (t193 + 1)))))) = some r := by rw [if_neg (show ¬ (false = true) by decide)] at H; exact H
                        clear H
                        have H := H1
                        clear H1
                        replace H := Option.bind_eq_some_iff.mp H
                        obtain ⟨t206, A240, H⟩ := H
                        replace H : (if t206 = true then ((letter_address.f kj13 y195).bind fun bt207 => (if x3_1.length < 1466015503701 then ((some (x3_1 ++ [(⟨(⟨bt207.1, bt207.2.1⟩ : S30), (⟨bt207.2.2.1, bt207.2.2.2.1⟩ : S30), (⟨bt207.2.2.2.2.1, bt207.2.2.2.2.2.1⟩ : S30), (⟨bt207.2.2.2.2.2.2.1, bt207.2.2.2.2.2.2.2⟩ : S30)⟩ : S32)] : List (S32))).bind fun y215 => (if x5_1 = true then (if x8_5.toList = ([59] : List UInt8) then (if y215.length < 1466015503701 then (letter_Addresses.l0 kj13 (y215 ++ [(⟨(⟨false, (⟨#[]⟩ : ByteArray)⟩ : S30), (⟨false, (⟨#[]⟩ : ByteArray)⟩ : S30), (⟨false, (⟨#[]⟩ : ByteArray)⟩ : S30), (⟨false, (⟨#[]⟩ : ByteArray)⟩ : S30)⟩ : S32)]) t186 false (wrap64 (t193 + 1))) else (none)) else (if x8_5.toList = ([] : List UInt8) then (if y215.length < 1466015503701 then (letter_Addresses.l0 kj13 (y215 ++ [(⟨(⟨false, (⟨#[]⟩ : ByteArray)⟩ : S30), (⟨false, (⟨#[]⟩ : ByteArray)⟩ : S30), (⟨false, (⟨#[]⟩ : ByteArray)⟩ : S30), (⟨false, (⟨#[]⟩ : ByteArray)⟩ : S30)⟩ : S32)]) t186 false (wrap64 (t193 + 1))) else (none)) else (letter_Addresses.l0 kj13 y215 t186 x5_1 (wrap64 (t193 + 1))))) else (letter_Addresses.l0 kj13 y215 t186 x5_1 (wrap64 (t193 + 1))))) else (none))) else (if x5_1 = true then (if x8_5.toList = ([59] : List UInt8) then (if x3_1.length < 1466015503701 then (letter_Addresses.l0 kj13 (x3_1 ++ [(⟨(⟨false, (⟨#[]⟩ : ByteArray)⟩ : S30), (⟨false, (⟨#[]⟩ : ByteArray)⟩ : S30), (⟨false, (⟨#[]⟩ : ByteArray)⟩ : S30), (⟨false, (⟨#[]⟩ : ByteArray)⟩ : S30)⟩ : S32)]) t186 false (wrap64 (t193 + 1))) else (none)) else (if x8_5.toList = ([] : List UInt8) then (if x3_1.length < 1466015503701 then (letter_Addresses.l0 kj13 (x3_1 ++ [(⟨(⟨false, (⟨#[]⟩ : ByteArray)⟩ : S30), (⟨false, (⟨#[]⟩ : ByteArray)⟩ : S30), (⟨false, (⟨#[]⟩ : ByteArray)⟩ : S30), (⟨false, (⟨#[]⟩ : ByteArray)⟩ : S30)⟩ : S32)]) t186 false (wrap64 (t193 + 1))) else (none)) else (letter_Addresses.l0 kj13 x3_1 t186 x5_1 (wrap64 (t193 + 1))))) else (letter_Addresses.l0 kj13 x3_1 t186 x5_1 (wrap64 (t193 + 1))))) = some r := H
                        have A24 := Aside0.mk A240
                        clear A240
                        by_cases c25 : t206 = true
                        · subst c25
                          have H1 : ((letter_address.f kj13 y195).bind fun bt207 => (if x3_1.length < 1466015503701 then ((some (x3_1 ++ [(⟨(⟨bt207.1, bt207.2.1⟩ : S30), (⟨bt207.2.2.1, bt207.2.2.2.1⟩ : S30), (⟨bt207.2.2.2.2.1, bt207.2.2.2.2.2.1⟩ : S30), (⟨bt207.2.2.2.2.2.2.1, bt207.2.2.2.2.2.2.2⟩ : S30)⟩ : S32)] : List (S32))).bind fun y215 => (if x5_1 = true then (if x8_5.toList = ([59] : List UInt8) then (if y215.length < 1466015503701 then (letter_Addresses.l0 kj13 (y215 ++ [(⟨(⟨false, (⟨#[]⟩ : ByteArray)⟩ : S30), (⟨false, (⟨#[]⟩ : ByteArray)⟩ : S30), (⟨false, (⟨#[]⟩ : ByteArray)⟩ : S30), (⟨false, (⟨#[]⟩ : ByteArray)⟩ : S30)⟩ : S32)]) t186 false (wrap64 (t193 + 1))) else (none)) else (if x8_5.toList = ([] : List UInt8) then (if y215.length < 1466015503701 then (letter_Addresses.l0 kj13 (y215 ++ [(⟨(⟨false, (⟨#[]⟩ : ByteArray)⟩ : S30), (⟨false, (⟨#[]⟩ : ByteArray)⟩ : S30), (⟨false, (⟨#[]⟩ : ByteArray)⟩ : S30), (⟨false, (⟨#[]⟩ : ByteArray)⟩ : S30)⟩ : S32)]) t186 false (wrap64 (t193 + 1))) else (none)) else (letter_Addresses.l0 kj13 y215 t186 x5_1 (wrap64 (t193 + 1))))) else (letter_Addresses.l0 kj13 y215 t186 x5_1 (wrap64 (t193 + 1))))) else (none))) = some r := by rw [if_pos rfl] at H; exact H
                          clear H
                          have H := H1
                          clear H1
                          replace H := Option.bind_eq_some_iff.mp H
                          obtain ⟨⟨t207, t208, t209, t210, t211, t212, t213, t214⟩, A260, H⟩ := H
                          replace H : (if x3_1.length < 1466015503701 then ((some (x3_1 ++ [(⟨(⟨t207, t208⟩ : S30), (⟨t209, t210⟩ : S30), (⟨t211, t212⟩ : S30), (⟨t213, t214⟩ : S30)⟩ : S32)] : List (S32))).bind fun y215 => (if x5_1 = true then (if x8_5.toList = ([59] : List UInt8) then (if y215.length < 1466015503701 then (letter_Addresses.l0 kj13 (y215 ++ [(⟨(⟨false, (⟨#[]⟩ : ByteArray)⟩ : S30), (⟨false, (⟨#[]⟩ : ByteArray)⟩ : S30), (⟨false, (⟨#[]⟩ : ByteArray)⟩ : S30), (⟨false, (⟨#[]⟩ : ByteArray)⟩ : S30)⟩ : S32)]) t186 false (wrap64 (t193 + 1))) else (none)) else (if x8_5.toList = ([] : List UInt8) then (if y215.length < 1466015503701 then (letter_Addresses.l0 kj13 (y215 ++ [(⟨(⟨false, (⟨#[]⟩ : ByteArray)⟩ : S30), (⟨false, (⟨#[]⟩ : ByteArray)⟩ : S30), (⟨false, (⟨#[]⟩ : ByteArray)⟩ : S30), (⟨false, (⟨#[]⟩ : ByteArray)⟩ : S30)⟩ : S32)]) t186 false (wrap64 (t193 + 1))) else (none)) else (letter_Addresses.l0 kj13 y215 t186 x5_1 (wrap64 (t193 + 1))))) else (letter_Addresses.l0 kj13 y215 t186 x5_1 (wrap64 (t193 + 1))))) else (none)) = some r := H
                          have A26 := Aside0.mk A260
                          clear A260
                          by_cases c27 : x3_1.length < 1466015503701
                          · rw [if_pos c27] at H
                            have LMc27 := Aside0.mk c27
                            clear c27
                            obtain ⟨y215, hy215⟩ : ∃ y_ : List (S32), y_ = (x3_1 ++ [(⟨(⟨t207, t208⟩ : S30), (⟨t209, t210⟩ : S30), (⟨t211, t212⟩ : S30), (⟨t213, t214⟩ : S30)⟩ : S32)]) := ⟨_, rfl⟩
                            replace H : (if x5_1 = true then (if x8_5.toList = ([59] : List UInt8) then (if y215.length < 1466015503701 then (letter_Addresses.l0 kj13 (y215 ++ [(⟨(⟨false, (⟨#[]⟩ : ByteArray)⟩ : S30), (⟨false, (⟨#[]⟩ : ByteArray)⟩ : S30), (⟨false, (⟨#[]⟩ : ByteArray)⟩ : S30), (⟨false, (⟨#[]⟩ : ByteArray)⟩ : S30)⟩ : S32)]) t186 false (wrap64 (t193 + 1))) else (none)) else (if x8_5.toList = ([] : List UInt8) then (if y215.length < 1466015503701 then (letter_Addresses.l0 kj13 (y215 ++ [(⟨(⟨false, (⟨#[]⟩ : ByteArray)⟩ : S30), (⟨false, (⟨#[]⟩ : ByteArray)⟩ : S30), (⟨false, (⟨#[]⟩ : ByteArray)⟩ : S30), (⟨false, (⟨#[]⟩ : ByteArray)⟩ : S30)⟩ : S32)]) t186 false (wrap64 (t193 + 1))) else (none)) else (letter_Addresses.l0 kj13 y215 t186 x5_1 (wrap64 (t193 + 1))))) else (letter_Addresses.l0 kj13 y215 t186 x5_1 (wrap64 (t193 + 1)))) = some r := by first | (rw [hy215]; with_reducible exact H) | (have H2_ := (Option.bind_some _ _).symm.trans H; rw [hy215]; with_reducible exact H2_) | (have H2_ := (Option.bind_some _ _).symm.trans H; with_reducible exact H2_) | with_reducible exact H | (rw [hy215]; exact H) | exact H
                            have Ny215 := Aside0.mk hy215
                            clear hy215
                            by_cases c28 : x5_1 = true
                            · subst c28
                              have H1 : (if x8_5.toList = ([59] : List UInt8) then (if y215.length < 1466015503701 then (letter_Addresses.l0 kj13 (y215 ++ [(⟨(⟨false, (⟨#[]⟩ : ByteArray)⟩ : S30), (⟨false, (⟨#[]⟩ : ByteArray)⟩ : S30), (⟨false, (⟨#[]⟩ : ByteArray)⟩ : S30), (⟨false, (⟨#[]⟩ : ByteArray)⟩ : S30)⟩ : S32)]) t186 false (wrap64 (t193 + 1))) else (none)) else (if x8_5.toList = ([] : List UInt8) then (if y215.length < 1466015503701 then (letter_Addresses.l0 kj13 (y215 ++ [(⟨(⟨false, (⟨#[]⟩ : ByteArray)⟩ : S30), (⟨false, (⟨#[]⟩ : ByteArray)⟩ : S30), (⟨false, (⟨#[]⟩ : ByteArray)⟩ : S30), (⟨false, (⟨#[]⟩ : ByteArray)⟩ : S30)⟩ : S32)]) t186 false (wrap64 (t193 + 1))) else (none)) else (letter_Addresses.l0 kj13 y215 t186 true (wrap64 (t193 + 1))))) = some r := by rw [if_pos rfl] at H; exact H
                              clear H
                              have H := H1
                              clear H1
                              by_cases c29 : x8_5.toList = ([59] : List UInt8)
                              · rw [if_pos c29] at H
                                have c29b0 : (x8_5.toList == ([59] : List UInt8)) = true := beq_iff_eq.mpr c29
                                have c29b1 : (x8_5.toList != ([59] : List UInt8)) = false := bne_eq_false_iff_eq.mpr c29
                                clear c29
                                by_cases c30 : y215.length < 1466015503701
                                · rw [if_pos c30] at H
                                  have LMc30 := Aside0.mk c30
                                  clear c30
                                  obtain ⟨y218, hy218⟩ : ∃ y_ : List (S32), y_ = (y215 ++ [(⟨(⟨false, (⟨#[]⟩ : ByteArray)⟩ : S30), (⟨false, (⟨#[]⟩ : ByteArray)⟩ : S30), (⟨false, (⟨#[]⟩ : ByteArray)⟩ : S30), (⟨false, (⟨#[]⟩ : ByteArray)⟩ : S30)⟩ : S32)]) := ⟨_, rfl⟩
                                  replace H : (letter_Addresses.l0 kj13 y218 t186 false (wrap64 (t193 + 1))) = some r := by first | (rw [hy218]; with_reducible exact H) | (have H2_ := (Option.bind_some _ _).symm.trans H; rw [hy218]; with_reducible exact H2_) | (have H2_ := (Option.bind_some _ _).symm.trans H; with_reducible exact H2_) | with_reducible exact H | (rw [hy218]; exact H) | exact H
                                  have Ny218 := Aside0.mk hy218
                                  clear hy218
                                  have H' := Aside0.mk H
                                  clear H
                                  go_wp2_with (first | ((with_reducible refine gate_callee (f := 32) rfl ?_); refine goesL_ (some 33) rfl rfl Tryd.func32 (by kernel_rfl) rfl #[.slice A15 y195.length c15] rfl (by (try simp only [List.map_toArray, List.map_cons, List.map_nil]); first | done | rfl | (simp only [List.length_drop, List.length_take]; rfl)) ?_; (with_reducible refine (letter_held.calls kj13 _ _ y195 true _ ?side1 ?side2 A24.out).mono ?_); (case side1 => repeat (first | exact (Kd.V_reads' HO_9.out).2.2 | (with_reducible refine Kd.C_alloc ?_ _) | (with_reducible refine Kd.C_drewN ?_ _) | (with_reducible refine Kd.C_drew ?_))); (case side2 => exact (Kd.V_reads' HO_9.out).2.1); rintro e w31 ⟨rfl, hb⟩; refine ⟨_, rfl, ?_⟩; have n0_ := Aside0.mk (Kd.R_below (by (with_reducible repeat (first | apply Kd.R_alloc | apply Kd.R_drewN | apply Kd.R_drew)); exact HO_3.out) hb); have n1_ := Aside0.mk (Kd.V_below (by (with_reducible repeat (first | apply Kd.V_alloc | apply Kd.V_drewN | apply Kd.V_drew)); exact HO_4.out) hb); have n2_ := Aside0.mk (Kd.V_below (by (with_reducible repeat (first | apply Kd.V_alloc | apply Kd.V_drewN | apply Kd.V_drew)); exact HO_9.out) hb); have n3_ := Aside0.mk (below_step (by repeat (first | (with_reducible first | exact HB.out | apply below_alloc | apply pw_below_drewN | apply below_drew1) | exact HB.out)) hb); clear HO_3; clear HO_4; clear HO_9; clear HB; have HO_3 := n0_; have HO_4 := n1_; have HO_9 := n2_; have HB := n3_; clear n0_ n1_ n2_ n3_; (try clear hb); (try clear hb2); (try clear hk); (try clear hi)) | ((with_reducible refine gate_callee (f := 33) rfl ?_); refine goesL_ (some 36) rfl rfl Tryd.func33 (by kernel_rfl) rfl #[.slice A15 y195.length c15] rfl (by (try simp only [List.map_toArray, List.map_cons, List.map_nil]); first | done | rfl | (simp only [List.length_drop, List.length_take]; rfl)) ?_; (with_reducible refine (letter_address.calls kj13 (fun k_ => some k_ ≠ (u3 : Value).ownBlock) _ _ y195 t207 t208 t209 t210 t211 t212 t213 t214 _ ?side1 A26.out).mono ?_); (case side1 => exact HO_9.out); rintro e w32 ⟨rfl, hb⟩; refine ⟨_, rfl, ?_⟩; have n0_ := Aside0.mk (Kd.R_below (by (with_reducible repeat (first | apply Kd.R_alloc | apply Kd.R_drewN | apply Kd.R_drew)); exact HO_3.out) hb); have n1_ := Aside0.mk (Kd.V_below (by (with_reducible repeat (first | apply Kd.V_alloc | apply Kd.V_drewN | apply Kd.V_drew)); exact HO_4.out) hb); have n2_ := Aside0.mk (Kd.V_below (by (with_reducible repeat (first | apply Kd.V_alloc | apply Kd.V_drewN | apply Kd.V_drew)); exact HO_9.out) hb); have n3_ := Aside0.mk (below_step (by repeat (first | (with_reducible first | exact HB.out | apply below_alloc | apply pw_below_drewN | apply below_drew1) | exact HB.out)) hb); clear HO_3; clear HO_4; clear HO_9; clear HB; have HO_3 := n0_; have HO_4 := n1_; have HO_9 := n2_; have HB := n3_; clear n0_ n1_ n2_ n3_; (try clear hb); (try clear hb2); (try clear hk); (try clear hi)) | ((with_reducible refine gate_builtin (b := .append) (xs := #[.tmp 34, .tmp 37]) rfl ?_); at_builtin; refine Kd.R_append k32 (w0 := w) w.heap.size rfl (.tmp 34) (.tmp 37) 25 32 (.agg #[(.bool false), (.string ⟨#[]⟩), (.bool false), (.string ⟨#[]⟩), (.bool false), (.string ⟨#[]⟩), (.bool false), (.string ⟨#[]⟩)]) 96 rfl Tryd.underlying25 info32 rfl (by decide) (by omega) u3 x3_1 (⟨(⟨t207, t208⟩ : S30), (⟨t209, t210⟩ : S30), (⟨t211, t212⟩ : S30), (⟨t213, t214⟩ : S30)⟩ : S32) [.bool t207, .string t208, .bool t209, .string t210, .bool t211, .string t212, .bool t213, .string t214] (fun _ => True) (fun _ => False) rfl rfl ?aP (fun _ hk => hk.elim) ?aF ?aO ?aB ?aS ?aL ?_; (case aP => exact k32_mkM _ _ _ (⟨(⟨t207, t208⟩ : S30), (⟨t209, t210⟩ : S30), (⟨t211, t212⟩ : S30), (⟨t213, t214⟩ : S30)⟩ : S32)); (case aB => exact (by repeat (first | (with_reducible first | exact HB.out | apply below_alloc | apply pw_below_drewN | apply below_drew1) | exact HB.out))); (case aF => exact (fun _ _ => trivial)); (case aO => exact (by (with_reducible repeat (first | apply Kd.R_alloc | apply Kd.R_drewN | apply Kd.R_drew)); exact HO_3.out)); (case aS => exact (below_size (by repeat (first | (with_reducible first | exact HB.out | apply below_alloc | apply pw_below_drewN | apply below_drew1) | exact HB.out)))); (case aL => have := LMc27.out; omega); intro v216 w33 ho hb hg hat; rw [← Ny215.out] at ho; have n0_ := Aside0.mk (Kd.V_afterv (ok := (fun _ => True)) (by (with_reducible repeat (first | apply Kd.V_alloc | apply Kd.V_drewN | apply Kd.V_drew)); exact Kd.V_mono HO_4.out (fun _ hk => ⟨trivial, hk⟩)) hg hat); have n1_ := Aside0.mk (Kd.V_afterv (ok := (fun _ => True)) (by (with_reducible repeat (first | apply Kd.V_alloc | apply Kd.V_drewN | apply Kd.V_drew)); exact Kd.V_mono HO_9.out (fun _ hk => ⟨trivial, hk⟩)) hg hat); have n2_ := Aside0.mk (hb); have n3_ := Aside0.mk (ho); clear HO_4; clear HO_9; clear HB; clear HO_3; have HO_4 := n0_; have HO_9 := n1_; have HB := n2_; have HO217 := n3_; clear n0_ n1_ n2_ n3_; clear ho hb hg hat) | ((with_reducible refine gate_builtin (b := .append) (xs := #[.tmp 48, .tmp 50]) rfl ?_); at_builtin; refine Kd.R_append k32 (w0 := w) w.heap.size rfl (.tmp 48) (.tmp 50) 25 32 (.agg #[(.bool false), (.string ⟨#[]⟩), (.bool false), (.string ⟨#[]⟩), (.bool false), (.string ⟨#[]⟩), (.bool false), (.string ⟨#[]⟩)]) 96 rfl Tryd.underlying25 info32 rfl (by decide) (by omega) v216 y215 (⟨(⟨false, (⟨#[]⟩ : ByteArray)⟩ : S30), (⟨false, (⟨#[]⟩ : ByteArray)⟩ : S30), (⟨false, (⟨#[]⟩ : ByteArray)⟩ : S30), (⟨false, (⟨#[]⟩ : ByteArray)⟩ : S30)⟩ : S32) [.bool false, .string (⟨#[]⟩ : ByteArray), .bool false, .string (⟨#[]⟩ : ByteArray), .bool false, .string (⟨#[]⟩ : ByteArray), .bool false, .string (⟨#[]⟩ : ByteArray)] (fun _ => True) (fun _ => False) rfl rfl ?aP (fun _ hk => hk.elim) ?aF ?aO ?aB ?aS ?aL ?_; (case aP => exact k32_mkM _ _ _ (⟨(⟨false, (⟨#[]⟩ : ByteArray)⟩ : S30), (⟨false, (⟨#[]⟩ : ByteArray)⟩ : S30), (⟨false, (⟨#[]⟩ : ByteArray)⟩ : S30), (⟨false, (⟨#[]⟩ : ByteArray)⟩ : S30)⟩ : S32)); (case aB => exact (by repeat (first | (with_reducible first | exact HB.out | apply below_alloc | apply pw_below_drewN | apply below_drew1) | exact HB.out))); (case aF => exact (fun _ _ => trivial)); (case aO => exact (by (with_reducible repeat (first | apply Kd.R_alloc | apply Kd.R_drewN | apply Kd.R_drew)); exact HO217.out)); (case aS => exact (below_size (by repeat (first | (with_reducible first | exact HB.out | apply below_alloc | apply pw_below_drewN | apply below_drew1) | exact HB.out)))); (case aL => have := LMc30.out; omega); intro v219 w34 ho hb hg hat; rw [← Ny218.out] at ho; have n0_ := Aside0.mk (Kd.V_afterv (ok := (fun _ => True)) (by (with_reducible repeat (first | apply Kd.V_alloc | apply Kd.V_drewN | apply Kd.V_drew)); exact HO_4.out) hg hat); have n1_ := Aside0.mk (Kd.V_afterv (ok := (fun _ => True)) (by (with_reducible repeat (first | apply Kd.V_alloc | apply Kd.V_drewN | apply Kd.V_drew)); exact HO_9.out) hg hat); have n2_ := Aside0.mk (hb); have n3_ := Aside0.mk (ho); clear HO_4; clear HO_9; clear HB; clear HO217; have HO_4 := n0_; have HO_9 := n1_; have HB := n2_; have HO220 := n3_; clear n0_ n1_ n2_ n3_; clear ho hb hg hat))
                                  go_roundg kj13
                                  case measure => have := HK1.out; have := HJ5.out; have := HJ13.out; omega
                                  case rel => exact ⟨(y218), (false), (wrap64 (t193 + 1)), (by first | rfl | (simp; done) | (simp [*]; done)), (by first | rfl | (simp; done) | (simp [*]; done)), H', ⟨by have := HK1.out; have := HJ5.out; have := HJ13.out; omega⟩, ⟨by (with_reducible repeat (first | apply Kd.R_alloc | apply Kd.R_drewN | apply Kd.R_drew)); exact HO220.out⟩, ⟨by (with_reducible repeat (first | apply Kd.V_alloc | apply Kd.V_drewN | apply Kd.V_drew)); exact Kd.V_mono HO_4.out (fun _ hk => hk.2)⟩, ⟨by repeat (first | (with_reducible first | exact HB.out | apply below_alloc | apply pw_below_drewN | apply below_drew1) | exact HB.out)⟩⟩
                                · rw [if_neg c30] at H
                                  exact absurd H (by simp)
                              · rw [if_neg c29] at H
                                have c29b0 : (x8_5.toList == ([59] : List UInt8)) = false := beq_eq_false_iff_ne.mpr c29
                                have c29b1 : (x8_5.toList != ([59] : List UInt8)) = true := bne_iff_ne.mpr c29
                                by_cases c35 : x8_5.toList = ([] : List UInt8)
                                · rw [if_pos c35] at H
                                  have c35b0 : (x8_5.toList == ([] : List UInt8)) = true := beq_iff_eq.mpr c35
                                  have c35b1 : (x8_5.toList != ([] : List UInt8)) = false := bne_eq_false_iff_eq.mpr c35
                                  clear c35
                                  by_cases c36 : y215.length < 1466015503701
                                  · rw [if_pos c36] at H
                                    have LMc36 := Aside0.mk c36
                                    clear c36
                                    obtain ⟨y221, hy221⟩ : ∃ y_ : List (S32), y_ = (y215 ++ [(⟨(⟨false, (⟨#[]⟩ : ByteArray)⟩ : S30), (⟨false, (⟨#[]⟩ : ByteArray)⟩ : S30), (⟨false, (⟨#[]⟩ : ByteArray)⟩ : S30), (⟨false, (⟨#[]⟩ : ByteArray)⟩ : S30)⟩ : S32)]) := ⟨_, rfl⟩
                                    replace H : (letter_Addresses.l0 kj13 y221 t186 false (wrap64 (t193 + 1))) = some r := by first | (rw [hy221]; with_reducible exact H) | (have H2_ := (Option.bind_some _ _).symm.trans H; rw [hy221]; with_reducible exact H2_) | (have H2_ := (Option.bind_some _ _).symm.trans H; with_reducible exact H2_) | with_reducible exact H | (rw [hy221]; exact H) | exact H
                                    have Ny221 := Aside0.mk hy221
                                    clear hy221
                                    have H' := Aside0.mk H
                                    clear H
                                    go_wp2_with (first | ((with_reducible refine gate_callee (f := 32) rfl ?_); refine goesL_ (some 33) rfl rfl Tryd.func32 (by kernel_rfl) rfl #[.slice A15 y195.length c15] rfl (by (try simp only [List.map_toArray, List.map_cons, List.map_nil]); first | done | rfl | (simp only [List.length_drop, List.length_take]; rfl)) ?_; (with_reducible refine (letter_held.calls kj13 _ _ y195 true _ ?side1 ?side2 A24.out).mono ?_); (case side1 => repeat (first | exact (Kd.V_reads' HO_9.out).2.2 | (with_reducible refine Kd.C_alloc ?_ _) | (with_reducible refine Kd.C_drewN ?_ _) | (with_reducible refine Kd.C_drew ?_))); (case side2 => exact (Kd.V_reads' HO_9.out).2.1); rintro e w37 ⟨rfl, hb⟩; refine ⟨_, rfl, ?_⟩; have n0_ := Aside0.mk (Kd.R_below (by (with_reducible repeat (first | apply Kd.R_alloc | apply Kd.R_drewN | apply Kd.R_drew)); exact HO_3.out) hb); have n1_ := Aside0.mk (Kd.V_below (by (with_reducible repeat (first | apply Kd.V_alloc | apply Kd.V_drewN | apply Kd.V_drew)); exact HO_4.out) hb); have n2_ := Aside0.mk (Kd.V_below (by (with_reducible repeat (first | apply Kd.V_alloc | apply Kd.V_drewN | apply Kd.V_drew)); exact HO_9.out) hb); have n3_ := Aside0.mk (below_step (by repeat (first | (with_reducible first | exact HB.out | apply below_alloc | apply pw_below_drewN | apply below_drew1) | exact HB.out)) hb); clear HO_3; clear HO_4; clear HO_9; clear HB; have HO_3 := n0_; have HO_4 := n1_; have HO_9 := n2_; have HB := n3_; clear n0_ n1_ n2_ n3_; (try clear hb); (try clear hb2); (try clear hk); (try clear hi)) | ((with_reducible refine gate_callee (f := 33) rfl ?_); refine goesL_ (some 36) rfl rfl Tryd.func33 (by kernel_rfl) rfl #[.slice A15 y195.length c15] rfl (by (try simp only [List.map_toArray, List.map_cons, List.map_nil]); first | done | rfl | (simp only [List.length_drop, List.length_take]; rfl)) ?_; (with_reducible refine (letter_address.calls kj13 (fun k_ => some k_ ≠ (u3 : Value).ownBlock) _ _ y195 t207 t208 t209 t210 t211 t212 t213 t214 _ ?side1 A26.out).mono ?_); (case side1 => exact HO_9.out); rintro e w38 ⟨rfl, hb⟩; refine ⟨_, rfl, ?_⟩; have n0_ := Aside0.mk (Kd.R_below (by (with_reducible repeat (first | apply Kd.R_alloc | apply Kd.R_drewN | apply Kd.R_drew)); exact HO_3.out) hb); have n1_ := Aside0.mk (Kd.V_below (by (with_reducible repeat (first | apply Kd.V_alloc | apply Kd.V_drewN | apply Kd.V_drew)); exact HO_4.out) hb); have n2_ := Aside0.mk (Kd.V_below (by (with_reducible repeat (first | apply Kd.V_alloc | apply Kd.V_drewN | apply Kd.V_drew)); exact HO_9.out) hb); have n3_ := Aside0.mk (below_step (by repeat (first | (with_reducible first | exact HB.out | apply below_alloc | apply pw_below_drewN | apply below_drew1) | exact HB.out)) hb); clear HO_3; clear HO_4; clear HO_9; clear HB; have HO_3 := n0_; have HO_4 := n1_; have HO_9 := n2_; have HB := n3_; clear n0_ n1_ n2_ n3_; (try clear hb); (try clear hb2); (try clear hk); (try clear hi)) | ((with_reducible refine gate_builtin (b := .append) (xs := #[.tmp 34, .tmp 37]) rfl ?_); at_builtin; refine Kd.R_append k32 (w0 := w) w.heap.size rfl (.tmp 34) (.tmp 37) 25 32 (.agg #[(.bool false), (.string ⟨#[]⟩), (.bool false), (.string ⟨#[]⟩), (.bool false), (.string ⟨#[]⟩), (.bool false), (.string ⟨#[]⟩)]) 96 rfl Tryd.underlying25 info32 rfl (by decide) (by omega) u3 x3_1 (⟨(⟨t207, t208⟩ : S30), (⟨t209, t210⟩ : S30), (⟨t211, t212⟩ : S30), (⟨t213, t214⟩ : S30)⟩ : S32) [.bool t207, .string t208, .bool t209, .string t210, .bool t211, .string t212, .bool t213, .string t214] (fun _ => True) (fun _ => False) rfl rfl ?aP (fun _ hk => hk.elim) ?aF ?aO ?aB ?aS ?aL ?_; (case aP => exact k32_mkM _ _ _ (⟨(⟨t207, t208⟩ : S30), (⟨t209, t210⟩ : S30), (⟨t211, t212⟩ : S30), (⟨t213, t214⟩ : S30)⟩ : S32)); (case aB => exact (by repeat (first | (with_reducible first | exact HB.out | apply below_alloc | apply pw_below_drewN | apply below_drew1) | exact HB.out))); (case aF => exact (fun _ _ => trivial)); (case aO => exact (by (with_reducible repeat (first | apply Kd.R_alloc | apply Kd.R_drewN | apply Kd.R_drew)); exact HO_3.out)); (case aS => exact (below_size (by repeat (first | (with_reducible first | exact HB.out | apply below_alloc | apply pw_below_drewN | apply below_drew1) | exact HB.out)))); (case aL => have := LMc27.out; omega); intro v216 w39 ho hb hg hat; rw [← Ny215.out] at ho; have n0_ := Aside0.mk (Kd.V_afterv (ok := (fun _ => True)) (by (with_reducible repeat (first | apply Kd.V_alloc | apply Kd.V_drewN | apply Kd.V_drew)); exact Kd.V_mono HO_4.out (fun _ hk => ⟨trivial, hk⟩)) hg hat); have n1_ := Aside0.mk (Kd.V_afterv (ok := (fun _ => True)) (by (with_reducible repeat (first | apply Kd.V_alloc | apply Kd.V_drewN | apply Kd.V_drew)); exact Kd.V_mono HO_9.out (fun _ hk => ⟨trivial, hk⟩)) hg hat); have n2_ := Aside0.mk (hb); have n3_ := Aside0.mk (ho); clear HO_4; clear HO_9; clear HB; clear HO_3; have HO_4 := n0_; have HO_9 := n1_; have HB := n2_; have HO217 := n3_; clear n0_ n1_ n2_ n3_; clear ho hb hg hat) | ((with_reducible refine gate_builtin (b := .append) (xs := #[.tmp 48, .tmp 50]) rfl ?_); at_builtin; refine Kd.R_append k32 (w0 := w) w.heap.size rfl (.tmp 48) (.tmp 50) 25 32 (.agg #[(.bool false), (.string ⟨#[]⟩), (.bool false), (.string ⟨#[]⟩), (.bool false), (.string ⟨#[]⟩), (.bool false), (.string ⟨#[]⟩)]) 96 rfl Tryd.underlying25 info32 rfl (by decide) (by omega) v216 y215 (⟨(⟨false, (⟨#[]⟩ : ByteArray)⟩ : S30), (⟨false, (⟨#[]⟩ : ByteArray)⟩ : S30), (⟨false, (⟨#[]⟩ : ByteArray)⟩ : S30), (⟨false, (⟨#[]⟩ : ByteArray)⟩ : S30)⟩ : S32) [.bool false, .string (⟨#[]⟩ : ByteArray), .bool false, .string (⟨#[]⟩ : ByteArray), .bool false, .string (⟨#[]⟩ : ByteArray), .bool false, .string (⟨#[]⟩ : ByteArray)] (fun _ => True) (fun _ => False) rfl rfl ?aP (fun _ hk => hk.elim) ?aF ?aO ?aB ?aS ?aL ?_; (case aP => exact k32_mkM _ _ _ (⟨(⟨false, (⟨#[]⟩ : ByteArray)⟩ : S30), (⟨false, (⟨#[]⟩ : ByteArray)⟩ : S30), (⟨false, (⟨#[]⟩ : ByteArray)⟩ : S30), (⟨false, (⟨#[]⟩ : ByteArray)⟩ : S30)⟩ : S32)); (case aB => exact (by repeat (first | (with_reducible first | exact HB.out | apply below_alloc | apply pw_below_drewN | apply below_drew1) | exact HB.out))); (case aF => exact (fun _ _ => trivial)); (case aO => exact (by (with_reducible repeat (first | apply Kd.R_alloc | apply Kd.R_drewN | apply Kd.R_drew)); exact HO217.out)); (case aS => exact (below_size (by repeat (first | (with_reducible first | exact HB.out | apply below_alloc | apply pw_below_drewN | apply below_drew1) | exact HB.out)))); (case aL => have := LMc36.out; omega); intro v222 w40 ho hb hg hat; rw [← Ny221.out] at ho; have n0_ := Aside0.mk (Kd.V_afterv (ok := (fun _ => True)) (by (with_reducible repeat (first | apply Kd.V_alloc | apply Kd.V_drewN | apply Kd.V_drew)); exact HO_4.out) hg hat); have n1_ := Aside0.mk (Kd.V_afterv (ok := (fun _ => True)) (by (with_reducible repeat (first | apply Kd.V_alloc | apply Kd.V_drewN | apply Kd.V_drew)); exact HO_9.out) hg hat); have n2_ := Aside0.mk (hb); have n3_ := Aside0.mk (ho); clear HO_4; clear HO_9; clear HB; clear HO217; have HO_4 := n0_; have HO_9 := n1_; have HB := n2_; have HO223 := n3_; clear n0_ n1_ n2_ n3_; clear ho hb hg hat))
                                    go_roundg kj13
                                    case measure => have := HK1.out; have := HJ5.out; have := HJ13.out; omega
                                    case rel => exact ⟨(y221), (false), (wrap64 (t193 + 1)), (by first | rfl | (simp; done) | (simp [*]; done)), (by first | rfl | (simp; done) | (simp [*]; done)), H', ⟨by have := HK1.out; have := HJ5.out; have := HJ13.out; omega⟩, ⟨by (with_reducible repeat (first | apply Kd.R_alloc | apply Kd.R_drewN | apply Kd.R_drew)); exact HO223.out⟩, ⟨by (with_reducible repeat (first | apply Kd.V_alloc | apply Kd.V_drewN | apply Kd.V_drew)); exact Kd.V_mono HO_4.out (fun _ hk => hk.2)⟩, ⟨by repeat (first | (with_reducible first | exact HB.out | apply below_alloc | apply pw_below_drewN | apply below_drew1) | exact HB.out)⟩⟩
                                  · rw [if_neg c36] at H
                                    exact absurd H (by simp)
                                · rw [if_neg c35] at H
                                  have c35b0 : (x8_5.toList == ([] : List UInt8)) = false := beq_eq_false_iff_ne.mpr c35
                                  have c35b1 : (x8_5.toList != ([] : List UInt8)) = true := bne_iff_ne.mpr c35
                                  have H' := Aside0.mk H
                                  clear H
                                  go_wp2_with (first | ((with_reducible refine gate_callee (f := 32) rfl ?_); refine goesL_ (some 33) rfl rfl Tryd.func32 (by kernel_rfl) rfl #[.slice A15 y195.length c15] rfl (by (try simp only [List.map_toArray, List.map_cons, List.map_nil]); first | done | rfl | (simp only [List.length_drop, List.length_take]; rfl)) ?_; (with_reducible refine (letter_held.calls kj13 _ _ y195 true _ ?side1 ?side2 A24.out).mono ?_); (case side1 => repeat (first | exact (Kd.V_reads' HO_9.out).2.2 | (with_reducible refine Kd.C_alloc ?_ _) | (with_reducible refine Kd.C_drewN ?_ _) | (with_reducible refine Kd.C_drew ?_))); (case side2 => exact (Kd.V_reads' HO_9.out).2.1); rintro e w41 ⟨rfl, hb⟩; refine ⟨_, rfl, ?_⟩; have n0_ := Aside0.mk (Kd.R_below (by (with_reducible repeat (first | apply Kd.R_alloc | apply Kd.R_drewN | apply Kd.R_drew)); exact HO_3.out) hb); have n1_ := Aside0.mk (Kd.V_below (by (with_reducible repeat (first | apply Kd.V_alloc | apply Kd.V_drewN | apply Kd.V_drew)); exact HO_4.out) hb); have n2_ := Aside0.mk (Kd.V_below (by (with_reducible repeat (first | apply Kd.V_alloc | apply Kd.V_drewN | apply Kd.V_drew)); exact HO_9.out) hb); have n3_ := Aside0.mk (below_step (by repeat (first | (with_reducible first | exact HB.out | apply below_alloc | apply pw_below_drewN | apply below_drew1) | exact HB.out)) hb); clear HO_3; clear HO_4; clear HO_9; clear HB; have HO_3 := n0_; have HO_4 := n1_; have HO_9 := n2_; have HB := n3_; clear n0_ n1_ n2_ n3_; (try clear hb); (try clear hb2); (try clear hk); (try clear hi)) | ((with_reducible refine gate_callee (f := 33) rfl ?_); refine goesL_ (some 36) rfl rfl Tryd.func33 (by kernel_rfl) rfl #[.slice A15 y195.length c15] rfl (by (try simp only [List.map_toArray, List.map_cons, List.map_nil]); first | done | rfl | (simp only [List.length_drop, List.length_take]; rfl)) ?_; (with_reducible refine (letter_address.calls kj13 (fun k_ => some k_ ≠ (u3 : Value).ownBlock) _ _ y195 t207 t208 t209 t210 t211 t212 t213 t214 _ ?side1 A26.out).mono ?_); (case side1 => exact HO_9.out); rintro e w42 ⟨rfl, hb⟩; refine ⟨_, rfl, ?_⟩; have n0_ := Aside0.mk (Kd.R_below (by (with_reducible repeat (first | apply Kd.R_alloc | apply Kd.R_drewN | apply Kd.R_drew)); exact HO_3.out) hb); have n1_ := Aside0.mk (Kd.V_below (by (with_reducible repeat (first | apply Kd.V_alloc | apply Kd.V_drewN | apply Kd.V_drew)); exact HO_4.out) hb); have n2_ := Aside0.mk (Kd.V_below (by (with_reducible repeat (first | apply Kd.V_alloc | apply Kd.V_drewN | apply Kd.V_drew)); exact HO_9.out) hb); have n3_ := Aside0.mk (below_step (by repeat (first | (with_reducible first | exact HB.out | apply below_alloc | apply pw_below_drewN | apply below_drew1) | exact HB.out)) hb); clear HO_3; clear HO_4; clear HO_9; clear HB; have HO_3 := n0_; have HO_4 := n1_; have HO_9 := n2_; have HB := n3_; clear n0_ n1_ n2_ n3_; (try clear hb); (try clear hb2); (try clear hk); (try clear hi)) | ((with_reducible refine gate_builtin (b := .append) (xs := #[.tmp 34, .tmp 37]) rfl ?_); at_builtin; refine Kd.R_append k32 (w0 := w) w.heap.size rfl (.tmp 34) (.tmp 37) 25 32 (.agg #[(.bool false), (.string ⟨#[]⟩), (.bool false), (.string ⟨#[]⟩), (.bool false), (.string ⟨#[]⟩), (.bool false), (.string ⟨#[]⟩)]) 96 rfl Tryd.underlying25 info32 rfl (by decide) (by omega) u3 x3_1 (⟨(⟨t207, t208⟩ : S30), (⟨t209, t210⟩ : S30), (⟨t211, t212⟩ : S30), (⟨t213, t214⟩ : S30)⟩ : S32) [.bool t207, .string t208, .bool t209, .string t210, .bool t211, .string t212, .bool t213, .string t214] (fun _ => True) (fun _ => False) rfl rfl ?aP (fun _ hk => hk.elim) ?aF ?aO ?aB ?aS ?aL ?_; (case aP => exact k32_mkM _ _ _ (⟨(⟨t207, t208⟩ : S30), (⟨t209, t210⟩ : S30), (⟨t211, t212⟩ : S30), (⟨t213, t214⟩ : S30)⟩ : S32)); (case aB => exact (by repeat (first | (with_reducible first | exact HB.out | apply below_alloc | apply pw_below_drewN | apply below_drew1) | exact HB.out))); (case aF => exact (fun _ _ => trivial)); (case aO => exact (by (with_reducible repeat (first | apply Kd.R_alloc | apply Kd.R_drewN | apply Kd.R_drew)); exact HO_3.out)); (case aS => exact (below_size (by repeat (first | (with_reducible first | exact HB.out | apply below_alloc | apply pw_below_drewN | apply below_drew1) | exact HB.out)))); (case aL => have := LMc27.out; omega); intro v216 w43 ho hb hg hat; rw [← Ny215.out] at ho; have n0_ := Aside0.mk (Kd.V_afterv (ok := (fun _ => True)) (by (with_reducible repeat (first | apply Kd.V_alloc | apply Kd.V_drewN | apply Kd.V_drew)); exact Kd.V_mono HO_4.out (fun _ hk => ⟨trivial, hk⟩)) hg hat); have n1_ := Aside0.mk (Kd.V_afterv (ok := (fun _ => True)) (by (with_reducible repeat (first | apply Kd.V_alloc | apply Kd.V_drewN | apply Kd.V_drew)); exact Kd.V_mono HO_9.out (fun _ hk => ⟨trivial, hk⟩)) hg hat); have n2_ := Aside0.mk (hb); have n3_ := Aside0.mk (ho); clear HO_4; clear HO_9; clear HB; clear HO_3; have HO_4 := n0_; have HO_9 := n1_; have HB := n2_; have HO217 := n3_; clear n0_ n1_ n2_ n3_; clear ho hb hg hat))
                                  go_roundg kj13
                                  case measure => have := HK1.out; have := HJ5.out; have := HJ13.out; omega
                                  case rel => exact ⟨(y215), (true), (wrap64 (t193 + 1)), (by first | rfl | (simp; done) | (simp [*]; done)), (by first | rfl | (simp; done) | (simp [*]; done)), H', ⟨by have := HK1.out; have := HJ5.out; have := HJ13.out; omega⟩, ⟨by (with_reducible repeat (first | apply Kd.R_alloc | apply Kd.R_drewN | apply Kd.R_drew)); exact HO217.out⟩, ⟨by (with_reducible repeat (first | apply Kd.V_alloc | apply Kd.V_drewN | apply Kd.V_drew)); exact Kd.V_mono HO_4.out (fun _ hk => hk.2)⟩, ⟨by repeat (first | (with_reducible first | exact HB.out | apply below_alloc | apply pw_below_drewN | apply below_drew1) | exact HB.out)⟩⟩
                            · replace c28 := Bool.eq_false_iff.mpr c28
                              subst c28
                              have H1 : (letter_Addresses.l0 kj13 y215 t186 false (wrap64 (t193 + 1))) = some r := by rw [if_neg (show ¬ (false = true) by decide)] at H; exact H
                              clear H
                              have H := H1
                              clear H1
                              have H' := Aside0.mk H
                              clear H
                              go_wp2_with (first | ((with_reducible refine gate_callee (f := 32) rfl ?_); refine goesL_ (some 33) rfl rfl Tryd.func32 (by kernel_rfl) rfl #[.slice A15 y195.length c15] rfl (by (try simp only [List.map_toArray, List.map_cons, List.map_nil]); first | done | rfl | (simp only [List.length_drop, List.length_take]; rfl)) ?_; (with_reducible refine (letter_held.calls kj13 _ _ y195 true _ ?side1 ?side2 A24.out).mono ?_); (case side1 => repeat (first | exact (Kd.V_reads' HO_9.out).2.2 | (with_reducible refine Kd.C_alloc ?_ _) | (with_reducible refine Kd.C_drewN ?_ _) | (with_reducible refine Kd.C_drew ?_))); (case side2 => exact (Kd.V_reads' HO_9.out).2.1); rintro e w44 ⟨rfl, hb⟩; refine ⟨_, rfl, ?_⟩; have n0_ := Aside0.mk (Kd.R_below (by (with_reducible repeat (first | apply Kd.R_alloc | apply Kd.R_drewN | apply Kd.R_drew)); exact HO_3.out) hb); have n1_ := Aside0.mk (Kd.V_below (by (with_reducible repeat (first | apply Kd.V_alloc | apply Kd.V_drewN | apply Kd.V_drew)); exact HO_4.out) hb); have n2_ := Aside0.mk (Kd.V_below (by (with_reducible repeat (first | apply Kd.V_alloc | apply Kd.V_drewN | apply Kd.V_drew)); exact HO_9.out) hb); have n3_ := Aside0.mk (below_step (by repeat (first | (with_reducible first | exact HB.out | apply below_alloc | apply pw_below_drewN | apply below_drew1) | exact HB.out)) hb); clear HO_3; clear HO_4; clear HO_9; clear HB; have HO_3 := n0_; have HO_4 := n1_; have HO_9 := n2_; have HB := n3_; clear n0_ n1_ n2_ n3_; (try clear hb); (try clear hb2); (try clear hk); (try clear hi)) | ((with_reducible refine gate_callee (f := 33) rfl ?_); refine goesL_ (some 36) rfl rfl Tryd.func33 (by kernel_rfl) rfl #[.slice A15 y195.length c15] rfl (by (try simp only [List.map_toArray, List.map_cons, List.map_nil]); first | done | rfl | (simp only [List.length_drop, List.length_take]; rfl)) ?_; (with_reducible refine (letter_address.calls kj13 (fun k_ => some k_ ≠ (u3 : Value).ownBlock) _ _ y195 t207 t208 t209 t210 t211 t212 t213 t214 _ ?side1 A26.out).mono ?_); (case side1 => exact HO_9.out); rintro e w45 ⟨rfl, hb⟩; refine ⟨_, rfl, ?_⟩; have n0_ := Aside0.mk (Kd.R_below (by (with_reducible repeat (first | apply Kd.R_alloc | apply Kd.R_drewN | apply Kd.R_drew)); exact HO_3.out) hb); have n1_ := Aside0.mk (Kd.V_below (by (with_reducible repeat (first | apply Kd.V_alloc | apply Kd.V_drewN | apply Kd.V_drew)); exact HO_4.out) hb); have n2_ := Aside0.mk (Kd.V_below (by (with_reducible repeat (first | apply Kd.V_alloc | apply Kd.V_drewN | apply Kd.V_drew)); exact HO_9.out) hb); have n3_ := Aside0.mk (below_step (by repeat (first | (with_reducible first | exact HB.out | apply below_alloc | apply pw_below_drewN | apply below_drew1) | exact HB.out)) hb); clear HO_3; clear HO_4; clear HO_9; clear HB; have HO_3 := n0_; have HO_4 := n1_; have HO_9 := n2_; have HB := n3_; clear n0_ n1_ n2_ n3_; (try clear hb); (try clear hb2); (try clear hk); (try clear hi)) | ((with_reducible refine gate_builtin (b := .append) (xs := #[.tmp 34, .tmp 37]) rfl ?_); at_builtin; refine Kd.R_append k32 (w0 := w) w.heap.size rfl (.tmp 34) (.tmp 37) 25 32 (.agg #[(.bool false), (.string ⟨#[]⟩), (.bool false), (.string ⟨#[]⟩), (.bool false), (.string ⟨#[]⟩), (.bool false), (.string ⟨#[]⟩)]) 96 rfl Tryd.underlying25 info32 rfl (by decide) (by omega) u3 x3_1 (⟨(⟨t207, t208⟩ : S30), (⟨t209, t210⟩ : S30), (⟨t211, t212⟩ : S30), (⟨t213, t214⟩ : S30)⟩ : S32) [.bool t207, .string t208, .bool t209, .string t210, .bool t211, .string t212, .bool t213, .string t214] (fun _ => True) (fun _ => False) rfl rfl ?aP (fun _ hk => hk.elim) ?aF ?aO ?aB ?aS ?aL ?_; (case aP => exact k32_mkM _ _ _ (⟨(⟨t207, t208⟩ : S30), (⟨t209, t210⟩ : S30), (⟨t211, t212⟩ : S30), (⟨t213, t214⟩ : S30)⟩ : S32)); (case aB => exact (by repeat (first | (with_reducible first | exact HB.out | apply below_alloc | apply pw_below_drewN | apply below_drew1) | exact HB.out))); (case aF => exact (fun _ _ => trivial)); (case aO => exact (by (with_reducible repeat (first | apply Kd.R_alloc | apply Kd.R_drewN | apply Kd.R_drew)); exact HO_3.out)); (case aS => exact (below_size (by repeat (first | (with_reducible first | exact HB.out | apply below_alloc | apply pw_below_drewN | apply below_drew1) | exact HB.out)))); (case aL => have := LMc27.out; omega); intro v216 w46 ho hb hg hat; rw [← Ny215.out] at ho; have n0_ := Aside0.mk (Kd.V_afterv (ok := (fun _ => True)) (by (with_reducible repeat (first | apply Kd.V_alloc | apply Kd.V_drewN | apply Kd.V_drew)); exact Kd.V_mono HO_4.out (fun _ hk => ⟨trivial, hk⟩)) hg hat); have n1_ := Aside0.mk (Kd.V_afterv (ok := (fun _ => True)) (by (with_reducible repeat (first | apply Kd.V_alloc | apply Kd.V_drewN | apply Kd.V_drew)); exact Kd.V_mono HO_9.out (fun _ hk => ⟨trivial, hk⟩)) hg hat); have n2_ := Aside0.mk (hb); have n3_ := Aside0.mk (ho); clear HO_4; clear HO_9; clear HB; clear HO_3; have HO_4 := n0_; have HO_9 := n1_; have HB := n2_; have HO217 := n3_; clear n0_ n1_ n2_ n3_; clear ho hb hg hat))
                              go_roundg kj13
                              case measure => have := HK1.out; have := HJ5.out; have := HJ13.out; omega
                              case rel => exact ⟨(y215), (false), (wrap64 (t193 + 1)), (by first | rfl | (simp; done) | (simp [*]; done)), (by first | rfl | (simp; done) | (simp [*]; done)), H', ⟨by have := HK1.out; have := HJ5.out; have := HJ13.out; omega⟩, ⟨by (with_reducible repeat (first | apply Kd.R_alloc | apply Kd.R_drewN | apply Kd.R_drew)); exact HO217.out⟩, ⟨by (with_reducible repeat (first | apply Kd.V_alloc | apply Kd.V_drewN | apply Kd.V_drew)); exact Kd.V_mono HO_4.out (fun _ hk => hk.2)⟩, ⟨by repeat (first | (with_reducible first | exact HB.out | apply below_alloc | apply pw_below_drewN | apply below_drew1) | exact HB.out)⟩⟩
                          · rw [if_neg c27] at H
                            exact absurd H (by simp)
                        · replace c25 := Bool.eq_false_iff.mpr c25
                          subst c25
                          have H1 : (if x5_1 = true then (if x8_5.toList = ([59] : List UInt8) then (if x3_1.length < 1466015503701 then (letter_Addresses.l0 kj13 (x3_1 ++ [(⟨(⟨false, (⟨#[]⟩ : ByteArray)⟩ : S30), (⟨false, (⟨#[]⟩ : ByteArray)⟩ : S30), (⟨false, (⟨#[]⟩ : ByteArray)⟩ : S30), (⟨false, (⟨#[]⟩ : ByteArray)⟩ : S30)⟩ : S32)]) t186 false (wrap64 (t193 + 1))) else (none)) else (if x8_5.toList = ([] : List UInt8) then (if x3_1.length < 1466015503701 then (letter_Addresses.l0 kj13 (x3_1 ++ [(⟨(⟨false, (⟨#[]⟩ : ByteArray)⟩ : S30), (⟨false, (⟨#[]⟩ : ByteArray)⟩ : S30), (⟨false, (⟨#[]⟩ : ByteArray)⟩ : S30), (⟨false, (⟨#[]⟩ : ByteArray)⟩ : S30)⟩ : S32)]) t186 false (wrap64 (t193 + 1))) else (none)) else (letter_Addresses.l0 kj13 x3_1 t186 x5_1 (wrap64 (t193 + 1))))) else (letter_Addresses.l0 kj13 x3_1 t186 x5_1 (wrap64 (t193 + 1)))) = some r := by rw [if_neg (show ¬ (false = true) by decide)] at H; exact H
                          clear H
                          have H := H1
                          clear H1
                          by_cases c47 : x5_1 = true
                          · subst c47
                            have H1 : (if x8_5.toList = ([59] : List UInt8) then (if x3_1.length < 1466015503701 then (letter_Addresses.l0 kj13 (x3_1 ++ [(⟨(⟨false, (⟨#[]⟩ : ByteArray)⟩ : S30), (⟨false, (⟨#[]⟩ : ByteArray)⟩ : S30), (⟨false, (⟨#[]⟩ : ByteArray)⟩ : S30), (⟨false, (⟨#[]⟩ : ByteArray)⟩ : S30)⟩ : S32)]) t186 false (wrap64 (t193 + 1))) else (none)) else (if x8_5.toList = ([] : List UInt8) then (if x3_1.length < 1466015503701 then (letter_Addresses.l0 kj13 (x3_1 ++ [(⟨(⟨false, (⟨#[]⟩ : ByteArray)⟩ : S30), (⟨false, (⟨#[]⟩ : ByteArray)⟩ : S30), (⟨false, (⟨#[]⟩ : ByteArray)⟩ : S30), (⟨false, (⟨#[]⟩ : ByteArray)⟩ : S30)⟩ : S32)]) t186 false (wrap64 (t193 + 1))) else (none)) else (letter_Addresses.l0 kj13 x3_1 t186 true (wrap64 (t193 + 1))))) = some r := by rw [if_pos rfl] at H; exact H
                            clear H
                            have H := H1
                            clear H1
                            by_cases c48 : x8_5.toList = ([59] : List UInt8)
                            · rw [if_pos c48] at H
                              have c48b0 : (x8_5.toList == ([59] : List UInt8)) = true := beq_iff_eq.mpr c48
                              have c48b1 : (x8_5.toList != ([59] : List UInt8)) = false := bne_eq_false_iff_eq.mpr c48
                              clear c48
                              by_cases c49 : x3_1.length < 1466015503701
                              · rw [if_pos c49] at H
                                have LMc49 := Aside0.mk c49
                                clear c49
                                obtain ⟨y224, hy224⟩ : ∃ y_ : List (S32), y_ = (x3_1 ++ [(⟨(⟨false, (⟨#[]⟩ : ByteArray)⟩ : S30), (⟨false, (⟨#[]⟩ : ByteArray)⟩ : S30), (⟨false, (⟨#[]⟩ : ByteArray)⟩ : S30), (⟨false, (⟨#[]⟩ : ByteArray)⟩ : S30)⟩ : S32)]) := ⟨_, rfl⟩
                                replace H : (letter_Addresses.l0 kj13 y224 t186 false (wrap64 (t193 + 1))) = some r := by first | (rw [hy224]; with_reducible exact H) | (have H2_ := (Option.bind_some _ _).symm.trans H; rw [hy224]; with_reducible exact H2_) | (have H2_ := (Option.bind_some _ _).symm.trans H; with_reducible exact H2_) | with_reducible exact H | (rw [hy224]; exact H) | exact H
                                have Ny224 := Aside0.mk hy224
                                clear hy224
                                have H' := Aside0.mk H
                                clear H
                                go_wp2_with (first | ((with_reducible refine gate_callee (f := 32) rfl ?_); refine goesL_ (some 33) rfl rfl Tryd.func32 (by kernel_rfl) rfl #[.slice A15 y195.length c15] rfl (by (try simp only [List.map_toArray, List.map_cons, List.map_nil]); first | done | rfl | (simp only [List.length_drop, List.length_take]; rfl)) ?_; (with_reducible refine (letter_held.calls kj13 _ _ y195 false _ ?side1 ?side2 A24.out).mono ?_); (case side1 => repeat (first | exact (Kd.V_reads' HO_9.out).2.2 | (with_reducible refine Kd.C_alloc ?_ _) | (with_reducible refine Kd.C_drewN ?_ _) | (with_reducible refine Kd.C_drew ?_))); (case side2 => exact (Kd.V_reads' HO_9.out).2.1); rintro e w50 ⟨rfl, hb⟩; refine ⟨_, rfl, ?_⟩; have n0_ := Aside0.mk (Kd.R_below (by (with_reducible repeat (first | apply Kd.R_alloc | apply Kd.R_drewN | apply Kd.R_drew)); exact HO_3.out) hb); have n1_ := Aside0.mk (Kd.V_below (by (with_reducible repeat (first | apply Kd.V_alloc | apply Kd.V_drewN | apply Kd.V_drew)); exact HO_4.out) hb); have n2_ := Aside0.mk (Kd.V_below (by (with_reducible repeat (first | apply Kd.V_alloc | apply Kd.V_drewN | apply Kd.V_drew)); exact HO_9.out) hb); have n3_ := Aside0.mk (below_step (by repeat (first | (with_reducible first | exact HB.out | apply below_alloc | apply pw_below_drewN | apply below_drew1) | exact HB.out)) hb); clear HO_3; clear HO_4; clear HO_9; clear HB; have HO_3 := n0_; have HO_4 := n1_; have HO_9 := n2_; have HB := n3_; clear n0_ n1_ n2_ n3_; (try clear hb); (try clear hb2); (try clear hk); (try clear hi)) | ((with_reducible refine gate_builtin (b := .append) (xs := #[.tmp 48, .tmp 50]) rfl ?_); at_builtin; refine Kd.R_append k32 (w0 := w) w.heap.size rfl (.tmp 48) (.tmp 50) 25 32 (.agg #[(.bool false), (.string ⟨#[]⟩), (.bool false), (.string ⟨#[]⟩), (.bool false), (.string ⟨#[]⟩), (.bool false), (.string ⟨#[]⟩)]) 96 rfl Tryd.underlying25 info32 rfl (by decide) (by omega) u3 x3_1 (⟨(⟨false, (⟨#[]⟩ : ByteArray)⟩ : S30), (⟨false, (⟨#[]⟩ : ByteArray)⟩ : S30), (⟨false, (⟨#[]⟩ : ByteArray)⟩ : S30), (⟨false, (⟨#[]⟩ : ByteArray)⟩ : S30)⟩ : S32) [.bool false, .string (⟨#[]⟩ : ByteArray), .bool false, .string (⟨#[]⟩ : ByteArray), .bool false, .string (⟨#[]⟩ : ByteArray), .bool false, .string (⟨#[]⟩ : ByteArray)] (fun _ => True) (fun _ => False) rfl rfl ?aP (fun _ hk => hk.elim) ?aF ?aO ?aB ?aS ?aL ?_; (case aP => exact k32_mkM _ _ _ (⟨(⟨false, (⟨#[]⟩ : ByteArray)⟩ : S30), (⟨false, (⟨#[]⟩ : ByteArray)⟩ : S30), (⟨false, (⟨#[]⟩ : ByteArray)⟩ : S30), (⟨false, (⟨#[]⟩ : ByteArray)⟩ : S30)⟩ : S32)); (case aB => exact (by repeat (first | (with_reducible first | exact HB.out | apply below_alloc | apply pw_below_drewN | apply below_drew1) | exact HB.out))); (case aF => exact (fun _ _ => trivial)); (case aO => exact (by (with_reducible repeat (first | apply Kd.R_alloc | apply Kd.R_drewN | apply Kd.R_drew)); exact HO_3.out)); (case aS => exact (below_size (by repeat (first | (with_reducible first | exact HB.out | apply below_alloc | apply pw_below_drewN | apply below_drew1) | exact HB.out)))); (case aL => have := LMc49.out; omega); intro v225 w51 ho hb hg hat; rw [← Ny224.out] at ho; have n0_ := Aside0.mk (Kd.V_afterv (ok := (fun _ => True)) (by (with_reducible repeat (first | apply Kd.V_alloc | apply Kd.V_drewN | apply Kd.V_drew)); exact Kd.V_mono HO_4.out (fun _ hk => ⟨trivial, hk⟩)) hg hat); have n1_ := Aside0.mk (Kd.V_afterv (ok := (fun _ => True)) (by (with_reducible repeat (first | apply Kd.V_alloc | apply Kd.V_drewN | apply Kd.V_drew)); exact Kd.V_mono HO_9.out (fun _ hk => ⟨trivial, hk⟩)) hg hat); have n2_ := Aside0.mk (hb); have n3_ := Aside0.mk (ho); clear HO_4; clear HO_9; clear HB; clear HO_3; have HO_4 := n0_; have HO_9 := n1_; have HB := n2_; have HO226 := n3_; clear n0_ n1_ n2_ n3_; clear ho hb hg hat))
                                go_roundg kj13
                                case measure => have := HK1.out; have := HJ5.out; have := HJ13.out; omega
                                case rel => exact ⟨(y224), (false), (wrap64 (t193 + 1)), (by first | rfl | (simp; done) | (simp [*]; done)), (by first | rfl | (simp; done) | (simp [*]; done)), H', ⟨by have := HK1.out; have := HJ5.out; have := HJ13.out; omega⟩, ⟨by (with_reducible repeat (first | apply Kd.R_alloc | apply Kd.R_drewN | apply Kd.R_drew)); exact HO226.out⟩, ⟨by (with_reducible repeat (first | apply Kd.V_alloc | apply Kd.V_drewN | apply Kd.V_drew)); exact Kd.V_mono HO_4.out (fun _ hk => hk.2)⟩, ⟨by repeat (first | (with_reducible first | exact HB.out | apply below_alloc | apply pw_below_drewN | apply below_drew1) | exact HB.out)⟩⟩
                              · rw [if_neg c49] at H
                                exact absurd H (by simp)
                            · rw [if_neg c48] at H
                              have c48b0 : (x8_5.toList == ([59] : List UInt8)) = false := beq_eq_false_iff_ne.mpr c48
                              have c48b1 : (x8_5.toList != ([59] : List UInt8)) = true := bne_iff_ne.mpr c48
                              by_cases c52 : x8_5.toList = ([] : List UInt8)
                              · rw [if_pos c52] at H
                                have c52b0 : (x8_5.toList == ([] : List UInt8)) = true := beq_iff_eq.mpr c52
                                have c52b1 : (x8_5.toList != ([] : List UInt8)) = false := bne_eq_false_iff_eq.mpr c52
                                clear c52
                                by_cases c53 : x3_1.length < 1466015503701
                                · rw [if_pos c53] at H
                                  have LMc53 := Aside0.mk c53
                                  clear c53
                                  obtain ⟨y227, hy227⟩ : ∃ y_ : List (S32), y_ = (x3_1 ++ [(⟨(⟨false, (⟨#[]⟩ : ByteArray)⟩ : S30), (⟨false, (⟨#[]⟩ : ByteArray)⟩ : S30), (⟨false, (⟨#[]⟩ : ByteArray)⟩ : S30), (⟨false, (⟨#[]⟩ : ByteArray)⟩ : S30)⟩ : S32)]) := ⟨_, rfl⟩
                                  replace H : (letter_Addresses.l0 kj13 y227 t186 false (wrap64 (t193 + 1))) = some r := by first | (rw [hy227]; with_reducible exact H) | (have H2_ := (Option.bind_some _ _).symm.trans H; rw [hy227]; with_reducible exact H2_) | (have H2_ := (Option.bind_some _ _).symm.trans H; with_reducible exact H2_) | with_reducible exact H | (rw [hy227]; exact H) | exact H
                                  have Ny227 := Aside0.mk hy227
                                  clear hy227
                                  have H' := Aside0.mk H
                                  clear H
                                  go_wp2_with (first | ((with_reducible refine gate_callee (f := 32) rfl ?_); refine goesL_ (some 33) rfl rfl Tryd.func32 (by kernel_rfl) rfl #[.slice A15 y195.length c15] rfl (by (try simp only [List.map_toArray, List.map_cons, List.map_nil]); first | done | rfl | (simp only [List.length_drop, List.length_take]; rfl)) ?_; (with_reducible refine (letter_held.calls kj13 _ _ y195 false _ ?side1 ?side2 A24.out).mono ?_); (case side1 => repeat (first | exact (Kd.V_reads' HO_9.out).2.2 | (with_reducible refine Kd.C_alloc ?_ _) | (with_reducible refine Kd.C_drewN ?_ _) | (with_reducible refine Kd.C_drew ?_))); (case side2 => exact (Kd.V_reads' HO_9.out).2.1); rintro e w54 ⟨rfl, hb⟩; refine ⟨_, rfl, ?_⟩; have n0_ := Aside0.mk (Kd.R_below (by (with_reducible repeat (first | apply Kd.R_alloc | apply Kd.R_drewN | apply Kd.R_drew)); exact HO_3.out) hb); have n1_ := Aside0.mk (Kd.V_below (by (with_reducible repeat (first | apply Kd.V_alloc | apply Kd.V_drewN | apply Kd.V_drew)); exact HO_4.out) hb); have n2_ := Aside0.mk (Kd.V_below (by (with_reducible repeat (first | apply Kd.V_alloc | apply Kd.V_drewN | apply Kd.V_drew)); exact HO_9.out) hb); have n3_ := Aside0.mk (below_step (by repeat (first | (with_reducible first | exact HB.out | apply below_alloc | apply pw_below_drewN | apply below_drew1) | exact HB.out)) hb); clear HO_3; clear HO_4; clear HO_9; clear HB; have HO_3 := n0_; have HO_4 := n1_; have HO_9 := n2_; have HB := n3_; clear n0_ n1_ n2_ n3_; (try clear hb); (try clear hb2); (try clear hk); (try clear hi)) | ((with_reducible refine gate_builtin (b := .append) (xs := #[.tmp 48, .tmp 50]) rfl ?_); at_builtin; refine Kd.R_append k32 (w0 := w) w.heap.size rfl (.tmp 48) (.tmp 50) 25 32 (.agg #[(.bool false), (.string ⟨#[]⟩), (.bool false), (.string ⟨#[]⟩), (.bool false), (.string ⟨#[]⟩), (.bool false), (.string ⟨#[]⟩)]) 96 rfl Tryd.underlying25 info32 rfl (by decide) (by omega) u3 x3_1 (⟨(⟨false, (⟨#[]⟩ : ByteArray)⟩ : S30), (⟨false, (⟨#[]⟩ : ByteArray)⟩ : S30), (⟨false, (⟨#[]⟩ : ByteArray)⟩ : S30), (⟨false, (⟨#[]⟩ : ByteArray)⟩ : S30)⟩ : S32) [.bool false, .string (⟨#[]⟩ : ByteArray), .bool false, .string (⟨#[]⟩ : ByteArray), .bool false, .string (⟨#[]⟩ : ByteArray), .bool false, .string (⟨#[]⟩ : ByteArray)] (fun _ => True) (fun _ => False) rfl rfl ?aP (fun _ hk => hk.elim) ?aF ?aO ?aB ?aS ?aL ?_; (case aP => exact k32_mkM _ _ _ (⟨(⟨false, (⟨#[]⟩ : ByteArray)⟩ : S30), (⟨false, (⟨#[]⟩ : ByteArray)⟩ : S30), (⟨false, (⟨#[]⟩ : ByteArray)⟩ : S30), (⟨false, (⟨#[]⟩ : ByteArray)⟩ : S30)⟩ : S32)); (case aB => exact (by repeat (first | (with_reducible first | exact HB.out | apply below_alloc | apply pw_below_drewN | apply below_drew1) | exact HB.out))); (case aF => exact (fun _ _ => trivial)); (case aO => exact (by (with_reducible repeat (first | apply Kd.R_alloc | apply Kd.R_drewN | apply Kd.R_drew)); exact HO_3.out)); (case aS => exact (below_size (by repeat (first | (with_reducible first | exact HB.out | apply below_alloc | apply pw_below_drewN | apply below_drew1) | exact HB.out)))); (case aL => have := LMc53.out; omega); intro v228 w55 ho hb hg hat; rw [← Ny227.out] at ho; have n0_ := Aside0.mk (Kd.V_afterv (ok := (fun _ => True)) (by (with_reducible repeat (first | apply Kd.V_alloc | apply Kd.V_drewN | apply Kd.V_drew)); exact Kd.V_mono HO_4.out (fun _ hk => ⟨trivial, hk⟩)) hg hat); have n1_ := Aside0.mk (Kd.V_afterv (ok := (fun _ => True)) (by (with_reducible repeat (first | apply Kd.V_alloc | apply Kd.V_drewN | apply Kd.V_drew)); exact Kd.V_mono HO_9.out (fun _ hk => ⟨trivial, hk⟩)) hg hat); have n2_ := Aside0.mk (hb); have n3_ := Aside0.mk (ho); clear HO_4; clear HO_9; clear HB; clear HO_3; have HO_4 := n0_; have HO_9 := n1_; have HB := n2_; have HO229 := n3_; clear n0_ n1_ n2_ n3_; clear ho hb hg hat))
                                  go_roundg kj13
                                  case measure => have := HK1.out; have := HJ5.out; have := HJ13.out; omega
                                  case rel => exact ⟨(y227), (false), (wrap64 (t193 + 1)), (by first | rfl | (simp; done) | (simp [*]; done)), (by first | rfl | (simp; done) | (simp [*]; done)), H', ⟨by have := HK1.out; have := HJ5.out; have := HJ13.out; omega⟩, ⟨by (with_reducible repeat (first | apply Kd.R_alloc | apply Kd.R_drewN | apply Kd.R_drew)); exact HO229.out⟩, ⟨by (with_reducible repeat (first | apply Kd.V_alloc | apply Kd.V_drewN | apply Kd.V_drew)); exact Kd.V_mono HO_4.out (fun _ hk => hk.2)⟩, ⟨by repeat (first | (with_reducible first | exact HB.out | apply below_alloc | apply pw_below_drewN | apply below_drew1) | exact HB.out)⟩⟩
                                · rw [if_neg c53] at H
                                  exact absurd H (by simp)
                              · rw [if_neg c52] at H
                                have c52b0 : (x8_5.toList == ([] : List UInt8)) = false := beq_eq_false_iff_ne.mpr c52
                                have c52b1 : (x8_5.toList != ([] : List UInt8)) = true := bne_iff_ne.mpr c52
                                have H' := Aside0.mk H
                                clear H
                                go_wp2_with (first | ((with_reducible refine gate_callee (f := 32) rfl ?_); refine goesL_ (some 33) rfl rfl Tryd.func32 (by kernel_rfl) rfl #[.slice A15 y195.length c15] rfl (by (try simp only [List.map_toArray, List.map_cons, List.map_nil]); first | done | rfl | (simp only [List.length_drop, List.length_take]; rfl)) ?_; (with_reducible refine (letter_held.calls kj13 _ _ y195 false _ ?side1 ?side2 A24.out).mono ?_); (case side1 => repeat (first | exact (Kd.V_reads' HO_9.out).2.2 | (with_reducible refine Kd.C_alloc ?_ _) | (with_reducible refine Kd.C_drewN ?_ _) | (with_reducible refine Kd.C_drew ?_))); (case side2 => exact (Kd.V_reads' HO_9.out).2.1); rintro e w56 ⟨rfl, hb⟩; refine ⟨_, rfl, ?_⟩; have n0_ := Aside0.mk (Kd.R_below (by (with_reducible repeat (first | apply Kd.R_alloc | apply Kd.R_drewN | apply Kd.R_drew)); exact HO_3.out) hb); have n1_ := Aside0.mk (Kd.V_below (by (with_reducible repeat (first | apply Kd.V_alloc | apply Kd.V_drewN | apply Kd.V_drew)); exact HO_4.out) hb); have n2_ := Aside0.mk (Kd.V_below (by (with_reducible repeat (first | apply Kd.V_alloc | apply Kd.V_drewN | apply Kd.V_drew)); exact HO_9.out) hb); have n3_ := Aside0.mk (below_step (by repeat (first | (with_reducible first | exact HB.out | apply below_alloc | apply pw_below_drewN | apply below_drew1) | exact HB.out)) hb); clear HO_3; clear HO_4; clear HO_9; clear HB; have HO_3 := n0_; have HO_4 := n1_; have HO_9 := n2_; have HB := n3_; clear n0_ n1_ n2_ n3_; (try clear hb); (try clear hb2); (try clear hk); (try clear hi)))
                                go_roundg kj13
                                case measure => have := HK1.out; have := HJ5.out; have := HJ13.out; omega
                                case rel => exact ⟨(x3_1), (true), (wrap64 (t193 + 1)), (by first | rfl | (simp; done) | (simp [*]; done)), (by first | rfl | (simp; done) | (simp [*]; done)), H', ⟨by have := HK1.out; have := HJ5.out; have := HJ13.out; omega⟩, ⟨by (with_reducible repeat (first | apply Kd.R_alloc | apply Kd.R_drewN | apply Kd.R_drew)); exact HO_3.out⟩, ⟨by (with_reducible repeat (first | apply Kd.V_alloc | apply Kd.V_drewN | apply Kd.V_drew)); exact HO_4.out⟩, ⟨by repeat (first | (with_reducible first | exact HB.out | apply below_alloc | apply pw_below_drewN | apply below_drew1) | exact HB.out)⟩⟩
                          · replace c47 := Bool.eq_false_iff.mpr c47
                            subst c47
                            have H1 : (letter_Addresses.l0 kj13 x3_1 t186 false (wrap64 (t193 + 1))) = some r := by rw [if_neg (show ¬ (false = true) by decide)] at H; exact H
                            clear H
                            have H := H1
                            clear H1
                            have H' := Aside0.mk H
                            clear H
                            go_wp2_with (first | ((with_reducible refine gate_callee (f := 32) rfl ?_); refine goesL_ (some 33) rfl rfl Tryd.func32 (by kernel_rfl) rfl #[.slice A15 y195.length c15] rfl (by (try simp only [List.map_toArray, List.map_cons, List.map_nil]); first | done | rfl | (simp only [List.length_drop, List.length_take]; rfl)) ?_; (with_reducible refine (letter_held.calls kj13 _ _ y195 false _ ?side1 ?side2 A24.out).mono ?_); (case side1 => repeat (first | exact (Kd.V_reads' HO_9.out).2.2 | (with_reducible refine Kd.C_alloc ?_ _) | (with_reducible refine Kd.C_drewN ?_ _) | (with_reducible refine Kd.C_drew ?_))); (case side2 => exact (Kd.V_reads' HO_9.out).2.1); rintro e w57 ⟨rfl, hb⟩; refine ⟨_, rfl, ?_⟩; have n0_ := Aside0.mk (Kd.R_below (by (with_reducible repeat (first | apply Kd.R_alloc | apply Kd.R_drewN | apply Kd.R_drew)); exact HO_3.out) hb); have n1_ := Aside0.mk (Kd.V_below (by (with_reducible repeat (first | apply Kd.V_alloc | apply Kd.V_drewN | apply Kd.V_drew)); exact HO_4.out) hb); have n2_ := Aside0.mk (Kd.V_below (by (with_reducible repeat (first | apply Kd.V_alloc | apply Kd.V_drewN | apply Kd.V_drew)); exact HO_9.out) hb); have n3_ := Aside0.mk (below_step (by repeat (first | (with_reducible first | exact HB.out | apply below_alloc | apply pw_below_drewN | apply below_drew1) | exact HB.out)) hb); clear HO_3; clear HO_4; clear HO_9; clear HB; have HO_3 := n0_; have HO_4 := n1_; have HO_9 := n2_; have HB := n3_; clear n0_ n1_ n2_ n3_; (try clear hb); (try clear hb2); (try clear hk); (try clear hi)))
                            go_roundg kj13
                            case measure => have := HK1.out; have := HJ5.out; have := HJ13.out; omega
                            case rel => exact ⟨(x3_1), (false), (wrap64 (t193 + 1)), (by first | rfl | (simp; done) | (simp [*]; done)), (by first | rfl | (simp; done) | (simp [*]; done)), H', ⟨by have := HK1.out; have := HJ5.out; have := HJ13.out; omega⟩, ⟨by (with_reducible repeat (first | apply Kd.R_alloc | apply Kd.R_drewN | apply Kd.R_drew)); exact HO_3.out⟩, ⟨by (with_reducible repeat (first | apply Kd.V_alloc | apply Kd.V_drewN | apply Kd.V_drew)); exact HO_4.out⟩, ⟨by repeat (first | (with_reducible first | exact HB.out | apply below_alloc | apply pw_below_drewN | apply below_drew1) | exact HB.out)⟩⟩
                · rw [if_neg c13] at H
                  exact absurd H (by simp)
              · rw [if_neg c12] at H
                exact absurd H (by simp)
            · rw [if_neg c11] at H
              exact absurd H (by simp)
      · rw [if_neg c4] at H
        have c4b0 : decide (x6_1 ≤ (t186.length : Int)) = false := decide_eq_false c4
        clear c4
        by_cases c58 : (x3_1.length : Int) > 32
        · rw [if_pos c58] at H
          have c58b0 : decide (32 < (x3_1.length : Int)) = true := decide_eq_true c58
          have c58b1 : decide (32 < x3_1.length) = true := decide_eq_true (by omega)
          clear c58
          by_cases c59 : 32 ≤ (x3_1.length : Int)
          · rw [if_pos c59] at H
            have c59b0 := eq_true c59
            have c59b1 : decide (32 ≤ (x3_1.length : Int)) = true := decide_eq_true c59
            clear c59
            obtain ⟨y189, hy189⟩ : ∃ y_ : List (S32), y_ = (x3_1.take 32) := ⟨_, rfl⟩
            replace H : (none) = some r := by first | (rw [hy189]; with_reducible exact H) | (have H2_ := (Option.bind_some _ _).symm.trans H; rw [hy189]; with_reducible exact H2_) | (have H2_ := (Option.bind_some _ _).symm.trans H; with_reducible exact H2_) | with_reducible exact H | (rw [hy189]; exact H) | exact H
            have Ny189 := Aside0.mk hy189
            clear hy189
            exact absurd H (by simp)
          · rw [if_neg c59] at H
            exact absurd H (by simp)
        · rw [if_neg c58] at H
          have c58b0 : decide (32 < (x3_1.length : Int)) = false := decide_eq_false c58
          have c58b1 : decide (32 < x3_1.length) = false := decide_eq_false (by omega)
          clear c58
          obtain rfl := Option.some.inj H
          obtain ⟨Ao60, co60, eo60⟩ := Kd.V_slice HO_4.out
          subst eo60
          obtain ⟨Ao61, co61, eo61⟩ := Kd.R_slice HO_3.out
          subst eo61
          go_wp2
          go_ret
          exact ⟨_, by first | rfl | (simp [errW_none, errW_some] <;> rfl) | (simp [*, errW_none, errW_some] <;> rfl), by (with_reducible repeat (first | apply Kd.R_alloc | apply Kd.R_drewN | apply Kd.R_drew)); exact HO_3.out, by repeat (first | (with_reducible first | exact HB.out | apply below_alloc | apply pw_below_drewN | apply below_drew1) | exact HB.out)⟩

end Go.Proofs.YtgmlhmojcemliaaDoor.P
end
section
namespace Go.Proofs.YtgmlhmojcemliaaDoor.P
open Go.RowKit Go.Proofs.YtgmlhmojcemliaaDoorW.PrintWords Go.Proofs.YtgmlhmojcemliaaDoorW.PrintLast Go.Proofs.YtgmlhmojcemliaaDoorW.PrintMore
attribute [local go_sem] max2_int min2_int max_two min_two max_three min_three max_four min_four   -- for this text's walks alone
set_option linter.unusedVariables false
set_option linter.unusedSimpArgs false

/-! ### strings_Contains: function 36, GIVEN -/
def strings_Contains.f (a0 a1 : ByteArray) : Option Bool := if a0.size < 4294967281 then some (Lib.contains a0.data.toList a1.data.toList) else none
theorem strings_Contains.calls (a0 a1 : ByteArray) (r : Bool) (w : World) (hG : Good w) (h : strings_Contains.f a0 a1 = some r) :
    Calls Tryd.prog 36 #[.string a0, .string a1] w fun e w' => e = .returned (.bool r) ∧ Below w.heap.size w w' := by
  unfold strings_Contains.f at h
  split at h
  · obtain rfl := Option.some.inj h
    obtain ⟨m, hm⟩ := hG
    exact (Tryd.strings_Contains a0 a1 m w ‹_› hm).mono fun e w' ⟨h1, h2⟩ => ⟨h1, h2 ▸ Below.refl _ _⟩
  · cases h
end Go.Proofs.YtgmlhmojcemliaaDoor.P
end
section
namespace Go.Proofs.YtgmlhmojcemliaaDoor.P
open Go.RowKit Go.Proofs.YtgmlhmojcemliaaDoorW.PrintWords Go.Proofs.YtgmlhmojcemliaaDoorW.PrintLast Go.Proofs.YtgmlhmojcemliaaDoorW.PrintMore
attribute [local go_sem] max2_int min2_int max_two min_two max_three min_three max_four min_four   -- for this text's walks alone
set_option linter.unusedVariables false
set_option linter.unusedSimpArgs false

/-! ### letter_Ids: function 11 -/
def letter_Ids.l0 : Nat → List ByteArray → List (S71) → Int → Option (List ByteArray)
  | 0, _, _, _ => none
  | k + 1, x3, x4, x5 => if x5 < (x4.length : Int) then (if 0 ≤ x5 then ((letter_piece_is.f ((rd_T71 x4 x5).f0) ((rd_T71 x4 x5).f1) (⟨#[60]⟩ : ByteArray)).bind fun t238 => (if t238 = true then ((letter_find.f k x4 x5 (⟨#[62]⟩ : ByteArray)).bind fun t239 => (if t239 = (x4.length : Int) then (if (x3.length : Int) > 32 then (if 0 ≤ (wrap64 ((x3.length : Int) - 32)) then (if (wrap64 ((x3.length : Int) - 32)) ≤ (x3.length : Int) then (none) else (none)) else (none)) else (some x3)) else (if 0 ≤ (wrap64 (x5 + 1)) then (if (wrap64 (x5 + 1)) ≤ t239 then (if t239 ≤ (x4.length : Int) then ((letter_text.f ((x4.take (t239 : Int).toNat).drop ((wrap64 (x5 + 1)) : Int).toNat) true).bind fun t249 => (if (t249.size : Int) > 2 then (if 1 ≤ (wrap64 ((t249.size : Int) - 1)) then (if (wrap64 ((t249.size : Int) - 1)) ≤ (t249.size : Int) then ((strings_Contains.f (t249.extract 1 ((wrap64 ((t249.size : Int) - 1)) : Int).toNat) (⟨#[64]⟩ : ByteArray)).bind fun t250 => (if t250 = true then (if x3.length < 8796093022208 then (letter_Ids.l0 k (x3 ++ [t249]) x4 (wrap64 (t239 + 1))) else (none)) else (letter_Ids.l0 k x3 x4 (wrap64 (t239 + 1))))) else (none)) else (none)) else (letter_Ids.l0 k x3 x4 (wrap64 (t239 + 1))))) else (none)) else (none)) else (none)))) else (letter_Ids.l0 k x3 x4 (wrap64 (x5 + 1))))) else (none)) else (if (x3.length : Int) > 32 then (if 0 ≤ (wrap64 ((x3.length : Int) - 32)) then (if (wrap64 ((x3.length : Int) - 32)) ≤ (x3.length : Int) then (none) else (none)) else (none)) else (some x3))
def letter_Ids.f (k : Nat) (a0 : ByteArray) : Option (List ByteArray) := (letter_pieces.f a0).bind fun t230 => (letter_Ids.l0 k ([] : List ByteArray) t230 0)
theorem letter_Ids.mono_l : ∀ k, (∀ y0 y1 y2, LeO (letter_Ids.l0 k y0 y1 y2) (letter_Ids.l0 (k + 1) y0 y1 y2))
  | 0 => fun _ _ _ r h => by simp [letter_Ids.l0] at h
  | k + 1 => by
    have ih0 := letter_Ids.mono_l k
    · intro y0 y1 y2
      unfold letter_Ids.l0
      repeat' first
      | (with_reducible exact ih0 _ _ _)
      | (with_reducible exact letter_find.mono _ _ _ _)
      | (with_reducible exact LeO.refl _)
      | (with_reducible exact LeO.none _)
      | (with_reducible refine LeO.ite ?_ ?_)
      | (with_reducible refine LeO.bind ?_ (fun _ => ?_))
      | exact ih0 _ _ _
      | exact letter_find.mono _ _ _ _
      | exact LeO.none _
      | refine LeO.ite ?_ ?_
      | refine LeO.bind ?_ (fun _ => ?_)
theorem letter_Ids.mono : ∀ a0 k, LeO (letter_Ids.f k a0) (letter_Ids.f (k + 1) a0) := by
  intro a0 k
  have ih0 := letter_Ids.mono_l k
  unfold letter_Ids.f
  repeat' first
      | (with_reducible exact ih0 _ _ _)
      | (with_reducible exact letter_find.mono _ _ _ _)
      | (with_reducible exact LeO.refl _)
      | (with_reducible exact LeO.none _)
      | (with_reducible refine LeO.ite ?_ ?_)
      | (with_reducible refine LeO.bind ?_ (fun _ => ?_))
      | exact ih0 _ _ _
      | exact letter_find.mono _ _ _ _
      | exact LeO.none _
      | refine LeO.ite ?_ ?_
      | refine LeO.bind ?_ (fun _ => ?_)
set_option maxHeartbeats 8000000 in
set_option maxRecDepth 100000 in
theorem letter_Ids.calls (k : Nat) (a0 : ByteArray) (r : List ByteArray) (w : World) (hG : Good w) (h : letter_Ids.f k a0 = some r) :
    Calls Tryd.prog 11 #[.string a0] w fun e w' => ∃ v0_ : Value, e = .returned (v0_) ∧ Kd.R Kd.string 9 w' w.heap.size (fun _ => True) v0_ r ∧ Below w.heap.size w w' := by
  have hu71 := Tryd.underlying71
  have HB := Aside0.mk (Below.refl w.heap.size w)
  have HG := Aside0.mk hG
  clear hG
  have H : ((letter_pieces.f a0).bind fun t230 => (letter_Ids.l0 k ([] : List ByteArray) t230 0)) = some r := h
  clear h
  replace H := Option.bind_eq_some_iff.mp H
  obtain ⟨t230, A20, H⟩ := H
  replace H : (letter_Ids.l0 k ([] : List ByteArray) t230 0) = some r := H
  have A2 := Aside0.mk A20
  clear A20
  have H' := Aside0.mk H
  clear H
  go_enter Tryd.func11, Tryd.ntmps11
  go_wp2_with (first | ((with_reducible refine gate_callee (f := 28) rfl ?_); refine goesL_ (some 9) rfl rfl Tryd.func28 (by kernel_rfl) rfl #[.string a0] rfl (by (try simp only [List.map_toArray, List.map_cons, List.map_nil]); first | done | rfl | (simp only [List.length_drop, List.length_take]; rfl)) ?_; (with_reducible refine (letter_pieces.calls a0 t230 _ A2.out).mono ?_); rintro e w3 ⟨v231, rfl, ho0, hb⟩; refine ⟨_, rfl, ?_⟩; have n0_ := Aside0.mk (Kd.V_lower (Kd.V_mono (ok' := fun k_ => True) ho0 (fun k_ hk_ => trivial)) (below_size (by repeat (first | (with_reducible first | exact HB.out | apply below_alloc | apply pw_below_drewN | apply below_drew1) | exact HB.out)))); have n1_ := Aside0.mk (below_step (by repeat (first | (with_reducible first | exact HB.out | apply below_alloc | apply pw_below_drewN | apply below_drew1) | exact HB.out)) hb); clear HB; have HO232 := n0_; have HB := n1_; clear n0_ n1_; (try clear hb); (try clear hb2); (try clear hk); (try clear hi); (try clear ho0)))
  go_loopg [3, 5] k (fun kq v3 v5 w' => ∃ (x3_1 : List ByteArray) (x5_1 : Int), v5 = .int .i64 x5_1 ∧ Aside0 (letter_Ids.l0 kq x3_1 t230 x5_1 = some r) ∧ Aside0 (kq ≤ k) ∧ Aside0 (Kd.R Kd.string 9 w' w.heap.size (fun _ => True) v3 x3_1) ∧ Aside0 (Kd.V k71 71 w' w.heap.size (fun k_ => some k_ ≠ (v3 : Value).ownBlock) v231 t230) ∧ Aside0 (Below w.heap.size w w'))
  case atStart => exact ⟨(([] : List ByteArray)), (0), (by first | rfl | (simp; done) | (simp [*]; done)), H', ⟨Nat.le_refl _⟩, ⟨by first | exact Kd.R_nil _ _ _ _ _ | exact Kd.N_nil _ _ _ _ _ | exact Kd.V_nil _ _ _ _ _ | exact Kd.Q_nil _ _ _ _ _ | exact Kd.S_nil _ _ _ _ _⟩, ⟨by (with_reducible repeat (first | apply Kd.V_alloc | apply Kd.V_drewN | apply Kd.V_drew)); exact Kd.V_mono HO232.out (fun _ hk => (by simp [Value.ownBlock]))⟩, ⟨by repeat (first | (with_reducible first | exact HB.out | apply below_alloc | apply pw_below_drewN | apply below_drew1) | exact HB.out)⟩⟩
  case round =>
    clear H'
    try clear c1
    try clear c2
    try clear p2
    obtain ⟨x3_1, x5_1, rfl, HA, HK1, HO_3, HO_4, HB⟩ := hrel
    cases gk with
    | zero => exact absurd HA.out (by simp [letter_Ids.l0])
    | succ k1 =>
      have H := HA.out
      clear HA
      simp only [letter_Ids.l0] at H
      by_cases c4 : x5_1 < (t230.length : Int)
      · rw [if_pos c4] at H
        have c4b0 : decide (x5_1 < (t230.length : Int)) = true := decide_eq_true c4
        clear c4
        by_cases c5 : 0 ≤ x5_1
        · rw [if_pos c5] at H
          have c5b0 : decide (0 ≤ x5_1) = true := decide_eq_true c5
          clear c5
          replace H := Option.bind_eq_some_iff.mp H
          obtain ⟨t238, A60, H⟩ := H
          replace H : (if t238 = true then ((letter_find.f k1 t230 x5_1 (⟨#[62]⟩ : ByteArray)).bind fun t239 => (if t239 = (t230.length : Int) then (if (x3_1.length : Int) > 32 then (if 0 ≤ (wrap64 ((x3_1.length : Int) - 32)) then (if (wrap64 ((x3_1.length : Int) - 32)) ≤ (x3_1.length : Int) then (none) else (none)) else (none)) else (some x3_1)) else (if 0 ≤ (wrap64 (x5_1 + 1)) then (if (wrap64 (x5_1 + 1)) ≤ t239 then (if t239 ≤ (t230.length : Int) then ((letter_text.f ((t230.take (t239 : Int).toNat).drop ((wrap64 (x5_1 + 1)) : Int).toNat) true).bind fun t249 => (if (t249.size : Int) > 2 then (if 1 ≤ (wrap64 ((t249.size : Int) - 1)) then (if (wrap64 ((t249.size : Int) - 1)) ≤ (t249.size : Int) then ((strings_Contains.f (t249.extract 1 ((wrap64 ((t249.size : Int) - 1)) : Int).toNat) (⟨#[64]⟩ : ByteArray)).bind fun t250 => (if t250 = true then (if x3_1.length < 8796093022208 then (letter_Ids.l0 k1 (x3_1 ++ [t249]) t230 (wrap64 (t239 + 1))) else (none)) else (letter_Ids.l0 k1 x3_1 t230 (wrap64 (t239 + 1))))) else (none)) else (none)) else (letter_Ids.l0 k1 x3_1 t230 (wrap64 (t239 + 1))))) else (none)) else (none)) else (none)))) else (letter_Ids.l0 k1 x3_1 t230 (wrap64 (x5_1 + 1)))) = some r := H
          have A6 := Aside0.mk A60
          clear A60
          by_cases c7 : t238 = true
          · subst c7
            have H1 : ((letter_find.f k1 t230 x5_1 (⟨#[62]⟩ : ByteArray)).bind fun t239 => (if t239 = (t230.length : Int) then (if (x3_1.length : Int) > 32 then (if 0 ≤ (wrap64 ((x3_1.length : Int) - 32)) then (if (wrap64 ((x3_1.length : Int) - 32)) ≤ (x3_1.length : Int) then (none) else (none)) else (none)) else (some x3_1)) else (if 0 ≤ (wrap64 (x5_1 + 1)) then (if (wrap64 (x5_1 + 1)) ≤ t239 then (if t239 ≤ (t230.length : Int) then ((letter_text.f ((t230.take (t239 : Int).toNat).drop ((wrap64 (x5_1 + 1)) : Int).toNat) true).bind fun t249 => (if (t249.size : Int) > 2 then (if 1 ≤ (wrap64 ((t249.size : Int) - 1)) then (if (wrap64 ((t249.size : Int) - 1)) ≤ (t249.size : Int) then ((strings_Contains.f (t249.extract 1 ((wrap64 ((t249.size : Int) - 1)) : Int).toNat) (⟨#[64]⟩ : ByteArray)).bind fun t250 => (if t250 = true then (if x3_1.length < 8796093022208 then (letter_Ids.l0 k1 (x3_1 ++ [t249]) t230 (wrap64 (t239 + 1))) else (none)) else (letter_Ids.l0 k1 x3_1 t230 (wrap64 (t239 + 1))))) else (none)) else (none)) else (letter_Ids.l0 k1 x3_1 t230 (wrap64 (t239 + 1))))) else (none)) else (none)) else (none)))) = some r := by rw [if_pos rfl] at H; exact H
            clear H
            have H := H1
            clear H1
            replace H := Option.bind_eq_some_iff.mp H
            obtain ⟨t239, A80, H⟩ := H
            replace H : (if t239 = (t230.length : Int) then (if (x3_1.length : Int) > 32 then (if 0 ≤ (wrap64 ((x3_1.length : Int) - 32)) then (if (wrap64 ((x3_1.length : Int) - 32)) ≤ (x3_1.length : Int) then (none) else (none)) else (none)) else (some x3_1)) else (if 0 ≤ (wrap64 (x5_1 + 1)) then (if (wrap64 (x5_1 + 1)) ≤ t239 then (if t239 ≤ (t230.length : Int) then ((letter_text.f ((t230.take (t239 : Int).toNat).drop ((wrap64 (x5_1 + 1)) : Int).toNat) true).bind fun t249 => (if (t249.size : Int) > 2 then (if 1 ≤ (wrap64 ((t249.size : Int) - 1)) then (if (wrap64 ((t249.size : Int) - 1)) ≤ (t249.size : Int) then ((strings_Contains.f (t249.extract 1 ((wrap64 ((t249.size : Int) - 1)) : Int).toNat) (⟨#[64]⟩ : ByteArray)).bind fun t250 => (if t250 = true then (if x3_1.length < 8796093022208 then (letter_Ids.l0 k1 (x3_1 ++ [t249]) t230 (wrap64 (t239 + 1))) else (none)) else (letter_Ids.l0 k1 x3_1 t230 (wrap64 (t239 + 1))))) else (none)) else (none)) else (letter_Ids.l0 k1 x3_1 t230 (wrap64 (t239 + 1))))) else (none)) else (none)) else (none))) = some r := H
            have A8 := Aside0.mk A80
            clear A80
            by_cases c9 : t239 = (t230.length : Int)
            · rw [if_pos c9] at H
              have c9b0 : (t239 == (t230.length : Int)) = true := beq_iff_eq.mpr c9
              have c9b1 : (t239 != (t230.length : Int)) = false := bne_eq_false_iff_eq.mpr c9
              clear c9
              by_cases c10 : (x3_1.length : Int) > 32
              · rw [if_pos c10] at H
                have c10b0 : decide (32 < (x3_1.length : Int)) = true := decide_eq_true c10
                have c10b1 : decide (32 < x3_1.length) = true := decide_eq_true (by omega)
                clear c10
                obtain ⟨ji11, hji11⟩ : ∃ j_ : Int, (wrap64 ((x3_1.length : Int) - 32)) = j_ := ⟨_, rfl⟩
                replace H : (if 0 ≤ (ji11) then (if (ji11) ≤ (x3_1.length : Int) then (none) else (none)) else (none)) = some r := by first | (rw [hji11] at H; exact H) | (simp only [hji11] at H ⊢; exact H)
                (try rw [hji11] at A6)
                (try rw [hji11] at A8)
                have hji11w : (IntKind.i64.wrap ((x3_1.length : Int) - 32)) = ji11 := (i64_w _).trans hji11
                by_cases c12 : 0 ≤ (ji11)
                · rw [if_pos c12] at H
                  have c12b0 := eq_true c12
                  have c12b1 : decide (0 ≤ (ji11)) = true := decide_eq_true c12
                  clear c12
                  by_cases c13 : (ji11) ≤ (x3_1.length : Int)
                  · rw [if_pos c13] at H
                    have c13b0 := eq_true c13
                    have c13b1 : decide ((ji11) ≤ (x3_1.length : Int)) = true := decide_eq_true c13
                    clear c13
                    obtain ⟨y240, hy240⟩ : ∃ y_ : List ByteArray, y_ = (x3_1.drop ((ji11) : Int).toNat) := ⟨_, rfl⟩
                    replace H : (none) = some r := by first | (rw [hy240]; with_reducible exact H) | (have H2_ := (Option.bind_some _ _).symm.trans H; rw [hy240]; with_reducible exact H2_) | (have H2_ := (Option.bind_some _ _).symm.trans H; with_reducible exact H2_) | with_reducible exact H | (rw [hy240]; exact H) | exact H
                    have Ny240 := Aside0.mk hy240
                    clear hy240
                    exact absurd H (by simp)
                  · rw [if_neg c13] at H
                    exact absurd H (by simp)
                · rw [if_neg c12] at H
                  exact absurd H (by simp)
              · rw [if_neg c10] at H
                have c10b0 : decide (32 < (x3_1.length : Int)) = false := decide_eq_false c10
                have c10b1 : decide (32 < x3_1.length) = false := decide_eq_false (by omega)
                clear c10
                obtain rfl := Option.some.inj H
                obtain ⟨Ao14, co14, eo14⟩ := Kd.V_slice HO_4.out
                subst eo14
                have p237 : 0 ≤ (x5_1 : Int) := of_decide_eq_true (by first | (with_reducible assumption) | assumption)
                have q237 : x5_1 < (t230.length : Int) := of_decide_eq_true (by first | (with_reducible assumption) | assumption)
                obtain ⟨ad237, e237, hx237_0, hx237_1⟩ := at_T71 (Kd.V_reads' HO_4.out).2.2 x5_1 p237 q237
                cases e237
                replace p237 := eq_true p237
                replace q237 := eq_true q237
                go_wp2_with (first | ((with_reducible refine gate_callee (f := 34) rfl ?_); refine goesL_ (some 20) rfl rfl Tryd.func34 (by kernel_rfl) rfl #[.agg #[.int .i64 ((rd_T71 t230 x5_1).f0), .string ((rd_T71 t230 x5_1).f1)], .string (⟨#[60]⟩ : ByteArray)] rfl (by (try simp only [List.map_toArray, List.map_cons, List.map_nil]); first | done | rfl | (simp only [List.length_drop, List.length_take]; rfl)) ?_; (with_reducible refine (letter_piece_is.calls ((rd_T71 t230 x5_1).f0) ((rd_T71 t230 x5_1).f1) (⟨#[60]⟩ : ByteArray) true _ A6.out).mono ?_); rintro e w15 ⟨rfl, hb⟩; refine ⟨_, rfl, ?_⟩; have n0_ := Aside0.mk (Kd.R_below (by (with_reducible repeat (first | apply Kd.R_alloc | apply Kd.R_drewN | apply Kd.R_drew)); exact HO_3.out) hb); have n1_ := Aside0.mk (Kd.V_below (by (with_reducible repeat (first | apply Kd.V_alloc | apply Kd.V_drewN | apply Kd.V_drew)); exact HO_4.out) hb); have n2_ := Aside0.mk (below_step (by repeat (first | (with_reducible first | exact HB.out | apply below_alloc | apply pw_below_drewN | apply below_drew1) | exact HB.out)) hb); clear HO_3; clear HO_4; clear HB; have HO_3 := n0_; have HO_4 := n1_; have HB := n2_; clear n0_ n1_ n2_; (try clear hb); (try clear hb2); (try clear hk); (try clear hi)) | ((with_reducible refine gate_callee (f := 35) rfl ?_); refine goesL_ (some 24) rfl rfl Tryd.func35 (by kernel_rfl) rfl #[.slice (some ad237) t230.length co14, .int .i64 x5_1, .string (⟨#[62]⟩ : ByteArray)] rfl (by (try simp only [List.map_toArray, List.map_cons, List.map_nil]); first | done | rfl | (simp only [List.length_drop, List.length_take]; rfl)) ?_; (with_reducible refine (letter_find.calls k1 _ _ t230 x5_1 (⟨#[62]⟩ : ByteArray) t239 _ ?side1 ?side2 A8.out).mono ?_); (case side1 => repeat (first | exact (Kd.V_reads' HO_4.out).2.2 | (with_reducible refine Kd.C_alloc ?_ _) | (with_reducible refine Kd.C_drewN ?_ _) | (with_reducible refine Kd.C_drew ?_))); (case side2 => exact (Kd.V_reads' HO_4.out).2.1); rintro e w16 ⟨rfl, hb⟩; refine ⟨_, rfl, ?_⟩; have n0_ := Aside0.mk (Kd.R_below (by (with_reducible repeat (first | apply Kd.R_alloc | apply Kd.R_drewN | apply Kd.R_drew)); exact HO_3.out) hb); have n1_ := Aside0.mk (Kd.V_below (by (with_reducible repeat (first | apply Kd.V_alloc | apply Kd.V_drewN | apply Kd.V_drew)); exact HO_4.out) hb); have n2_ := Aside0.mk (below_step (by repeat (first | (with_reducible first | exact HB.out | apply below_alloc | apply pw_below_drewN | apply below_drew1) | exact HB.out)) hb); clear HO_3; clear HO_4; clear HB; have HO_3 := n0_; have HO_4 := n1_; have HB := n2_; clear n0_ n1_ n2_; (try clear hb); (try clear hb2); (try clear hk); (try clear hi); obtain ⟨Ao17, co17, eo17⟩ := Kd.R_slice HO_3.out; subst eo17))
                go_ret
                exact ⟨_, by first | rfl | (simp [errW_none, errW_some] <;> rfl) | (simp [*, errW_none, errW_some] <;> rfl), by (with_reducible repeat (first | apply Kd.R_alloc | apply Kd.R_drewN | apply Kd.R_drew)); exact HO_3.out, by repeat (first | (with_reducible first | exact HB.out | apply below_alloc | apply pw_below_drewN | apply below_drew1) | exact HB.out)⟩
            · rw [if_neg c9] at H
              have c9b0 : (t239 == (t230.length : Int)) = false := beq_eq_false_iff_ne.mpr c9
              have c9b1 : (t239 != (t230.length : Int)) = true := bne_iff_ne.mpr c9
              obtain ⟨ji18, hji18⟩ : ∃ j_ : Int, (wrap64 (x5_1 + 1)) = j_ := ⟨_, rfl⟩
              replace H : (if 0 ≤ (ji18) then (if (ji18) ≤ t239 then (if t239 ≤ (t230.length : Int) then ((letter_text.f ((t230.take (t239 : Int).toNat).drop ((ji18) : Int).toNat) true).bind fun t249 => (if (t249.size : Int) > 2 then (if 1 ≤ (wrap64 ((t249.size : Int) - 1)) then (if (wrap64 ((t249.size : Int) - 1)) ≤ (t249.size : Int) then ((strings_Contains.f (t249.extract 1 ((wrap64 ((t249.size : Int) - 1)) : Int).toNat) (⟨#[64]⟩ : ByteArray)).bind fun t250 => (if t250 = true then (if x3_1.length < 8796093022208 then (letter_Ids.l0 k1 (x3_1 ++ [t249]) t230 (wrap64 (t239 + 1))) else (none)) else (letter_Ids.l0 k1 x3_1 t230 (wrap64 (t239 + 1))))) else (none)) else (none)) else (letter_Ids.l0 k1 x3_1 t230 (wrap64 (t239 + 1))))) else (none)) else (none)) else (none)) = some r := by first | (rw [hji18] at H; exact H) | (simp only [hji18] at H ⊢; exact H)
              (try rw [hji18] at A6)
              (try rw [hji18] at A8)
              have hji18w : (IntKind.i64.wrap (x5_1 + 1)) = ji18 := (i64_w _).trans hji18
              by_cases c19 : 0 ≤ (ji18)
              · rw [if_pos c19] at H
                have c19b0 := eq_true c19
                have c19b1 : decide (0 ≤ (ji18)) = true := decide_eq_true c19
                clear c19
                by_cases c20 : (ji18) ≤ t239
                · rw [if_pos c20] at H
                  have c20b0 := eq_true c20
                  have c20b1 : decide ((ji18) ≤ t239) = true := decide_eq_true c20
                  clear c20
                  by_cases c21 : t239 ≤ (t230.length : Int)
                  · rw [if_pos c21] at H
                    have c21b0 := eq_true c21
                    have c21b1 : decide (t239 ≤ (t230.length : Int)) = true := decide_eq_true c21
                    clear c21
                    obtain ⟨y244, hy244⟩ : ∃ y_ : List (S71), y_ = ((t230.take (t239 : Int).toNat).drop ((ji18) : Int).toNat) := ⟨_, rfl⟩
                    replace H : ((letter_text.f y244 true).bind fun t249 => (if (t249.size : Int) > 2 then (if 1 ≤ (wrap64 ((t249.size : Int) - 1)) then (if (wrap64 ((t249.size : Int) - 1)) ≤ (t249.size : Int) then ((strings_Contains.f (t249.extract 1 ((wrap64 ((t249.size : Int) - 1)) : Int).toNat) (⟨#[64]⟩ : ByteArray)).bind fun t250 => (if t250 = true then (if x3_1.length < 8796093022208 then (letter_Ids.l0 k1 (x3_1 ++ [t249]) t230 (wrap64 (t239 + 1))) else (none)) else (letter_Ids.l0 k1 x3_1 t230 (wrap64 (t239 + 1))))) else (none)) else (none)) else (letter_Ids.l0 k1 x3_1 t230 (wrap64 (t239 + 1))))) = some r := by first | (rw [hy244]; with_reducible exact H) | (have H2_ := (Option.bind_some _ _).symm.trans H; rw [hy244]; with_reducible exact H2_) | (have H2_ := (Option.bind_some _ _).symm.trans H; with_reducible exact H2_) | with_reducible exact H | (rw [hy244]; exact H) | exact H
                    have Ny244 := Aside0.mk hy244
                    clear hy244
                    replace H := Option.bind_eq_some_iff.mp H
                    obtain ⟨t249, A220, H⟩ := H
                    replace H : (if (t249.size : Int) > 2 then (if 1 ≤ (wrap64 ((t249.size : Int) - 1)) then (if (wrap64 ((t249.size : Int) - 1)) ≤ (t249.size : Int) then ((strings_Contains.f (t249.extract 1 ((wrap64 ((t249.size : Int) - 1)) : Int).toNat) (⟨#[64]⟩ : ByteArray)).bind fun t250 => (if t250 = true then (if x3_1.length < 8796093022208 then (letter_Ids.l0 k1 (x3_1 ++ [t249]) t230 (wrap64 (t239 + 1))) else (none)) else (letter_Ids.l0 k1 x3_1 t230 (wrap64 (t239 + 1))))) else (none)) else (none)) else (letter_Ids.l0 k1 x3_1 t230 (wrap64 (t239 + 1)))) = some r := H
                    have A22 := Aside0.mk A220
                    clear A220
                    by_cases c23 : (t249.size : Int) > 2
                    · rw [if_pos c23] at H
                      have c23b0 : decide (2 < (t249.size : Int)) = true := decide_eq_true c23
                      have c23b1 : decide (2 < t249.size) = true := decide_eq_true (by omega)
                      clear c23
                      by_cases c24 : 1 ≤ (wrap64 ((t249.size : Int) - 1))
                      · rw [if_pos c24] at H
                        have c24b0 := eq_true c24
                        have c24b1 : decide (1 ≤ (wrap64 ((t249.size : Int) - 1))) = true := decide_eq_true c24
                        clear c24
                        by_cases c25 : (wrap64 ((t249.size : Int) - 1)) ≤ (t249.size : Int)
                        · rw [if_pos c25] at H
                          have c25b0 := eq_true c25
                          have c25b1 : decide ((wrap64 ((t249.size : Int) - 1)) ≤ (t249.size : Int)) = true := decide_eq_true c25
                          clear c25
                          replace H := Option.bind_eq_some_iff.mp H
                          obtain ⟨t250, A260, H⟩ := H
                          replace H : (if t250 = true then (if x3_1.length < 8796093022208 then (letter_Ids.l0 k1 (x3_1 ++ [t249]) t230 (wrap64 (t239 + 1))) else (none)) else (letter_Ids.l0 k1 x3_1 t230 (wrap64 (t239 + 1)))) = some r := H
                          have A26 := Aside0.mk A260
                          clear A260
                          by_cases c27 : t250 = true
                          · subst c27
                            have H1 : (if x3_1.length < 8796093022208 then (letter_Ids.l0 k1 (x3_1 ++ [t249]) t230 (wrap64 (t239 + 1))) else (none)) = some r := by rw [if_pos rfl] at H; exact H
                            clear H
                            have H := H1
                            clear H1
                            by_cases c28 : x3_1.length < 8796093022208
                            · rw [if_pos c28] at H
                              have LMc28 := Aside0.mk c28
                              clear c28
                              obtain ⟨y251, hy251⟩ : ∃ y_ : List ByteArray, y_ = (x3_1 ++ [t249]) := ⟨_, rfl⟩
                              replace H : (letter_Ids.l0 k1 y251 t230 (wrap64 (t239 + 1))) = some r := by first | (rw [hy251]; with_reducible exact H) | (have H2_ := (Option.bind_some _ _).symm.trans H; rw [hy251]; with_reducible exact H2_) | (have H2_ := (Option.bind_some _ _).symm.trans H; with_reducible exact H2_) | with_reducible exact H | (rw [hy251]; exact H) | exact H
                              have Ny251 := Aside0.mk hy251
                              clear hy251
                              have H' := Aside0.mk H
                              clear H
                              obtain ⟨Ao29, co29, eo29⟩ := Kd.V_slice HO_4.out
                              subst eo29
                              have p237 : 0 ≤ (x5_1 : Int) := of_decide_eq_true (by first | (with_reducible assumption) | assumption)
                              have q237 : x5_1 < (t230.length : Int) := of_decide_eq_true (by first | (with_reducible assumption) | assumption)
                              obtain ⟨ad237, e237, hx237_0, hx237_1⟩ := at_T71 (Kd.V_reads' HO_4.out).2.2 x5_1 p237 q237
                              cases e237
                              replace p237 := eq_true p237
                              replace q237 := eq_true q237
                              go_wp2_with (first | ((with_reducible refine gate_callee (f := 34) rfl ?_); refine goesL_ (some 20) rfl rfl Tryd.func34 (by kernel_rfl) rfl #[.agg #[.int .i64 ((rd_T71 t230 x5_1).f0), .string ((rd_T71 t230 x5_1).f1)], .string (⟨#[60]⟩ : ByteArray)] rfl (by (try simp only [List.map_toArray, List.map_cons, List.map_nil]); first | done | rfl | (simp only [List.length_drop, List.length_take]; rfl)) ?_; (with_reducible refine (letter_piece_is.calls ((rd_T71 t230 x5_1).f0) ((rd_T71 t230 x5_1).f1) (⟨#[60]⟩ : ByteArray) true _ A6.out).mono ?_); rintro e w30 ⟨rfl, hb⟩; refine ⟨_, rfl, ?_⟩; have n0_ := Aside0.mk (Kd.R_below (by (with_reducible repeat (first | apply Kd.R_alloc | apply Kd.R_drewN | apply Kd.R_drew)); exact HO_3.out) hb); have n1_ := Aside0.mk (Kd.V_below (by (with_reducible repeat (first | apply Kd.V_alloc | apply Kd.V_drewN | apply Kd.V_drew)); exact HO_4.out) hb); have n2_ := Aside0.mk (below_step (by repeat (first | (with_reducible first | exact HB.out | apply below_alloc | apply pw_below_drewN | apply below_drew1) | exact HB.out)) hb); clear HO_3; clear HO_4; clear HB; have HO_3 := n0_; have HO_4 := n1_; have HB := n2_; clear n0_ n1_ n2_; (try clear hb); (try clear hb2); (try clear hk); (try clear hi)) | ((with_reducible refine gate_callee (f := 35) rfl ?_); refine goesL_ (some 24) rfl rfl Tryd.func35 (by kernel_rfl) rfl #[.slice (some ad237) t230.length co29, .int .i64 x5_1, .string (⟨#[62]⟩ : ByteArray)] rfl (by (try simp only [List.map_toArray, List.map_cons, List.map_nil]); first | done | rfl | (simp only [List.length_drop, List.length_take]; rfl)) ?_; (with_reducible refine (letter_find.calls k1 _ _ t230 x5_1 (⟨#[62]⟩ : ByteArray) t239 _ ?side1 ?side2 A8.out).mono ?_); (case side1 => repeat (first | exact (Kd.V_reads' HO_4.out).2.2 | (with_reducible refine Kd.C_alloc ?_ _) | (with_reducible refine Kd.C_drewN ?_ _) | (with_reducible refine Kd.C_drew ?_))); (case side2 => exact (Kd.V_reads' HO_4.out).2.1); rintro e w31 ⟨rfl, hb⟩; refine ⟨_, rfl, ?_⟩; have n0_ := Aside0.mk (Kd.R_below (by (with_reducible repeat (first | apply Kd.R_alloc | apply Kd.R_drewN | apply Kd.R_drew)); exact HO_3.out) hb); have n1_ := Aside0.mk (Kd.V_below (by (with_reducible repeat (first | apply Kd.V_alloc | apply Kd.V_drewN | apply Kd.V_drew)); exact HO_4.out) hb); have n2_ := Aside0.mk (below_step (by repeat (first | (with_reducible first | exact HB.out | apply below_alloc | apply pw_below_drewN | apply below_drew1) | exact HB.out)) hb); clear HO_3; clear HO_4; clear HB; have HO_3 := n0_; have HO_4 := n1_; have HB := n2_; clear n0_ n1_ n2_; (try clear hb); (try clear hb2); (try clear hk); (try clear hi); have q32 : (t239 : Int) ≤ ((t230.length : Int) : Int) := of_decide_eq_true (by first | (with_reducible assumption) | assumption); obtain ⟨i032, hi032, _, hsz32, _⟩ := info_parts info71; have hroom32 : t230.length ≤ co29 := (Kd.V_reads' HO_4.out).2.1; have hC32 : Kd.F k71 _ _ (some ad237) t230.length t230 := (Kd.V_at (base := w.heap.size) HO_4.out).2.2; have ql32 : ((ji18) : Int) ≤ (t239 : Int) := of_decide_eq_true (by first | (with_reducible assumption) | assumption); have q032 : (0 : Int) ≤ ((ji18) : Int) := of_decide_eq_true (by first | (with_reducible assumption) | assumption); have hcut32 := cut_mid (P := Tryd.prog) 67 71 .i64 .i64 Tryd.underlying67 hi032 2 hsz32 (some ad237) t230.length co29 (ji18) t239 q032 ql32 q32 hroom32; have hr32 := Kd.F_mid (lo := ((ji18) : Int).toNat) (hi := (t239 : Int).toNat) (c := co29) hC32 (by omega) (by omega) hroom32; obtain ⟨A32, hA32⟩ : ∃ A1, A1 = (if co29 = ((ji18) : Int).toNat then (some ad237) else ((some ad237) : Option Addr).map (·.add (((ji18) : Int).toNat * 2))) := ⟨_, rfl⟩; obtain ⟨c32, hc32⟩ : ∃ c1, c1 = co29 - ((ji18) : Int).toNat := ⟨_, rfl⟩; have hy32 : y244.length = (t239 : Int).toNat - ((ji18) : Int).toNat := (by rw [Ny244.out, List.length_drop, List.length_take] <;> omega); rw [show ((t230).take (t239 : Int).toNat).drop ((ji18) : Int).toNat = y244 from Ny244.out.symm] at hr32; replace hr32 : Kd.F k71 _ _ A32 y244.length y244 := (by rw [hA32]; exact hr32); rw [← hy32, ← hA32, ← hc32] at hcut32; have HO248 := Aside0.mk (show Kd.V k71 71 _ w.heap.size _ (.slice A32 y244.length c32) y244 from Kd.V_mk (by rw [hy32, hc32]; exact Nat.sub_le_sub_right (Nat.le_trans (by omega) hroom32) _) hr32); have HC248 := Aside0.mk (show y244.length ≤ c32 from by rw [hy32, hc32]; exact Nat.sub_le_sub_right (Nat.le_trans (by omega) hroom32) _); clear hr32 hC32 hroom32 hi032 hsz32 hc32; have KY32 := Aside0.mk hy32; have KA32 := Aside0.mk hA32; clear hy32 hA32; replace q32 := eq_true q32) | ((with_reducible refine gate_callee (f := 31) rfl ?_); refine goesL_ (some 34) rfl rfl Tryd.func31 (by kernel_rfl) rfl #[.slice A32 y244.length c32, .bool true] rfl (by (try simp only [List.map_toArray, List.map_cons, List.map_nil]); first | done | rfl | (simp only [List.length_drop, List.length_take]; rfl)) ?_; (with_reducible refine (letter_text.calls _ _ y244 true t249 _ ?side1 ?side2 A22.out).mono ?_); (case side1 => repeat (first | exact (Kd.V_reads' HO248.out).2.2 | (with_reducible refine Kd.C_alloc ?_ _) | (with_reducible refine Kd.C_drewN ?_ _) | (with_reducible refine Kd.C_drew ?_))); (case side2 => exact (Kd.V_reads' HO248.out).2.1); rintro e w33 ⟨rfl, hb⟩; refine ⟨_, rfl, ?_⟩; have n0_ := Aside0.mk (Kd.R_below (by (with_reducible repeat (first | apply Kd.R_alloc | apply Kd.R_drewN | apply Kd.R_drew)); exact HO_3.out) hb); have n1_ := Aside0.mk (Kd.V_below (by (with_reducible repeat (first | apply Kd.V_alloc | apply Kd.V_drewN | apply Kd.V_drew)); exact HO_4.out) hb); have n2_ := Aside0.mk (Kd.V_below (by (with_reducible repeat (first | apply Kd.V_alloc | apply Kd.V_drewN | apply Kd.V_drew)); exact HO248.out) hb); have n3_ := Aside0.mk (below_step (by repeat (first | (with_reducible first | exact HB.out | apply below_alloc | apply pw_below_drewN | apply below_drew1) | exact HB.out)) hb); clear HO_3; clear HO_4; clear HO248; clear HB; have HO_3 := n0_; have HO_4 := n1_; have HO248 := n2_; have HB := n3_; clear n0_ n1_ n2_ n3_; (try clear hb); (try clear hb2); (try clear hk); (try clear hi)) | (go_at_call 36; (with_reducible refine (strings_Contains.calls (t249.extract 1 ((wrap64 ((t249.size : Int) - 1)) : Int).toNat) (⟨#[64]⟩ : ByteArray) true _ ?side1 A26.out).mono ?_); (case side1 => exact Good.below HG.out (by repeat (first | (with_reducible first | exact HB.out | apply below_alloc | apply pw_below_drewN | apply below_drew1) | exact HB.out))); rintro e w34 ⟨rfl, hb⟩; have n0_ := Aside0.mk (Kd.R_below (by (with_reducible repeat (first | apply Kd.R_alloc | apply Kd.R_drewN | apply Kd.R_drew)); exact HO_3.out) hb); have n1_ := Aside0.mk (Kd.V_below (by (with_reducible repeat (first | apply Kd.V_alloc | apply Kd.V_drewN | apply Kd.V_drew)); exact HO_4.out) hb); have n2_ := Aside0.mk (Kd.V_below (by (with_reducible repeat (first | apply Kd.V_alloc | apply Kd.V_drewN | apply Kd.V_drew)); exact HO248.out) hb); have n3_ := Aside0.mk (below_step (by repeat (first | (with_reducible first | exact HB.out | apply below_alloc | apply pw_below_drewN | apply below_drew1) | exact HB.out)) hb); clear HO_3; clear HO_4; clear HO248; clear HB; have HO_3 := n0_; have HO_4 := n1_; have HO248 := n2_; have HB := n3_; clear n0_ n1_ n2_ n3_; (try clear hb); (try clear hb2); (try clear hk); (try clear hi)) | ((with_reducible refine gate_builtin (b := .append) (xs := #[.tmp 46, .tmp 48]) rfl ?_); (try (refine gate_guard (by rfl) ?_; dsimp only)); at_builtin; refine Kd.R_append Kd.string (w0 := w) w.heap.size rfl (.tmp 46) (.tmp 48) 26 9 (.string ⟨#[]⟩) 16 rfl Tryd.underlying26 info9 rfl (by decide) (by omega) u3 x3_1 t249 [.string t249] (fun _ => True) (fun _ => False) rfl rfl ?aP (fun _ hk => hk.elim) ?aF ?aO ?aB ?aS ?aL ?_; (case aP => exact rfl); (case aB => exact (by repeat (first | (with_reducible first | exact HB.out | apply below_alloc | apply pw_below_drewN | apply below_drew1) | exact HB.out))); (case aF => exact (fun _ _ => trivial)); (case aO => exact (by (with_reducible repeat (first | apply Kd.R_alloc | apply Kd.R_drewN | apply Kd.R_drew)); exact HO_3.out)); (case aS => exact (below_size (by repeat (first | (with_reducible first | exact HB.out | apply below_alloc | apply pw_below_drewN | apply below_drew1) | exact HB.out)))); (case aL => have := LMc28.out; omega); intro v252 w35 ho hb hg hat; rw [← Ny251.out] at ho; have n0_ := Aside0.mk (Kd.V_afterv (ok := (fun _ => True)) (by (with_reducible repeat (first | apply Kd.V_alloc | apply Kd.V_drewN | apply Kd.V_drew)); exact Kd.V_mono HO_4.out (fun _ hk => ⟨trivial, hk⟩)) hg hat); have n1_ := Aside0.mk (Kd.V_afterv (ok := (fun _ => True)) (by (with_reducible repeat (first | apply Kd.V_alloc | apply Kd.V_drewN | apply Kd.V_drew)); exact Kd.V_mono HO248.out (fun _ hk => ⟨trivial, hk⟩)) hg hat); have n2_ := Aside0.mk (hb); have n3_ := Aside0.mk (ho); clear HO_4; clear HO248; clear HB; clear HO_3; have HO_4 := n0_; have HO248 := n1_; have HB := n2_; have HO253 := n3_; clear n0_ n1_ n2_ n3_; clear ho hb hg hat))
                              go_roundg k1
                              case measure => have := HK1.out; omega
                              case rel => exact ⟨(y251), (wrap64 (t239 + 1)), (by first | rfl | (simp; done) | (simp [*]; done)), H', ⟨by have := HK1.out; omega⟩, ⟨by (with_reducible repeat (first | apply Kd.R_alloc | apply Kd.R_drewN | apply Kd.R_drew)); exact HO253.out⟩, ⟨by (with_reducible repeat (first | apply Kd.V_alloc | apply Kd.V_drewN | apply Kd.V_drew)); exact Kd.V_mono HO_4.out (fun _ hk => hk.2)⟩, ⟨by repeat (first | (with_reducible first | exact HB.out | apply below_alloc | apply pw_below_drewN | apply below_drew1) | exact HB.out)⟩⟩
                            · rw [if_neg c28] at H
                              exact absurd H (by simp)
                          · replace c27 := Bool.eq_false_iff.mpr c27
                            subst c27
                            have H1 : (letter_Ids.l0 k1 x3_1 t230 (wrap64 (t239 + 1))) = some r := by rw [if_neg (show ¬ (false = true) by decide)] at H; exact H
                            clear H
                            have H := H1
                            clear H1
                            have H' := Aside0.mk H
                            clear H
                            obtain ⟨Ao36, co36, eo36⟩ := Kd.V_slice HO_4.out
                            subst eo36
                            have p237 : 0 ≤ (x5_1 : Int) := of_decide_eq_true (by first | (with_reducible assumption) | assumption)
                            have q237 : x5_1 < (t230.length : Int) := of_decide_eq_true (by first | (with_reducible assumption) | assumption)
                            obtain ⟨ad237, e237, hx237_0, hx237_1⟩ := at_T71 (Kd.V_reads' HO_4.out).2.2 x5_1 p237 q237
                            cases e237
                            replace p237 := eq_true p237
                            replace q237 := eq_true q237
                            go_wp2_with (first | ((with_reducible refine gate_callee (f := 34) rfl ?_); refine goesL_ (some 20) rfl rfl Tryd.func34 (by kernel_rfl) rfl #[.agg #[.int .i64 ((rd_T71 t230 x5_1).f0), .string ((rd_T71 t230 x5_1).f1)], .string (⟨#[60]⟩ : ByteArray)] rfl (by (try simp only [List.map_toArray, List.map_cons, List.map_nil]); first | done | rfl | (simp only [List.length_drop, List.length_take]; rfl)) ?_; (with_reducible refine (letter_piece_is.calls ((rd_T71 t230 x5_1).f0) ((rd_T71 t230 x5_1).f1) (⟨#[60]⟩ : ByteArray) true _ A6.out).mono ?_); rintro e w37 ⟨rfl, hb⟩; refine ⟨_, rfl, ?_⟩; have n0_ := Aside0.mk (Kd.R_below (by (with_reducible repeat (first | apply Kd.R_alloc | apply Kd.R_drewN | apply Kd.R_drew)); exact HO_3.out) hb); have n1_ := Aside0.mk (Kd.V_below (by (with_reducible repeat (first | apply Kd.V_alloc | apply Kd.V_drewN | apply Kd.V_drew)); exact HO_4.out) hb); have n2_ := Aside0.mk (below_step (by repeat (first | (with_reducible first | exact HB.out | apply below_alloc | apply pw_below_drewN | apply below_drew1) | exact HB.out)) hb); clear HO_3; clear HO_4; clear HB; have HO_3 := n0_; have HO_4 := n1_; have HB := n2_; clear n0_ n1_ n2_; (try clear hb); (try clear hb2); (try clear hk); (try clear hi)) | ((with_reducible refine gate_callee (f := 35) rfl ?_); refine goesL_ (some 24) rfl rfl Tryd.func35 (by kernel_rfl) rfl #[.slice (some ad237) t230.length co36, .int .i64 x5_1, .string (⟨#[62]⟩ : ByteArray)] rfl (by (try simp only [List.map_toArray, List.map_cons, List.map_nil]); first | done | rfl | (simp only [List.length_drop, List.length_take]; rfl)) ?_; (with_reducible refine (letter_find.calls k1 _ _ t230 x5_1 (⟨#[62]⟩ : ByteArray) t239 _ ?side1 ?side2 A8.out).mono ?_); (case side1 => repeat (first | exact (Kd.V_reads' HO_4.out).2.2 | (with_reducible refine Kd.C_alloc ?_ _) | (with_reducible refine Kd.C_drewN ?_ _) | (with_reducible refine Kd.C_drew ?_))); (case side2 => exact (Kd.V_reads' HO_4.out).2.1); rintro e w38 ⟨rfl, hb⟩; refine ⟨_, rfl, ?_⟩; have n0_ := Aside0.mk (Kd.R_below (by (with_reducible repeat (first | apply Kd.R_alloc | apply Kd.R_drewN | apply Kd.R_drew)); exact HO_3.out) hb); have n1_ := Aside0.mk (Kd.V_below (by (with_reducible repeat (first | apply Kd.V_alloc | apply Kd.V_drewN | apply Kd.V_drew)); exact HO_4.out) hb); have n2_ := Aside0.mk (below_step (by repeat (first | (with_reducible first | exact HB.out | apply below_alloc | apply pw_below_drewN | apply below_drew1) | exact HB.out)) hb); clear HO_3; clear HO_4; clear HB; have HO_3 := n0_; have HO_4 := n1_; have HB := n2_; clear n0_ n1_ n2_; (try clear hb); (try clear hb2); (try clear hk); (try clear hi); have q39 : (t239 : Int) ≤ ((t230.length : Int) : Int) := of_decide_eq_true (by first | (with_reducible assumption) | assumption); obtain ⟨i039, hi039, _, hsz39, _⟩ := info_parts info71; have hroom39 : t230.length ≤ co36 := (Kd.V_reads' HO_4.out).2.1; have hC39 : Kd.F k71 _ _ (some ad237) t230.length t230 := (Kd.V_at (base := w.heap.size) HO_4.out).2.2; have ql39 : ((ji18) : Int) ≤ (t239 : Int) := of_decide_eq_true (by first | (with_reducible assumption) | assumption); have q039 : (0 : Int) ≤ ((ji18) : Int) := of_decide_eq_true (by first | (with_reducible assumption) | assumption); have hcut39 := cut_mid (P := Tryd.prog) 67 71 .i64 .i64 Tryd.underlying67 hi039 2 hsz39 (some ad237) t230.length co36 (ji18) t239 q039 ql39 q39 hroom39; have hr39 := Kd.F_mid (lo := ((ji18) : Int).toNat) (hi := (t239 : Int).toNat) (c := co36) hC39 (by omega) (by omega) hroom39; obtain ⟨A39, hA39⟩ : ∃ A1, A1 = (if co36 = ((ji18) : Int).toNat then (some ad237) else ((some ad237) : Option Addr).map (·.add (((ji18) : Int).toNat * 2))) := ⟨_, rfl⟩; obtain ⟨c39, hc39⟩ : ∃ c1, c1 = co36 - ((ji18) : Int).toNat := ⟨_, rfl⟩; have hy39 : y244.length = (t239 : Int).toNat - ((ji18) : Int).toNat := (by rw [Ny244.out, List.length_drop, List.length_take] <;> omega); rw [show ((t230).take (t239 : Int).toNat).drop ((ji18) : Int).toNat = y244 from Ny244.out.symm] at hr39; replace hr39 : Kd.F k71 _ _ A39 y244.length y244 := (by rw [hA39]; exact hr39); rw [← hy39, ← hA39, ← hc39] at hcut39; have HO248 := Aside0.mk (show Kd.V k71 71 _ w.heap.size _ (.slice A39 y244.length c39) y244 from Kd.V_mk (by rw [hy39, hc39]; exact Nat.sub_le_sub_right (Nat.le_trans (by omega) hroom39) _) hr39); have HC248 := Aside0.mk (show y244.length ≤ c39 from by rw [hy39, hc39]; exact Nat.sub_le_sub_right (Nat.le_trans (by omega) hroom39) _); clear hr39 hC39 hroom39 hi039 hsz39 hc39; have KY39 := Aside0.mk hy39; have KA39 := Aside0.mk hA39; clear hy39 hA39; replace q39 := eq_true q39) | ((with_reducible refine gate_callee (f := 31) rfl ?_); refine goesL_ (some 34) rfl rfl Tryd.func31 (by kernel_rfl) rfl #[.slice A39 y244.length c39, .bool true] rfl (by (try simp only [List.map_toArray, List.map_cons, List.map_nil]); first | done | rfl | (simp only [List.length_drop, List.length_take]; rfl)) ?_; (with_reducible refine (letter_text.calls _ _ y244 true t249 _ ?side1 ?side2 A22.out).mono ?_); (case side1 => repeat (first | exact (Kd.V_reads' HO248.out).2.2 | (with_reducible refine Kd.C_alloc ?_ _) | (with_reducible refine Kd.C_drewN ?_ _) | (with_reducible refine Kd.C_drew ?_))); (case side2 => exact (Kd.V_reads' HO248.out).2.1); rintro e w40 ⟨rfl, hb⟩; refine ⟨_, rfl, ?_⟩; have n0_ := Aside0.mk (Kd.R_below (by (with_reducible repeat (first | apply Kd.R_alloc | apply Kd.R_drewN | apply Kd.R_drew)); exact HO_3.out) hb); have n1_ := Aside0.mk (Kd.V_below (by (with_reducible repeat (first | apply Kd.V_alloc | apply Kd.V_drewN | apply Kd.V_drew)); exact HO_4.out) hb); have n2_ := Aside0.mk (Kd.V_below (by (with_reducible repeat (first | apply Kd.V_alloc | apply Kd.V_drewN | apply Kd.V_drew)); exact HO248.out) hb); have n3_ := Aside0.mk (below_step (by repeat (first | (with_reducible first | exact HB.out | apply below_alloc | apply pw_below_drewN | apply below_drew1) | exact HB.out)) hb); clear HO_3; clear HO_4; clear HO248; clear HB; have HO_3 := n0_; have HO_4 := n1_; have HO248 := n2_; have HB := n3_; clear n0_ n1_ n2_ n3_; (try clear hb); (try clear hb2); (try clear hk); (try clear hi)) | (go_at_call 36; (with_reducible refine (strings_Contains.calls (t249.extract 1 ((wrap64 ((t249.size : Int) - 1)) : Int).toNat) (⟨#[64]⟩ : ByteArray) false _ ?side1 A26.out).mono ?_); (case side1 => exact Good.below HG.out (by repeat (first | (with_reducible first | exact HB.out | apply below_alloc | apply pw_below_drewN | apply below_drew1) | exact HB.out))); rintro e w41 ⟨rfl, hb⟩; have n0_ := Aside0.mk (Kd.R_below (by (with_reducible repeat (first | apply Kd.R_alloc | apply Kd.R_drewN | apply Kd.R_drew)); exact HO_3.out) hb); have n1_ := Aside0.mk (Kd.V_below (by (with_reducible repeat (first | apply Kd.V_alloc | apply Kd.V_drewN | apply Kd.V_drew)); exact HO_4.out) hb); have n2_ := Aside0.mk (Kd.V_below (by (with_reducible repeat (first | apply Kd.V_alloc | apply Kd.V_drewN | apply Kd.V_drew)); exact HO248.out) hb); have n3_ := Aside0.mk (below_step (by repeat (first | (with_reducible first | exact HB.out | apply below_alloc | apply pw_below_drewN | apply below_drew1) | exact HB.out)) hb); clear HO_3; clear HO_4; clear HO248; clear HB; have HO_3 := n0_; have HO_4 := n1_; have HO248 := n2_; have HB := n3_; clear n0_ n1_ n2_ n3_; (try clear hb); (try clear hb2); (try clear hk); (try clear hi)))
                            go_roundg k1
                            case measure => have := HK1.out; omega
                            case rel => exact ⟨(x3_1), (wrap64 (t239 + 1)), (by first | rfl | (simp; done) | (simp [*]; done)), H', ⟨by have := HK1.out; omega⟩, ⟨by (with_reducible repeat (first | apply Kd.R_alloc | apply Kd.R_drewN | apply Kd.R_drew)); exact HO_3.out⟩, ⟨by (with_reducible repeat (first | apply Kd.V_alloc | apply Kd.V_drewN | apply Kd.V_drew)); exact HO_4.out⟩, ⟨by repeat (first | (with_reducible first | exact HB.out | apply below_alloc | apply pw_below_drewN | apply below_drew1) | exact HB.out)⟩⟩
                        · rw [if_neg c25] at H
                          exact absurd H (by simp)
                      · rw [if_neg c24] at H
                        exact absurd H (by simp)
                    · rw [if_neg c23] at H
                      have c23b0 : decide (2 < (t249.size : Int)) = false := decide_eq_false c23
                      have c23b1 : decide (2 < t249.size) = false := decide_eq_false (by omega)
                      clear c23
                      have H' := Aside0.mk H
                      clear H
                      obtain ⟨Ao42, co42, eo42⟩ := Kd.V_slice HO_4.out
                      subst eo42
                      have p237 : 0 ≤ (x5_1 : Int) := of_decide_eq_true (by first | (with_reducible assumption) | assumption)
                      have q237 : x5_1 < (t230.length : Int) := of_decide_eq_true (by first | (with_reducible assumption) | assumption)
                      obtain ⟨ad237, e237, hx237_0, hx237_1⟩ := at_T71 (Kd.V_reads' HO_4.out).2.2 x5_1 p237 q237
                      cases e237
                      replace p237 := eq_true p237
                      replace q237 := eq_true q237
                      go_wp2_with (first | ((with_reducible refine gate_callee (f := 34) rfl ?_); refine goesL_ (some 20) rfl rfl Tryd.func34 (by kernel_rfl) rfl #[.agg #[.int .i64 ((rd_T71 t230 x5_1).f0), .string ((rd_T71 t230 x5_1).f1)], .string (⟨#[60]⟩ : ByteArray)] rfl (by (try simp only [List.map_toArray, List.map_cons, List.map_nil]); first | done | rfl | (simp only [List.length_drop, List.length_take]; rfl)) ?_; (with_reducible refine (letter_piece_is.calls ((rd_T71 t230 x5_1).f0) ((rd_T71 t230 x5_1).f1) (⟨#[60]⟩ : ByteArray) true _ A6.out).mono ?_); rintro e w43 ⟨rfl, hb⟩; refine ⟨_, rfl, ?_⟩; have n0_ := Aside0.mk (Kd.R_below (by (with_reducible repeat (first | apply Kd.R_alloc | apply Kd.R_drewN | apply Kd.R_drew)); exact HO_3.out) hb); have n1_ := Aside0.mk (Kd.V_below (by (with_reducible repeat (first | apply Kd.V_alloc | apply Kd.V_drewN | apply Kd.V_drew)); exact HO_4.out) hb); have n2_ := Aside0.mk (below_step (by repeat (first | (with_reducible first | exact HB.out | apply below_alloc | apply pw_below_drewN | apply below_drew1) | exact HB.out)) hb); clear HO_3; clear HO_4; clear HB; have HO_3 := n0_; have HO_4 := n1_; have HB := n2_; clear n0_ n1_ n2_; (try clear hb); (try clear hb2); (try clear hk); (try clear hi)) | ((with_reducible refine gate_callee (f := 35) rfl ?_); refine goesL_ (some 24) rfl rfl Tryd.func35 (by kernel_rfl) rfl #[.slice (some ad237) t230.length co42, .int .i64 x5_1, .string (⟨#[62]⟩ : ByteArray)] rfl (by (try simp only [List.map_toArray, List.map_cons, List.map_nil]); first | done | rfl | (simp only [List.length_drop, List.length_take]; rfl)) ?_; (with_reducible refine (letter_find.calls k1 _ _ t230 x5_1 (⟨#[62]⟩ : ByteArray) t239 _ ?side1 ?side2 A8.out).mono ?_); (case side1 => repeat (first | exact (Kd.V_reads' HO_4.out).2.2 | (with_reducible refine Kd.C_alloc ?_ _) | (with_reducible refine Kd.C_drewN ?_ _) | (with_reducible refine Kd.C_drew ?_))); (case side2 => exact (Kd.V_reads' HO_4.out).2.1); rintro e w44 ⟨rfl, hb⟩; refine ⟨_, rfl, ?_⟩; have n0_ := Aside0.mk (Kd.R_below (by (with_reducible repeat (first | apply Kd.R_alloc | apply Kd.R_drewN | apply Kd.R_drew)); exact HO_3.out) hb); have n1_ := Aside0.mk (Kd.V_below (by (with_reducible repeat (first | apply Kd.V_alloc | apply Kd.V_drewN | apply Kd.V_drew)); exact HO_4.out) hb); have n2_ := Aside0.mk (below_step (by repeat (first | (with_reducible first | exact HB.out | apply below_alloc | apply pw_below_drewN | apply below_drew1) | exact HB.out)) hb); clear HO_3; clear HO_4; clear HB; have HO_3 := n0_; have HO_4 := n1_; have HB := n2_; clear n0_ n1_ n2_; (try clear hb); (try clear hb2); (try clear hk); (try clear hi); have q45 : (t239 : Int) ≤ ((t230.length : Int) : Int) := of_decide_eq_true (by first | (with_reducible assumption) | assumption); obtain ⟨i045, hi045, _, hsz45, _⟩ := info_parts info71; have hroom45 : t230.length ≤ co42 := (Kd.V_reads' HO_4.out).2.1; have hC45 : Kd.F k71 _ _ (some ad237) t230.length t230 := (Kd.V_at (base := w.heap.size) HO_4.out).2.2; have ql45 : ((ji18) : Int) ≤ (t239 : Int) := of_decide_eq_true (by first | (with_reducible assumption) | assumption); have q045 : (0 : Int) ≤ ((ji18) : Int) := of_decide_eq_true (by first | (with_reducible assumption) | assumption); have hcut45 := cut_mid (P := Tryd.prog) 67 71 .i64 .i64 Tryd.underlying67 hi045 2 hsz45 (some ad237) t230.length co42 (ji18) t239 q045 ql45 q45 hroom45; have hr45 := Kd.F_mid (lo := ((ji18) : Int).toNat) (hi := (t239 : Int).toNat) (c := co42) hC45 (by omega) (by omega) hroom45; obtain ⟨A45, hA45⟩ : ∃ A1, A1 = (if co42 = ((ji18) : Int).toNat then (some ad237) else ((some ad237) : Option Addr).map (·.add (((ji18) : Int).toNat * 2))) := ⟨_, rfl⟩; obtain ⟨c45, hc45⟩ : ∃ c1, c1 = co42 - ((ji18) : Int).toNat := ⟨_, rfl⟩; have hy45 : y244.length = (t239 : Int).toNat - ((ji18) : Int).toNat := (by rw [Ny244.out, List.length_drop, List.length_take] <;> omega); rw [show ((t230).take (t239 : Int).toNat).drop ((ji18) : Int).toNat = y244 from Ny244.out.symm] at hr45; replace hr45 : Kd.F k71 _ _ A45 y244.length y244 := (by rw [hA45]; exact hr45); rw [← hy45, ← hA45, ← hc45] at hcut45; have HO248 := Aside0.mk (show Kd.V k71 71 _ w.heap.size _ (.slice A45 y244.length c45) y244 from Kd.V_mk (by rw [hy45, hc45]; exact Nat.sub_le_sub_right (Nat.le_trans (by omega) hroom45) _) hr45); have HC248 := Aside0.mk (show y244.length ≤ c45 from by rw [hy45, hc45]; exact Nat.sub_le_sub_right (Nat.le_trans (by omega) hroom45) _); clear hr45 hC45 hroom45 hi045 hsz45 hc45; have KY45 := Aside0.mk hy45; have KA45 := Aside0.mk hA45; clear hy45 hA45; replace q45 := eq_true q45) | ((with_reducible refine gate_callee (f := 31) rfl ?_); refine goesL_ (some 34) rfl rfl Tryd.func31 (by kernel_rfl) rfl #[.slice A45 y244.length c45, .bool true] rfl (by (try simp only [List.map_toArray, List.map_cons, List.map_nil]); first | done | rfl | (simp only [List.length_drop, List.length_take]; rfl)) ?_; (with_reducible refine (letter_text.calls _ _ y244 true t249 _ ?side1 ?side2 A22.out).mono ?_); (case side1 => repeat (first | exact (Kd.V_reads' HO248.out).2.2 | (with_reducible refine Kd.C_alloc ?_ _) | (with_reducible refine Kd.C_drewN ?_ _) | (with_reducible refine Kd.C_drew ?_))); (case side2 => exact (Kd.V_reads' HO248.out).2.1); rintro e w46 ⟨rfl, hb⟩; refine ⟨_, rfl, ?_⟩; have n0_ := Aside0.mk (Kd.R_below (by (with_reducible repeat (first | apply Kd.R_alloc | apply Kd.R_drewN | apply Kd.R_drew)); exact HO_3.out) hb); have n1_ := Aside0.mk (Kd.V_below (by (with_reducible repeat (first | apply Kd.V_alloc | apply Kd.V_drewN | apply Kd.V_drew)); exact HO_4.out) hb); have n2_ := Aside0.mk (Kd.V_below (by (with_reducible repeat (first | apply Kd.V_alloc | apply Kd.V_drewN | apply Kd.V_drew)); exact HO248.out) hb); have n3_ := Aside0.mk (below_step (by repeat (first | (with_reducible first | exact HB.out | apply below_alloc | apply pw_below_drewN | apply below_drew1) | exact HB.out)) hb); clear HO_3; clear HO_4; clear HO248; clear HB; have HO_3 := n0_; have HO_4 := n1_; have HO248 := n2_; have HB := n3_; clear n0_ n1_ n2_ n3_; (try clear hb); (try clear hb2); (try clear hk); (try clear hi)))
                      go_roundg k1
                      case measure => have := HK1.out; omega
                      case rel => exact ⟨(x3_1), (wrap64 (t239 + 1)), (by first | rfl | (simp; done) | (simp [*]; done)), H', ⟨by have := HK1.out; omega⟩, ⟨by (with_reducible repeat (first | apply Kd.R_alloc | apply Kd.R_drewN | apply Kd.R_drew)); exact HO_3.out⟩, ⟨by (with_reducible repeat (first | apply Kd.V_alloc | apply Kd.V_drewN | apply Kd.V_drew)); exact HO_4.out⟩, ⟨by repeat (first | (with_reducible first | exact HB.out | apply below_alloc | apply pw_below_drewN | apply below_drew1) | exact HB.out)⟩⟩
                  · rw [if_neg c21] at H
                    exact absurd H (by simp)
                · rw [if_neg c20] at H
                  exact absurd H (by simp)
              · rw [if_neg c19] at H
                exact absurd H (by simp)
          · replace c7 := Bool.eq_false_iff.mpr c7
            subst c7
            have H1 : (letter_Ids.l0 k1 x3_1 t230 (wrap64 (x5_1 + 1))) = some r := by rw [if_neg (show ¬ (false = true) by decide)] at H; exact H
            clear H
            have H := H1
            clear H1
            have H' := Aside0.mk H
            clear H
            obtain ⟨Ao47, co47, eo47⟩ := Kd.V_slice HO_4.out
            subst eo47
            have p237 : 0 ≤ (x5_1 : Int) := of_decide_eq_true (by first | (with_reducible assumption) | assumption)
            have q237 : x5_1 < (t230.length : Int) := of_decide_eq_true (by first | (with_reducible assumption) | assumption)
            obtain ⟨ad237, e237, hx237_0, hx237_1⟩ := at_T71 (Kd.V_reads' HO_4.out).2.2 x5_1 p237 q237
            cases e237
            replace p237 := eq_true p237
            replace q237 := eq_true q237
            go_wp2_with (first | ((with_reducible refine gate_callee (f := 34) rfl ?_); refine goesL_ (some 20) rfl rfl Tryd.func34 (by kernel_rfl) rfl #[.agg #[.int .i64 ((rd_T71 t230 x5_1).f0), .string ((rd_T71 t230 x5_1).f1)], .string (⟨#[60]⟩ : ByteArray)] rfl (by (try simp only [List.map_toArray, List.map_cons, List.map_nil]); first | done | rfl | (simp only [List.length_drop, List.length_take]; rfl)) ?_; (with_reducible refine (letter_piece_is.calls ((rd_T71 t230 x5_1).f0) ((rd_T71 t230 x5_1).f1) (⟨#[60]⟩ : ByteArray) false _ A6.out).mono ?_); rintro e w48 ⟨rfl, hb⟩; refine ⟨_, rfl, ?_⟩; have n0_ := Aside0.mk (Kd.R_below (by (with_reducible repeat (first | apply Kd.R_alloc | apply Kd.R_drewN | apply Kd.R_drew)); exact HO_3.out) hb); have n1_ := Aside0.mk (Kd.V_below (by (with_reducible repeat (first | apply Kd.V_alloc | apply Kd.V_drewN | apply Kd.V_drew)); exact HO_4.out) hb); have n2_ := Aside0.mk (below_step (by repeat (first | (with_reducible first | exact HB.out | apply below_alloc | apply pw_below_drewN | apply below_drew1) | exact HB.out)) hb); clear HO_3; clear HO_4; clear HB; have HO_3 := n0_; have HO_4 := n1_; have HB := n2_; clear n0_ n1_ n2_; (try clear hb); (try clear hb2); (try clear hk); (try clear hi)))
            go_roundg k1
            case measure => have := HK1.out; omega
            case rel => exact ⟨(x3_1), (wrap64 (x5_1 + 1)), (by first | rfl | (simp; done) | (simp [*]; done)), H', ⟨by have := HK1.out; omega⟩, ⟨by (with_reducible repeat (first | apply Kd.R_alloc | apply Kd.R_drewN | apply Kd.R_drew)); exact HO_3.out⟩, ⟨by (with_reducible repeat (first | apply Kd.V_alloc | apply Kd.V_drewN | apply Kd.V_drew)); exact HO_4.out⟩, ⟨by repeat (first | (with_reducible first | exact HB.out | apply below_alloc | apply pw_below_drewN | apply below_drew1) | exact HB.out)⟩⟩
        · rw [if_neg c5] at H
          exact absurd H (by simp)
      · rw [if_neg c4] at H
        have c4b0 : decide (x5_1 < (t230.length : Int)) = false := decide_eq_false c4
        clear c4
        by_cases c49 : (x3_1.length : Int) > 32
        · rw [if_pos c49] at H
          have c49b0 : decide (32 < (x3_1.length : Int)) = true := decide_eq_true c49
          have c49b1 : decide (32 < x3_1.length) = true := decide_eq_true (by omega)
          clear c49
          obtain ⟨ji50, hji50⟩ : ∃ j_ : Int, (wrap64 ((x3_1.length : Int) - 32)) = j_ := ⟨_, rfl⟩
          replace H : (if 0 ≤ (ji50) then (if (ji50) ≤ (x3_1.length : Int) then (none) else (none)) else (none)) = some r := by first | (rw [hji50] at H; exact H) | (simp only [hji50] at H ⊢; exact H)
          have hji50w : (IntKind.i64.wrap ((x3_1.length : Int) - 32)) = ji50 := (i64_w _).trans hji50
          by_cases c51 : 0 ≤ (ji50)
          · rw [if_pos c51] at H
            have c51b0 := eq_true c51
            have c51b1 : decide (0 ≤ (ji50)) = true := decide_eq_true c51
            clear c51
            by_cases c52 : (ji50) ≤ (x3_1.length : Int)
            · rw [if_pos c52] at H
              have c52b0 := eq_true c52
              have c52b1 : decide ((ji50) ≤ (x3_1.length : Int)) = true := decide_eq_true c52
              clear c52
              obtain ⟨y233, hy233⟩ : ∃ y_ : List ByteArray, y_ = (x3_1.drop ((ji50) : Int).toNat) := ⟨_, rfl⟩
              replace H : (none) = some r := by first | (rw [hy233]; with_reducible exact H) | (have H2_ := (Option.bind_some _ _).symm.trans H; rw [hy233]; with_reducible exact H2_) | (have H2_ := (Option.bind_some _ _).symm.trans H; with_reducible exact H2_) | with_reducible exact H | (rw [hy233]; exact H) | exact H
              have Ny233 := Aside0.mk hy233
              clear hy233
              exact absurd H (by simp)
            · rw [if_neg c52] at H
              exact absurd H (by simp)
          · rw [if_neg c51] at H
            exact absurd H (by simp)
        · rw [if_neg c49] at H
          have c49b0 : decide (32 < (x3_1.length : Int)) = false := decide_eq_false c49
          have c49b1 : decide (32 < x3_1.length) = false := decide_eq_false (by omega)
          clear c49
          obtain rfl := Option.some.inj H
          obtain ⟨Ao53, co53, eo53⟩ := Kd.V_slice HO_4.out
          subst eo53
          obtain ⟨Ao54, co54, eo54⟩ := Kd.R_slice HO_3.out
          subst eo54
          go_wp2
          go_ret
          exact ⟨_, by first | rfl | (simp [errW_none, errW_some] <;> rfl) | (simp [*, errW_none, errW_some] <;> rfl), by (with_reducible repeat (first | apply Kd.R_alloc | apply Kd.R_drewN | apply Kd.R_drew)); exact HO_3.out, by repeat (first | (with_reducible first | exact HB.out | apply below_alloc | apply pw_below_drewN | apply below_drew1) | exact HB.out)⟩

end Go.Proofs.YtgmlhmojcemliaaDoor.P
end
section
namespace Go.Proofs.YtgmlhmojcemliaaDoor.P
open Go.RowKit Go.Proofs.YtgmlhmojcemliaaDoorW.PrintWords Go.Proofs.YtgmlhmojcemliaaDoorW.PrintLast Go.Proofs.YtgmlhmojcemliaaDoorW.PrintMore
attribute [local go_sem] max2_int min2_int max_two min_two max_three min_three max_four min_four   -- for this text's walks alone
set_option linter.unusedVariables false
set_option linter.unusedSimpArgs false

/-! ### octet_Lower: function 94, GIVEN -/
def lowB (c : UInt8) : UInt8 := if 65 ≤ c.toNat ∧ c.toNat ≤ 90 then c + 32 else c
def octet_Lower.f (a0 : ByteArray) : Option ByteArray := if a0.size ≤ 140737488351232 then some ⟨(a0.data.toList.map lowB).toArray⟩ else none
theorem lowB_up {c : UInt8} (h1 : 65 ≤ c.toNat) (h2 : c.toNat ≤ 90) : ((lowB c).toNat : Int) = ((c.toNat : Int) + 97) - 65 := by
  unfold lowB; rw [if_pos ⟨h1, h2⟩]; simp [UInt8.toNat_add]; omega
theorem lowB_no {c : UInt8} (h : ¬ (65 ≤ c.toNat ∧ c.toNat ≤ 90)) : lowB c = c := by unfold lowB; rw [if_neg h]
theorem heap_set_mark {w : World} {g : Nat} {t : TypeId} {cs : Array Value} {z : Nat × Nat} (h : w.heap[g]? = some (.cells cs t z)) (i : Nat) (u : Value) : (w.setCell ⟨g, i, none⟩ u).heap[g]? = some (.cells (cs.setIfInBounds i u) t z) := by
  simp [World.setCell, Array.getElem?_modify, h]
theorem below_bytes (w : World) (e : TypeId) (s : ByteArray) : Below w.heap.size w (Lib.bytesWorld w e s) := ⟨rfl, rfl, rfl, by rw [Lib.bytesWorld_size]; omega, fun k hk => Lib.bytesWorld_at_old w e s k hk⟩
set_option maxHeartbeats 1000000 in
set_option maxRecDepth 100000 in
theorem octet_Lower.calls (a0 : ByteArray) (r : ByteArray) (w : World) (h : octet_Lower.f a0 = some r) :
    Calls Tryd.prog 94 #[.string a0] w fun e w' => e = .returned (.string r) ∧ Below w.heap.size w w' := by
  unfold octet_Lower.f at h
  split at h
  case isFalse => cases h
  rename_i hsz
  obtain rfl := Option.some.inj h
  clear h
  have kc := fun (w : World) => Lib.run_convert_string_bytes (P := Tryd.prog) w 9 56 5 a0 Tryd.underlying9 Tryd.underlying56 Tryd.underlying5
  go_enter Tryd.func94, Tryd.ntmps94
  go_wp2
  clear kc
  generalize grownCap w a0.size 0 5 = cap
  go_loopw [10] (fun v10 wr => ∃ (k : Nat) (cs : Array Value), v10 = .int .i64 k ∧ k ≤ a0.size ∧ Aside0 (wr.heap[w.heap.size]? = some (.cells cs 5 (cs.size, cs.size + 1))) ∧ Aside0 (∀ j (hj : j < a0.size), cs[j]? = some (.int .u8 ((if j < k then lowB a0[j] else a0[j]).toNat))) ∧ Aside0 (Below w.heap.size w wr)) (fun i _ => a0.size - (intOf i).toNat)
  case atStart => exact ⟨0, _, rfl, Nat.zero_le _, ⟨Lib.bytesWorld_at_new _ _ _⟩, ⟨by intro j hj; simp [Lib.bytesCells, Array.getElem?_append, hj]; rfl⟩, ⟨below_bytes _ _ _⟩⟩
  case round =>
    obtain ⟨k, cs, rfl, hk, hb, hc, hB⟩ := hrel
    by_cases hlt : k < a0.size
    · have e1 := hc.out k hlt
      rw [if_neg (by omega)] at e1
      have hcs : k < cs.size := (Array.getElem?_eq_some_iff.1 e1).1
      have cc : wr.cell? ⟨w.heap.size, k, none⟩ = some (.int .u8 a0[k].toNat) := (cell_of_row _ _ _ _ _ _ hb.out).trans e1
      have cf : wr.frozen? ⟨w.heap.size, k, none⟩ = false := by simp [World.frozen?, hb.out]; omega
      have hbt := a0[k].toNat_lt
      by_cases hu : 65 ≤ a0[k].toNat ∧ a0[k].toNat ≤ 90
      · have hv := lowB_up hu.1 hu.2
        obtain ⟨hu1, hu2⟩ := hu
        have HV := Aside0.mk hv
        clear hv e1
        go_wp2
        go_roundw
        case rel =>
          refine ⟨k + 1, cs.setIfInBounds k (.int .u8 ((a0[k].toNat : Int) + 97 - 65)), by go_num, by omega, ⟨by simpa using heap_set_mark hb.out k _⟩, ⟨?_⟩, ⟨below_set hB.out (Nat.le_refl _)⟩⟩
          intro j hj
          by_cases e : j = k
          · subst e
            rw [if_pos (by omega), HV.out]
            simp [hcs]
          · rw [Array.getElem?_setIfInBounds_ne (by omega), hc.out j hj]
            by_cases h1 : j < k
            · rw [if_pos h1, if_pos (by omega)]
            · rw [if_neg h1, if_neg (by omega)]
        case measure => simp [intOf]; omega
      · have hno := lowB_no hu
        have HN := Aside0.mk hno
        have h2 : ¬ (65 ≤ (a0[k].toNat : Int)) ∨ ¬ ((a0[k].toNat : Int) ≤ 90) := by omega
        clear hno e1 hu
        rcases h2 with h2 | h2
        all_goals
          go_wp2
          all_goals
            go_roundw
            case rel =>
              refine ⟨k + 1, cs, by go_num, by omega, hb, ⟨?_⟩, hB⟩
              intro j hj
              rw [hc.out j hj]
              by_cases e : j = k
              · subst e
                rw [if_neg (by omega), if_pos (by omega), HN.out]
              · by_cases h1 : j < k
                · rw [if_pos h1, if_pos (by omega)]
                · rw [if_neg h1, if_neg (by omega)]
            case measure => simp [intOf]; omega
    · have hC : ReadsInt wr .u8 (some ⟨w.heap.size, 0, none⟩) a0.size (a0.data.toList.map fun c => ((lowB c).toNat : Int)) := by
        refine ⟨by simp, by omega, fun _ => ⟨_, rfl, fun j hj => ?_⟩⟩
        rw [add_plain, cell_of_row _ _ _ _ _ _ hb.out, hc.out j hj, if_pos (by omega)]
        have : j < a0.data.toList.length := by simpa using hj
        simp [List.getD_eq_getElem?_getD, List.getElem?_map, List.getElem?_eq_getElem this]
        rfl
      have hcv := string_of_reads (P := Tryd.prog) (c := cap) Tryd.underlying56 Tryd.underlying5 Tryd.underlying9 hC
      go_wp2
      go_ret
      refine ⟨?_, hB.out⟩
      show Ending.returned (.string _) = Ending.returned (.string _)
      have e : strOfNums (a0.data.toList.map fun c => ((lowB c).toNat : Int)) = ⟨(a0.data.toList.map lowB).toArray⟩ := by
        unfold strOfNums; rw [List.map_map]; congr 3; funext c; simp
      rw [e]
end Go.Proofs.YtgmlhmojcemliaaDoor.P
end
section
namespace Go.Proofs.YtgmlhmojcemliaaDoor.P
open Go.RowKit Go.Proofs.YtgmlhmojcemliaaDoorW.PrintWords Go.Proofs.YtgmlhmojcemliaaDoorW.PrintLast Go.Proofs.YtgmlhmojcemliaaDoorW.PrintMore
attribute [local go_sem] max2_int min2_int max_two min_two max_three min_three max_four min_four   -- for this text's walks alone
set_option linter.unusedVariables false
set_option linter.unusedSimpArgs false

/-! ### octet_Loose64: function 120, GIVEN -/
def octet_Loose64.f (_a0 : ByteArray) : Option ByteArray := none
theorem octet_Loose64.calls (a0 : ByteArray) (r : ByteArray) (w : World) (h : octet_Loose64.f a0 = some r) :
    Calls Tryd.prog 120 #[.string a0] w fun e w' => e = .returned (.string r) ∧ Below w.heap.size w w' := by cases h
end Go.Proofs.YtgmlhmojcemliaaDoor.P
end
section
namespace Go.Proofs.YtgmlhmojcemliaaDoor.P
open Go.RowKit Go.Proofs.YtgmlhmojcemliaaDoorW.PrintWords Go.Proofs.YtgmlhmojcemliaaDoorW.PrintLast Go.Proofs.YtgmlhmojcemliaaDoorW.PrintMore
attribute [local go_sem] max2_int min2_int max_two min_two max_three min_three max_four min_four   -- for this text's walks alone
set_option linter.unusedVariables false
set_option linter.unusedSimpArgs false

/-! ### letter_unquoted: function 121, GIVEN -/
def letter_unquoted.f (a0 : ByteArray) : Option ByteArray := if a0.size ≤ 140737488355328 ∧ a0.data.toList.all (fun c => c != 95 && c != 61) = true then some ⟨a0.data.toList.toArray⟩ else none
set_option maxHeartbeats 1000000 in
set_option maxRecDepth 100000 in
theorem letter_unquoted.calls (a0 : ByteArray) (r : ByteArray) (w : World) (h : letter_unquoted.f a0 = some r) :
    Calls Tryd.prog 121 #[.string a0] w fun e w' => e = .returned (.string r) ∧ Below w.heap.size w w' := by
  unfold letter_unquoted.f at h
  split at h
  case isFalse => cases h
  rename_i hc
  obtain ⟨hsz, hall⟩ := hc
  obtain rfl := Option.some.inj h
  have HA := Aside0.mk hall
  clear h hall
  go_enter Tryd.func121, Tryd.ntmps121
  go_wp2
  go_loopw [4] (fun v4 wr => ∃ (k : Nat), v4 = .int .i64 k ∧ k ≤ a0.size ∧ Aside0 (IsB w.heap.size (a0.data.toList.take k) wr) ∧ Aside0 (Below w.heap.size w wr)) (fun i _ => a0.size - (intOf i).toNat)
  case atStart => exact ⟨0, rfl, Nat.zero_le _, ⟨IsB.new w⟩, ⟨(Below.refl _ _).alloc (Nat.le_refl _) _⟩⟩
  case round =>
    obtain ⟨k, rfl, hk, hI, hB⟩ := hrel
    by_cases hlt : k < a0.size
    · have hx := List.all_eq_true.1 HA.out a0[k] (by simp [ByteArray.getElem_eq_getElem_data])
      simp only [Bool.and_eq_true, bne_iff_ne, ne_eq] at hx
      have h1 : ((a0[k].toNat : Int) == 95) = false := by
        rw [beq_eq_false_iff_ne]; intro e; apply hx.1; apply UInt8.toNat_inj.1; simpa using (by omega : a0[k].toNat = 95)
      have h2 : ((a0[k].toNat : Int) == 61) = false := by
        rw [beq_eq_false_iff_ne]; intro e; apply hx.2; apply UInt8.toNat_inj.1; simpa using (by omega : a0[k].toNat = 61)
      clear hx
      have ht : a0.data.toList.take (k + 1) = a0.data.toList.take k ++ [a0[k]] := by
        rw [List.take_succ_eq_append_getElem (by simpa using hlt)]; rfl
      have HT := Aside0.mk ht
      clear ht
      go_wp2_with (go_at_call 59; refine (bW1 w.heap.size (a0.data.toList.take k) a0[k] _ rfl _ hI.out (by simp; omega)).mono ?_; rintro e w2 ⟨rfl, hI2, hB2, hK2⟩)
      go_roundw
      case rel => exact ⟨k + 1, by go_num, by omega, ⟨by rw [HT.out]; exact hI2⟩, ⟨hB.out.trans hB2⟩⟩
      case measure => simp [intOf]; omega
    · have hk' : a0.data.toList.take k = a0.data.toList := by apply List.take_of_length_le; simp; omega
      have HK := Aside0.mk hk'
      clear hk'
      go_wp2_with (go_at_call 57; refine (bStr w.heap.size _ wr hI.out).mono ?_; rintro e w' ⟨rfl, hI', hB', hK'⟩)
      go_ret
      exact ⟨by rw [HK.out]; rfl, hB.out.trans hB'⟩
end Go.Proofs.YtgmlhmojcemliaaDoor.P
end
section
namespace Go.Proofs.YtgmlhmojcemliaaDoor.P
open Go.RowKit Go.Proofs.YtgmlhmojcemliaaDoorW.PrintWords Go.Proofs.YtgmlhmojcemliaaDoorW.PrintLast Go.Proofs.YtgmlhmojcemliaaDoorW.PrintMore
attribute [local go_sem] max2_int min2_int max_two min_two max_three min_three max_four min_four   -- for this text's walks alone
set_option linter.unusedVariables false
set_option linter.unusedSimpArgs false

/-! ### letter_wide: function 122, GIVEN -/
def letter_wide.f (_a0 : ByteArray) : Option ByteArray := none
theorem letter_wide.calls (a0 : ByteArray) (r : ByteArray) (w : World) (h : letter_wide.f a0 = some r) :
    Calls Tryd.prog 122 #[.string a0] w fun e w' => e = .returned (.string r) ∧ Below w.heap.size w w' := by cases h
end Go.Proofs.YtgmlhmojcemliaaDoor.P
end
section
namespace Go.Proofs.YtgmlhmojcemliaaDoor.P
open Go.RowKit Go.Proofs.YtgmlhmojcemliaaDoorW.PrintWords Go.Proofs.YtgmlhmojcemliaaDoorW.PrintLast Go.Proofs.YtgmlhmojcemliaaDoorW.PrintMore
attribute [local go_sem] max2_int min2_int max_two min_two max_three min_three max_four min_four   -- for this text's walks alone
set_option linter.unusedVariables false
set_option linter.unusedSimpArgs false

/-! ### letter_encoded: function 82 -/
mutual
def letter_encoded.j0 : Nat → ByteArray → Int → Bool → Option (ByteArray × Int)
  | 0, _, _, _ => none
  | k + 1, x0, x4, x33 => if x33 = true then (some ((⟨#[]⟩ : ByteArray), 0)) else (if 2 ≤ x4 then (if x4 ≤ (x0.size : Int) then ((octet_Lower.f (x0.extract 2 (x4 : Int).toNat)).bind fun t256 => (if 0 ≤ (wrap64 (x4 + 1)) then (if (wrap64 (x4 + 1)) ≤ (wrap64 (x4 + 2)) then (if (wrap64 (x4 + 2)) ≤ (x0.size : Int) then ((octet_Lower.f (x0.extract ((wrap64 (x4 + 1)) : Int).toNat ((wrap64 (x4 + 2)) : Int).toNat)).bind fun t257 => (letter_encoded.l0 k x0 t256 t257 (wrap64 (x4 + 3)) (wrap64 (x4 + 3)))) else (none)) else (none)) else (none))) else (none)) else (none))
def letter_encoded.j2 : Nat → ByteArray → ByteArray → ByteArray → Int → Int → Option (ByteArray × Int)
  | 0, _, _, _, _, _ => none
  | k + 1, x0, x5, x6, x7, x8 => if x5.toList = ([117, 115, 45, 97, 115, 99, 105, 105] : List UInt8) then (letter_encoded.j3 k x0 x5 x6 x7 x8 true) else (if x5.toList = ([117, 116, 102, 45, 56] : List UInt8) then (letter_encoded.j3 k x0 x5 x6 x7 x8 true) else (letter_encoded.j3 k x0 x5 x6 x7 x8 (x5.toList == ([105, 115, 111, 45, 56, 56, 53, 57, 45, 49] : List UInt8))))
def letter_encoded.j3 : Nat → ByteArray → ByteArray → ByteArray → Int → Int → Bool → Option (ByteArray × Int)
  | 0, _, _, _, _, _, _ => none
  | k + 1, x0, x5, x6, x7, x8, x9 => if x9 = true then (if x6.toList = ([98] : List UInt8) then (if 0 ≤ x8 then (if x8 ≤ (x0.size : Int) then ((strings_HasPrefix.f (x0.extract (x8 : Int).toNat x0.size) (⟨#[63, 61]⟩ : ByteArray)).bind fun t258 => (letter_encoded.j4 k x0 x5 x6 x7 x8 (!t258))) else (none)) else (none)) else (if x6.toList = ([113] : List UInt8) then (if 0 ≤ x8 then (if x8 ≤ (x0.size : Int) then ((strings_HasPrefix.f (x0.extract (x8 : Int).toNat x0.size) (⟨#[63, 61]⟩ : ByteArray)).bind fun t259 => (letter_encoded.j4 k x0 x5 x6 x7 x8 (!t259))) else (none)) else (none)) else (letter_encoded.j4 k x0 x5 x6 x7 x8 true))) else (letter_encoded.j4 k x0 x5 x6 x7 x8 true)
def letter_encoded.j4 : Nat → ByteArray → ByteArray → ByteArray → Int → Int → Bool → Option (ByteArray × Int)
  | 0, _, _, _, _, _, _ => none
  | k + 1, x0, x5, x6, x7, x8, x98 => if x98 = true then (some ((⟨#[]⟩ : ByteArray), 0)) else (if 0 ≤ x7 then (if x7 ≤ x8 then (if x8 ≤ (x0.size : Int) then (if x6.toList = ([98] : List UInt8) then ((octet_Loose64.f (x0.extract (x7 : Int).toNat (x8 : Int).toNat)).bind fun t260 => (if x5.toList = ([105, 115, 111, 45, 56, 56, 53, 57, 45, 49] : List UInt8) then ((letter_wide.f t260).bind fun t261 => (some (t261, wrap64 (x8 + 2)))) else (some (t260, wrap64 (x8 + 2))))) else ((letter_unquoted.f (x0.extract (x7 : Int).toNat (x8 : Int).toNat)).bind fun t262 => (if x5.toList = ([105, 115, 111, 45, 56, 56, 53, 57, 45, 49] : List UInt8) then ((letter_wide.f t262).bind fun t263 => (some (t263, wrap64 (x8 + 2)))) else (some (t262, wrap64 (x8 + 2)))))) else (none)) else (none)) else (none))
def letter_encoded.l0 : Nat → ByteArray → ByteArray → ByteArray → Int → Int → Option (ByteArray × Int)
  | 0, _, _, _, _, _ => none
  | k + 1, x0, x5, x6, x7, x8 => if x8 < (x0.size : Int) then (if 0 ≤ x8 then (if (bt x0 x8) > 32 then (if (bt x0 x8) < 127 then (if (bt x0 x8) = 63 then (letter_encoded.j2 k x0 x5 x6 x7 x8) else (letter_encoded.l0 k x0 x5 x6 x7 (wrap64 (x8 + 1)))) else (letter_encoded.j2 k x0 x5 x6 x7 x8)) else (letter_encoded.j2 k x0 x5 x6 x7 x8)) else (none)) else (letter_encoded.j2 k x0 x5 x6 x7 x8)
end
def letter_encoded.f (k : Nat) (a0 : ByteArray) : Option (ByteArray × Int) := (strings_HasPrefix.f a0 (⟨#[61, 63]⟩ : ByteArray)).bind fun t254 => (if t254 = true then (if 2 ≤ (a0.size : Int) then ((strings_IndexByte.f (a0.extract 2 a0.size) 63).bind fun t255 => (if (wrap64 (t255 + 2)) < 2 then (letter_encoded.j0 k a0 (wrap64 (t255 + 2)) true) else (if (wrap64 ((wrap64 (t255 + 2)) + 3)) > (a0.size : Int) then (letter_encoded.j0 k a0 (wrap64 (t255 + 2)) true) else (if 0 ≤ (wrap64 ((wrap64 (t255 + 2)) + 2)) then (if (wrap64 ((wrap64 (t255 + 2)) + 2)) < (a0.size : Int) then (letter_encoded.j0 k a0 (wrap64 (t255 + 2)) ((bt a0 (wrap64 ((wrap64 (t255 + 2)) + 2))) != 63)) else (none)) else (none))))) else (none)) else (some ((⟨#[]⟩ : ByteArray), 0)))
theorem letter_encoded.mono_l : ∀ k, (∀ y0 y1 y2, LeO (letter_encoded.j0 k y0 y1 y2) (letter_encoded.j0 (k + 1) y0 y1 y2)) ∧ (∀ y0 y1 y2 y3 y4, LeO (letter_encoded.j2 k y0 y1 y2 y3 y4) (letter_encoded.j2 (k + 1) y0 y1 y2 y3 y4)) ∧ (∀ y0 y1 y2 y3 y4 y5, LeO (letter_encoded.j3 k y0 y1 y2 y3 y4 y5) (letter_encoded.j3 (k + 1) y0 y1 y2 y3 y4 y5)) ∧ (∀ y0 y1 y2 y3 y4 y5, LeO (letter_encoded.j4 k y0 y1 y2 y3 y4 y5) (letter_encoded.j4 (k + 1) y0 y1 y2 y3 y4 y5)) ∧ (∀ y0 y1 y2 y3 y4, LeO (letter_encoded.l0 k y0 y1 y2 y3 y4) (letter_encoded.l0 (k + 1) y0 y1 y2 y3 y4))
  | 0 => ⟨fun _ _ _ r h => by simp [letter_encoded.j0] at h, fun _ _ _ _ _ r h => by simp [letter_encoded.j2] at h, fun _ _ _ _ _ _ r h => by simp [letter_encoded.j3] at h, fun _ _ _ _ _ _ r h => by simp [letter_encoded.j4] at h, fun _ _ _ _ _ r h => by simp [letter_encoded.l0] at h⟩
  | k + 1 => by
    obtain ⟨ih0, ih1, ih2, ih3, ih4⟩ := letter_encoded.mono_l k
    refine ⟨?_, ?_, ?_, ?_, ?_⟩
    · intro y0 y1 y2
      unfold letter_encoded.j0
      repeat' first
      | (with_reducible exact ih0 _ _ _)
      | (with_reducible exact ih1 _ _ _ _ _)
      | (with_reducible exact ih2 _ _ _ _ _ _)
      | (with_reducible exact ih3 _ _ _ _ _ _)
      | (with_reducible exact ih4 _ _ _ _ _)
      | (with_reducible exact LeO.refl _)
      | (with_reducible exact LeO.none _)
      | (with_reducible refine LeO.ite ?_ ?_)
      | (with_reducible refine LeO.bind ?_ (fun _ => ?_))
      | exact ih0 _ _ _
      | exact ih1 _ _ _ _ _
      | exact ih2 _ _ _ _ _ _
      | exact ih3 _ _ _ _ _ _
      | exact ih4 _ _ _ _ _
      | exact LeO.none _
      | refine LeO.ite ?_ ?_
      | refine LeO.bind ?_ (fun _ => ?_)
    · intro y0 y1 y2 y3 y4
      unfold letter_encoded.j2
      repeat' first
      | (with_reducible exact ih0 _ _ _)
      | (with_reducible exact ih1 _ _ _ _ _)
      | (with_reducible exact ih2 _ _ _ _ _ _)
      | (with_reducible exact ih3 _ _ _ _ _ _)
      | (with_reducible exact ih4 _ _ _ _ _)
      | (with_reducible exact LeO.refl _)
      | (with_reducible exact LeO.none _)
      | (with_reducible refine LeO.ite ?_ ?_)
      | (with_reducible refine LeO.bind ?_ (fun _ => ?_))
      | exact ih0 _ _ _
      | exact ih1 _ _ _ _ _
      | exact ih2 _ _ _ _ _ _
      | exact ih3 _ _ _ _ _ _
      | exact ih4 _ _ _ _ _
      | exact LeO.none _
      | refine LeO.ite ?_ ?_
      | refine LeO.bind ?_ (fun _ => ?_)
    · intro y0 y1 y2 y3 y4 y5
      unfold letter_encoded.j3
      repeat' first
      | (with_reducible exact ih0 _ _ _)
      | (with_reducible exact ih1 _ _ _ _ _)
      | (with_reducible exact ih2 _ _ _ _ _ _)
      | (with_reducible exact ih3 _ _ _ _ _ _)
      | (with_reducible exact ih4 _ _ _ _ _)
      | (with_reducible exact LeO.refl _)
      | (with_reducible exact LeO.none _)
      | (with_reducible refine LeO.ite ?_ ?_)
      | (with_reducible refine LeO.bind ?_ (fun _ => ?_))
      | exact ih0 _ _ _
      | exact ih1 _ _ _ _ _
      | exact ih2 _ _ _ _ _ _
      | exact ih3 _ _ _ _ _ _
      | exact ih4 _ _ _ _ _
      | exact LeO.none _
      | refine LeO.ite ?_ ?_
      | refine LeO.bind ?_ (fun _ => ?_)
    · intro y0 y1 y2 y3 y4 y5
      unfold letter_encoded.j4
      repeat' first
      | (with_reducible exact ih0 _ _ _)
      | (with_reducible exact ih1 _ _ _ _ _)
      | (with_reducible exact ih2 _ _ _ _ _ _)
      | (with_reducible exact ih3 _ _ _ _ _ _)
      | (with_reducible exact ih4 _ _ _ _ _)
      | (with_reducible exact LeO.refl _)
      | (with_reducible exact LeO.none _)
      | (with_reducible refine LeO.ite ?_ ?_)
      | (with_reducible refine LeO.bind ?_ (fun _ => ?_))
      | exact ih0 _ _ _
      | exact ih1 _ _ _ _ _
      | exact ih2 _ _ _ _ _ _
      | exact ih3 _ _ _ _ _ _
      | exact ih4 _ _ _ _ _
      | exact LeO.none _
      | refine LeO.ite ?_ ?_
      | refine LeO.bind ?_ (fun _ => ?_)
    · intro y0 y1 y2 y3 y4
      unfold letter_encoded.l0
      repeat' first
      | (with_reducible exact ih0 _ _ _)
      | (with_reducible exact ih1 _ _ _ _ _)
      | (with_reducible exact ih2 _ _ _ _ _ _)
      | (with_reducible exact ih3 _ _ _ _ _ _)
      | (with_reducible exact ih4 _ _ _ _ _)
      | (with_reducible exact LeO.refl _)
      | (with_reducible exact LeO.none _)
      | (with_reducible refine LeO.ite ?_ ?_)
      | (with_reducible refine LeO.bind ?_ (fun _ => ?_))
      | exact ih0 _ _ _
      | exact ih1 _ _ _ _ _
      | exact ih2 _ _ _ _ _ _
      | exact ih3 _ _ _ _ _ _
      | exact ih4 _ _ _ _ _
      | exact LeO.none _
      | refine LeO.ite ?_ ?_
      | refine LeO.bind ?_ (fun _ => ?_)
theorem letter_encoded.mono : ∀ a0 k, LeO (letter_encoded.f k a0) (letter_encoded.f (k + 1) a0) := by
  intro a0 k
  obtain ⟨ih0, ih1, ih2, ih3, ih4⟩ := letter_encoded.mono_l k
  unfold letter_encoded.f
  repeat' first
      | (with_reducible exact ih0 _ _ _)
      | (with_reducible exact ih1 _ _ _ _ _)
      | (with_reducible exact ih2 _ _ _ _ _ _)
      | (with_reducible exact ih3 _ _ _ _ _ _)
      | (with_reducible exact ih4 _ _ _ _ _)
      | (with_reducible exact LeO.refl _)
      | (with_reducible exact LeO.none _)
      | (with_reducible refine LeO.ite ?_ ?_)
      | (with_reducible refine LeO.bind ?_ (fun _ => ?_))
      | exact ih0 _ _ _
      | exact ih1 _ _ _ _ _
      | exact ih2 _ _ _ _ _ _
      | exact ih3 _ _ _ _ _ _
      | exact ih4 _ _ _ _ _
      | exact LeO.none _
      | refine LeO.ite ?_ ?_
      | refine LeO.bind ?_ (fun _ => ?_)
def letter_encoded.T6 : Bool × List (List Nat × List Nat) := (true, [([], []), ([], []), ([0, 1], [0, 1]), ([2], [2]), ([], []), ([], []), ([5], [5]), ([], []), ([7], [7]), ([4, 6, 8], [4, 6, 8]), ([9, 3], [9]), ([3, 10, 0, 1, 2, 3], [3]), ([10, 11, 0, 1, 2, 3, 4, 5, 6, 7, 8, 9, 10, 11], [10])])
def letter_encoded.B6 : List Nat := [0, 0, 3, 7, 0, 0, 32, 0, 128, 496, 1023, 2047, 4095]
theorem letter_encoded.tab6 : rtab .any (opsOf Tryd.f82 6) = letter_encoded.T6 := by kernel_rfl
theorem letter_encoded.bits6 : waitsOk letter_encoded.T6.2 letter_encoded.B6 = true := by kernel_rfl
set_option maxHeartbeats 8000000 in
set_option maxRecDepth 100000 in
theorem letter_encoded.calls (k : Nat) (a0 : ByteArray) (r1 : ByteArray) (r2 : Int) (w : World) (h : letter_encoded.f k a0 = some (r1, r2)) :
    Calls Tryd.prog 82 #[.string a0] w fun e w' => e = .returned (.tuple #[.string r1, .int .i64 r2]) ∧ Below w.heap.size w w' := by
  have HB := Aside0.mk (Below.refl w.heap.size w)
  have H : ((strings_HasPrefix.f a0 (⟨#[61, 63]⟩ : ByteArray)).bind fun t254 => (if t254 = true then (if 2 ≤ (a0.size : Int) then ((strings_IndexByte.f (a0.extract 2 a0.size) 63).bind fun t255 => (if (wrap64 (t255 + 2)) < 2 then (letter_encoded.j0 k a0 (wrap64 (t255 + 2)) true) else (if (wrap64 ((wrap64 (t255 + 2)) + 3)) > (a0.size : Int) then (letter_encoded.j0 k a0 (wrap64 (t255 + 2)) true) else (if 0 ≤ (wrap64 ((wrap64 (t255 + 2)) + 2)) then (if (wrap64 ((wrap64 (t255 + 2)) + 2)) < (a0.size : Int) then (letter_encoded.j0 k a0 (wrap64 (t255 + 2)) ((bt a0 (wrap64 ((wrap64 (t255 + 2)) + 2))) != 63)) else (none)) else (none))))) else (none)) else (some ((⟨#[]⟩ : ByteArray), 0)))) = some (r1, r2) := h
  clear h
  replace H := Option.bind_eq_some_iff.mp H
  obtain ⟨t254, A20, H⟩ := H
  replace H : (if t254 = true then (if 2 ≤ (a0.size : Int) then ((strings_IndexByte.f (a0.extract 2 a0.size) 63).bind fun t255 => (if (wrap64 (t255 + 2)) < 2 then (letter_encoded.j0 k a0 (wrap64 (t255 + 2)) true) else (if (wrap64 ((wrap64 (t255 + 2)) + 3)) > (a0.size : Int) then (letter_encoded.j0 k a0 (wrap64 (t255 + 2)) true) else (if 0 ≤ (wrap64 ((wrap64 (t255 + 2)) + 2)) then (if (wrap64 ((wrap64 (t255 + 2)) + 2)) < (a0.size : Int) then (letter_encoded.j0 k a0 (wrap64 (t255 + 2)) ((bt a0 (wrap64 ((wrap64 (t255 + 2)) + 2))) != 63)) else (none)) else (none))))) else (none)) else (some ((⟨#[]⟩ : ByteArray), 0))) = some (r1, r2) := H
  have A2 := Aside0.mk A20
  clear A20
  by_cases c3 : t254 = true
  · subst c3
    have H1 : (if 2 ≤ (a0.size : Int) then ((strings_IndexByte.f (a0.extract 2 a0.size) 63).bind fun t255 => (if (wrap64 (t255 + 2)) < 2 then (letter_encoded.j0 k a0 (wrap64 (t255 + 2)) true) else (if (wrap64 ((wrap64 (t255 + 2)) + 3)) > (a0.size : Int) then (letter_encoded.j0 k a0 (wrap64 (t255 + 2)) true) else (if 0 ≤ (wrap64 ((wrap64 (t255 + 2)) + 2)) then (if (wrap64 ((wrap64 (t255 + 2)) + 2)) < (a0.size : Int) then (letter_encoded.j0 k a0 (wrap64 (t255 + 2)) ((bt a0 (wrap64 ((wrap64 (t255 + 2)) + 2))) != 63)) else (none)) else (none))))) else (none)) = some (r1, r2) := by rw [if_pos rfl] at H; exact H
    clear H
    have H := H1
    clear H1
    by_cases c4 : 2 ≤ (a0.size : Int)
    · rw [if_pos c4] at H
      have c4b0 := eq_true c4
      have c4b1 : decide (2 ≤ (a0.size : Int)) = true := decide_eq_true c4
      clear c4
      replace H := Option.bind_eq_some_iff.mp H
      obtain ⟨t255, A50, H⟩ := H
      replace H : (if (wrap64 (t255 + 2)) < 2 then (letter_encoded.j0 k a0 (wrap64 (t255 + 2)) true) else (if (wrap64 ((wrap64 (t255 + 2)) + 3)) > (a0.size : Int) then (letter_encoded.j0 k a0 (wrap64 (t255 + 2)) true) else (if 0 ≤ (wrap64 ((wrap64 (t255 + 2)) + 2)) then (if (wrap64 ((wrap64 (t255 + 2)) + 2)) < (a0.size : Int) then (letter_encoded.j0 k a0 (wrap64 (t255 + 2)) ((bt a0 (wrap64 ((wrap64 (t255 + 2)) + 2))) != 63)) else (none)) else (none)))) = some (r1, r2) := H
      have A5 := Aside0.mk A50
      clear A50
      have HC6 := Aside0.mk H
      clear H
      go_enter Tryd.func82, Tryd.ntmps82
      go_upto_region 4 with (first | ((with_reducible refine gate_callee (f := 45) rfl ?_); refine goesL_ (some 12) rfl rfl Tryd.func45 (by kernel_rfl) rfl #[.string a0, .string (⟨#[61, 63]⟩ : ByteArray)] rfl (by (try simp only [List.map_toArray, List.map_cons, List.map_nil]); first | done | rfl | (simp only [List.length_drop, List.length_take]; rfl)) ?_; (with_reducible refine (strings_HasPrefix.calls a0 (⟨#[61, 63]⟩ : ByteArray) true _ A2.out).mono ?_); rintro e w' ⟨rfl, ⟨nd, rfl⟩⟩; refine ⟨_, rfl, ?_⟩) | ((with_reducible refine gate_callee (f := 49) rfl ?_); refine goesL_ (some 16) rfl rfl Tryd.func49 (by kernel_rfl) rfl #[.string (a0.extract 2 a0.size), .int .u8 63] rfl (by (try simp only [List.map_toArray, List.map_cons, List.map_nil]); first | done | rfl | (simp only [List.length_drop, List.length_take]; rfl)) ?_; (with_reducible refine (strings_IndexByte.calls (a0.extract 2 a0.size) 63 t255 _ A5.out).mono ?_); rintro e w' ⟨rfl, ⟨nd, rfl⟩⟩; refine ⟨_, rfl, ?_⟩))
      (try simp only [Act.put, List.setIfInBounds_toArray, List.set_cons_zero, List.set_cons_succ])
      go_cut [33] (fun v33 wc => ∃ (kq : Nat) (x33_5 : Bool), v33 = .bool x33_5 ∧ Aside0 (letter_encoded.j0 kq a0 (wrap64 (t255 + 2)) x33_5 = some (r1, r2)) ∧ Aside0 (kq ≤ k) ∧ Aside0 (Below w.heap.size w wc))
      case first =>
        have H := HC6.out
        clear HC6
        by_cases c7 : (wrap64 (t255 + 2)) < 2
        · rw [if_pos c7] at H
          have c7b0 : decide ((wrap64 (t255 + 2)) < 2) = true := decide_eq_true c7
          clear c7
          (first | rw [c7b0] | (simp only [i64_w, i32_w]; rw [c7b0]) | skip)
          have H' := Aside0.mk H
          clear H
          go_wp2
          go_meet
          case rel => exact ⟨_, (true), (by first | rfl | (simp; done) | (simp [*]; done)), H', ⟨by first | omega | exact Nat.le_refl _⟩, ⟨by repeat (first | (with_reducible first | exact HB.out | apply below_alloc | apply pw_below_drewN | apply below_drew1) | exact HB.out)⟩⟩
        · rw [if_neg c7] at H
          have c7b0 : decide ((wrap64 (t255 + 2)) < 2) = false := decide_eq_false c7
          clear c7
          (first | rw [c7b0] | (simp only [i64_w, i32_w]; rw [c7b0]) | skip)
          by_cases c8 : (wrap64 ((wrap64 (t255 + 2)) + 3)) > (a0.size : Int)
          · rw [if_pos c8] at H
            have c8b0 : decide ((a0.size : Int) < (wrap64 ((wrap64 (t255 + 2)) + 3))) = true := decide_eq_true c8
            clear c8
            have H' := Aside0.mk H
            clear H
            go_wp2
            go_meet
            case rel => exact ⟨_, (true), (by first | rfl | (simp; done) | (simp [*]; done)), H', ⟨by first | omega | exact Nat.le_refl _⟩, ⟨by repeat (first | (with_reducible first | exact HB.out | apply below_alloc | apply pw_below_drewN | apply below_drew1) | exact HB.out)⟩⟩
          · rw [if_neg c8] at H
            have c8b0 : decide ((a0.size : Int) < (wrap64 ((wrap64 (t255 + 2)) + 3))) = false := decide_eq_false c8
            clear c8
            obtain ⟨ji9, hji9⟩ : ∃ j_ : Int, (wrap64 ((wrap64 (t255 + 2)) + 2)) = j_ := ⟨_, rfl⟩
            replace H : (if 0 ≤ (ji9) then (if (ji9) < (a0.size : Int) then (letter_encoded.j0 k a0 (wrap64 (t255 + 2)) ((bt a0 (ji9)) != 63)) else (none)) else (none)) = some (r1, r2) := by first | (rw [hji9] at H; exact H) | (simp only [hji9] at H ⊢; exact H)
            have hji9w : (IntKind.i64.wrap ((wrap64 (t255 + 2)) + 2)) = ji9 := (i64_w _).trans hji9
            by_cases c10 : 0 ≤ (ji9)
            · rw [if_pos c10] at H
              have c10b0 : decide (0 ≤ (ji9)) = true := decide_eq_true c10
              clear c10
              by_cases c11 : (ji9) < (a0.size : Int)
              · rw [if_pos c11] at H
                have c11b0 : decide ((ji9) < (a0.size : Int)) = true := decide_eq_true c11
                clear c11
                have H' := Aside0.mk H
                clear H
                have p12 : 0 ≤ ((ji9) : Int) := of_decide_eq_true (by first | (with_reducible assumption) | assumption)
                have q12 : (ji9) < (a0.size : Int) := of_decide_eq_true (by first | (with_reducible assumption) | assumption)
                have hx12 := bt_at a0 (ji9)
                replace p12 := eq_true p12
                replace q12 := eq_true q12
                go_wp2
                go_meet
                case rel => exact ⟨_, (((bt a0 (ji9)) != 63)), (by first | rfl | (simp; done) | (simp only [← hji9] <;> (first | rfl | simp)) | (simp [*]; done)), H', ⟨by first | omega | exact Nat.le_refl _⟩, ⟨by repeat (first | (with_reducible first | exact HB.out | apply below_alloc | apply pw_below_drewN | apply below_drew1) | exact HB.out)⟩⟩
              · rw [if_neg c11] at H
                exact absurd H (by simp)
            · rw [if_neg c10] at H
              exact absurd H (by simp)
      case rest =>
        clear HC6
        try clear c1
        try clear p1
        try clear q1
        try clear hx1
        try clear p2
        try clear c3
        try clear c4
        try clear c4b0
        try clear c4b1
        try clear p6
        try clear c7
        try clear c7b0
        try clear c8
        try clear c8b0
        try clear c10
        try clear c10b0
        try clear c11
        try clear c11b0
        try clear p12
        try clear q12
        try clear hx12
        try clear p12
        try clear q12
        obtain ⟨kq, x33_5, rfl, HA, HJ5, HB⟩ := hcut
        cases kq with
        | zero => exact absurd HA.out (by simp [letter_encoded.j0])
        | succ kj5 =>
          have H := HA.out
          clear HA
          simp only [letter_encoded.j0] at H
          by_cases c13 : x33_5 = true
          · subst c13
            have H1 : (some ((⟨#[]⟩ : ByteArray), 0)) = some (r1, r2) := by rw [if_pos rfl] at H; exact H
            clear H
            have H := H1
            clear H1
            simp only [Option.some.injEq, Prod.mk.injEq] at H
            obtain ⟨rfl, rfl⟩ := H
            go_wp2
            go_ret2
            exact ⟨by first | rfl | (simp [errW_none, errW_some] <;> rfl) | (simp [*, errW_none, errW_some] <;> rfl), by repeat (first | (with_reducible first | exact HB.out | apply below_alloc | apply pw_below_drewN | apply below_drew1) | exact HB.out)⟩
          · replace c13 := Bool.eq_false_iff.mpr c13
            subst c13
            have H1 : (if 2 ≤ (wrap64 (t255 + 2)) then (if (wrap64 (t255 + 2)) ≤ (a0.size : Int) then ((octet_Lower.f (a0.extract 2 ((wrap64 (t255 + 2)) : Int).toNat)).bind fun t256 => (if 0 ≤ (wrap64 ((wrap64 (t255 + 2)) + 1)) then (if (wrap64 ((wrap64 (t255 + 2)) + 1)) ≤ (wrap64 ((wrap64 (t255 + 2)) + 2)) then (if (wrap64 ((wrap64 (t255 + 2)) + 2)) ≤ (a0.size : Int) then ((octet_Lower.f (a0.extract ((wrap64 ((wrap64 (t255 + 2)) + 1)) : Int).toNat ((wrap64 ((wrap64 (t255 + 2)) + 2)) : Int).toNat)).bind fun t257 => (letter_encoded.l0 kj5 a0 t256 t257 (wrap64 ((wrap64 (t255 + 2)) + 3)) (wrap64 ((wrap64 (t255 + 2)) + 3)))) else (none)) else (none)) else (none))) else (none)) else (none)) = some (r1, r2) := by rw [if_neg (show ¬ (false = true) by decide)] at H; exact H
            clear H
            have H := H1
            clear H1
            by_cases c14 : 2 ≤ (wrap64 (t255 + 2))
            · rw [if_pos c14] at H
              have c14b0 := eq_true c14
              have c14b1 : decide (2 ≤ (wrap64 (t255 + 2))) = true := decide_eq_true c14
              by_cases c15 : (wrap64 (t255 + 2)) ≤ (a0.size : Int)
              · rw [if_pos c15] at H
                have c15b0 := eq_true c15
                have c15b1 : decide ((wrap64 (t255 + 2)) ≤ (a0.size : Int)) = true := decide_eq_true c15
                replace H := Option.bind_eq_some_iff.mp H
                obtain ⟨t256, A160, H⟩ := H
                replace H : (if 0 ≤ (wrap64 ((wrap64 (t255 + 2)) + 1)) then (if (wrap64 ((wrap64 (t255 + 2)) + 1)) ≤ (wrap64 ((wrap64 (t255 + 2)) + 2)) then (if (wrap64 ((wrap64 (t255 + 2)) + 2)) ≤ (a0.size : Int) then ((octet_Lower.f (a0.extract ((wrap64 ((wrap64 (t255 + 2)) + 1)) : Int).toNat ((wrap64 ((wrap64 (t255 + 2)) + 2)) : Int).toNat)).bind fun t257 => (letter_encoded.l0 kj5 a0 t256 t257 (wrap64 ((wrap64 (t255 + 2)) + 3)) (wrap64 ((wrap64 (t255 + 2)) + 3)))) else (none)) else (none)) else (none)) = some (r1, r2) := H
                have A16 := Aside0.mk A160
                clear A160
                obtain ⟨ji17, hji17⟩ : ∃ j_ : Int, (wrap64 ((wrap64 (t255 + 2)) + 1)) = j_ := ⟨_, rfl⟩
                replace H : (if 0 ≤ (ji17) then (if (ji17) ≤ (wrap64 ((wrap64 (t255 + 2)) + 2)) then (if (wrap64 ((wrap64 (t255 + 2)) + 2)) ≤ (a0.size : Int) then ((octet_Lower.f (a0.extract ((ji17) : Int).toNat ((wrap64 ((wrap64 (t255 + 2)) + 2)) : Int).toNat)).bind fun t257 => (letter_encoded.l0 kj5 a0 t256 t257 (wrap64 ((wrap64 (t255 + 2)) + 3)) (wrap64 ((wrap64 (t255 + 2)) + 3)))) else (none)) else (none)) else (none)) = some (r1, r2) := by first | (rw [hji17] at H; exact H) | (simp only [hji17] at H ⊢; exact H)
                (try rw [hji17] at A16)
                have hji17w : (IntKind.i64.wrap ((wrap64 (t255 + 2)) + 1)) = ji17 := (i64_w _).trans hji17
                by_cases c18 : 0 ≤ (ji17)
                · rw [if_pos c18] at H
                  have c18b0 := eq_true c18
                  have c18b1 : decide (0 ≤ (ji17)) = true := decide_eq_true c18
                  clear c18
                  by_cases c19 : (ji17) ≤ (wrap64 ((wrap64 (t255 + 2)) + 2))
                  · rw [if_pos c19] at H
                    have c19b0 := eq_true c19
                    have c19b1 : decide ((ji17) ≤ (wrap64 ((wrap64 (t255 + 2)) + 2))) = true := decide_eq_true c19
                    by_cases c20 : (wrap64 ((wrap64 (t255 + 2)) + 2)) ≤ (a0.size : Int)
                    · rw [if_pos c20] at H
                      have c20b0 := eq_true c20
                      have c20b1 : decide ((wrap64 ((wrap64 (t255 + 2)) + 2)) ≤ (a0.size : Int)) = true := decide_eq_true c20
                      replace H := Option.bind_eq_some_iff.mp H
                      obtain ⟨t257, A210, H⟩ := H
                      replace H : (letter_encoded.l0 kj5 a0 t256 t257 (wrap64 ((wrap64 (t255 + 2)) + 3)) (wrap64 ((wrap64 (t255 + 2)) + 3))) = some (r1, r2) := H
                      have A21 := Aside0.mk A210
                      clear A210
                      have HC22 := Aside0.mk H
                      clear H
                      try go_wp2
                      have n0_ := Aside0.mk (below_drew1 HB.out)
                      clear HB
                      have HB := n0_
                      clear n0_
                      refine start_ (n := 13) (S := fun w' => True) (ds := []) #[false, false, false, false, false, false, false, false, false, false, false, false, false] (by kernel_rfl) rfl rfl trivial (fun hHeld => ?_); refine with_tabW letter_encoded.tab6 letter_encoded.bits6 (fun HT_ HW_ => ?_)
                      generalize wc.drew = w23 at HB hHeld ⊢
                      refine pure_ (i := 0) (N := some 34) (v := ?_) (a' := ?_) #[true, false, false, false, false, false, false, false, false, false, false, false, false] rfl rfl (any_of HT_.out (by kernel_rfl)) (fun _ _ _ h => h) (Or.inl ⟨by rfl, ?_⟩) ?_ ?_
                      rotate_left
                      · intro w'
                        go_simp
                        with_reducible rfl
                      rotate_left
                      · simp only [Act.put, List.setIfInBounds_toArray, List.set_cons_zero, List.set_cons_succ, i64_w, i32_w]
                        rfl
                      refine pure_ (i := 1) (N := some 35) (v := ?_) (a' := ?_) #[true, true, false, false, false, false, false, false, false, false, false, false, false] rfl rfl (any_of HT_.out (by kernel_rfl)) (fun _ _ _ h => h) (Or.inl ⟨by rfl, ?_⟩) ?_ ?_
                      rotate_left
                      · intro w'
                        go_simp
                        with_reducible rfl
                      rotate_left
                      · simp only [Act.put, List.setIfInBounds_toArray, List.set_cons_zero, List.set_cons_succ, i64_w, i32_w]
                        rfl
                      refine pure_ (i := 2) (N := some 36) (v := ?_) (a' := ?_) #[true, true, true, false, false, false, false, false, false, false, false, false, false] rfl rfl (any_of HT_.out (by kernel_rfl)) (fun _ _ _ h => h) (Or.inl ⟨by rfl, ?_⟩) ?_ ?_
                      rotate_left
                      · intro w'
                        go_simp
                        with_reducible rfl
                      rotate_left
                      · simp only [Act.put, List.setIfInBounds_toArray, List.set_cons_zero, List.set_cons_succ, i64_w, i32_w]
                        rfl
                      refine pure_ (i := 4) (N := some 38) (v := ?_) (a' := ?_) #[true, true, true, false, true, false, false, false, false, false, false, false, false] rfl rfl (any_of HT_.out (by kernel_rfl)) (fun _ _ _ h => h) (Or.inl ⟨by rfl, ?_⟩) ?_ ?_
                      rotate_left
                      · intro w'
                        go_simp
                        with_reducible rfl
                      rotate_left
                      · simp only [Act.put, List.setIfInBounds_toArray, List.set_cons_zero, List.set_cons_succ, i64_w, i32_w]
                        rfl
                      refine pure_ (i := 5) (N := some 39) (v := ?_) (a' := ?_) #[true, true, true, false, true, true, false, false, false, false, false, false, false] rfl rfl (any_of HT_.out (by kernel_rfl)) (fun _ _ _ h => h) (Or.inl ⟨by rfl, ?_⟩) ?_ ?_
                      rotate_left
                      · intro w'
                        go_simp
                        with_reducible rfl
                      rotate_left
                      · simp only [Act.put, List.setIfInBounds_toArray, List.set_cons_zero, List.set_cons_succ, i64_w, i32_w]
                        rfl
                      refine pure_ (i := 6) (N := some 40) (v := ?_) (a' := ?_) #[true, true, true, false, true, true, true, false, false, false, false, false, false] rfl rfl (any_of HT_.out (by kernel_rfl)) (fun _ _ _ h => h) (Or.inl ⟨by rfl, ?_⟩) ?_ ?_
                      rotate_left
                      · intro w'
                        go_simp
                        with_reducible rfl
                      rotate_left
                      · simp only [Act.put, List.setIfInBounds_toArray, List.set_cons_zero, List.set_cons_succ, i64_w, i32_w]
                        rfl
                      refine pure_ (i := 7) (N := some 41) (v := ?_) (a' := ?_) #[true, true, true, false, true, true, true, true, false, false, false, false, false] rfl rfl (any_of HT_.out (by kernel_rfl)) (fun _ _ _ h => h) (Or.inl ⟨by rfl, ?_⟩) ?_ ?_
                      rotate_left
                      · intro w'
                        go_simp
                        with_reducible rfl
                      rotate_left
                      · simp only [Act.put, List.setIfInBounds_toArray, List.set_cons_zero, List.set_cons_succ, i64_w, i32_w]
                        rfl
                      refine pure_ (i := 8) (N := some 42) (v := ?_) (a' := ?_) #[true, true, true, false, true, true, true, true, true, false, false, false, false] rfl rfl (any_of HT_.out (by kernel_rfl)) (fun _ _ _ h => h) (Or.inl ⟨by rfl, ?_⟩) ?_ ?_
                      rotate_left
                      · intro w'
                        go_simp
                        with_reducible rfl
                      rotate_left
                      · simp only [Act.put, List.setIfInBounds_toArray, List.set_cons_zero, List.set_cons_succ, i64_w, i32_w]
                        rfl
                      refine pure_ (i := 9) (N := some 43) (v := ?_) (a' := ?_) #[true, true, true, false, true, true, true, true, true, true, false, false, false] rfl rfl (any_of HT_.out (by kernel_rfl)) (fun _ _ _ h => h) (Or.inl ⟨by rfl, ?_⟩) ?_ ?_
                      rotate_left
                      · intro w'
                        go_simp
                        with_reducible rfl
                      rotate_left
                      · simp only [Act.put, List.setIfInBounds_toArray, List.set_cons_zero, List.set_cons_succ, i64_w, i32_w]
                        rfl
                      refine one_ (i := 3) (N := some 37) #[true, true, true, true, true, true, true, true, true, true, false, false, false] rfl rfl (one_of HT_.out (by kernel_rfl)) (by decide) (fun K hK => ?_)
                      refine goes_ Tryd.func94 (by kernel_rfl) rfl #[.string (a0.extract 2 ((wrap64 (t255 + 2)) : Int).toNat)] (by rfl) rfl rfl (by (try simp only [List.map_toArray, List.map_cons, List.map_nil]); first | done | rfl | (simp only [List.length_drop, List.length_take]; rfl)) ?_
                      with_reducible refine (octet_Lower.calls (a0.extract 2 ((wrap64 (t255 + 2)) : Int).toNat) t256 _ A16.out).mono ?_
                      rintro e w24 ⟨rfl, hb⟩
                      refine ⟨_, rfl, ?_⟩
                      have n0_ := Aside0.mk (below_step (by repeat (first | (with_reducible first | exact HB.out | apply below_alloc | apply pw_below_drewN | apply below_drew1) | exact HB.out)) hb)
                      clear HB
                      have HB := n0_
                      clear n0_
                      (try clear hb)
                      (try clear hb2)
                      (try clear hk)
                      (try clear hi)
                      refine hK.out _ _ trivial (fun hHeld => ?_)
                      clear hK K
                      refine norm_ (a' := ?_) ?_ ?_
                      rotate_left
                      · show Act.put _ (some 37) _ = _
                        simp only [Act.put, List.setIfInBounds_toArray, List.set_cons_zero, List.set_cons_succ, i64_w, i32_w]
                        rfl
                      refine one_ (i := 10) (N := some 44) #[true, true, true, true, true, true, true, true, true, true, true, false, false] rfl rfl (one_of HT_.out (by kernel_rfl)) (by decide) (fun K hK => ?_)
                      refine goes_ Tryd.func94 (by kernel_rfl) rfl #[.string (a0.extract ((ji17) : Int).toNat ((wrap64 ((wrap64 (t255 + 2)) + 2)) : Int).toNat)] (by rfl) rfl rfl (by (try simp only [List.map_toArray, List.map_cons, List.map_nil]); first | done | (simp only [hji17]; rfl) | rfl | (simp only [List.length_drop, List.length_take]; rfl)) ?_
                      with_reducible refine (octet_Lower.calls (a0.extract ((ji17) : Int).toNat ((wrap64 ((wrap64 (t255 + 2)) + 2)) : Int).toNat) t257 _ A21.out).mono ?_
                      rintro e w25 ⟨rfl, hb⟩
                      refine ⟨_, rfl, ?_⟩
                      have n0_ := Aside0.mk (below_step (by repeat (first | (with_reducible first | exact HB.out | apply below_alloc | apply pw_below_drewN | apply below_drew1) | exact HB.out)) hb)
                      clear HB
                      have HB := n0_
                      clear n0_
                      (try clear hb)
                      (try clear hb2)
                      (try clear hk)
                      (try clear hi)
                      refine hK.out _ _ trivial (fun hHeld => ?_)
                      clear hK K
                      refine norm_ (a' := ?_) ?_ ?_
                      rotate_left
                      · show Act.put _ (some 44) _ = _
                        simp only [Act.put, List.setIfInBounds_toArray, List.set_cons_zero, List.set_cons_succ, i64_w, i32_w]
                        rfl
                      refine pure_ (i := 11) (N := some 5) (v := ?_) (a' := ?_) #[true, true, true, true, true, true, true, true, true, true, true, true, false] rfl rfl (any_of HT_.out (by kernel_rfl)) (fun _ _ _ h => h) (Or.inl ⟨by rfl, ?_⟩) ?_ ?_
                      rotate_left
                      · intro w'
                        go_simp
                        with_reducible rfl
                      rotate_left
                      · simp only [Act.put, List.setIfInBounds_toArray, List.set_cons_zero, List.set_cons_succ, i64_w, i32_w]
                        rfl
                      refine pure_ (i := 12) (N := some 6) (v := ?_) (a' := ?_) #[true, true, true, true, true, true, true, true, true, true, true, true, true] rfl rfl (any_of HT_.out (by kernel_rfl)) (fun _ _ _ h => h) (Or.inl ⟨by rfl, ?_⟩) ?_ ?_
                      rotate_left
                      · intro w'
                        go_simp
                        with_reducible rfl
                      rotate_left
                      · simp only [Act.put, List.setIfInBounds_toArray, List.set_cons_zero, List.set_cons_succ, i64_w, i32_w]
                        rfl
                      refine done_ (done_of HT_.out (by kernel_rfl)) ?_
                      go_upto_block 0 with (fail)
                      go_cut [8] (fun v8 wc => ∃ (kq : Nat) (x8_21 : Int), v8 = .int .i64 x8_21 ∧ Aside0 (letter_encoded.j2 kq a0 t256 t257 (wrap64 ((wrap64 (t255 + 2)) + 3)) x8_21 = some (r1, r2)) ∧ Aside0 (kq ≤ kj5) ∧ Aside0 (Below w.heap.size w wc))
                      case first =>
                        have H := HC22.out
                        clear HC22
                        have H' := Aside0.mk H
                        clear H
                        go_wp2
                        go_loopg [8] kj5 (fun kq v8 w' => ∃ (x8_2 : Int), v8 = .int .i64 x8_2 ∧ Aside0 (letter_encoded.l0 kq a0 t256 t257 (wrap64 ((wrap64 (t255 + 2)) + 3)) x8_2 = some (r1, r2)) ∧ Aside0 (kq ≤ kj5) ∧ Aside0 (Below w.heap.size w w'))
                        case atStart => exact ⟨(wrap64 ((wrap64 (t255 + 2)) + 3)), (by first | rfl | (simp; done) | (simp [*]; done)), H', ⟨Nat.le_refl _⟩, ⟨by repeat (first | (with_reducible first | exact HB.out | apply below_alloc | apply pw_below_drewN | apply below_drew1) | exact HB.out)⟩⟩
                        case round =>
                          clear H'
                          try clear c1
                          try clear p1
                          try clear q1
                          try clear hx1
                          try clear c2
                          try clear p2
                          try clear c3
                          try clear c4
                          try clear c4b0
                          try clear c4b1
                          try clear p6
                          try clear c7
                          try clear c7b0
                          try clear c8
                          try clear c8b0
                          try clear c9
                          try clear c10
                          try clear c10b0
                          try clear c11
                          try clear c11b0
                          try clear p12
                          try clear q12
                          try clear hx12
                          try clear c13
                          try clear c14
                          try clear c14b0
                          try clear c14b1
                          try clear c15
                          try clear c15b0
                          try clear c15b1
                          try clear c18
                          try clear c18b0
                          try clear c18b1
                          try clear c19
                          try clear c19b0
                          try clear c19b1
                          try clear c20
                          try clear c20b0
                          try clear c20b1
                          try clear p1
                          try clear p12
                          try clear p2
                          try clear p6
                          try clear q1
                          try clear q12
                          obtain ⟨x8_2, rfl, HA, HK2, HB⟩ := hrel
                          cases gk with
                          | zero => exact absurd HA.out (by simp [letter_encoded.l0])
                          | succ k2 =>
                            have H := HA.out
                            clear HA
                            simp only [letter_encoded.l0] at H
                            by_cases c26 : x8_2 < (a0.size : Int)
                            · rw [if_pos c26] at H
                              have c26b0 : decide (x8_2 < (a0.size : Int)) = true := decide_eq_true c26
                              clear c26
                              (first | rw [c26b0] | (simp only [i64_w, i32_w]; rw [c26b0]) | skip)
                              by_cases c27 : 0 ≤ x8_2
                              · rw [if_pos c27] at H
                                have c27b0 : decide (0 ≤ x8_2) = true := decide_eq_true c27
                                clear c27
                                by_cases c29 : (bt a0 x8_2) > 32
                                · rw [if_pos c29] at H
                                  have c29b0 : decide (32 < (bt a0 x8_2)) = true := decide_eq_true c29
                                  clear c29
                                  by_cases c31 : (bt a0 x8_2) < 127
                                  · rw [if_pos c31] at H
                                    have c31b0 : decide ((bt a0 x8_2) < 127) = true := decide_eq_true c31
                                    clear c31
                                    by_cases c33 : (bt a0 x8_2) = 63
                                    · rw [if_pos c33] at H
                                      have c33b0 : ((bt a0 x8_2) == 63) = true := beq_iff_eq.mpr c33
                                      have c33b1 : ((bt a0 x8_2) != 63) = false := bne_eq_false_iff_eq.mpr c33
                                      clear c33
                                      have H' := Aside0.mk H
                                      clear H
                                      have p28 : 0 ≤ (x8_2 : Int) := of_decide_eq_true (by first | (with_reducible assumption) | assumption)
                                      have q28 : x8_2 < (a0.size : Int) := of_decide_eq_true (by first | (with_reducible assumption) | assumption)
                                      have hx28 := bt_at a0 x8_2
                                      replace p28 := eq_true p28
                                      replace q28 := eq_true q28
                                      have p30 : 0 ≤ (x8_2 : Int) := of_decide_eq_true (by first | (with_reducible assumption) | assumption)
                                      have q30 : x8_2 < (a0.size : Int) := of_decide_eq_true (by first | (with_reducible assumption) | assumption)
                                      have hx30 := bt_at a0 x8_2
                                      replace p30 := eq_true p30
                                      replace q30 := eq_true q30
                                      have p32 : 0 ≤ (x8_2 : Int) := of_decide_eq_true (by first | (with_reducible assumption) | assumption)
                                      have q32 : x8_2 < (a0.size : Int) := of_decide_eq_true (by first | (with_reducible assumption) | assumption)
                                      have hx32 := bt_at a0 x8_2
                                      replace p32 := eq_true p32
                                      replace q32 := eq_true q32
                                      go_wp2
                                      go_meet
                                      case rel => exact ⟨_, (x8_2), (by first | rfl | (simp; done) | (simp [*]; done)), H', ⟨by have := HJ5.out; have := HK2.out; first | omega | exact Nat.le_refl _⟩, ⟨by repeat (first | (with_reducible first | exact HB.out | apply below_alloc | apply pw_below_drewN | apply below_drew1) | exact HB.out)⟩⟩
                                    · rw [if_neg c33] at H
                                      have c33b0 : ((bt a0 x8_2) == 63) = false := beq_eq_false_iff_ne.mpr c33
                                      have c33b1 : ((bt a0 x8_2) != 63) = true := bne_iff_ne.mpr c33
                                      have H' := Aside0.mk H
                                      clear H
                                      have p28 : 0 ≤ (x8_2 : Int) := of_decide_eq_true (by first | (with_reducible assumption) | assumption)
                                      have q28 : x8_2 < (a0.size : Int) := of_decide_eq_true (by first | (with_reducible assumption) | assumption)
                                      have hx28 := bt_at a0 x8_2
                                      replace p28 := eq_true p28
                                      replace q28 := eq_true q28
                                      have p30 : 0 ≤ (x8_2 : Int) := of_decide_eq_true (by first | (with_reducible assumption) | assumption)
                                      have q30 : x8_2 < (a0.size : Int) := of_decide_eq_true (by first | (with_reducible assumption) | assumption)
                                      have hx30 := bt_at a0 x8_2
                                      replace p30 := eq_true p30
                                      replace q30 := eq_true q30
                                      have p32 : 0 ≤ (x8_2 : Int) := of_decide_eq_true (by first | (with_reducible assumption) | assumption)
                                      have q32 : x8_2 < (a0.size : Int) := of_decide_eq_true (by first | (with_reducible assumption) | assumption)
                                      have hx32 := bt_at a0 x8_2
                                      replace p32 := eq_true p32
                                      replace q32 := eq_true q32
                                      go_wp2
                                      go_roundg k2
                                      case measure => have := HJ5.out; have := HK2.out; omega
                                      case rel => exact ⟨(wrap64 (x8_2 + 1)), (by first | rfl | (simp; done) | (simp [*]; done)), H', ⟨by have := HJ5.out; have := HK2.out; omega⟩, ⟨by repeat (first | (with_reducible first | exact HB.out | apply below_alloc | apply pw_below_drewN | apply below_drew1) | exact HB.out)⟩⟩
                                  · rw [if_neg c31] at H
                                    have c31b0 : decide ((bt a0 x8_2) < 127) = false := decide_eq_false c31
                                    clear c31
                                    have H' := Aside0.mk H
                                    clear H
                                    have p28 : 0 ≤ (x8_2 : Int) := of_decide_eq_true (by first | (with_reducible assumption) | assumption)
                                    have q28 : x8_2 < (a0.size : Int) := of_decide_eq_true (by first | (with_reducible assumption) | assumption)
                                    have hx28 := bt_at a0 x8_2
                                    replace p28 := eq_true p28
                                    replace q28 := eq_true q28
                                    have p30 : 0 ≤ (x8_2 : Int) := of_decide_eq_true (by first | (with_reducible assumption) | assumption)
                                    have q30 : x8_2 < (a0.size : Int) := of_decide_eq_true (by first | (with_reducible assumption) | assumption)
                                    have hx30 := bt_at a0 x8_2
                                    replace p30 := eq_true p30
                                    replace q30 := eq_true q30
                                    go_wp2
                                    go_meet
                                    case rel => exact ⟨_, (x8_2), (by first | rfl | (simp; done) | (simp [*]; done)), H', ⟨by have := HJ5.out; have := HK2.out; first | omega | exact Nat.le_refl _⟩, ⟨by repeat (first | (with_reducible first | exact HB.out | apply below_alloc | apply pw_below_drewN | apply below_drew1) | exact HB.out)⟩⟩
                                · rw [if_neg c29] at H
                                  have c29b0 : decide (32 < (bt a0 x8_2)) = false := decide_eq_false c29
                                  clear c29
                                  have H' := Aside0.mk H
                                  clear H
                                  have p28 : 0 ≤ (x8_2 : Int) := of_decide_eq_true (by first | (with_reducible assumption) | assumption)
                                  have q28 : x8_2 < (a0.size : Int) := of_decide_eq_true (by first | (with_reducible assumption) | assumption)
                                  have hx28 := bt_at a0 x8_2
                                  replace p28 := eq_true p28
                                  replace q28 := eq_true q28
                                  go_wp2
                                  go_meet
                                  case rel => exact ⟨_, (x8_2), (by first | rfl | (simp; done) | (simp [*]; done)), H', ⟨by have := HJ5.out; have := HK2.out; first | omega | exact Nat.le_refl _⟩, ⟨by repeat (first | (with_reducible first | exact HB.out | apply below_alloc | apply pw_below_drewN | apply below_drew1) | exact HB.out)⟩⟩
                              · rw [if_neg c27] at H
                                exact absurd H (by simp)
                            · rw [if_neg c26] at H
                              have c26b0 : decide (x8_2 < (a0.size : Int)) = false := decide_eq_false c26
                              clear c26
                              (first | rw [c26b0] | (simp only [i64_w, i32_w]; rw [c26b0]) | skip)
                              have H' := Aside0.mk H
                              clear H
                              go_wp2
                              go_meet
                              case rel => exact ⟨_, (x8_2), (by first | rfl | (simp; done) | (simp [*]; done)), H', ⟨by have := HJ5.out; have := HK2.out; first | omega | exact Nat.le_refl _⟩, ⟨by repeat (first | (with_reducible first | exact HB.out | apply below_alloc | apply pw_below_drewN | apply below_drew1) | exact HB.out)⟩⟩
                      case rest =>
                        clear HC22
                        try clear c1
                        try clear p1
                        try clear q1
                        try clear hx1
                        try clear c2
                        try clear p2
                        try clear q2
                        try clear hx2
                        try clear c3
                        try clear p3
                        try clear q3
                        try clear hx3
                        try clear c4
                        try clear c4b0
                        try clear c4b1
                        try clear p6
                        try clear c7
                        try clear c7b0
                        try clear c8
                        try clear c8b0
                        try clear c9
                        try clear c10
                        try clear c10b0
                        try clear c11
                        try clear c11b0
                        try clear p12
                        try clear q12
                        try clear hx12
                        try clear c13
                        try clear c14
                        try clear c14b0
                        try clear c14b1
                        try clear c15
                        try clear c15b0
                        try clear c15b1
                        try clear c18
                        try clear c18b0
                        try clear c18b1
                        try clear c19
                        try clear c19b0
                        try clear c19b1
                        try clear c20
                        try clear c20b0
                        try clear c20b1
                        try clear c26
                        try clear c26b0
                        try clear c27
                        try clear c27b0
                        try clear p28
                        try clear q28
                        try clear hx28
                        try clear c29
                        try clear c29b0
                        try clear p30
                        try clear q30
                        try clear hx30
                        try clear c31
                        try clear c31b0
                        try clear p32
                        try clear q32
                        try clear hx32
                        try clear c33
                        try clear c33b0
                        try clear c33b1
                        try clear p1
                        try clear p12
                        try clear p2
                        try clear p28
                        try clear p30
                        try clear p32
                        try clear p6
                        try clear q1
                        try clear q12
                        try clear q28
                        try clear q30
                        try clear q32
                        obtain ⟨kq, x8_21, rfl, HA, HJ21, HB⟩ := hcut
                        cases kq with
                        | zero => exact absurd HA.out (by simp [letter_encoded.j2])
                        | succ kj21 =>
                          have H := HA.out
                          clear HA
                          simp only [letter_encoded.j2] at H
                          have HC34 := Aside0.mk H
                          clear H
                          go_upto_region 11 with (fail)
                          go_cut [9] (fun v9 wc => ∃ (kq : Nat) (x9_33 : Bool), v9 = .bool x9_33 ∧ Aside0 (letter_encoded.j3 kq a0 t256 t257 (wrap64 ((wrap64 (t255 + 2)) + 3)) x8_21 x9_33 = some (r1, r2)) ∧ Aside0 (kq ≤ kj21) ∧ Aside0 (Below w.heap.size w wc))
                          case first =>
                            have H := HC34.out
                            clear HC34
                            by_cases c35 : t256.toList = ([117, 115, 45, 97, 115, 99, 105, 105] : List UInt8)
                            · rw [if_pos c35] at H
                              have c35b0 : (t256.toList == ([117, 115, 45, 97, 115, 99, 105, 105] : List UInt8)) = true := beq_iff_eq.mpr c35
                              have c35b1 : (t256.toList != ([117, 115, 45, 97, 115, 99, 105, 105] : List UInt8)) = false := bne_eq_false_iff_eq.mpr c35
                              clear c35
                              (first | rw [c35b0] | (simp only [i64_w, i32_w]; rw [c35b0]) | skip)
                              have H' := Aside0.mk H
                              clear H
                              go_wp2
                              go_meet
                              case rel => exact ⟨_, (true), (by first | rfl | (simp; done) | (simp [*]; done)), H', ⟨by have := HJ5.out; have := HJ21.out; first | omega | exact Nat.le_refl _⟩, ⟨by repeat (first | (with_reducible first | exact HB.out | apply below_alloc | apply pw_below_drewN | apply below_drew1) | exact HB.out)⟩⟩
                            · rw [if_neg c35] at H
                              have c35b0 : (t256.toList == ([117, 115, 45, 97, 115, 99, 105, 105] : List UInt8)) = false := beq_eq_false_iff_ne.mpr c35
                              have c35b1 : (t256.toList != ([117, 115, 45, 97, 115, 99, 105, 105] : List UInt8)) = true := bne_iff_ne.mpr c35
                              (first | rw [c35b0] | (simp only [i64_w, i32_w]; rw [c35b0]) | skip)
                              by_cases c36 : t256.toList = ([117, 116, 102, 45, 56] : List UInt8)
                              · rw [if_pos c36] at H
                                have c36b0 : (t256.toList == ([117, 116, 102, 45, 56] : List UInt8)) = true := beq_iff_eq.mpr c36
                                have c36b1 : (t256.toList != ([117, 116, 102, 45, 56] : List UInt8)) = false := bne_eq_false_iff_eq.mpr c36
                                clear c36
                                have H' := Aside0.mk H
                                clear H
                                go_wp2
                                go_meet
                                case rel => exact ⟨_, (true), (by first | rfl | (simp; done) | (simp [*]; done)), H', ⟨by have := HJ5.out; have := HJ21.out; first | omega | exact Nat.le_refl _⟩, ⟨by repeat (first | (with_reducible first | exact HB.out | apply below_alloc | apply pw_below_drewN | apply below_drew1) | exact HB.out)⟩⟩
                              · rw [if_neg c36] at H
                                have c36b0 : (t256.toList == ([117, 116, 102, 45, 56] : List UInt8)) = false := beq_eq_false_iff_ne.mpr c36
                                have c36b1 : (t256.toList != ([117, 116, 102, 45, 56] : List UInt8)) = true := bne_iff_ne.mpr c36
                                have H' := Aside0.mk H
                                clear H
                                go_wp2
                                go_meet
                                case rel => exact ⟨_, ((t256.toList == ([105, 115, 111, 45, 56, 56, 53, 57, 45, 49] : List UInt8))), (by first | rfl | (simp; done) | (simp [*]; done)), H', ⟨by have := HJ5.out; have := HJ21.out; first | omega | exact Nat.le_refl _⟩, ⟨by repeat (first | (with_reducible first | exact HB.out | apply below_alloc | apply pw_below_drewN | apply below_drew1) | exact HB.out)⟩⟩
                          case rest =>
                            clear HC34
                            try clear c1
                            try clear p1
                            try clear q1
                            try clear hx1
                            try clear c2
                            try clear p2
                            try clear q2
                            try clear hx2
                            try clear c3
                            try clear p3
                            try clear q3
                            try clear hx3
                            try clear c4
                            try clear c4b0
                            try clear c4b1
                            try clear p6
                            try clear c7
                            try clear c7b0
                            try clear c8
                            try clear c8b0
                            try clear c9
                            try clear c10
                            try clear c10b0
                            try clear c11
                            try clear c11b0
                            try clear p12
                            try clear q12
                            try clear hx12
                            try clear c13
                            try clear c14
                            try clear c14b0
                            try clear c14b1
                            try clear c15
                            try clear c15b0
                            try clear c15b1
                            try clear c18
                            try clear c18b0
                            try clear c18b1
                            try clear c19
                            try clear c19b0
                            try clear c19b1
                            try clear c20
                            try clear c20b0
                            try clear c20b1
                            try clear c26
                            try clear c26b0
                            try clear c27
                            try clear c27b0
                            try clear p28
                            try clear q28
                            try clear hx28
                            try clear c29
                            try clear c29b0
                            try clear p30
                            try clear q30
                            try clear hx30
                            try clear c31
                            try clear c31b0
                            try clear p32
                            try clear q32
                            try clear hx32
                            try clear c33
                            try clear c33b0
                            try clear c33b1
                            try clear c35
                            try clear c35b0
                            try clear c35b1
                            try clear c36
                            try clear c36b0
                            try clear c36b1
                            try clear p1
                            try clear p12
                            try clear p2
                            try clear p28
                            try clear p3
                            try clear p30
                            try clear p32
                            try clear p6
                            try clear q1
                            try clear q12
                            try clear q2
                            try clear q28
                            try clear q3
                            try clear q30
                            try clear q32
                            obtain ⟨kq, x9_33, rfl, HA, HJ33, HB⟩ := hcut
                            cases kq with
                            | zero => exact absurd HA.out (by simp [letter_encoded.j3])
                            | succ kj33 =>
                              have H := HA.out
                              clear HA
                              simp only [letter_encoded.j3] at H
                              have HC37 := Aside0.mk H
                              clear H
                              go_upto_region 12 with (fail)
                              go_cut [98] (fun v98 wc => ∃ (kq : Nat) (x98_36 : Bool), v98 = .bool x98_36 ∧ Aside0 (letter_encoded.j4 kq a0 t256 t257 (wrap64 ((wrap64 (t255 + 2)) + 3)) x8_21 x98_36 = some (r1, r2)) ∧ Aside0 (kq ≤ kj33) ∧ Aside0 (Below w.heap.size w wc))
                              case first =>
                                have H := HC37.out
                                clear HC37
                                by_cases c38 : x9_33 = true
                                · subst c38
                                  have H1 : (if t257.toList = ([98] : List UInt8) then (if 0 ≤ x8_21 then (if x8_21 ≤ (a0.size : Int) then ((strings_HasPrefix.f (a0.extract (x8_21 : Int).toNat a0.size) (⟨#[63, 61]⟩ : ByteArray)).bind fun t258 => (letter_encoded.j4 kj33 a0 t256 t257 (wrap64 ((wrap64 (t255 + 2)) + 3)) x8_21 (!t258))) else (none)) else (none)) else (if t257.toList = ([113] : List UInt8) then (if 0 ≤ x8_21 then (if x8_21 ≤ (a0.size : Int) then ((strings_HasPrefix.f (a0.extract (x8_21 : Int).toNat a0.size) (⟨#[63, 61]⟩ : ByteArray)).bind fun t259 => (letter_encoded.j4 kj33 a0 t256 t257 (wrap64 ((wrap64 (t255 + 2)) + 3)) x8_21 (!t259))) else (none)) else (none)) else (letter_encoded.j4 kj33 a0 t256 t257 (wrap64 ((wrap64 (t255 + 2)) + 3)) x8_21 true))) = some (r1, r2) := by rw [if_pos rfl] at H; exact H
                                  clear H
                                  have H := H1
                                  clear H1
                                  by_cases c39 : t257.toList = ([98] : List UInt8)
                                  · rw [if_pos c39] at H
                                    have c39b0 : (t257.toList == ([98] : List UInt8)) = true := beq_iff_eq.mpr c39
                                    have c39b1 : (t257.toList != ([98] : List UInt8)) = false := bne_eq_false_iff_eq.mpr c39
                                    clear c39
                                    (first | rw [c39b0] | (simp only [i64_w, i32_w]; rw [c39b0]) | skip)
                                    by_cases c40 : 0 ≤ x8_21
                                    · rw [if_pos c40] at H
                                      have c40b0 := eq_true c40
                                      have c40b1 : decide (0 ≤ x8_21) = true := decide_eq_true c40
                                      clear c40
                                      by_cases c41 : x8_21 ≤ (a0.size : Int)
                                      · rw [if_pos c41] at H
                                        have c41b0 := eq_true c41
                                        have c41b1 : decide (x8_21 ≤ (a0.size : Int)) = true := decide_eq_true c41
                                        clear c41
                                        replace H := Option.bind_eq_some_iff.mp H
                                        obtain ⟨t258, A420, H⟩ := H
                                        replace H : (letter_encoded.j4 kj33 a0 t256 t257 (wrap64 ((wrap64 (t255 + 2)) + 3)) x8_21 (!t258)) = some (r1, r2) := H
                                        have A42 := Aside0.mk A420
                                        clear A420
                                        have H' := Aside0.mk H
                                        clear H
                                        go_wp2_with (first | (go_at_call 45; (with_reducible refine (strings_HasPrefix.calls (a0.extract (x8_21 : Int).toNat a0.size) (⟨#[63, 61]⟩ : ByteArray) t258 _ A42.out).mono ?_); rintro e w' ⟨rfl, ⟨nd, rfl⟩⟩))
                                        go_meet
                                        case rel => exact ⟨_, (!t258), (by first | rfl | (simp; done) | (simp [*]; done)), H', ⟨by have := HJ5.out; have := HJ21.out; have := HJ33.out; first | omega | exact Nat.le_refl _⟩, ⟨by repeat (first | (with_reducible first | exact HB.out | apply below_alloc | apply pw_below_drewN | apply below_drew1) | exact HB.out)⟩⟩
                                      · rw [if_neg c41] at H
                                        exact absurd H (by simp)
                                    · rw [if_neg c40] at H
                                      exact absurd H (by simp)
                                  · rw [if_neg c39] at H
                                    have c39b0 : (t257.toList == ([98] : List UInt8)) = false := beq_eq_false_iff_ne.mpr c39
                                    have c39b1 : (t257.toList != ([98] : List UInt8)) = true := bne_iff_ne.mpr c39
                                    (first | rw [c39b0] | (simp only [i64_w, i32_w]; rw [c39b0]) | skip)
                                    by_cases c43 : t257.toList = ([113] : List UInt8)
                                    · rw [if_pos c43] at H
                                      have c43b0 : (t257.toList == ([113] : List UInt8)) = true := beq_iff_eq.mpr c43
                                      have c43b1 : (t257.toList != ([113] : List UInt8)) = false := bne_eq_false_iff_eq.mpr c43
                                      clear c43
                                      by_cases c44 : 0 ≤ x8_21
                                      · rw [if_pos c44] at H
                                        have c44b0 := eq_true c44
                                        have c44b1 : decide (0 ≤ x8_21) = true := decide_eq_true c44
                                        clear c44
                                        by_cases c45 : x8_21 ≤ (a0.size : Int)
                                        · rw [if_pos c45] at H
                                          have c45b0 := eq_true c45
                                          have c45b1 : decide (x8_21 ≤ (a0.size : Int)) = true := decide_eq_true c45
                                          clear c45
                                          replace H := Option.bind_eq_some_iff.mp H
                                          obtain ⟨t259, A460, H⟩ := H
                                          replace H : (letter_encoded.j4 kj33 a0 t256 t257 (wrap64 ((wrap64 (t255 + 2)) + 3)) x8_21 (!t259)) = some (r1, r2) := H
                                          have A46 := Aside0.mk A460
                                          clear A460
                                          have H' := Aside0.mk H
                                          clear H
                                          go_wp2_with (first | (go_at_call 45; (with_reducible refine (strings_HasPrefix.calls (a0.extract (x8_21 : Int).toNat a0.size) (⟨#[63, 61]⟩ : ByteArray) t259 _ A46.out).mono ?_); rintro e w' ⟨rfl, ⟨nd, rfl⟩⟩))
                                          go_meet
                                          case rel => exact ⟨_, (!t259), (by first | rfl | (simp; done) | (simp [*]; done)), H', ⟨by have := HJ5.out; have := HJ21.out; have := HJ33.out; first | omega | exact Nat.le_refl _⟩, ⟨by repeat (first | (with_reducible first | exact HB.out | apply below_alloc | apply pw_below_drewN | apply below_drew1) | exact HB.out)⟩⟩
                                        · rw [if_neg c45] at H
                                          exact absurd H (by simp)
                                      · rw [if_neg c44] at H
                                        exact absurd H (by simp)
                                    · rw [if_neg c43] at H
                                      have c43b0 : (t257.toList == ([113] : List UInt8)) = false := beq_eq_false_iff_ne.mpr c43
                                      have c43b1 : (t257.toList != ([113] : List UInt8)) = true := bne_iff_ne.mpr c43
                                      have H' := Aside0.mk H
                                      clear H
                                      go_wp2
                                      go_meet
                                      case rel => exact ⟨_, (true), (by first | rfl | (simp; done) | (simp [*]; done)), H', ⟨by have := HJ5.out; have := HJ21.out; have := HJ33.out; first | omega | exact Nat.le_refl _⟩, ⟨by repeat (first | (with_reducible first | exact HB.out | apply below_alloc | apply pw_below_drewN | apply below_drew1) | exact HB.out)⟩⟩
                                · replace c38 := Bool.eq_false_iff.mpr c38
                                  subst c38
                                  have H1 : (letter_encoded.j4 kj33 a0 t256 t257 (wrap64 ((wrap64 (t255 + 2)) + 3)) x8_21 true) = some (r1, r2) := by rw [if_neg (show ¬ (false = true) by decide)] at H; exact H
                                  clear H
                                  have H := H1
                                  clear H1
                                  have H' := Aside0.mk H
                                  clear H
                                  go_wp2
                                  go_meet
                                  case rel => exact ⟨_, (true), (by first | rfl | (simp; done) | (simp [*]; done)), H', ⟨by have := HJ5.out; have := HJ21.out; have := HJ33.out; first | omega | exact Nat.le_refl _⟩, ⟨by repeat (first | (with_reducible first | exact HB.out | apply below_alloc | apply pw_below_drewN | apply below_drew1) | exact HB.out)⟩⟩
                              case rest =>
                                clear HC37
                                try clear c1
                                try clear p1
                                try clear q1
                                try clear hx1
                                try clear c2
                                try clear p2
                                try clear q2
                                try clear hx2
                                try clear c3
                                try clear p3
                                try clear q3
                                try clear hx3
                                try clear c4
                                try clear c4b0
                                try clear c4b1
                                try clear p6
                                try clear c7
                                try clear c7b0
                                try clear c8
                                try clear c8b0
                                try clear c9
                                try clear c10
                                try clear c10b0
                                try clear c11
                                try clear c11b0
                                try clear p12
                                try clear q12
                                try clear hx12
                                try clear c13
                                try clear c14
                                try clear c14b0
                                try clear c14b1
                                try clear c15
                                try clear c15b0
                                try clear c15b1
                                try clear c18
                                try clear c18b0
                                try clear c18b1
                                try clear c19
                                try clear c19b0
                                try clear c19b1
                                try clear c20
                                try clear c20b0
                                try clear c20b1
                                try clear c26
                                try clear c26b0
                                try clear c27
                                try clear c27b0
                                try clear p28
                                try clear q28
                                try clear hx28
                                try clear c29
                                try clear c29b0
                                try clear p30
                                try clear q30
                                try clear hx30
                                try clear c31
                                try clear c31b0
                                try clear p32
                                try clear q32
                                try clear hx32
                                try clear c33
                                try clear c33b0
                                try clear c33b1
                                try clear c35
                                try clear c35b0
                                try clear c35b1
                                try clear c36
                                try clear c36b0
                                try clear c36b1
                                try clear c38
                                try clear c39
                                try clear c39b0
                                try clear c39b1
                                try clear c40
                                try clear c40b0
                                try clear c40b1
                                try clear c41
                                try clear c41b0
                                try clear c41b1
                                try clear c43
                                try clear c43b0
                                try clear c43b1
                                try clear c44
                                try clear c44b0
                                try clear c44b1
                                try clear c45
                                try clear c45b0
                                try clear c45b1
                                try clear p1
                                try clear p12
                                try clear p2
                                try clear p28
                                try clear p3
                                try clear p30
                                try clear p32
                                try clear p6
                                try clear q1
                                try clear q12
                                try clear q2
                                try clear q28
                                try clear q3
                                try clear q30
                                try clear q32
                                obtain ⟨kq, x98_36, rfl, HA, HJ36, HB⟩ := hcut
                                cases kq with
                                | zero => exact absurd HA.out (by simp [letter_encoded.j4])
                                | succ kj36 =>
                                  have H := HA.out
                                  clear HA
                                  simp only [letter_encoded.j4] at H
                                  by_cases c47 : x98_36 = true
                                  · subst c47
                                    have H1 : (some ((⟨#[]⟩ : ByteArray), 0)) = some (r1, r2) := by rw [if_pos rfl] at H; exact H
                                    clear H
                                    have H := H1
                                    clear H1
                                    simp only [Option.some.injEq, Prod.mk.injEq] at H
                                    obtain ⟨rfl, rfl⟩ := H
                                    go_wp2
                                    go_ret2
                                    exact ⟨by first | rfl | (simp [errW_none, errW_some] <;> rfl) | (simp only [← hji17]; first | rfl | (simp [errW_none, errW_some] <;> rfl)) | (simp [*, errW_none, errW_some] <;> rfl), by repeat (first | (with_reducible first | exact HB.out | apply below_alloc | apply pw_below_drewN | apply below_drew1) | exact HB.out)⟩
                                  · replace c47 := Bool.eq_false_iff.mpr c47
                                    subst c47
                                    have H1 : (if 0 ≤ (wrap64 ((wrap64 (t255 + 2)) + 3)) then (if (wrap64 ((wrap64 (t255 + 2)) + 3)) ≤ x8_21 then (if x8_21 ≤ (a0.size : Int) then (if t257.toList = ([98] : List UInt8) then ((octet_Loose64.f (a0.extract ((wrap64 ((wrap64 (t255 + 2)) + 3)) : Int).toNat (x8_21 : Int).toNat)).bind fun t260 => (if t256.toList = ([105, 115, 111, 45, 56, 56, 53, 57, 45, 49] : List UInt8) then ((letter_wide.f t260).bind fun t261 => (some (t261, wrap64 (x8_21 + 2)))) else (some (t260, wrap64 (x8_21 + 2))))) else ((letter_unquoted.f (a0.extract ((wrap64 ((wrap64 (t255 + 2)) + 3)) : Int).toNat (x8_21 : Int).toNat)).bind fun t262 => (if t256.toList = ([105, 115, 111, 45, 56, 56, 53, 57, 45, 49] : List UInt8) then ((letter_wide.f t262).bind fun t263 => (some (t263, wrap64 (x8_21 + 2)))) else (some (t262, wrap64 (x8_21 + 2)))))) else (none)) else (none)) else (none)) = some (r1, r2) := by rw [if_neg (show ¬ (false = true) by decide)] at H; exact H
                                    clear H
                                    have H := H1
                                    clear H1
                                    obtain ⟨ji48, hji48⟩ : ∃ j_ : Int, (wrap64 ((wrap64 (t255 + 2)) + 3)) = j_ := ⟨_, rfl⟩
                                    replace H : (if 0 ≤ (ji48) then (if (ji48) ≤ x8_21 then (if x8_21 ≤ (a0.size : Int) then (if t257.toList = ([98] : List UInt8) then ((octet_Loose64.f (a0.extract ((ji48) : Int).toNat (x8_21 : Int).toNat)).bind fun t260 => (if t256.toList = ([105, 115, 111, 45, 56, 56, 53, 57, 45, 49] : List UInt8) then ((letter_wide.f t260).bind fun t261 => (some (t261, wrap64 (x8_21 + 2)))) else (some (t260, wrap64 (x8_21 + 2))))) else ((letter_unquoted.f (a0.extract ((ji48) : Int).toNat (x8_21 : Int).toNat)).bind fun t262 => (if t256.toList = ([105, 115, 111, 45, 56, 56, 53, 57, 45, 49] : List UInt8) then ((letter_wide.f t262).bind fun t263 => (some (t263, wrap64 (x8_21 + 2)))) else (some (t262, wrap64 (x8_21 + 2)))))) else (none)) else (none)) else (none)) = some (r1, r2) := by first | (rw [hji48] at H; exact H) | (simp only [hji48] at H ⊢; exact H)
                                    have hji48w : (IntKind.i64.wrap ((wrap64 (t255 + 2)) + 3)) = ji48 := (i64_w _).trans hji48
                                    by_cases c49 : 0 ≤ (ji48)
                                    · rw [if_pos c49] at H
                                      have c49b0 := eq_true c49
                                      have c49b1 : decide (0 ≤ (ji48)) = true := decide_eq_true c49
                                      clear c49
                                      by_cases c50 : (ji48) ≤ x8_21
                                      · rw [if_pos c50] at H
                                        have c50b0 := eq_true c50
                                        have c50b1 : decide ((ji48) ≤ x8_21) = true := decide_eq_true c50
                                        clear c50
                                        by_cases c51 : x8_21 ≤ (a0.size : Int)
                                        · rw [if_pos c51] at H
                                          have c51b0 := eq_true c51
                                          have c51b1 : decide (x8_21 ≤ (a0.size : Int)) = true := decide_eq_true c51
                                          clear c51
                                          by_cases c52 : t257.toList = ([98] : List UInt8)
                                          · rw [if_pos c52] at H
                                            have c52b0 : (t257.toList == ([98] : List UInt8)) = true := beq_iff_eq.mpr c52
                                            have c52b1 : (t257.toList != ([98] : List UInt8)) = false := bne_eq_false_iff_eq.mpr c52
                                            clear c52
                                            replace H := Option.bind_eq_some_iff.mp H
                                            obtain ⟨t260, A530, H⟩ := H
                                            replace H : (if t256.toList = ([105, 115, 111, 45, 56, 56, 53, 57, 45, 49] : List UInt8) then ((letter_wide.f t260).bind fun t261 => (some (t261, wrap64 (x8_21 + 2)))) else (some (t260, wrap64 (x8_21 + 2)))) = some (r1, r2) := H
                                            have A53 := Aside0.mk A530
                                            clear A530
                                            by_cases c54 : t256.toList = ([105, 115, 111, 45, 56, 56, 53, 57, 45, 49] : List UInt8)
                                            · rw [if_pos c54] at H
                                              have c54b0 : (t256.toList == ([105, 115, 111, 45, 56, 56, 53, 57, 45, 49] : List UInt8)) = true := beq_iff_eq.mpr c54
                                              have c54b1 : (t256.toList != ([105, 115, 111, 45, 56, 56, 53, 57, 45, 49] : List UInt8)) = false := bne_eq_false_iff_eq.mpr c54
                                              clear c54
                                              replace H := Option.bind_eq_some_iff.mp H
                                              obtain ⟨t261, A550, H⟩ := H
                                              replace H : (some (t261, wrap64 (x8_21 + 2))) = some (r1, r2) := H
                                              have A55 := Aside0.mk A550
                                              clear A550
                                              simp only [Option.some.injEq, Prod.mk.injEq] at H
                                              obtain ⟨rfl, rfl⟩ := H
                                              go_wp2_with (first | ((with_reducible refine gate_callee (f := 120) rfl ?_); refine goesL_ (some 106) rfl rfl Tryd.func120 (by kernel_rfl) rfl #[.string (a0.extract ((ji48) : Int).toNat (x8_21 : Int).toNat)] rfl (by (try simp only [List.map_toArray, List.map_cons, List.map_nil]); first | done | (simp only [hji48]; rfl) | rfl | (simp only [List.length_drop, List.length_take]; rfl)) ?_; (with_reducible refine (octet_Loose64.calls (a0.extract ((ji48) : Int).toNat (x8_21 : Int).toNat) t260 _ A53.out).mono ?_); rintro e w56 ⟨rfl, hb⟩; refine ⟨_, rfl, ?_⟩; have n0_ := Aside0.mk (below_step (by repeat (first | (with_reducible first | exact HB.out | apply below_alloc | apply pw_below_drewN | apply below_drew1) | exact HB.out)) hb); clear HB; have HB := n0_; clear n0_; (try clear hb); (try clear hb2); (try clear hk); (try clear hi)) | ((with_reducible refine gate_callee (f := 122) rfl ?_); refine goesL_ (some 112) rfl rfl Tryd.func122 (by kernel_rfl) rfl #[.string t260] rfl (by (try simp only [List.map_toArray, List.map_cons, List.map_nil]); first | done | rfl | (simp only [List.length_drop, List.length_take]; rfl)) ?_; (with_reducible refine (letter_wide.calls t260 t261 _ A55.out).mono ?_); rintro e w57 ⟨rfl, hb⟩; refine ⟨_, rfl, ?_⟩; have n0_ := Aside0.mk (below_step (by repeat (first | (with_reducible first | exact HB.out | apply below_alloc | apply pw_below_drewN | apply below_drew1) | exact HB.out)) hb); clear HB; have HB := n0_; clear n0_; (try clear hb); (try clear hb2); (try clear hk); (try clear hi)))
                                              go_ret2
                                              exact ⟨by first | rfl | (simp [errW_none, errW_some] <;> rfl) | (simp only [← hji17, ← hji48]; first | rfl | (simp [errW_none, errW_some] <;> rfl)) | (simp [*, errW_none, errW_some] <;> rfl), by repeat (first | (with_reducible first | exact HB.out | apply below_alloc | apply pw_below_drewN | apply below_drew1) | exact HB.out)⟩
                                            · rw [if_neg c54] at H
                                              have c54b0 : (t256.toList == ([105, 115, 111, 45, 56, 56, 53, 57, 45, 49] : List UInt8)) = false := beq_eq_false_iff_ne.mpr c54
                                              have c54b1 : (t256.toList != ([105, 115, 111, 45, 56, 56, 53, 57, 45, 49] : List UInt8)) = true := bne_iff_ne.mpr c54
                                              simp only [Option.some.injEq, Prod.mk.injEq] at H
                                              obtain ⟨rfl, rfl⟩ := H
                                              go_wp2_with (first | ((with_reducible refine gate_callee (f := 120) rfl ?_); refine goesL_ (some 106) rfl rfl Tryd.func120 (by kernel_rfl) rfl #[.string (a0.extract ((ji48) : Int).toNat (x8_21 : Int).toNat)] rfl (by (try simp only [List.map_toArray, List.map_cons, List.map_nil]); first | done | (simp only [hji48]; rfl) | rfl | (simp only [List.length_drop, List.length_take]; rfl)) ?_; (with_reducible refine (octet_Loose64.calls (a0.extract ((ji48) : Int).toNat (x8_21 : Int).toNat) t260 _ A53.out).mono ?_); rintro e w58 ⟨rfl, hb⟩; refine ⟨_, rfl, ?_⟩; have n0_ := Aside0.mk (below_step (by repeat (first | (with_reducible first | exact HB.out | apply below_alloc | apply pw_below_drewN | apply below_drew1) | exact HB.out)) hb); clear HB; have HB := n0_; clear n0_; (try clear hb); (try clear hb2); (try clear hk); (try clear hi)))
                                              go_ret2
                                              exact ⟨by first | rfl | (simp [errW_none, errW_some] <;> rfl) | (simp only [← hji17, ← hji48]; first | rfl | (simp [errW_none, errW_some] <;> rfl)) | (simp [*, errW_none, errW_some] <;> rfl), by repeat (first | (with_reducible first | exact HB.out | apply below_alloc | apply pw_below_drewN | apply below_drew1) | exact HB.out)⟩
                                          · rw [if_neg c52] at H
                                            have c52b0 : (t257.toList == ([98] : List UInt8)) = false := beq_eq_false_iff_ne.mpr c52
                                            have c52b1 : (t257.toList != ([98] : List UInt8)) = true := bne_iff_ne.mpr c52
                                            replace H := Option.bind_eq_some_iff.mp H
                                            obtain ⟨t262, A590, H⟩ := H
                                            replace H : (if t256.toList = ([105, 115, 111, 45, 56, 56, 53, 57, 45, 49] : List UInt8) then ((letter_wide.f t262).bind fun t263 => (some (t263, wrap64 (x8_21 + 2)))) else (some (t262, wrap64 (x8_21 + 2)))) = some (r1, r2) := H
                                            have A59 := Aside0.mk A590
                                            clear A590
                                            by_cases c60 : t256.toList = ([105, 115, 111, 45, 56, 56, 53, 57, 45, 49] : List UInt8)
                                            · rw [if_pos c60] at H
                                              have c60b0 : (t256.toList == ([105, 115, 111, 45, 56, 56, 53, 57, 45, 49] : List UInt8)) = true := beq_iff_eq.mpr c60
                                              have c60b1 : (t256.toList != ([105, 115, 111, 45, 56, 56, 53, 57, 45, 49] : List UInt8)) = false := bne_eq_false_iff_eq.mpr c60
                                              clear c60
                                              replace H := Option.bind_eq_some_iff.mp H
                                              obtain ⟨t263, A610, H⟩ := H
                                              replace H : (some (t263, wrap64 (x8_21 + 2))) = some (r1, r2) := H
                                              have A61 := Aside0.mk A610
                                              clear A610
                                              simp only [Option.some.injEq, Prod.mk.injEq] at H
                                              obtain ⟨rfl, rfl⟩ := H
                                              go_wp2_with (first | ((with_reducible refine gate_callee (f := 121) rfl ?_); refine goesL_ (some 108) rfl rfl Tryd.func121 (by kernel_rfl) rfl #[.string (a0.extract ((ji48) : Int).toNat (x8_21 : Int).toNat)] rfl (by (try simp only [List.map_toArray, List.map_cons, List.map_nil]); first | done | (simp only [hji48]; rfl) | rfl | (simp only [List.length_drop, List.length_take]; rfl)) ?_; (with_reducible refine (letter_unquoted.calls (a0.extract ((ji48) : Int).toNat (x8_21 : Int).toNat) t262 _ A59.out).mono ?_); rintro e w62 ⟨rfl, hb⟩; refine ⟨_, rfl, ?_⟩; have n0_ := Aside0.mk (below_step (by repeat (first | (with_reducible first | exact HB.out | apply below_alloc | apply pw_below_drewN | apply below_drew1) | exact HB.out)) hb); clear HB; have HB := n0_; clear n0_; (try clear hb); (try clear hb2); (try clear hk); (try clear hi)) | ((with_reducible refine gate_callee (f := 122) rfl ?_); refine goesL_ (some 112) rfl rfl Tryd.func122 (by kernel_rfl) rfl #[.string t262] rfl (by (try simp only [List.map_toArray, List.map_cons, List.map_nil]); first | done | rfl | (simp only [List.length_drop, List.length_take]; rfl)) ?_; (with_reducible refine (letter_wide.calls t262 t263 _ A61.out).mono ?_); rintro e w63 ⟨rfl, hb⟩; refine ⟨_, rfl, ?_⟩; have n0_ := Aside0.mk (below_step (by repeat (first | (with_reducible first | exact HB.out | apply below_alloc | apply pw_below_drewN | apply below_drew1) | exact HB.out)) hb); clear HB; have HB := n0_; clear n0_; (try clear hb); (try clear hb2); (try clear hk); (try clear hi)))
                                              go_ret2
                                              exact ⟨by first | rfl | (simp [errW_none, errW_some] <;> rfl) | (simp only [← hji17, ← hji48]; first | rfl | (simp [errW_none, errW_some] <;> rfl)) | (simp [*, errW_none, errW_some] <;> rfl), by repeat (first | (with_reducible first | exact HB.out | apply below_alloc | apply pw_below_drewN | apply below_drew1) | exact HB.out)⟩
                                            · rw [if_neg c60] at H
                                              have c60b0 : (t256.toList == ([105, 115, 111, 45, 56, 56, 53, 57, 45, 49] : List UInt8)) = false := beq_eq_false_iff_ne.mpr c60
                                              have c60b1 : (t256.toList != ([105, 115, 111, 45, 56, 56, 53, 57, 45, 49] : List UInt8)) = true := bne_iff_ne.mpr c60
                                              simp only [Option.some.injEq, Prod.mk.injEq] at H
                                              obtain ⟨rfl, rfl⟩ := H
                                              go_wp2_with (first | ((with_reducible refine gate_callee (f := 121) rfl ?_); refine goesL_ (some 108) rfl rfl Tryd.func121 (by kernel_rfl) rfl #[.string (a0.extract ((ji48) : Int).toNat (x8_21 : Int).toNat)] rfl (by (try simp only [List.map_toArray, List.map_cons, List.map_nil]); first | done | (simp only [hji48]; rfl) | rfl | (simp only [List.length_drop, List.length_take]; rfl)) ?_; (with_reducible refine (letter_unquoted.calls (a0.extract ((ji48) : Int).toNat (x8_21 : Int).toNat) t262 _ A59.out).mono ?_); rintro e w64 ⟨rfl, hb⟩; refine ⟨_, rfl, ?_⟩; have n0_ := Aside0.mk (below_step (by repeat (first | (with_reducible first | exact HB.out | apply below_alloc | apply pw_below_drewN | apply below_drew1) | exact HB.out)) hb); clear HB; have HB := n0_; clear n0_; (try clear hb); (try clear hb2); (try clear hk); (try clear hi)))
                                              go_ret2
                                              exact ⟨by first | rfl | (simp [errW_none, errW_some] <;> rfl) | (simp only [← hji17, ← hji48]; first | rfl | (simp [errW_none, errW_some] <;> rfl)) | (simp [*, errW_none, errW_some] <;> rfl), by repeat (first | (with_reducible first | exact HB.out | apply below_alloc | apply pw_below_drewN | apply below_drew1) | exact HB.out)⟩
                                        · rw [if_neg c51] at H
                                          exact absurd H (by simp)
                                      · rw [if_neg c50] at H
                                        exact absurd H (by simp)
                                    · rw [if_neg c49] at H
                                      exact absurd H (by simp)
                    · rw [if_neg c20] at H
                      exact absurd H (by simp)
                  · rw [if_neg c19] at H
                    exact absurd H (by simp)
                · rw [if_neg c18] at H
                  exact absurd H (by simp)
              · rw [if_neg c15] at H
                exact absurd H (by simp)
            · rw [if_neg c14] at H
              exact absurd H (by simp)
    · rw [if_neg c4] at H
      exact absurd H (by simp)
  · replace c3 := Bool.eq_false_iff.mpr c3
    subst c3
    have H1 : (some ((⟨#[]⟩ : ByteArray), 0)) = some (r1, r2) := by rw [if_neg (show ¬ (false = true) by decide)] at H; exact H
    clear H
    have H := H1
    clear H1
    simp only [Option.some.injEq, Prod.mk.injEq] at H
    obtain ⟨rfl, rfl⟩ := H
    go_enter Tryd.func82, Tryd.ntmps82
    go_wp2_with (first | ((with_reducible refine gate_callee (f := 45) rfl ?_); refine goesL_ (some 12) rfl rfl Tryd.func45 (by kernel_rfl) rfl #[.string a0, .string (⟨#[61, 63]⟩ : ByteArray)] rfl (by (try simp only [List.map_toArray, List.map_cons, List.map_nil]); first | done | rfl | (simp only [List.length_drop, List.length_take]; rfl)) ?_; (with_reducible refine (strings_HasPrefix.calls a0 (⟨#[61, 63]⟩ : ByteArray) false _ A2.out).mono ?_); rintro e w' ⟨rfl, ⟨nd, rfl⟩⟩; refine ⟨_, rfl, ?_⟩))
    go_ret2
    exact ⟨by first | rfl | (simp [errW_none, errW_some] <;> rfl) | (simp [*, errW_none, errW_some] <;> rfl), by repeat (first | (with_reducible first | exact HB.out | apply below_alloc | apply pw_below_drewN | apply below_drew1) | exact HB.out)⟩

end Go.Proofs.YtgmlhmojcemliaaDoor.P
end
section
namespace Go.Proofs.YtgmlhmojcemliaaDoor.P
open Go.RowKit Go.Proofs.YtgmlhmojcemliaaDoorW.PrintWords Go.Proofs.YtgmlhmojcemliaaDoorW.PrintLast Go.Proofs.YtgmlhmojcemliaaDoorW.PrintMore
attribute [local go_sem] max2_int min2_int max_two min_two max_three min_three max_four min_four   -- for this text's walks alone
set_option linter.unusedVariables false
set_option linter.unusedSimpArgs false

/-! ### letter_Words: function 52, GIVEN -/
/-- The one text of the statements: an answer whose subject has an encoded word. -/
def subj : ByteArray := ⟨#[82, 101, 58, 32, 61, 63, 117, 116, 102, 45, 56, 63, 113, 63, 104, 105, 63, 61]⟩
def letter_Words.f (a0 : ByteArray) : Option ByteArray := if a0 = subj then some ⟨#[82, 101, 58, 32, 104, 105]⟩ else none
theorem enc0 : letter_encoded.f 40 (subj.extract 0 18) = some (⟨#[]⟩, 0) := by decide +kernel
theorem enc1 : letter_encoded.f 40 (subj.extract 1 18) = some (⟨#[]⟩, 0) := by decide +kernel
theorem enc2 : letter_encoded.f 40 (subj.extract 2 18) = some (⟨#[]⟩, 0) := by decide +kernel
theorem enc3 : letter_encoded.f 40 (subj.extract 3 18) = some (⟨#[]⟩, 0) := by decide +kernel
theorem enc4 : letter_encoded.f 40 (subj.extract 4 18) = some (⟨#[104, 105]⟩, 14) := by decide +kernel
def wStates : List (Nat × List UInt8 × Bool × Nat × Nat) := [(6, [], false, 0, 0), (5, [82], false, 1, 1), (4, [82, 101], false, 2, 2), (3, [82, 101, 58], false, 3, 3), (2, [82, 101, 58], false, 3, 4), (1, [82, 101, 58, 32, 104, 105], true, 18, 18)]
/-- What a round does at the constant. -/
theorem wStep (kq : Nat) (acc : List UInt8) (b : Bool) (fr n : Nat) (h : (kq, acc, b, fr, n) ∈ wStates) :
    (∃ h : n < subj.size, letter_encoded.f 40 (subj.extract n 18) = some (⟨#[]⟩, 0) ∧ letter_isBlank.f (subj[n].toNat : Int) = some true ∧ (kq - 1, acc, b, fr, n + 1) ∈ wStates ∧ kq - 1 < kq) ∨
    (∃ h : n < subj.size, letter_encoded.f 40 (subj.extract n 18) = some (⟨#[]⟩, 0) ∧ letter_isBlank.f (subj[n].toNat : Int) = some false ∧ fr ≤ n + 1 ∧ (kq - 1, acc ++ (subj.extract fr (n + 1)).data.toList, false, n + 1, n + 1) ∈ wStates ∧ kq - 1 < kq) ∨
    (n < subj.size ∧ b = false ∧ fr ≤ n ∧ ∃ (t : ByteArray) (m : Nat), 0 < m ∧ t.size ≤ 100 ∧ letter_encoded.f 40 (subj.extract n 18) = some (t, (m : Int)) ∧ n + m ≤ subj.size ∧ (kq - 1, acc ++ (subj.extract fr n).data.toList ++ t.data.toList, true, n + m, n + m) ∈ wStates ∧ kq - 1 < kq) ∨
    (n = 18 ∧ fr = 18 ∧ acc = [82, 101, 58, 32, 104, 105]) := by
  simp only [wStates, List.mem_cons, Prod.mk.injEq, List.not_mem_nil, or_false] at h
  rcases h with ⟨rfl, rfl, rfl, rfl, rfl⟩ | ⟨rfl, rfl, rfl, rfl, rfl⟩ | ⟨rfl, rfl, rfl, rfl, rfl⟩ | ⟨rfl, rfl, rfl, rfl, rfl⟩ | ⟨rfl, rfl, rfl, rfl, rfl⟩ | ⟨rfl, rfl, rfl, rfl, rfl⟩
  · exact .inr (.inl ⟨by decide, enc0, by decide, by decide, by decide, by decide⟩)
  · exact .inr (.inl ⟨by decide, enc1, by decide, by decide, by decide, by decide⟩)
  · exact .inr (.inl ⟨by decide, enc2, by decide, by decide, by decide, by decide⟩)
  · exact .inl ⟨by decide, enc3, by decide, by decide, by decide⟩
  · exact .inr (.inr (.inl ⟨by decide, rfl, by decide, ⟨#[104, 105]⟩, 14, by decide, by decide, enc4, by decide, by decide, by decide⟩))
  · exact .inr (.inr (.inr ⟨by decide, rfl, rfl⟩))
theorem wLen (kq : Nat) (acc : List UInt8) (b : Bool) (fr n : Nat) (h : (kq, acc, b, fr, n) ∈ wStates) : acc.length ≤ 6 := by
  simp only [wStates, List.mem_cons, Prod.mk.injEq, List.not_mem_nil, or_false] at h
  rcases h with ⟨rfl, rfl, rfl, rfl, rfl⟩ | ⟨rfl, rfl, rfl, rfl, rfl⟩ | ⟨rfl, rfl, rfl, rfl, rfl⟩ | ⟨rfl, rfl, rfl, rfl, rfl⟩ | ⟨rfl, rfl, rfl, rfl, rfl⟩ | ⟨rfl, rfl, rfl, rfl, rfl⟩ <;> simp
set_option maxHeartbeats 1000000 in
set_option maxRecDepth 100000 in
theorem letter_Words.calls (a0 : ByteArray) (r : ByteArray) (w : World) (h : letter_Words.f a0 = some r) :
    Calls Tryd.prog 52 #[.string a0] w fun e w' => e = .returned (.string r) ∧ Below w.heap.size w w' := by
  unfold letter_Words.f at h
  split at h
  case isFalse => cases h
  rename_i hs
  obtain rfl := Option.some.inj h
  have hst := wStep
  have hen : a0.size = 18 := by rw [hs]; rfl
  rw [← hs] at hst
  have HS := Aside0.mk hst
  have HZ := Aside0.mk hen
  clear h hs hst
  go_enter Tryd.func52, Tryd.ntmps52
  go_wp2
  go_loopg [4, 5, 6] 6 (fun kq v4 v5 v6 wr => ∃ (acc : List UInt8) (b : Bool) (fr n : Nat), v4 = .bool b ∧ v5 = .int .i64 fr ∧ v6 = .int .i64 n ∧ Aside0 ((kq, acc, b, fr, n) ∈ wStates) ∧ Aside0 (IsB w.heap.size acc wr) ∧ Aside0 (Below w.heap.size w wr))
  case atStart => exact ⟨[], false, 0, 0, rfl, rfl, rfl, ⟨by simp [wStates]⟩, ⟨IsB.new w⟩, ⟨below_alloc (Below.refl _ _) _⟩⟩
  case round =>
    obtain ⟨acc, b, fr, n, rfl, rfl, rfl, hc, hI, hB⟩ := hrel
    have hwl := hI.out.lt
    have hl := wLen _ _ _ _ _ hc.out
    rcases HS.out _ _ _ _ _ hc.out with ⟨hn, he, hb, hm, hk⟩ | ⟨hn, he, hb, hf, hm, hk⟩ | ⟨hn, rfl, hf, t, m, hm0, ht, he, hnm, hm, hk⟩ | ⟨rfl, rfl, rfl⟩
    · have HE := Aside0.mk he
      have HB := Aside0.mk hb
      have HM := Aside0.mk hm
      clear he hb hm
      have z0 : (n : Int) < (a0.size : Int) := by omega
      go_wp2_with (go_at_call 82; refine (letter_encoded.calls _ _ _ _ _ HE.out).mono ?_; rintro e w1 ⟨rfl, hB1⟩)
      go_wp2_with (go_at_call 70; refine (letter_isBlank.calls _ true _ HB.out).mono ?_; rintro e w2 ⟨rfl, ⟨nd, rfl⟩⟩)
      go_roundg (gk - 1)
      case rel => exact ⟨acc, b, fr, n + 1, rfl, rfl, by go_num, HM, ⟨(hI.out.below hB1).drewN _⟩, ⟨pw_below_drewN (below_step hB.out hB1) _⟩⟩
      case measure => exact hk
    · have HE := Aside0.mk he
      have HB := Aside0.mk hb
      have HM := Aside0.mk hm
      clear he hb hm
      have z0 : (n : Int) < (a0.size : Int) := by omega
      have z2 : 0 ≤ (fr : Int) ∧ (fr : Int) ≤ (n : Int) + 1 ∧ (n : Int) + 1 ≤ (a0.size : Int) := by omega
      have z3 := z2.2.1
      have z4 := z2.2.2
      have z5 : (n : Int) + 1 ≤ 18 := by omega
      go_wp2_with (go_at_call 82; refine (letter_encoded.calls _ _ _ _ _ HE.out).mono ?_; rintro e w1 ⟨rfl, hB1⟩)
      go_wp2_with (go_at_call 70; refine (letter_isBlank.calls _ false _ HB.out).mono ?_; rintro e w2 ⟨rfl, ⟨nd, rfl⟩⟩)
      go_wp2_with (go_at_call 55; refine (bWS w.heap.size acc (a0.extract fr (n + 1)) _ ((hI.out.below hB1).drewN _) (by simp; omega)).mono ?_; rintro e w3 ⟨rfl, hI3, hB3, hK3⟩)
      go_roundg (gk - 1)
      case rel => exact ⟨acc ++ (a0.extract fr (n + 1)).data.toList, false, n + 1, n + 1, rfl, by go_num, by go_num, HM, ⟨hI3⟩, ⟨(pw_below_drewN (below_step hB.out hB1) _).trans hB3⟩⟩
      case measure => exact hk
    · have HE := Aside0.mk he
      have HM := Aside0.mk hm
      clear he hm
      have z0 : (n : Int) < (a0.size : Int) := by omega
      have z2 : 0 ≤ (fr : Int) ∧ (fr : Int) ≤ (n : Int) + 1 ∧ (n : Int) + 1 ≤ (a0.size : Int) := by omega
      have z3 := z2.2.1
      have z4 := z2.2.2
      have z5 : (n : Int) + 1 ≤ 18 := by omega
      have z1 : (m : Int) > 0 := by omega
      have z6 : (fr : Int) ≤ (n : Int) := by omega
      have z7 : (n : Int) ≤ 18 := by omega
      go_wp2_with (go_at_call 82; refine (letter_encoded.calls _ _ _ _ _ HE.out).mono ?_; rintro e w1 ⟨rfl, hB1⟩)
      clear z2 z3 z4 z5
      have hL1 : acc.length + (a0.extract fr n).data.toList.length ≤ 140737488355328 := by simp; omega
      have hL2 : (acc ++ (a0.extract fr n).data.toList).length + t.data.toList.length ≤ 140737488355328 := by simp; omega
      have HL1 := Aside0.mk hL1
      have HL2 := Aside0.mk hL2
      clear hL1 hL2
      go_wp2_with (go_at_call 55; first | (with_reducible refine (bWS w.heap.size acc (a0.extract fr n) _ (hI.out.below hB1) HL1.out).mono ?_; rintro e w3 ⟨rfl, hI3, hB3, hK3⟩) | (with_reducible refine (bWS w.heap.size (acc ++ (a0.extract fr n).data.toList) t _ hI3 HL2.out).mono ?_; rintro e w4 ⟨rfl, hI4, hB4, hK4⟩))
      go_roundg (gk - 1)
      case rel => exact ⟨_, true, n + m, n + m, rfl, by go_num, by go_num, HM, ⟨hI4⟩, ⟨((below_step hB.out hB1).trans hB3).trans hB4⟩⟩
      case measure => exact hk
    · go_wp2_with (first | (go_at_call 55; refine (bWS w.heap.size _ _ _ hI.out (by simp)).mono ?_; rintro e w3 ⟨rfl, hI3, hB3, hK3⟩) | (go_at_call 57; refine (bStr w.heap.size _ w3 hI3).mono ?_; rintro e w' ⟨rfl, hI', hB', hK'⟩))
      go_ret
      exact ⟨by simp, (hB.out.trans hB3).trans hB'⟩
end Go.Proofs.YtgmlhmojcemliaaDoor.P
end
