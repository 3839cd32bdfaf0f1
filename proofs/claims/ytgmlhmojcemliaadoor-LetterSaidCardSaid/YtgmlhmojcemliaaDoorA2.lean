import Derived.Test.YtgmlhmojcemliaaDoorA1
import Derived.Test.YtgmlhmojcemliaaDoorProg
import Derived.Below
import Derived.Deep.Draws
import Derived.Deep.AppendLies
import Derived.Maps.AppendAt
import Derived.OwnWalk
import Derived.Laws.BytesArg
import Derived.Laws.MakeOwn
import Derived.Laws.OwnMore
import Derived.Deep.OwnRows
import Derived.Tactics
import Derived.Lib.ConvBytes
import Derived.Laws.Slices
import Derived.WalkKit
import Derived.KernelRfl
import Derived.RowKit3
import Derived.Deep.LoopGhost
import Derived.Deep.QuietTactic
import Derived.BigQuiet
import Derived.WideLaws
import Derived.Deep.DeepCutAuto
import Derived.Deep.CutBlock
import Derived.Deep.RegionHeld3
import Derived.Laws.Rows
import Derived.Lib.AppendStr
import Derived.ArgAppend
import Derived.Laws.IdiomCopy
import Derived.OrdersHeld
import Derived.Laws.BitsLemmas
import Derived.RowKit
section
namespace Go.Proofs.YtgmlhmojcemliaaDoor.P
open Go.RowKit Go.Proofs.YtgmlhmojcemliaaDoorW.PrintWords Go.Proofs.YtgmlhmojcemliaaDoorW.PrintLast Go.Proofs.YtgmlhmojcemliaaDoorW.PrintMore
attribute [local go_sem] max2_int min2_int max_two min_two max_three min_three max_four min_four   -- for this text's walks alone
set_option linter.unusedVariables false
set_option linter.unusedSimpArgs false



def errW : Option Int → Value
  | none => .nilIface
  | some c => .iface 0 (.int .i64 c)
theorem errW_none : errW none = .nilIface := rfl
theorem errW_some (c : Int) : errW (some c) = .iface 0 (.int .i64 c) := rfl

theorem info5 : (Tryd.prog.info? 5).map (fun i => (i.zero, i.size, i.bytes)) = some (some (.int .u8 0), 1, 1) := by kernel_rfl
theorem info9 : (Tryd.prog.info? 9).map (fun i => (i.zero, i.size, i.bytes)) = some (some (.string ⟨#[]⟩), 1, 16) := by kernel_rfl
theorem info28 : (Tryd.prog.info? 28).map (fun i => (i.zero, i.size, i.bytes)) = some (some (.agg #[(.string ⟨#[]⟩), (.string ⟨#[]⟩), (.string ⟨#[]⟩), (.bool false), (.bool false)]), 5, 56) := by kernel_rfl
theorem info32 : (Tryd.prog.info? 32).map (fun i => (i.zero, i.size, i.bytes)) = some (some (.agg #[(.bool false), (.string ⟨#[]⟩), (.bool false), (.string ⟨#[]⟩), (.bool false), (.string ⟨#[]⟩), (.bool false), (.string ⟨#[]⟩)]), 8, 96) := by kernel_rfl
theorem info64 : (Tryd.prog.info? 64).map (fun i => (i.zero, i.size, i.bytes)) = some (some (.agg #[(.string ⟨#[]⟩), (.string ⟨#[]⟩), (.string ⟨#[]⟩)]), 3, 48) := by kernel_rfl
theorem info71 : (Tryd.prog.info? 71).map (fun i => (i.zero, i.size, i.bytes)) = some (some (.agg #[(.int .i64 0), (.string ⟨#[]⟩)]), 2, 24) := by kernel_rfl
theorem info95 : (Tryd.prog.info? 95).map (fun i => (i.zero, i.size, i.bytes)) = some (some (.agg #[(.string ⟨#[]⟩), (.string ⟨#[]⟩), (.bool false), (.bool false)]), 4, 40) := by kernel_rfl
-- the values' own types
/-! #### struct type 95 -/
structure S95 where
  f0 : ByteArray
  f1 : ByteArray
  f2 : Bool
  f3 : Bool
def z95 : S95 := ⟨(⟨#[]⟩ : ByteArray), (⟨#[]⟩ : ByteArray), false, false⟩
def k95 : Kd S95 := Kd.iso (Kd.pair Kd.string (Kd.pair Kd.string (Kd.pair Kd.bool Kd.bool))) (fun x : S95 => (x.f0, x.f1, x.f2, x.f3))
theorem k95_open {w : World} {x : S95} {cs : List Value} (h : k95.K w x cs) : cs = [.string x.f0, .string x.f1, .bool x.f2, .bool x.f3] := by
  obtain ⟨_, _, rfl, rfl, ⟨_, _, rfl, rfl, ⟨_, _, rfl, rfl, rfl⟩⟩⟩ := h
  exact rfl
theorem k95_openM {w : World} {base : Nat} {ok : Nat → Prop} {x : S95} {cs : List Value} (h : k95.M w base ok x cs) : cs = [.string x.f0, .string x.f1, .bool x.f2, .bool x.f3] := by
  obtain ⟨_, _, rfl, rfl, ⟨_, _, rfl, rfl, ⟨_, _, rfl, rfl, rfl⟩⟩⟩ := h
  exact rfl
theorem k95_mk (w : World) (x : S95)  : k95.K w x [.string x.f0, .string x.f1, .bool x.f2, .bool x.f3] := ⟨[.string x.f0], [.string x.f1, .bool x.f2, .bool x.f3], rfl, rfl, ⟨[.string x.f1], [.bool x.f2, .bool x.f3], rfl, rfl, ⟨[.bool x.f2], [.bool x.f3], rfl, rfl, rfl⟩⟩⟩
theorem k95_mkM (w : World) (base : Nat) (ok : Nat → Prop) (x : S95)  : k95.M w base ok x [.string x.f0, .string x.f1, .bool x.f2, .bool x.f3] := ⟨[.string x.f0], [.string x.f1, .bool x.f2, .bool x.f3], rfl, rfl, ⟨[.string x.f1], [.bool x.f2, .bool x.f3], rfl, rfl, ⟨[.bool x.f2], [.bool x.f3], rfl, rfl, rfl⟩⟩⟩
theorem k95_mkF (W : World) (ok : Nat → Prop) (x : S95) : Kd.FK k95 W ok x [.string x.f0, .string x.f1, .bool x.f2, .bool x.f3] := fun W2 _ => k95_mk W2 x
def rd_T95 (xs : List S95) (i : Int) : S95 := xs.getD i.toNat z95
theorem at_T95 {w : World} {A : Option Addr} {n : Nat} {xs : List S95} (h : Kd.C k95 w A n xs) (i : Int) (h0 : 0 ≤ i) (h1 : i < n) : ∃ ad , A = some ad ∧ w.cell? (ad.add (i.toNat * 4)) = some (.string (rd_T95 xs i).f0) ∧ w.cell? ⟨(ad.add (i.toNat * 4)).block, (ad.add (i.toNat * 4)).off + 1, none⟩ = some (.string (rd_T95 xs i).f1) ∧ w.cell? ⟨(ad.add (i.toNat * 4)).block, (ad.add (i.toNat * 4)).off + 2, none⟩ = some (.bool (rd_T95 xs i).f2) ∧ w.cell? ⟨(ad.add (i.toNat * 4)).block, (ad.add (i.toNat * 4)).off + 3, none⟩ = some (.bool (rd_T95 xs i).f3) := by
  obtain ⟨ad, c, e, _, hK, hc0⟩ := Kd.C_get h z95 i h0 h1
  have hc : ∀ j u, c[j]? = some u → w.cell? (ad.add (i.toNat * 4 + j)) = some u := hc0
  obtain rfl := k95_open hK
  exact ⟨ad, e, hc 0 _ rfl, by rw [← add_field _ _ 1 (by omega)]; exact hc 1 _ rfl, by rw [← add_field _ _ 2 (by omega)]; exact hc 2 _ rfl, by rw [← add_field _ _ 3 (by omega)]; exact hc 3 _ rfl⟩

def rd_L4 (xs : List (List S95)) (i : Int) : (List S95) := xs.getD i.toNat ([] : List S95)
theorem at_L4 {w : World} {A : Option Addr} {n : Nat} {xs : List (List S95)} (h : Kd.C (Kd.slice 95 k95) w A n xs) (i : Int) (h0 : 0 ≤ i) (h1 : i < n) : ∃ ad A0 c0, A = some ad ∧ w.cell? (ad.add i.toNat) = some (.slice A0 (rd_L4 xs i).length c0) ∧ (rd_L4 xs i).length ≤ c0 ∧ k95.C w A0 (rd_L4 xs i).length (rd_L4 xs i) := by
  obtain ⟨ad, c, e, _, hK, hc0⟩ := Kd.C_get h ([] : List S95) i h0 h1
  have hc : ∀ j u, c[j]? = some u → w.cell? (ad.add (i.toNat * 1 + j)) = some u := hc0
  obtain ⟨A0, c0, rfl, l0, g0⟩ := hK
  exact ⟨ad, A0, c0, e, by have hq := hc 0 _ rfl; rwa [Nat.mul_one, Nat.add_zero] at hq, l0, g0⟩

/-! #### struct type 64 -/
structure S64 where
  f0 : ByteArray
  f1 : ByteArray
  f2 : ByteArray
def z64 : S64 := ⟨(⟨#[]⟩ : ByteArray), (⟨#[]⟩ : ByteArray), (⟨#[]⟩ : ByteArray)⟩
def k64 : Kd S64 := Kd.iso (Kd.pair Kd.string (Kd.pair Kd.string Kd.string)) (fun x : S64 => (x.f0, x.f1, x.f2))
theorem k64_open {w : World} {x : S64} {cs : List Value} (h : k64.K w x cs) : cs = [.string x.f0, .string x.f1, .string x.f2] := by
  obtain ⟨_, _, rfl, rfl, ⟨_, _, rfl, rfl, rfl⟩⟩ := h
  exact rfl
theorem k64_openM {w : World} {base : Nat} {ok : Nat → Prop} {x : S64} {cs : List Value} (h : k64.M w base ok x cs) : cs = [.string x.f0, .string x.f1, .string x.f2] := by
  obtain ⟨_, _, rfl, rfl, ⟨_, _, rfl, rfl, rfl⟩⟩ := h
  exact rfl
theorem k64_mk (w : World) (x : S64)  : k64.K w x [.string x.f0, .string x.f1, .string x.f2] := ⟨[.string x.f0], [.string x.f1, .string x.f2], rfl, rfl, ⟨[.string x.f1], [.string x.f2], rfl, rfl, rfl⟩⟩
theorem k64_mkM (w : World) (base : Nat) (ok : Nat → Prop) (x : S64)  : k64.M w base ok x [.string x.f0, .string x.f1, .string x.f2] := ⟨[.string x.f0], [.string x.f1, .string x.f2], rfl, rfl, ⟨[.string x.f1], [.string x.f2], rfl, rfl, rfl⟩⟩
theorem k64_mkF (W : World) (ok : Nat → Prop) (x : S64) : Kd.FK k64 W ok x [.string x.f0, .string x.f1, .string x.f2] := fun W2 _ => k64_mk W2 x
def rd_T64 (xs : List S64) (i : Int) : S64 := xs.getD i.toNat z64
theorem at_T64 {w : World} {A : Option Addr} {n : Nat} {xs : List S64} (h : Kd.C k64 w A n xs) (i : Int) (h0 : 0 ≤ i) (h1 : i < n) : ∃ ad , A = some ad ∧ w.cell? (ad.add (i.toNat * 3)) = some (.string (rd_T64 xs i).f0) ∧ w.cell? ⟨(ad.add (i.toNat * 3)).block, (ad.add (i.toNat * 3)).off + 1, none⟩ = some (.string (rd_T64 xs i).f1) ∧ w.cell? ⟨(ad.add (i.toNat * 3)).block, (ad.add (i.toNat * 3)).off + 2, none⟩ = some (.string (rd_T64 xs i).f2) := by
  obtain ⟨ad, c, e, _, hK, hc0⟩ := Kd.C_get h z64 i h0 h1
  have hc : ∀ j u, c[j]? = some u → w.cell? (ad.add (i.toNat * 3 + j)) = some u := hc0
  obtain rfl := k64_open hK
  exact ⟨ad, e, hc 0 _ rfl, by rw [← add_field _ _ 1 (by omega)]; exact hc 1 _ rfl, by rw [← add_field _ _ 2 (by omega)]; exact hc 2 _ rfl⟩

def rd_L7 (xs : List (List S64)) (i : Int) : (List S64) := xs.getD i.toNat ([] : List S64)
theorem at_L7 {w : World} {A : Option Addr} {n : Nat} {xs : List (List S64)} (h : Kd.C (Kd.slice 64 k64) w A n xs) (i : Int) (h0 : 0 ≤ i) (h1 : i < n) : ∃ ad A0 c0, A = some ad ∧ w.cell? (ad.add i.toNat) = some (.slice A0 (rd_L7 xs i).length c0) ∧ (rd_L7 xs i).length ≤ c0 ∧ k64.C w A0 (rd_L7 xs i).length (rd_L7 xs i) := by
  obtain ⟨ad, c, e, _, hK, hc0⟩ := Kd.C_get h ([] : List S64) i h0 h1
  have hc : ∀ j u, c[j]? = some u → w.cell? (ad.add (i.toNat * 1 + j)) = some u := hc0
  obtain ⟨A0, c0, rfl, l0, g0⟩ := hK
  exact ⟨ad, A0, c0, e, by have hq := hc 0 _ rfl; rwa [Nat.mul_one, Nat.add_zero] at hq, l0, g0⟩

/-! #### struct type 71 -/
structure S71 where
  f0 : Int
  f1 : ByteArray
def z71 : S71 := ⟨(0 : Int), (⟨#[]⟩ : ByteArray)⟩
def k71 : Kd S71 := Kd.iso (Kd.pair (Kd.int .i64) Kd.string) (fun x : S71 => (x.f0, x.f1))
theorem k71_open {w : World} {x : S71} {cs : List Value} (h : k71.K w x cs) : cs = [.int .i64 x.f0, .string x.f1] := by
  obtain ⟨_, _, rfl, rfl, rfl⟩ := h
  exact rfl
theorem k71_openM {w : World} {base : Nat} {ok : Nat → Prop} {x : S71} {cs : List Value} (h : k71.M w base ok x cs) : cs = [.int .i64 x.f0, .string x.f1] := by
  obtain ⟨_, _, rfl, rfl, rfl⟩ := h
  exact rfl
theorem k71_mk (w : World) (x : S71)  : k71.K w x [.int .i64 x.f0, .string x.f1] := ⟨[.int .i64 x.f0], [.string x.f1], rfl, rfl, rfl⟩
theorem k71_mkM (w : World) (base : Nat) (ok : Nat → Prop) (x : S71)  : k71.M w base ok x [.int .i64 x.f0, .string x.f1] := ⟨[.int .i64 x.f0], [.string x.f1], rfl, rfl, rfl⟩
theorem k71_mkF (W : World) (ok : Nat → Prop) (x : S71) : Kd.FK k71 W ok x [.int .i64 x.f0, .string x.f1] := fun W2 _ => k71_mk W2 x
def rd_T71 (xs : List S71) (i : Int) : S71 := xs.getD i.toNat z71
theorem at_T71 {w : World} {A : Option Addr} {n : Nat} {xs : List S71} (h : Kd.C k71 w A n xs) (i : Int) (h0 : 0 ≤ i) (h1 : i < n) : ∃ ad , A = some ad ∧ w.cell? (ad.add (i.toNat * 2)) = some (.int .i64 (rd_T71 xs i).f0) ∧ w.cell? ⟨(ad.add (i.toNat * 2)).block, (ad.add (i.toNat * 2)).off + 1, none⟩ = some (.string (rd_T71 xs i).f1) := by
  obtain ⟨ad, c, e, _, hK, hc0⟩ := Kd.C_get h z71 i h0 h1
  have hc : ∀ j u, c[j]? = some u → w.cell? (ad.add (i.toNat * 2 + j)) = some u := hc0
  obtain rfl := k71_open hK
  exact ⟨ad, e, hc 0 _ rfl, by rw [← add_field _ _ 1 (by omega)]; exact hc 1 _ rfl⟩

def rd_L9 (xs : List (List S71)) (i : Int) : (List S71) := xs.getD i.toNat ([] : List S71)
theorem at_L9 {w : World} {A : Option Addr} {n : Nat} {xs : List (List S71)} (h : Kd.C (Kd.slice 71 k71) w A n xs) (i : Int) (h0 : 0 ≤ i) (h1 : i < n) : ∃ ad A0 c0, A = some ad ∧ w.cell? (ad.add i.toNat) = some (.slice A0 (rd_L9 xs i).length c0) ∧ (rd_L9 xs i).length ≤ c0 ∧ k71.C w A0 (rd_L9 xs i).length (rd_L9 xs i) := by
  obtain ⟨ad, c, e, _, hK, hc0⟩ := Kd.C_get h ([] : List S71) i h0 h1
  have hc : ∀ j u, c[j]? = some u → w.cell? (ad.add (i.toNat * 1 + j)) = some u := hc0
  obtain ⟨A0, c0, rfl, l0, g0⟩ := hK
  exact ⟨ad, A0, c0, e, by have hq := hc 0 _ rfl; rwa [Nat.mul_one, Nat.add_zero] at hq, l0, g0⟩

/-! #### struct type 30 -/
structure S30 where
  f0 : Bool
  f1 : ByteArray
def z30 : S30 := ⟨false, (⟨#[]⟩ : ByteArray)⟩
def k30 : Kd S30 := Kd.iso (Kd.pair Kd.bool Kd.string) (fun x : S30 => (x.f0, x.f1))
theorem k30_open {w : World} {x : S30} {cs : List Value} (h : k30.K w x cs) : cs = [.bool x.f0, .string x.f1] := by
  obtain ⟨_, _, rfl, rfl, rfl⟩ := h
  exact rfl
theorem k30_openM {w : World} {base : Nat} {ok : Nat → Prop} {x : S30} {cs : List Value} (h : k30.M w base ok x cs) : cs = [.bool x.f0, .string x.f1] := by
  obtain ⟨_, _, rfl, rfl, rfl⟩ := h
  exact rfl
theorem k30_mk (w : World) (x : S30)  : k30.K w x [.bool x.f0, .string x.f1] := ⟨[.bool x.f0], [.string x.f1], rfl, rfl, rfl⟩
theorem k30_mkM (w : World) (base : Nat) (ok : Nat → Prop) (x : S30)  : k30.M w base ok x [.bool x.f0, .string x.f1] := ⟨[.bool x.f0], [.string x.f1], rfl, rfl, rfl⟩
theorem k30_mkF (W : World) (ok : Nat → Prop) (x : S30) : Kd.FK k30 W ok x [.bool x.f0, .string x.f1] := fun W2 _ => k30_mk W2 x
def rd_T30 (xs : List S30) (i : Int) : S30 := xs.getD i.toNat z30
theorem at_T30 {w : World} {A : Option Addr} {n : Nat} {xs : List S30} (h : Kd.C k30 w A n xs) (i : Int) (h0 : 0 ≤ i) (h1 : i < n) : ∃ ad , A = some ad ∧ w.cell? (ad.add (i.toNat * 2)) = some (.bool (rd_T30 xs i).f0) ∧ w.cell? ⟨(ad.add (i.toNat * 2)).block, (ad.add (i.toNat * 2)).off + 1, none⟩ = some (.string (rd_T30 xs i).f1) := by
  obtain ⟨ad, c, e, _, hK, hc0⟩ := Kd.C_get h z30 i h0 h1
  have hc : ∀ j u, c[j]? = some u → w.cell? (ad.add (i.toNat * 2 + j)) = some u := hc0
  obtain rfl := k30_open hK
  exact ⟨ad, e, hc 0 _ rfl, by rw [← add_field _ _ 1 (by omega)]; exact hc 1 _ rfl⟩

/-! #### struct type 32 -/
structure S32 where
  f0 : S30
  f1 : S30
  f2 : S30
  f3 : S30
def z32 : S32 := ⟨z30, z30, z30, z30⟩
def k32 : Kd S32 := Kd.iso (Kd.pair k30 (Kd.pair k30 (Kd.pair k30 k30))) (fun x : S32 => (x.f0, x.f1, x.f2, x.f3))
theorem k32_open {w : World} {x : S32} {cs : List Value} (h : k32.K w x cs) : cs = [.bool x.f0.f0, .string x.f0.f1, .bool x.f1.f0, .string x.f1.f1, .bool x.f2.f0, .string x.f2.f1, .bool x.f3.f0, .string x.f3.f1] := by
  obtain ⟨_, _, rfl, s0, ⟨_, _, rfl, s2, ⟨_, _, rfl, s4, s6⟩⟩⟩ := h
  obtain rfl := k30_open s0
  obtain rfl := k30_open s2
  obtain rfl := k30_open s4
  obtain rfl := k30_open s6
  exact rfl
theorem k32_openM {w : World} {base : Nat} {ok : Nat → Prop} {x : S32} {cs : List Value} (h : k32.M w base ok x cs) : cs = [.bool x.f0.f0, .string x.f0.f1, .bool x.f1.f0, .string x.f1.f1, .bool x.f2.f0, .string x.f2.f1, .bool x.f3.f0, .string x.f3.f1] := by
  obtain ⟨_, _, rfl, s0, ⟨_, _, rfl, s2, ⟨_, _, rfl, s4, s6⟩⟩⟩ := h
  obtain rfl := k30_openM s0
  obtain rfl := k30_openM s2
  obtain rfl := k30_openM s4
  obtain rfl := k30_openM s6
  exact rfl
theorem k32_mk (w : World) (x : S32)  : k32.K w x [.bool x.f0.f0, .string x.f0.f1, .bool x.f1.f0, .string x.f1.f1, .bool x.f2.f0, .string x.f2.f1, .bool x.f3.f0, .string x.f3.f1] := ⟨[.bool x.f0.f0, .string x.f0.f1], [.bool x.f1.f0, .string x.f1.f1, .bool x.f2.f0, .string x.f2.f1, .bool x.f3.f0, .string x.f3.f1], rfl, (k30_mk w x.f0 ), ⟨[.bool x.f1.f0, .string x.f1.f1], [.bool x.f2.f0, .string x.f2.f1, .bool x.f3.f0, .string x.f3.f1], rfl, (k30_mk w x.f1 ), ⟨[.bool x.f2.f0, .string x.f2.f1], [.bool x.f3.f0, .string x.f3.f1], rfl, (k30_mk w x.f2 ), (k30_mk w x.f3 )⟩⟩⟩
theorem k32_mkM (w : World) (base : Nat) (ok : Nat → Prop) (x : S32)  : k32.M w base ok x [.bool x.f0.f0, .string x.f0.f1, .bool x.f1.f0, .string x.f1.f1, .bool x.f2.f0, .string x.f2.f1, .bool x.f3.f0, .string x.f3.f1] := ⟨[.bool x.f0.f0, .string x.f0.f1], [.bool x.f1.f0, .string x.f1.f1, .bool x.f2.f0, .string x.f2.f1, .bool x.f3.f0, .string x.f3.f1], rfl, (k30_mkM w base ok x.f0 ), ⟨[.bool x.f1.f0, .string x.f1.f1], [.bool x.f2.f0, .string x.f2.f1, .bool x.f3.f0, .string x.f3.f1], rfl, (k30_mkM w base ok x.f1 ), ⟨[.bool x.f2.f0, .string x.f2.f1], [.bool x.f3.f0, .string x.f3.f1], rfl, (k30_mkM w base ok x.f2 ), (k30_mkM w base ok x.f3 )⟩⟩⟩
theorem k32_mkF (W : World) (ok : Nat → Prop) (x : S32) : Kd.FK k32 W ok x [.bool x.f0.f0, .string x.f0.f1, .bool x.f1.f0, .string x.f1.f1, .bool x.f2.f0, .string x.f2.f1, .bool x.f3.f0, .string x.f3.f1] := fun W2 _ => k32_mk W2 x
def rd_T32 (xs : List S32) (i : Int) : S32 := xs.getD i.toNat z32
theorem at_T32 {w : World} {A : Option Addr} {n : Nat} {xs : List S32} (h : Kd.C k32 w A n xs) (i : Int) (h0 : 0 ≤ i) (h1 : i < n) : ∃ ad , A = some ad ∧ w.cell? (ad.add (i.toNat * 8)) = some (.bool (rd_T32 xs i).f0.f0) ∧ w.cell? ⟨(ad.add (i.toNat * 8)).block, (ad.add (i.toNat * 8)).off + 1, none⟩ = some (.string (rd_T32 xs i).f0.f1) ∧ w.cell? ⟨(ad.add (i.toNat * 8)).block, (ad.add (i.toNat * 8)).off + 2, none⟩ = some (.bool (rd_T32 xs i).f1.f0) ∧ w.cell? ⟨(ad.add (i.toNat * 8)).block, (ad.add (i.toNat * 8)).off + 3, none⟩ = some (.string (rd_T32 xs i).f1.f1) ∧ w.cell? ⟨(ad.add (i.toNat * 8)).block, (ad.add (i.toNat * 8)).off + 4, none⟩ = some (.bool (rd_T32 xs i).f2.f0) ∧ w.cell? ⟨(ad.add (i.toNat * 8)).block, (ad.add (i.toNat * 8)).off + 5, none⟩ = some (.string (rd_T32 xs i).f2.f1) ∧ w.cell? ⟨(ad.add (i.toNat * 8)).block, (ad.add (i.toNat * 8)).off + 6, none⟩ = some (.bool (rd_T32 xs i).f3.f0) ∧ w.cell? ⟨(ad.add (i.toNat * 8)).block, (ad.add (i.toNat * 8)).off + 7, none⟩ = some (.string (rd_T32 xs i).f3.f1) := by
  obtain ⟨ad, c, e, _, hK, hc0⟩ := Kd.C_get h z32 i h0 h1
  have hc : ∀ j u, c[j]? = some u → w.cell? (ad.add (i.toNat * 8 + j)) = some u := hc0
  obtain rfl := k32_open hK
  exact ⟨ad, e, hc 0 _ rfl, by rw [← add_field _ _ 1 (by omega)]; exact hc 1 _ rfl, by rw [← add_field _ _ 2 (by omega)]; exact hc 2 _ rfl, by rw [← add_field _ _ 3 (by omega)]; exact hc 3 _ rfl, by rw [← add_field _ _ 4 (by omega)]; exact hc 4 _ rfl, by rw [← add_field _ _ 5 (by omega)]; exact hc 5 _ rfl, by rw [← add_field _ _ 6 (by omega)]; exact hc 6 _ rfl, by rw [← add_field _ _ 7 (by omega)]; exact hc 7 _ rfl⟩

def rd_L12 (xs : List (List ByteArray)) (i : Int) : (List ByteArray) := xs.getD i.toNat ([] : List ByteArray)
theorem at_L12 {w : World} {A : Option Addr} {n : Nat} {xs : List (List ByteArray)} (h : Kd.C (Kd.slice 9 Kd.string) w A n xs) (i : Int) (h0 : 0 ≤ i) (h1 : i < n) : ∃ ad A0 c0, A = some ad ∧ w.cell? (ad.add i.toNat) = some (.slice A0 (rd_L12 xs i).length c0) ∧ (rd_L12 xs i).length ≤ c0 ∧ Kd.string.C w A0 (rd_L12 xs i).length (rd_L12 xs i) := by
  obtain ⟨ad, c, e, _, hK, hc0⟩ := Kd.C_get h ([] : List ByteArray) i h0 h1
  have hc : ∀ j u, c[j]? = some u → w.cell? (ad.add (i.toNat * 1 + j)) = some u := hc0
  obtain ⟨A0, c0, rfl, l0, g0⟩ := hK
  exact ⟨ad, A0, c0, e, by have hq := hc 0 _ rfl; rwa [Nat.mul_one, Nat.add_zero] at hq, l0, g0⟩

/-! #### struct type 28 -/
structure S28 where
  f0 : ByteArray
  f1 : ByteArray
  f2 : ByteArray
  f3 : Bool
  f4 : Bool
def z28 : S28 := ⟨(⟨#[]⟩ : ByteArray), (⟨#[]⟩ : ByteArray), (⟨#[]⟩ : ByteArray), false, false⟩
def k28 : Kd S28 := Kd.iso (Kd.pair Kd.string (Kd.pair Kd.string (Kd.pair Kd.string (Kd.pair Kd.bool Kd.bool)))) (fun x : S28 => (x.f0, x.f1, x.f2, x.f3, x.f4))
theorem k28_open {w : World} {x : S28} {cs : List Value} (h : k28.K w x cs) : cs = [.string x.f0, .string x.f1, .string x.f2, .bool x.f3, .bool x.f4] := by
  obtain ⟨_, _, rfl, rfl, ⟨_, _, rfl, rfl, ⟨_, _, rfl, rfl, ⟨_, _, rfl, rfl, rfl⟩⟩⟩⟩ := h
  exact rfl
theorem k28_openM {w : World} {base : Nat} {ok : Nat → Prop} {x : S28} {cs : List Value} (h : k28.M w base ok x cs) : cs = [.string x.f0, .string x.f1, .string x.f2, .bool x.f3, .bool x.f4] := by
  obtain ⟨_, _, rfl, rfl, ⟨_, _, rfl, rfl, ⟨_, _, rfl, rfl, ⟨_, _, rfl, rfl, rfl⟩⟩⟩⟩ := h
  exact rfl
theorem k28_mk (w : World) (x : S28)  : k28.K w x [.string x.f0, .string x.f1, .string x.f2, .bool x.f3, .bool x.f4] := ⟨[.string x.f0], [.string x.f1, .string x.f2, .bool x.f3, .bool x.f4], rfl, rfl, ⟨[.string x.f1], [.string x.f2, .bool x.f3, .bool x.f4], rfl, rfl, ⟨[.string x.f2], [.bool x.f3, .bool x.f4], rfl, rfl, ⟨[.bool x.f3], [.bool x.f4], rfl, rfl, rfl⟩⟩⟩⟩
theorem k28_mkM (w : World) (base : Nat) (ok : Nat → Prop) (x : S28)  : k28.M w base ok x [.string x.f0, .string x.f1, .string x.f2, .bool x.f3, .bool x.f4] := ⟨[.string x.f0], [.string x.f1, .string x.f2, .bool x.f3, .bool x.f4], rfl, rfl, ⟨[.string x.f1], [.string x.f2, .bool x.f3, .bool x.f4], rfl, rfl, ⟨[.string x.f2], [.bool x.f3, .bool x.f4], rfl, rfl, ⟨[.bool x.f3], [.bool x.f4], rfl, rfl, rfl⟩⟩⟩⟩
theorem k28_mkF (W : World) (ok : Nat → Prop) (x : S28) : Kd.FK k28 W ok x [.string x.f0, .string x.f1, .string x.f2, .bool x.f3, .bool x.f4] := fun W2 _ => k28_mk W2 x
def rd_T28 (xs : List S28) (i : Int) : S28 := xs.getD i.toNat z28
theorem at_T28 {w : World} {A : Option Addr} {n : Nat} {xs : List S28} (h : Kd.C k28 w A n xs) (i : Int) (h0 : 0 ≤ i) (h1 : i < n) : ∃ ad , A = some ad ∧ w.cell? (ad.add (i.toNat * 5)) = some (.string (rd_T28 xs i).f0) ∧ w.cell? ⟨(ad.add (i.toNat * 5)).block, (ad.add (i.toNat * 5)).off + 1, none⟩ = some (.string (rd_T28 xs i).f1) ∧ w.cell? ⟨(ad.add (i.toNat * 5)).block, (ad.add (i.toNat * 5)).off + 2, none⟩ = some (.string (rd_T28 xs i).f2) ∧ w.cell? ⟨(ad.add (i.toNat * 5)).block, (ad.add (i.toNat * 5)).off + 3, none⟩ = some (.bool (rd_T28 xs i).f3) ∧ w.cell? ⟨(ad.add (i.toNat * 5)).block, (ad.add (i.toNat * 5)).off + 4, none⟩ = some (.bool (rd_T28 xs i).f4) := by
  obtain ⟨ad, c, e, _, hK, hc0⟩ := Kd.C_get h z28 i h0 h1
  have hc : ∀ j u, c[j]? = some u → w.cell? (ad.add (i.toNat * 5 + j)) = some u := hc0
  obtain rfl := k28_open hK
  exact ⟨ad, e, hc 0 _ rfl, by rw [← add_field _ _ 1 (by omega)]; exact hc 1 _ rfl, by rw [← add_field _ _ 2 (by omega)]; exact hc 2 _ rfl, by rw [← add_field _ _ 3 (by omega)]; exact hc 3 _ rfl, by rw [← add_field _ _ 4 (by omega)]; exact hc 4 _ rfl⟩

def rd_L14 (xs : List (List S28)) (i : Int) : (List S28) := xs.getD i.toNat ([] : List S28)
theorem at_L14 {w : World} {A : Option Addr} {n : Nat} {xs : List (List S28)} (h : Kd.C (Kd.slice 28 k28) w A n xs) (i : Int) (h0 : 0 ≤ i) (h1 : i < n) : ∃ ad A0 c0, A = some ad ∧ w.cell? (ad.add i.toNat) = some (.slice A0 (rd_L14 xs i).length c0) ∧ (rd_L14 xs i).length ≤ c0 ∧ k28.C w A0 (rd_L14 xs i).length (rd_L14 xs i) := by
  obtain ⟨ad, c, e, _, hK, hc0⟩ := Kd.C_get h ([] : List S28) i h0 h1
  have hc : ∀ j u, c[j]? = some u → w.cell? (ad.add (i.toNat * 1 + j)) = some u := hc0
  obtain ⟨A0, c0, rfl, l0, g0⟩ := hK
  exact ⟨ad, A0, c0, e, by have hq := hc 0 _ rfl; rwa [Nat.mul_one, Nat.add_zero] at hq, l0, g0⟩

/-- The library's variable MaxLen holds an int. -/
def Good (w : World) : Prop := ∃ m, w.cell? ⟨0, 0, none⟩ = some (.int .i64 m)
theorem Good.below {w W : World} (h : Good w) (hb : Below w.heap.size w W) : Good W := by
  obtain ⟨m, hm⟩ := h
  exact ⟨m, pw_cell_below hb hm⟩
end Go.Proofs.YtgmlhmojcemliaaDoor.P
end
section
namespace Go.Proofs.YtgmlhmojcemliaaDoor.P
open Go.RowKit Go.Proofs.YtgmlhmojcemliaaDoorW.PrintWords Go.Proofs.YtgmlhmojcemliaaDoorW.PrintLast Go.Proofs.YtgmlhmojcemliaaDoorW.PrintMore
attribute [local go_sem] max2_int min2_int max_two min_two max_three min_three max_four min_four   -- for this text's walks alone
set_option linter.unusedVariables false
set_option linter.unusedSimpArgs false

theorem eqA30 (d : Nat) (w : World) (x0 y0 : Bool) (x1 y1 : ByteArray) :
    (Op.equalIn (d + 2) 30 (.agg #[.bool x0, .string x1]) (.agg #[.bool y0, .string y1])).run Tryd.prog w = .ok (x0 == y0 && (x1.toList == y1.toList)) w := by
  refine eqA_of Tryd.underlying30 (by kernel_rfl) ?_
  refine eqf_cons (by rfl) (by go_simp; rfl) (by go_simp; rfl) (by go_simp) ?_
  exact eqf_last (by rfl) (by go_simp; rfl) (by go_simp; rfl) (by go_simp)
theorem eqA32 (d : Nat) (w : World) (x0 y0 : Bool) (x1 y1 : ByteArray) (x2 y2 : Bool) (x3 y3 : ByteArray) (x4 y4 : Bool) (x5 y5 : ByteArray) (x6 y6 : Bool) (x7 y7 : ByteArray) :
    (Op.equalIn (d + 3) 32 (.agg #[.bool x0, .string x1, .bool x2, .string x3, .bool x4, .string x5, .bool x6, .string x7]) (.agg #[.bool y0, .string y1, .bool y2, .string y3, .bool y4, .string y5, .bool y6, .string y7])).run Tryd.prog w = .ok ((x0 == y0 && (x1.toList == y1.toList)) && ((x2 == y2 && (x3.toList == y3.toList)) && ((x4 == y4 && (x5.toList == y5.toList)) && ((x6 == y6 && (x7.toList == y7.toList)))))) w := by
  refine eqA_of Tryd.underlying32 (by kernel_rfl) ?_
  refine eqf_cons (by rfl) (by go_simp) (by go_simp) (eqA30 (d + 0) w _ _ _ _) ?_
  refine eqf_cons (by rfl) (by go_simp) (by go_simp) (eqA30 (d + 0) w _ _ _ _) ?_
  refine eqf_cons (by rfl) (by go_simp) (by go_simp) (eqA30 (d + 0) w _ _ _ _) ?_
  exact eqf_last (by rfl) (by go_simp) (by go_simp) (eqA30 (d + 0) w _ _ _ _)
end Go.Proofs.YtgmlhmojcemliaaDoor.P
end
section
namespace Go.Proofs.YtgmlhmojcemliaaDoor.P
open Go.RowKit Go.Proofs.YtgmlhmojcemliaaDoorW.PrintWords Go.Proofs.YtgmlhmojcemliaaDoorW.PrintLast Go.Proofs.YtgmlhmojcemliaaDoorW.PrintMore
attribute [local go_sem] max2_int min2_int max_two min_two max_three min_three max_four min_four   -- for this text's walks alone
set_option linter.unusedVariables false
set_option linter.unusedSimpArgs false

/-! ### stringslite_HasPrefix: function 68 -/
def stringslite_HasPrefix.f (a0 : ByteArray) (a1 : ByteArray) : Option (Bool) := if (a0.size : Int) ≥ (a1.size : Int) then (if 0 ≤ (a1.size : Int) then (if (a1.size : Int) ≤ (a0.size : Int) then (some ((a0.extract 0 ((a1.size : Int) : Int).toNat).toList == a1.toList)) else (none)) else (none)) else (some false)
set_option maxHeartbeats 8000000 in
set_option maxRecDepth 100000 in
theorem stringslite_HasPrefix.calls (a0 : ByteArray) (a1 : ByteArray) (r : Bool) (w : World) (h : stringslite_HasPrefix.f a0 a1 = some r) :
    Calls Tryd.prog 68 #[.string a0, .string a1] w fun e w' => e = .returned (.bool r) ∧ Drawn0 w w' := by
  have H : (if (a0.size : Int) ≥ (a1.size : Int) then (if 0 ≤ (a1.size : Int) then (if (a1.size : Int) ≤ (a0.size : Int) then (some ((a0.extract 0 ((a1.size : Int) : Int).toNat).toList == a1.toList)) else (none)) else (none)) else (some false)) = some r := h
  clear h
  by_cases c3 : (a0.size : Int) ≥ (a1.size : Int)
  · rw [if_pos c3] at H
    have c3b0 : decide ((a1.size : Int) ≤ (a0.size : Int)) = true := decide_eq_true c3
    have c3b1 : decide (a1.size ≤ a0.size) = true := decide_eq_true (Int.ofNat_le.mp c3)
    clear c3
    by_cases c4 : 0 ≤ (a1.size : Int)
    · rw [if_pos c4] at H
      have c4b0 := eq_true c4
      have c4b1 : decide (0 ≤ (a1.size : Int)) = true := decide_eq_true c4
      clear c4
      by_cases c5 : (a1.size : Int) ≤ (a0.size : Int)
      · rw [if_pos c5] at H
        have c5b0 := eq_true c5
        have c5b1 : decide ((a1.size : Int) ≤ (a0.size : Int)) = true := decide_eq_true c5
        clear c5
        obtain rfl := Option.some.inj H
        go_enter Tryd.func68, Tryd.ntmps68
        go_wp2
        go_ret
        exact ⟨by first | rfl | (simp; done) | (simp [*]; done), by repeat (first | exact Drawn0.refl _ | apply Drawn0.step)⟩
      · rw [if_neg c5] at H
        exact absurd H (by simp)
    · rw [if_neg c4] at H
      exact absurd H (by simp)
  · rw [if_neg c3] at H
    have c3b0 : decide ((a1.size : Int) ≤ (a0.size : Int)) = false := decide_eq_false c3
    have c3b1 : decide (a1.size ≤ a0.size) = false := decide_eq_false (fun h => c3 (Int.ofNat_le.mpr h))
    clear c3
    obtain rfl := Option.some.inj H
    go_enter Tryd.func68, Tryd.ntmps68
    go_wp2
    go_ret
    exact ⟨by first | rfl | (simp; done) | (simp [*]; done), by repeat (first | exact Drawn0.refl _ | apply Drawn0.step)⟩

/-! ### strings_HasPrefix: function 45 -/
def strings_HasPrefix.f (a0 : ByteArray) (a1 : ByteArray) : Option (Bool) := (stringslite_HasPrefix.f a0 a1).bind fun t101 => (some t101)
set_option maxHeartbeats 8000000 in
set_option maxRecDepth 100000 in
theorem strings_HasPrefix.calls (a0 : ByteArray) (a1 : ByteArray) (r : Bool) (w : World) (h : strings_HasPrefix.f a0 a1 = some r) :
    Calls Tryd.prog 45 #[.string a0, .string a1] w fun e w' => e = .returned (.bool r) ∧ Drawn0 w w' := by
  have H : ((stringslite_HasPrefix.f a0 a1).bind fun t101 => (some t101)) = some r := h
  clear h
  replace H := Option.bind_eq_some_iff.mp H
  obtain ⟨t101, A30, H⟩ := H
  replace H : (some t101) = some r := H
  have A3 := Aside0.mk A30
  clear A30
  obtain rfl := Option.some.inj H
  go_enter Tryd.func45, Tryd.ntmps45
  go_wp2_with (first | ((with_reducible refine gate_callee (f := 68) rfl ?_); refine goesL_ (some 7) rfl rfl Tryd.func68 (by kernel_rfl) rfl #[.string a0, .string a1] rfl (by (try simp only [List.map_toArray, List.map_cons, List.map_nil]); first | done | rfl | (simp only [List.length_drop, List.length_take]; rfl)) ?_; (with_reducible refine (stringslite_HasPrefix.calls a0 a1 t101 _ A3.out).mono ?_); rintro e w' ⟨rfl, ⟨nd, rfl⟩⟩; refine ⟨_, rfl, ?_⟩))
  go_ret
  exact ⟨by first | rfl | (simp; done) | (simp [*]; done), by repeat (first | exact Drawn0.refl _ | apply Drawn0.step)⟩

end Go.Proofs.YtgmlhmojcemliaaDoor.P
end
section
namespace Go.Proofs.YtgmlhmojcemliaaDoor.P
open Go.RowKit Go.Proofs.YtgmlhmojcemliaaDoorW.PrintWords Go.Proofs.YtgmlhmojcemliaaDoorW.PrintLast Go.Proofs.YtgmlhmojcemliaaDoorW.PrintMore
attribute [local go_sem] max2_int min2_int max_two min_two max_three min_three max_four min_four   -- for this text's walks alone
set_option linter.unusedVariables false
set_option linter.unusedSimpArgs false

/-! ### strings_Index: function 46, GIVEN -/
def strings_Index.f (a0 a1 : ByteArray) : Option Int := if a0.size < 4294967281 then some (Lib.index a0.data.toList a1.data.toList) else none
theorem strings_Index.calls (a0 a1 : ByteArray) (r : Int) (w : World) (hG : Good w) (h : strings_Index.f a0 a1 = some r) :
    Calls Tryd.prog 46 #[.string a0, .string a1] w fun e w' => e = .returned (.int .i64 r) ∧ Below w.heap.size w w' := by
  unfold strings_Index.f at h
  split at h
  · obtain rfl := Option.some.inj h
    obtain ⟨m, hm⟩ := hG
    exact (Tryd.strings_Index a0 a1 m w ‹_› hm).mono fun e w' ⟨h1, h2⟩ => ⟨h1, h2 ▸ Below.refl _ _⟩
  · cases h
end Go.Proofs.YtgmlhmojcemliaaDoor.P
end
section
namespace Go.Proofs.YtgmlhmojcemliaaDoor.P
open Go.RowKit Go.Proofs.YtgmlhmojcemliaaDoorW.PrintWords Go.Proofs.YtgmlhmojcemliaaDoorW.PrintLast Go.Proofs.YtgmlhmojcemliaaDoorW.PrintMore
attribute [local go_sem] max2_int min2_int max_two min_two max_three min_three max_four min_four   -- for this text's walks alone
set_option linter.unusedVariables false
set_option linter.unusedSimpArgs false

/-! ### letter_Split: function 23 -/
def letter_Split.f (a0 : ByteArray) : Option (ByteArray × ByteArray) := (strings_HasPrefix.f a0 (⟨#[13, 10]⟩ : ByteArray)).bind fun t102 => (if t102 = true then (if 0 ≤ 2 then (if 2 ≤ (a0.size : Int) then (some (a0.extract 0 2, a0.extract 2 a0.size)) else (none)) else (none)) else ((strings_Index.f a0 (⟨#[13, 10, 13, 10]⟩ : ByteArray)).bind fun t103 => (if t103 ≥ 0 then (if 0 ≤ (wrap64 (t103 + 4)) then (if (wrap64 (t103 + 4)) ≤ (a0.size : Int) then (some (a0.extract 0 ((wrap64 (t103 + 4)) : Int).toNat, a0.extract ((wrap64 (t103 + 4)) : Int).toNat a0.size)) else (none)) else (none)) else (some (a0, (⟨#[]⟩ : ByteArray))))))
set_option maxHeartbeats 8000000 in
set_option maxRecDepth 100000 in
theorem letter_Split.calls (a0 : ByteArray) (r1 : ByteArray) (r2 : ByteArray) (w : World) (hG : Good w) (h : letter_Split.f a0 = some (r1, r2)) :
    Calls Tryd.prog 23 #[.string a0] w fun e w' => e = .returned (.tuple #[.string r1, .string r2]) ∧ Below w.heap.size w w' := by
  have HB := Aside0.mk (Below.refl w.heap.size w)
  have HG := Aside0.mk hG
  clear hG
  have H : ((strings_HasPrefix.f a0 (⟨#[13, 10]⟩ : ByteArray)).bind fun t102 => (if t102 = true then (if 0 ≤ 2 then (if 2 ≤ (a0.size : Int) then (some (a0.extract 0 2, a0.extract 2 a0.size)) else (none)) else (none)) else ((strings_Index.f a0 (⟨#[13, 10, 13, 10]⟩ : ByteArray)).bind fun t103 => (if t103 ≥ 0 then (if 0 ≤ (wrap64 (t103 + 4)) then (if (wrap64 (t103 + 4)) ≤ (a0.size : Int) then (some (a0.extract 0 ((wrap64 (t103 + 4)) : Int).toNat, a0.extract ((wrap64 (t103 + 4)) : Int).toNat a0.size)) else (none)) else (none)) else (some (a0, (⟨#[]⟩ : ByteArray))))))) = some (r1, r2) := h
  clear h
  replace H := Option.bind_eq_some_iff.mp H
  obtain ⟨t102, A20, H⟩ := H
  replace H : (if t102 = true then (if 0 ≤ 2 then (if 2 ≤ (a0.size : Int) then (some (a0.extract 0 2, a0.extract 2 a0.size)) else (none)) else (none)) else ((strings_Index.f a0 (⟨#[13, 10, 13, 10]⟩ : ByteArray)).bind fun t103 => (if t103 ≥ 0 then (if 0 ≤ (wrap64 (t103 + 4)) then (if (wrap64 (t103 + 4)) ≤ (a0.size : Int) then (some (a0.extract 0 ((wrap64 (t103 + 4)) : Int).toNat, a0.extract ((wrap64 (t103 + 4)) : Int).toNat a0.size)) else (none)) else (none)) else (some (a0, (⟨#[]⟩ : ByteArray)))))) = some (r1, r2) := H
  have A2 := Aside0.mk A20
  clear A20
  by_cases c3 : t102 = true
  · subst c3
    have H1 : (if 0 ≤ 2 then (if 2 ≤ (a0.size : Int) then (some (a0.extract 0 2, a0.extract 2 a0.size)) else (none)) else (none)) = some (r1, r2) := by rw [if_pos rfl] at H; exact H
    clear H
    have H := H1
    clear H1
    by_cases c4 : 0 ≤ 2
    · rw [if_pos c4] at H
      have c4b0 := eq_true c4
      have c4b1 : decide (0 ≤ 2) = true := decide_eq_true c4
      clear c4
      by_cases c5 : 2 ≤ (a0.size : Int)
      · rw [if_pos c5] at H
        have c5b0 := eq_true c5
        have c5b1 : decide (2 ≤ (a0.size : Int)) = true := decide_eq_true c5
        clear c5
        have c6b0 := eq_true (of_decide_eq_true (by first | (with_reducible assumption) | assumption) : 2 ≤ (a0.size : Int))
        simp only [Option.some.injEq, Prod.mk.injEq] at H
        obtain ⟨rfl, rfl⟩ := H
        go_enter Tryd.func23, Tryd.ntmps23
        go_wp2_with (first | (go_at_call 45; (with_reducible refine (strings_HasPrefix.calls a0 (⟨#[13, 10]⟩ : ByteArray) true _ A2.out).mono ?_); rintro e w' ⟨rfl, ⟨nd, rfl⟩⟩; (try first | exact ⟨rfl, _, World.drewN_drewN _ _ _⟩ | exact ⟨rfl, _, Eq.trans (World.drewN_drewN _ _ _) (congrArg (World.drewN _) (Nat.add_assoc _ _ _))⟩)))
        repeat (go_quiet (first | (go_at_call 45; (with_reducible refine (strings_HasPrefix.calls a0 (⟨#[13, 10]⟩ : ByteArray) true _ A2.out).mono ?_); rintro e w' ⟨rfl, ⟨nd, rfl⟩⟩; (try first | exact ⟨rfl, _, World.drewN_drewN _ _ _⟩ | exact ⟨rfl, _, Eq.trans (World.drewN_drewN _ _ _) (congrArg (World.drewN _) (Nat.add_assoc _ _ _))⟩))); try go_wp2_with (first | (go_at_call 45; (with_reducible refine (strings_HasPrefix.calls a0 (⟨#[13, 10]⟩ : ByteArray) true _ A2.out).mono ?_); rintro e w' ⟨rfl, ⟨nd, rfl⟩⟩; (try first | exact ⟨rfl, _, World.drewN_drewN _ _ _⟩ | exact ⟨rfl, _, Eq.trans (World.drewN_drewN _ _ _) (congrArg (World.drewN _) (Nat.add_assoc _ _ _))⟩))))
        go_ret2
        exact ⟨by first | rfl | (simp [errW_none, errW_some] <;> rfl) | (simp [*, errW_none, errW_some] <;> rfl), by repeat (first | (with_reducible first | exact HB.out | apply below_alloc | apply pw_below_drewN | apply below_drew1) | exact HB.out)⟩
      · rw [if_neg c5] at H
        exact absurd H (by simp)
    · rw [if_neg c4] at H
      exact absurd H (by simp)
  · replace c3 := Bool.eq_false_iff.mpr c3
    subst c3
    have H1 : ((strings_Index.f a0 (⟨#[13, 10, 13, 10]⟩ : ByteArray)).bind fun t103 => (if t103 ≥ 0 then (if 0 ≤ (wrap64 (t103 + 4)) then (if (wrap64 (t103 + 4)) ≤ (a0.size : Int) then (some (a0.extract 0 ((wrap64 (t103 + 4)) : Int).toNat, a0.extract ((wrap64 (t103 + 4)) : Int).toNat a0.size)) else (none)) else (none)) else (some (a0, (⟨#[]⟩ : ByteArray))))) = some (r1, r2) := by rw [if_neg (show ¬ (false = true) by decide)] at H; exact H
    clear H
    have H := H1
    clear H1
    replace H := Option.bind_eq_some_iff.mp H
    obtain ⟨t103, A70, H⟩ := H
    replace H : (if t103 ≥ 0 then (if 0 ≤ (wrap64 (t103 + 4)) then (if (wrap64 (t103 + 4)) ≤ (a0.size : Int) then (some (a0.extract 0 ((wrap64 (t103 + 4)) : Int).toNat, a0.extract ((wrap64 (t103 + 4)) : Int).toNat a0.size)) else (none)) else (none)) else (some (a0, (⟨#[]⟩ : ByteArray)))) = some (r1, r2) := H
    have A7 := Aside0.mk A70
    clear A70
    by_cases c8 : t103 ≥ 0
    · rw [if_pos c8] at H
      have c8b0 : decide (0 ≤ t103) = true := decide_eq_true c8
      clear c8
      obtain ⟨ji9, hji9⟩ : ∃ j_ : Int, (wrap64 (t103 + 4)) = j_ := ⟨_, rfl⟩
      replace H : (if 0 ≤ (ji9) then (if (ji9) ≤ (a0.size : Int) then (some (a0.extract 0 ((ji9) : Int).toNat, a0.extract ((ji9) : Int).toNat a0.size)) else (none)) else (none)) = some (r1, r2) := by first | (rw [hji9] at H; exact H) | (simp only [hji9] at H ⊢; exact H)
      (try rw [hji9] at A2)
      (try rw [hji9] at A7)
      have hji9w : (IntKind.i64.wrap (t103 + 4)) = ji9 := (i64_w _).trans hji9
      by_cases c10 : 0 ≤ (ji9)
      · rw [if_pos c10] at H
        have c10b0 := eq_true c10
        have c10b1 : decide (0 ≤ (ji9)) = true := decide_eq_true c10
        clear c10
        by_cases c11 : (ji9) ≤ (a0.size : Int)
        · rw [if_pos c11] at H
          have c11b0 := eq_true c11
          have c11b1 : decide ((ji9) ≤ (a0.size : Int)) = true := decide_eq_true c11
          clear c11
          have c12b0 := eq_true (of_decide_eq_true (by first | (with_reducible assumption) | assumption) : 0 ≤ (ji9))
          have c13b0 := eq_true (of_decide_eq_true (by first | (with_reducible assumption) | assumption) : (ji9) ≤ (a0.size : Int))
          simp only [Option.some.injEq, Prod.mk.injEq] at H
          obtain ⟨rfl, rfl⟩ := H
          go_enter Tryd.func23, Tryd.ntmps23
          go_wp2_with (first | (go_at_call 45; (with_reducible refine (strings_HasPrefix.calls a0 (⟨#[13, 10]⟩ : ByteArray) false _ A2.out).mono ?_); rintro e w' ⟨rfl, ⟨nd, rfl⟩⟩; (try first | exact ⟨rfl, _, World.drewN_drewN _ _ _⟩ | exact ⟨rfl, _, Eq.trans (World.drewN_drewN _ _ _) (congrArg (World.drewN _) (Nat.add_assoc _ _ _))⟩)) | (go_at_call 46; (with_reducible refine (strings_Index.calls a0 (⟨#[13, 10, 13, 10]⟩ : ByteArray) t103 _ ?side1 A7.out).mono ?_); (case side1 => exact Good.below HG.out (by repeat (first | (with_reducible first | exact HB.out | apply below_alloc | apply pw_below_drewN | apply below_drew1) | exact HB.out))); rintro e w14 ⟨rfl, hb⟩; have n0_ := Aside0.mk (below_step (by repeat (first | (with_reducible first | exact HB.out | apply below_alloc | apply pw_below_drewN | apply below_drew1) | exact HB.out)) hb); clear HB; have HB := n0_; clear n0_; (try clear hb); (try clear hb2); (try clear hk); (try clear hi)))
          repeat (go_quiet (first | (go_at_call 45; (with_reducible refine (strings_HasPrefix.calls a0 (⟨#[13, 10]⟩ : ByteArray) false _ A2.out).mono ?_); rintro e w' ⟨rfl, ⟨nd, rfl⟩⟩; (try first | exact ⟨rfl, _, World.drewN_drewN _ _ _⟩ | exact ⟨rfl, _, Eq.trans (World.drewN_drewN _ _ _) (congrArg (World.drewN _) (Nat.add_assoc _ _ _))⟩)) | (go_at_call 46; (with_reducible refine (strings_Index.calls a0 (⟨#[13, 10, 13, 10]⟩ : ByteArray) t103 _ ?side1 A7.out).mono ?_); (case side1 => exact Good.below HG.out (by repeat (first | (with_reducible first | exact HB.out | apply below_alloc | apply pw_below_drewN | apply below_drew1) | exact HB.out))); rintro e w14 ⟨rfl, hb⟩; have n0_ := Aside0.mk (below_step (by repeat (first | (with_reducible first | exact HB.out | apply below_alloc | apply pw_below_drewN | apply below_drew1) | exact HB.out)) hb); clear HB; have HB := n0_; clear n0_; (try clear hb); (try clear hb2); (try clear hk); (try clear hi))); try go_wp2_with (first | (go_at_call 45; (with_reducible refine (strings_HasPrefix.calls a0 (⟨#[13, 10]⟩ : ByteArray) false _ A2.out).mono ?_); rintro e w' ⟨rfl, ⟨nd, rfl⟩⟩; (try first | exact ⟨rfl, _, World.drewN_drewN _ _ _⟩ | exact ⟨rfl, _, Eq.trans (World.drewN_drewN _ _ _) (congrArg (World.drewN _) (Nat.add_assoc _ _ _))⟩)) | (go_at_call 46; (with_reducible refine (strings_Index.calls a0 (⟨#[13, 10, 13, 10]⟩ : ByteArray) t103 _ ?side1 A7.out).mono ?_); (case side1 => exact Good.below HG.out (by repeat (first | (with_reducible first | exact HB.out | apply below_alloc | apply pw_below_drewN | apply below_drew1) | exact HB.out))); rintro e w14 ⟨rfl, hb⟩; have n0_ := Aside0.mk (below_step (by repeat (first | (with_reducible first | exact HB.out | apply below_alloc | apply pw_below_drewN | apply below_drew1) | exact HB.out)) hb); clear HB; have HB := n0_; clear n0_; (try clear hb); (try clear hb2); (try clear hk); (try clear hi))))
          go_ret2
          exact ⟨by first | rfl | (simp [errW_none, errW_some] <;> rfl) | (simp only [← hji9]; first | rfl | (simp [errW_none, errW_some] <;> rfl)) | (simp [*, errW_none, errW_some] <;> rfl), by repeat (first | (with_reducible first | exact HB.out | apply below_alloc | apply pw_below_drewN | apply below_drew1) | exact HB.out)⟩
        · rw [if_neg c11] at H
          exact absurd H (by simp)
      · rw [if_neg c10] at H
        exact absurd H (by simp)
    · rw [if_neg c8] at H
      have c8b0 : decide (0 ≤ t103) = false := decide_eq_false c8
      clear c8
      simp only [Option.some.injEq, Prod.mk.injEq] at H
      obtain ⟨rfl, rfl⟩ := H
      go_enter Tryd.func23, Tryd.ntmps23
      go_wp2_with (first | (go_at_call 45; (with_reducible refine (strings_HasPrefix.calls a0 (⟨#[13, 10]⟩ : ByteArray) false _ A2.out).mono ?_); rintro e w' ⟨rfl, ⟨nd, rfl⟩⟩; (try first | exact ⟨rfl, _, World.drewN_drewN _ _ _⟩ | exact ⟨rfl, _, Eq.trans (World.drewN_drewN _ _ _) (congrArg (World.drewN _) (Nat.add_assoc _ _ _))⟩)) | (go_at_call 46; (with_reducible refine (strings_Index.calls a0 (⟨#[13, 10, 13, 10]⟩ : ByteArray) t103 _ ?side1 A7.out).mono ?_); (case side1 => exact Good.below HG.out (by repeat (first | (with_reducible first | exact HB.out | apply below_alloc | apply pw_below_drewN | apply below_drew1) | exact HB.out))); rintro e w15 ⟨rfl, hb⟩; have n0_ := Aside0.mk (below_step (by repeat (first | (with_reducible first | exact HB.out | apply below_alloc | apply pw_below_drewN | apply below_drew1) | exact HB.out)) hb); clear HB; have HB := n0_; clear n0_; (try clear hb); (try clear hb2); (try clear hk); (try clear hi)))
      repeat (go_quiet (first | (go_at_call 45; (with_reducible refine (strings_HasPrefix.calls a0 (⟨#[13, 10]⟩ : ByteArray) false _ A2.out).mono ?_); rintro e w' ⟨rfl, ⟨nd, rfl⟩⟩; (try first | exact ⟨rfl, _, World.drewN_drewN _ _ _⟩ | exact ⟨rfl, _, Eq.trans (World.drewN_drewN _ _ _) (congrArg (World.drewN _) (Nat.add_assoc _ _ _))⟩)) | (go_at_call 46; (with_reducible refine (strings_Index.calls a0 (⟨#[13, 10, 13, 10]⟩ : ByteArray) t103 _ ?side1 A7.out).mono ?_); (case side1 => exact Good.below HG.out (by repeat (first | (with_reducible first | exact HB.out | apply below_alloc | apply pw_below_drewN | apply below_drew1) | exact HB.out))); rintro e w15 ⟨rfl, hb⟩; have n0_ := Aside0.mk (below_step (by repeat (first | (with_reducible first | exact HB.out | apply below_alloc | apply pw_below_drewN | apply below_drew1) | exact HB.out)) hb); clear HB; have HB := n0_; clear n0_; (try clear hb); (try clear hb2); (try clear hk); (try clear hi))); try go_wp2_with (first | (go_at_call 45; (with_reducible refine (strings_HasPrefix.calls a0 (⟨#[13, 10]⟩ : ByteArray) false _ A2.out).mono ?_); rintro e w' ⟨rfl, ⟨nd, rfl⟩⟩; (try first | exact ⟨rfl, _, World.drewN_drewN _ _ _⟩ | exact ⟨rfl, _, Eq.trans (World.drewN_drewN _ _ _) (congrArg (World.drewN _) (Nat.add_assoc _ _ _))⟩)) | (go_at_call 46; (with_reducible refine (strings_Index.calls a0 (⟨#[13, 10, 13, 10]⟩ : ByteArray) t103 _ ?side1 A7.out).mono ?_); (case side1 => exact Good.below HG.out (by repeat (first | (with_reducible first | exact HB.out | apply below_alloc | apply pw_below_drewN | apply below_drew1) | exact HB.out))); rintro e w15 ⟨rfl, hb⟩; have n0_ := Aside0.mk (below_step (by repeat (first | (with_reducible first | exact HB.out | apply below_alloc | apply pw_below_drewN | apply below_drew1) | exact HB.out)) hb); clear HB; have HB := n0_; clear n0_; (try clear hb); (try clear hb2); (try clear hk); (try clear hi))))
      go_ret2
      exact ⟨by first | rfl | (simp [errW_none, errW_some] <;> rfl) | (simp [*, errW_none, errW_some] <;> rfl), by repeat (first | (with_reducible first | exact HB.out | apply below_alloc | apply pw_below_drewN | apply below_drew1) | exact HB.out)⟩

/-! ### letter_isBlank: function 70 -/
def letter_isBlank.f (a0 : Int) : Option (Bool) := if a0 = 32 then (some true) else (some (a0 == 9))
set_option maxHeartbeats 8000000 in
set_option maxRecDepth 100000 in
theorem letter_isBlank.calls (a0 : Int) (r : Bool) (w : World) (h : letter_isBlank.f a0 = some r) :
    Calls Tryd.prog 70 #[.int .u8 a0] w fun e w' => e = .returned (.bool r) ∧ Drawn0 w w' := by
  have H : (if a0 = 32 then (some true) else (some (a0 == 9))) = some r := h
  clear h
  by_cases c2 : a0 = 32
  · rw [if_pos c2] at H
    have c2b0 : (a0 == 32) = true := beq_iff_eq.mpr c2
    have c2b1 : (a0 != 32) = false := bne_eq_false_iff_eq.mpr c2
    clear c2
    obtain rfl := Option.some.inj H
    go_enter Tryd.func70, Tryd.ntmps70
    go_wp2
    go_ret
    exact ⟨by first | rfl | (simp; done) | (simp [*]; done), by repeat (first | exact Drawn0.refl _ | apply Drawn0.step)⟩
  · rw [if_neg c2] at H
    have c2b0 : (a0 == 32) = false := beq_eq_false_iff_ne.mpr c2
    have c2b1 : (a0 != 32) = true := bne_iff_ne.mpr c2
    obtain rfl := Option.some.inj H
    go_enter Tryd.func70, Tryd.ntmps70
    go_wp2
    go_ret
    exact ⟨by first | rfl | (simp; done) | (simp [*]; done), by repeat (first | exact Drawn0.refl _ | apply Drawn0.step)⟩

/-! ### letter_begins: function 71 -/
mutual
def letter_begins.j1 : Nat → ByteArray → Int → Option (ByteArray × Bool)
  | 0, _, _ => none
  | k + 1, x0, x4 => if 0 ≤ x4 then (if x4 ≤ (x0.size : Int) then (letter_begins.l1 k x0 x4 (x0.extract 0 (x4 : Int).toNat)) else (none)) else (none)
def letter_begins.l1 : Nat → ByteArray → Int → ByteArray → Option (ByteArray × Bool)
  | 0, _, _, _ => none
  | k + 1, x0, x4, x5 => if x4 < (x0.size : Int) then (if 0 ≤ x4 then ((letter_isBlank.f (bt x0 x4)).bind fun t104 => (if t104 = true then (letter_begins.l1 k x0 (wrap64 (x4 + 1)) x5) else (if x5.toList = ([] : List UInt8) then (some (x5, false)) else (some (x5, ((bt x0 x4) == 58)))))) else (none)) else (if x5.toList = ([] : List UInt8) then (some (x5, false)) else (some (x5, false)))
def letter_begins.l0 : Nat → ByteArray → Int → Option (ByteArray × Bool)
  | 0, _, _ => none
  | k + 1, x0, x4 => if x4 < (x0.size : Int) then (if 0 ≤ x4 then (if (bt x0 x4) > 32 then (if (bt x0 x4) < 127 then (if (bt x0 x4) = 58 then (letter_begins.j1 k x0 x4) else (letter_begins.l0 k x0 (wrap64 (x4 + 1)))) else (letter_begins.j1 k x0 x4)) else (letter_begins.j1 k x0 x4)) else (none)) else (letter_begins.j1 k x0 x4)
end
def letter_begins.f (k : Nat) (a0 : ByteArray) : Option (ByteArray × Bool) := letter_begins.l0 k a0 0
theorem letter_begins.mono_l : ∀ k, (∀ y0 y1, LeO (letter_begins.j1 k y0 y1) (letter_begins.j1 (k + 1) y0 y1)) ∧ (∀ y0 y1 y2, LeO (letter_begins.l1 k y0 y1 y2) (letter_begins.l1 (k + 1) y0 y1 y2)) ∧ (∀ y0 y1, LeO (letter_begins.l0 k y0 y1) (letter_begins.l0 (k + 1) y0 y1))
  | 0 => ⟨fun _ _ r h => by simp [letter_begins.j1] at h, fun _ _ _ r h => by simp [letter_begins.l1] at h, fun _ _ r h => by simp [letter_begins.l0] at h⟩
  | k + 1 => by
    obtain ⟨ih0, ih1, ih2⟩ := letter_begins.mono_l k
    refine ⟨?_, ?_, ?_⟩
    · intro y0 y1
      unfold letter_begins.j1
      repeat' first
      | (with_reducible exact ih0 _ _)
      | (with_reducible exact ih1 _ _ _)
      | (with_reducible exact ih2 _ _)
      | (with_reducible exact LeO.refl _)
      | (with_reducible exact LeO.none _)
      | (with_reducible refine LeO.ite ?_ ?_)
      | (with_reducible refine LeO.bind ?_ (fun _ => ?_))
      | exact ih0 _ _
      | exact ih1 _ _ _
      | exact ih2 _ _
      | exact LeO.none _
      | refine LeO.ite ?_ ?_
      | refine LeO.bind ?_ (fun _ => ?_)
    · intro y0 y1 y2
      unfold letter_begins.l1
      repeat' first
      | (with_reducible exact ih0 _ _)
      | (with_reducible exact ih1 _ _ _)
      | (with_reducible exact ih2 _ _)
      | (with_reducible exact LeO.refl _)
      | (with_reducible exact LeO.none _)
      | (with_reducible refine LeO.ite ?_ ?_)
      | (with_reducible refine LeO.bind ?_ (fun _ => ?_))
      | exact ih0 _ _
      | exact ih1 _ _ _
      | exact ih2 _ _
      | exact LeO.none _
      | refine LeO.ite ?_ ?_
      | refine LeO.bind ?_ (fun _ => ?_)
    · intro y0 y1
      unfold letter_begins.l0
      repeat' first
      | (with_reducible exact ih0 _ _)
      | (with_reducible exact ih1 _ _ _)
      | (with_reducible exact ih2 _ _)
      | (with_reducible exact LeO.refl _)
      | (with_reducible exact LeO.none _)
      | (with_reducible refine LeO.ite ?_ ?_)
      | (with_reducible refine LeO.bind ?_ (fun _ => ?_))
      | exact ih0 _ _
      | exact ih1 _ _ _
      | exact ih2 _ _
      | exact LeO.none _
      | refine LeO.ite ?_ ?_
      | refine LeO.bind ?_ (fun _ => ?_)
theorem letter_begins.mono : ∀ a0 k, LeO (letter_begins.f k a0) (letter_begins.f (k + 1) a0) := by
  intro a0 k
  obtain ⟨ih0, ih1, ih2⟩ := letter_begins.mono_l k
  unfold letter_begins.f
  repeat' first
      | (with_reducible exact ih0 _ _)
      | (with_reducible exact ih1 _ _ _)
      | (with_reducible exact ih2 _ _)
      | (with_reducible exact LeO.refl _)
      | (with_reducible exact LeO.none _)
      | (with_reducible refine LeO.ite ?_ ?_)
      | (with_reducible refine LeO.bind ?_ (fun _ => ?_))
      | exact ih0 _ _
      | exact ih1 _ _ _
      | exact ih2 _ _
      | exact LeO.none _
      | refine LeO.ite ?_ ?_
      | refine LeO.bind ?_ (fun _ => ?_)
set_option maxHeartbeats 8000000 in
set_option maxRecDepth 100000 in
theorem letter_begins.calls (k : Nat) (a0 : ByteArray) (r1 : ByteArray) (r2 : Bool) (w : World) (h : letter_begins.f k a0 = some (r1, r2)) :
    Calls Tryd.prog 71 #[.string a0] w fun e w' => e = .returned (.tuple #[.string r1, .bool r2]) ∧ Drawn0 w w' := by
  have H : (letter_begins.l0 k a0 0) = some (r1, r2) := h
  clear h
  have HC2 := Aside0.mk H
  clear H
  go_enter Tryd.func71, Tryd.ntmps71
  go_upto_block 0 with (fail)
  repeat (go_quiet (fail); go_upto_block 0 with (fail))
  go_cut [4] (fun v4 wc => ∃ (kq : Nat) (x4_1 : Int), v4 = .int .i64 x4_1 ∧ Aside0 (letter_begins.j1 kq a0 x4_1 = some (r1, r2)) ∧ Aside0 (kq ≤ k) ∧ Drawn0 w wc)
  case first =>
    have H := HC2.out
    clear HC2
    have H' := Aside0.mk H
    clear H
    go_wp2
    repeat (go_quiet (fail); try go_wp2)
    go_loopg [4] k (fun kq v4 w' => ∃ (x4_1 : Int), v4 = .int .i64 x4_1 ∧ Aside0 (letter_begins.l0 kq a0 x4_1 = some (r1, r2)) ∧ Aside0 (kq ≤ k) ∧ Drawn0 w w')
    case atStart => exact ⟨(0), (by first | rfl | (simp; done) | (simp [*]; done)), H', ⟨Nat.le_refl _⟩, by repeat (first | exact Drawn0.refl _ | apply Drawn0.step)⟩
    case round =>
      clear H'
      try clear p2
      obtain ⟨x4_1, rfl, HA, HK1, ⟨m1, rfl⟩⟩ := hrel
      cases gk with
      | zero => exact absurd HA.out (by simp [letter_begins.l0])
      | succ k1 =>
        have H := HA.out
        clear HA
        simp only [letter_begins.l0] at H
        by_cases c3 : x4_1 < (a0.size : Int)
        · rw [if_pos c3] at H
          have c3b0 : decide (x4_1 < (a0.size : Int)) = true := decide_eq_true c3
          clear c3
          (first | rw [c3b0] | (simp only [i64_w, i32_w]; rw [c3b0]) | skip)
          by_cases c4 : 0 ≤ x4_1
          · rw [if_pos c4] at H
            have c4b0 : decide (0 ≤ x4_1) = true := decide_eq_true c4
            clear c4
            by_cases c6 : (bt a0 x4_1) > 32
            · rw [if_pos c6] at H
              have c6b0 : decide (32 < (bt a0 x4_1)) = true := decide_eq_true c6
              clear c6
              by_cases c8 : (bt a0 x4_1) < 127
              · rw [if_pos c8] at H
                have c8b0 : decide ((bt a0 x4_1) < 127) = true := decide_eq_true c8
                clear c8
                by_cases c10 : (bt a0 x4_1) = 58
                · rw [if_pos c10] at H
                  have c10b0 : ((bt a0 x4_1) == 58) = true := beq_iff_eq.mpr c10
                  have c10b1 : ((bt a0 x4_1) != 58) = false := bne_eq_false_iff_eq.mpr c10
                  clear c10
                  have H' := Aside0.mk H
                  clear H
                  have p5 : 0 ≤ (x4_1 : Int) := of_decide_eq_true (by first | (with_reducible assumption) | assumption)
                  have q5 : x4_1 < (a0.size : Int) := of_decide_eq_true (by first | (with_reducible assumption) | assumption)
                  have hx5 := bt_at a0 x4_1
                  replace p5 := eq_true p5
                  replace q5 := eq_true q5
                  have p7 : 0 ≤ (x4_1 : Int) := of_decide_eq_true (by first | (with_reducible assumption) | assumption)
                  have q7 : x4_1 < (a0.size : Int) := of_decide_eq_true (by first | (with_reducible assumption) | assumption)
                  have hx7 := bt_at a0 x4_1
                  replace p7 := eq_true p7
                  replace q7 := eq_true q7
                  have p9 : 0 ≤ (x4_1 : Int) := of_decide_eq_true (by first | (with_reducible assumption) | assumption)
                  have q9 : x4_1 < (a0.size : Int) := of_decide_eq_true (by first | (with_reducible assumption) | assumption)
                  have hx9 := bt_at a0 x4_1
                  replace p9 := eq_true p9
                  replace q9 := eq_true q9
                  go_wp2
                  repeat (go_quiet (fail); try go_wp2)
                  go_meet
                  case rel => exact ⟨_, (x4_1), (by first | rfl | (simp; done) | (simp [*]; done)), H', ⟨by have := HK1.out; first | omega | exact Nat.le_refl _⟩, by repeat (first | exact Drawn0.refl _ | apply Drawn0.step)⟩
                · rw [if_neg c10] at H
                  have c10b0 : ((bt a0 x4_1) == 58) = false := beq_eq_false_iff_ne.mpr c10
                  have c10b1 : ((bt a0 x4_1) != 58) = true := bne_iff_ne.mpr c10
                  have H' := Aside0.mk H
                  clear H
                  have p5 : 0 ≤ (x4_1 : Int) := of_decide_eq_true (by first | (with_reducible assumption) | assumption)
                  have q5 : x4_1 < (a0.size : Int) := of_decide_eq_true (by first | (with_reducible assumption) | assumption)
                  have hx5 := bt_at a0 x4_1
                  replace p5 := eq_true p5
                  replace q5 := eq_true q5
                  have p7 : 0 ≤ (x4_1 : Int) := of_decide_eq_true (by first | (with_reducible assumption) | assumption)
                  have q7 : x4_1 < (a0.size : Int) := of_decide_eq_true (by first | (with_reducible assumption) | assumption)
                  have hx7 := bt_at a0 x4_1
                  replace p7 := eq_true p7
                  replace q7 := eq_true q7
                  have p9 : 0 ≤ (x4_1 : Int) := of_decide_eq_true (by first | (with_reducible assumption) | assumption)
                  have q9 : x4_1 < (a0.size : Int) := of_decide_eq_true (by first | (with_reducible assumption) | assumption)
                  have hx9 := bt_at a0 x4_1
                  replace p9 := eq_true p9
                  replace q9 := eq_true q9
                  go_wp2
                  repeat (go_quiet (fail); try go_wp2)
                  go_roundg k1
                  case measure => have := HK1.out; omega
                  case rel => exact ⟨(wrap64 (x4_1 + 1)), (by first | rfl | (simp; done) | (simp [*]; done)), H', ⟨by have := HK1.out; omega⟩, by repeat (first | exact Drawn0.refl _ | apply Drawn0.step)⟩
              · rw [if_neg c8] at H
                have c8b0 : decide ((bt a0 x4_1) < 127) = false := decide_eq_false c8
                clear c8
                have H' := Aside0.mk H
                clear H
                have p5 : 0 ≤ (x4_1 : Int) := of_decide_eq_true (by first | (with_reducible assumption) | assumption)
                have q5 : x4_1 < (a0.size : Int) := of_decide_eq_true (by first | (with_reducible assumption) | assumption)
                have hx5 := bt_at a0 x4_1
                replace p5 := eq_true p5
                replace q5 := eq_true q5
                have p7 : 0 ≤ (x4_1 : Int) := of_decide_eq_true (by first | (with_reducible assumption) | assumption)
                have q7 : x4_1 < (a0.size : Int) := of_decide_eq_true (by first | (with_reducible assumption) | assumption)
                have hx7 := bt_at a0 x4_1
                replace p7 := eq_true p7
                replace q7 := eq_true q7
                go_wp2
                repeat (go_quiet (fail); try go_wp2)
                go_meet
                case rel => exact ⟨_, (x4_1), (by first | rfl | (simp; done) | (simp [*]; done)), H', ⟨by have := HK1.out; first | omega | exact Nat.le_refl _⟩, by repeat (first | exact Drawn0.refl _ | apply Drawn0.step)⟩
            · rw [if_neg c6] at H
              have c6b0 : decide (32 < (bt a0 x4_1)) = false := decide_eq_false c6
              clear c6
              have H' := Aside0.mk H
              clear H
              have p5 : 0 ≤ (x4_1 : Int) := of_decide_eq_true (by first | (with_reducible assumption) | assumption)
              have q5 : x4_1 < (a0.size : Int) := of_decide_eq_true (by first | (with_reducible assumption) | assumption)
              have hx5 := bt_at a0 x4_1
              replace p5 := eq_true p5
              replace q5 := eq_true q5
              go_wp2
              repeat (go_quiet (fail); try go_wp2)
              go_meet
              case rel => exact ⟨_, (x4_1), (by first | rfl | (simp; done) | (simp [*]; done)), H', ⟨by have := HK1.out; first | omega | exact Nat.le_refl _⟩, by repeat (first | exact Drawn0.refl _ | apply Drawn0.step)⟩
          · rw [if_neg c4] at H
            exact absurd H (by simp)
        · rw [if_neg c3] at H
          have c3b0 : decide (x4_1 < (a0.size : Int)) = false := decide_eq_false c3
          clear c3
          (first | rw [c3b0] | (simp only [i64_w, i32_w]; rw [c3b0]) | skip)
          have H' := Aside0.mk H
          clear H
          go_wp2
          repeat (go_quiet (fail); try go_wp2)
          go_meet
          case rel => exact ⟨_, (x4_1), (by first | rfl | (simp; done) | (simp [*]; done)), H', ⟨by have := HK1.out; first | omega | exact Nat.le_refl _⟩, by repeat (first | exact Drawn0.refl _ | apply Drawn0.step)⟩
  case rest =>
    clear HC2
    try clear c1
    try clear p2
    try clear c3
    try clear c3b0
    try clear c4
    try clear c4b0
    try clear p5
    try clear q5
    try clear hx5
    try clear c6
    try clear c6b0
    try clear p6
    try clear c7
    try clear p7
    try clear q7
    try clear hx7
    try clear c8
    try clear c8b0
    try clear p9
    try clear q9
    try clear hx9
    try clear c10
    try clear c10b0
    try clear c10b1
    try clear p2
    try clear p5
    try clear p7
    try clear p9
    try clear q5
    try clear q7
    try clear q9
    obtain ⟨kq, x4_1, rfl, HA, HJ1, ⟨mc1, rfl⟩⟩ := hcut
    cases kq with
    | zero => exact absurd HA.out (by simp [letter_begins.j1])
    | succ kj1 =>
      have H := HA.out
      clear HA
      simp only [letter_begins.j1] at H
      by_cases c11 : 0 ≤ x4_1
      · rw [if_pos c11] at H
        have c11b0 := eq_true c11
        have c11b1 : decide (0 ≤ x4_1) = true := decide_eq_true c11
        clear c11
        by_cases c12 : x4_1 ≤ (a0.size : Int)
        · rw [if_pos c12] at H
          have c12b0 := eq_true c12
          have c12b1 : decide (x4_1 ≤ (a0.size : Int)) = true := decide_eq_true c12
          clear c12
          have H' := Aside0.mk H
          clear H
          go_wp2
          repeat (go_quiet (fail); try go_wp2)
          go_loopg [4] kj1 (fun kq v4 w' => ∃ (x4_2 : Int), v4 = .int .i64 x4_2 ∧ Aside0 (letter_begins.l1 kq a0 x4_2 (a0.extract 0 (x4_1 : Int).toNat) = some (r1, r2)) ∧ Aside0 (kq ≤ kj1) ∧ Drawn0 w w')
          case atStart => exact ⟨(x4_1), (by first | rfl | (simp; done) | (simp [*]; done)), H', ⟨Nat.le_refl _⟩, by repeat (first | exact Drawn0.refl _ | apply Drawn0.step)⟩
          case round =>
            clear H'
            try clear c1
            try clear p2
            try clear c3
            try clear c3b0
            try clear c4
            try clear c4b0
            try clear p5
            try clear q5
            try clear hx5
            try clear c6
            try clear c6b0
            try clear p6
            try clear c7
            try clear p7
            try clear q7
            try clear hx7
            try clear c8
            try clear c8b0
            try clear p9
            try clear q9
            try clear hx9
            try clear c10
            try clear c10b0
            try clear c10b1
            try clear c11
            try clear c11b0
            try clear c11b1
            try clear c12
            try clear c12b0
            try clear c12b1
            try clear p2
            try clear p5
            try clear p6
            try clear p7
            try clear p9
            try clear q5
            try clear q7
            try clear q9
            obtain ⟨x4_2, rfl, HA, HK2, ⟨m2, rfl⟩⟩ := hrel
            cases gk with
            | zero => exact absurd HA.out (by simp [letter_begins.l1])
            | succ k2 =>
              have H := HA.out
              clear HA
              simp only [letter_begins.l1] at H
              by_cases c13 : x4_2 < (a0.size : Int)
              · rw [if_pos c13] at H
                have c13b0 : decide (x4_2 < (a0.size : Int)) = true := decide_eq_true c13
                clear c13
                by_cases c14 : 0 ≤ x4_2
                · rw [if_pos c14] at H
                  have c14b0 : decide (0 ≤ x4_2) = true := decide_eq_true c14
                  clear c14
                  replace H := Option.bind_eq_some_iff.mp H
                  obtain ⟨t104, A160, H⟩ := H
                  replace H : (if t104 = true then (letter_begins.l1 k2 a0 (wrap64 (x4_2 + 1)) (a0.extract 0 (x4_1 : Int).toNat)) else (if (a0.extract 0 (x4_1 : Int).toNat).toList = ([] : List UInt8) then (some ((a0.extract 0 (x4_1 : Int).toNat), false)) else (some ((a0.extract 0 (x4_1 : Int).toNat), ((bt a0 x4_2) == 58))))) = some (r1, r2) := H
                  have A16 := Aside0.mk A160
                  clear A160
                  by_cases c17 : t104 = true
                  · subst c17
                    have H1 : (letter_begins.l1 k2 a0 (wrap64 (x4_2 + 1)) (a0.extract 0 (x4_1 : Int).toNat)) = some (r1, r2) := by rw [if_pos rfl] at H; exact H
                    clear H
                    have H := H1
                    clear H1
                    have H' := Aside0.mk H
                    clear H
                    have p15 : 0 ≤ (x4_2 : Int) := of_decide_eq_true (by first | (with_reducible assumption) | assumption)
                    have q15 : x4_2 < (a0.size : Int) := of_decide_eq_true (by first | (with_reducible assumption) | assumption)
                    have hx15 := bt_at a0 x4_2
                    replace p15 := eq_true p15
                    replace q15 := eq_true q15
                    go_wp2_with (first | (go_at_call 70; (with_reducible refine (letter_isBlank.calls (bt a0 x4_2) true _ A16.out).mono ?_); rintro e w' ⟨rfl, ⟨nd, rfl⟩⟩; (try first | exact ⟨rfl, _, World.drewN_drewN _ _ _⟩ | exact ⟨rfl, _, Eq.trans (World.drewN_drewN _ _ _) (congrArg (World.drewN _) (Nat.add_assoc _ _ _))⟩)))
                    repeat (go_quiet (first | (go_at_call 70; (with_reducible refine (letter_isBlank.calls (bt a0 x4_2) true _ A16.out).mono ?_); rintro e w' ⟨rfl, ⟨nd, rfl⟩⟩; (try first | exact ⟨rfl, _, World.drewN_drewN _ _ _⟩ | exact ⟨rfl, _, Eq.trans (World.drewN_drewN _ _ _) (congrArg (World.drewN _) (Nat.add_assoc _ _ _))⟩))); try go_wp2_with (first | (go_at_call 70; (with_reducible refine (letter_isBlank.calls (bt a0 x4_2) true _ A16.out).mono ?_); rintro e w' ⟨rfl, ⟨nd, rfl⟩⟩; (try first | exact ⟨rfl, _, World.drewN_drewN _ _ _⟩ | exact ⟨rfl, _, Eq.trans (World.drewN_drewN _ _ _) (congrArg (World.drewN _) (Nat.add_assoc _ _ _))⟩))))
                    go_roundg k2
                    case measure => have := HJ1.out; have := HK2.out; omega
                    case rel => exact ⟨(wrap64 (x4_2 + 1)), (by first | rfl | (simp; done) | (simp [*]; done)), H', ⟨by have := HJ1.out; have := HK2.out; omega⟩, by repeat (first | exact Drawn0.refl _ | apply Drawn0.step)⟩
                  · replace c17 := Bool.eq_false_iff.mpr c17
                    subst c17
                    have H1 : (if (a0.extract 0 (x4_1 : Int).toNat).toList = ([] : List UInt8) then (some ((a0.extract 0 (x4_1 : Int).toNat), false)) else (some ((a0.extract 0 (x4_1 : Int).toNat), ((bt a0 x4_2) == 58)))) = some (r1, r2) := by rw [if_neg (show ¬ (false = true) by decide)] at H; exact H
                    clear H
                    have H := H1
                    clear H1
                    by_cases c18 : (a0.extract 0 (x4_1 : Int).toNat).toList = ([] : List UInt8)
                    · rw [if_pos c18] at H
                      have c18b0 : ((a0.extract 0 (x4_1 : Int).toNat).toList == ([] : List UInt8)) = true := beq_iff_eq.mpr c18
                      have c18b1 : ((a0.extract 0 (x4_1 : Int).toNat).toList != ([] : List UInt8)) = false := bne_eq_false_iff_eq.mpr c18
                      clear c18
                      simp only [Option.some.injEq, Prod.mk.injEq] at H
                      obtain ⟨rfl, rfl⟩ := H
                      have p15 : 0 ≤ (x4_2 : Int) := of_decide_eq_true (by first | (with_reducible assumption) | assumption)
                      have q15 : x4_2 < (a0.size : Int) := of_decide_eq_true (by first | (with_reducible assumption) | assumption)
                      have hx15 := bt_at a0 x4_2
                      replace p15 := eq_true p15
                      replace q15 := eq_true q15
                      go_wp2_with (first | (go_at_call 70; (with_reducible refine (letter_isBlank.calls (bt a0 x4_2) false _ A16.out).mono ?_); rintro e w' ⟨rfl, ⟨nd, rfl⟩⟩; (try first | exact ⟨rfl, _, World.drewN_drewN _ _ _⟩ | exact ⟨rfl, _, Eq.trans (World.drewN_drewN _ _ _) (congrArg (World.drewN _) (Nat.add_assoc _ _ _))⟩)))
                      repeat (go_quiet (first | (go_at_call 70; (with_reducible refine (letter_isBlank.calls (bt a0 x4_2) false _ A16.out).mono ?_); rintro e w' ⟨rfl, ⟨nd, rfl⟩⟩; (try first | exact ⟨rfl, _, World.drewN_drewN _ _ _⟩ | exact ⟨rfl, _, Eq.trans (World.drewN_drewN _ _ _) (congrArg (World.drewN _) (Nat.add_assoc _ _ _))⟩))); try go_wp2_with (first | (go_at_call 70; (with_reducible refine (letter_isBlank.calls (bt a0 x4_2) false _ A16.out).mono ?_); rintro e w' ⟨rfl, ⟨nd, rfl⟩⟩; (try first | exact ⟨rfl, _, World.drewN_drewN _ _ _⟩ | exact ⟨rfl, _, Eq.trans (World.drewN_drewN _ _ _) (congrArg (World.drewN _) (Nat.add_assoc _ _ _))⟩))))
                      go_ret2
                      exact ⟨by first | rfl | (simp; done) | (simp [*]; done), by repeat (first | exact Drawn0.refl _ | apply Drawn0.step)⟩
                    · rw [if_neg c18] at H
                      have c18b0 : ((a0.extract 0 (x4_1 : Int).toNat).toList == ([] : List UInt8)) = false := beq_eq_false_iff_ne.mpr c18
                      have c18b1 : ((a0.extract 0 (x4_1 : Int).toNat).toList != ([] : List UInt8)) = true := bne_iff_ne.mpr c18
                      simp only [Option.some.injEq, Prod.mk.injEq] at H
                      obtain ⟨rfl, rfl⟩ := H
                      have p15 : 0 ≤ (x4_2 : Int) := of_decide_eq_true (by first | (with_reducible assumption) | assumption)
                      have q15 : x4_2 < (a0.size : Int) := of_decide_eq_true (by first | (with_reducible assumption) | assumption)
                      have hx15 := bt_at a0 x4_2
                      replace p15 := eq_true p15
                      replace q15 := eq_true q15
                      go_wp2_with (first | (go_at_call 70; (with_reducible refine (letter_isBlank.calls (bt a0 x4_2) false _ A16.out).mono ?_); rintro e w' ⟨rfl, ⟨nd, rfl⟩⟩; (try first | exact ⟨rfl, _, World.drewN_drewN _ _ _⟩ | exact ⟨rfl, _, Eq.trans (World.drewN_drewN _ _ _) (congrArg (World.drewN _) (Nat.add_assoc _ _ _))⟩); have p19 : 0 ≤ (x4_2 : Int) := of_decide_eq_true (by first | (with_reducible assumption) | assumption); have q19 : x4_2 < (a0.size : Int) := of_decide_eq_true (by first | (with_reducible assumption) | assumption); have hx19 := bt_at a0 x4_2; replace p19 := eq_true p19; replace q19 := eq_true q19))
                      repeat (go_quiet (first | (go_at_call 70; (with_reducible refine (letter_isBlank.calls (bt a0 x4_2) false _ A16.out).mono ?_); rintro e w' ⟨rfl, ⟨nd, rfl⟩⟩; (try first | exact ⟨rfl, _, World.drewN_drewN _ _ _⟩ | exact ⟨rfl, _, Eq.trans (World.drewN_drewN _ _ _) (congrArg (World.drewN _) (Nat.add_assoc _ _ _))⟩); have p19 : 0 ≤ (x4_2 : Int) := of_decide_eq_true (by first | (with_reducible assumption) | assumption); have q19 : x4_2 < (a0.size : Int) := of_decide_eq_true (by first | (with_reducible assumption) | assumption); have hx19 := bt_at a0 x4_2; replace p19 := eq_true p19; replace q19 := eq_true q19)); try go_wp2_with (first | (go_at_call 70; (with_reducible refine (letter_isBlank.calls (bt a0 x4_2) false _ A16.out).mono ?_); rintro e w' ⟨rfl, ⟨nd, rfl⟩⟩; (try first | exact ⟨rfl, _, World.drewN_drewN _ _ _⟩ | exact ⟨rfl, _, Eq.trans (World.drewN_drewN _ _ _) (congrArg (World.drewN _) (Nat.add_assoc _ _ _))⟩); have p19 : 0 ≤ (x4_2 : Int) := of_decide_eq_true (by first | (with_reducible assumption) | assumption); have q19 : x4_2 < (a0.size : Int) := of_decide_eq_true (by first | (with_reducible assumption) | assumption); have hx19 := bt_at a0 x4_2; replace p19 := eq_true p19; replace q19 := eq_true q19)))
                      go_ret2
                      exact ⟨by first | rfl | (simp; done) | (simp [*]; done), by repeat (first | exact Drawn0.refl _ | apply Drawn0.step)⟩
                · rw [if_neg c14] at H
                  exact absurd H (by simp)
              · rw [if_neg c13] at H
                have c13b0 : decide (x4_2 < (a0.size : Int)) = false := decide_eq_false c13
                clear c13
                by_cases c20 : (a0.extract 0 (x4_1 : Int).toNat).toList = ([] : List UInt8)
                · rw [if_pos c20] at H
                  have c20b0 : ((a0.extract 0 (x4_1 : Int).toNat).toList == ([] : List UInt8)) = true := beq_iff_eq.mpr c20
                  have c20b1 : ((a0.extract 0 (x4_1 : Int).toNat).toList != ([] : List UInt8)) = false := bne_eq_false_iff_eq.mpr c20
                  clear c20
                  simp only [Option.some.injEq, Prod.mk.injEq] at H
                  obtain ⟨rfl, rfl⟩ := H
                  go_wp2
                  repeat (go_quiet (fail); try go_wp2)
                  go_ret2
                  exact ⟨by first | rfl | (simp; done) | (simp [*]; done), by repeat (first | exact Drawn0.refl _ | apply Drawn0.step)⟩
                · rw [if_neg c20] at H
                  have c20b0 : ((a0.extract 0 (x4_1 : Int).toNat).toList == ([] : List UInt8)) = false := beq_eq_false_iff_ne.mpr c20
                  have c20b1 : ((a0.extract 0 (x4_1 : Int).toNat).toList != ([] : List UInt8)) = true := bne_iff_ne.mpr c20
                  simp only [Option.some.injEq, Prod.mk.injEq] at H
                  obtain ⟨rfl, rfl⟩ := H
                  go_wp2
                  repeat (go_quiet (fail); try go_wp2)
                  go_ret2
                  exact ⟨by first | rfl | (simp; done) | (simp [*]; done), by repeat (first | exact Drawn0.refl _ | apply Drawn0.step)⟩
        · rw [if_neg c12] at H
          exact absurd H (by simp)
      · rw [if_neg c11] at H
        exact absurd H (by simp)

end Go.Proofs.YtgmlhmojcemliaaDoor.P
end
section
namespace Go.Proofs.YtgmlhmojcemliaaDoor.P
open Go.RowKit Go.Proofs.YtgmlhmojcemliaaDoorW.PrintWords Go.Proofs.YtgmlhmojcemliaaDoorW.PrintLast Go.Proofs.YtgmlhmojcemliaaDoorW.PrintMore
attribute [local go_sem] max2_int min2_int max_two min_two max_three min_three max_four min_four   -- for this text's walks alone
set_option linter.unusedVariables false
set_option linter.unusedSimpArgs false

/-! ### letter_rows: function 47, GIVEN -/
instance : DecidableEq S95 := fun a b => decidable_of_iff (a.f0 = b.f0 ∧ a.f1 = b.f1 ∧ a.f2 = b.f2 ∧ a.f3 = b.f3) (by cases a; cases b; simp)
/-- The one header that the statements' own test asks for. -/
def head0 : ByteArray := ⟨#[83, 117, 98, 106, 101, 99, 116, 58, 32, 97, 13, 10, 32, 98, 13, 10, 13, 10]⟩
def nm0 : ByteArray := ⟨#[83, 117, 98, 106, 101, 99, 116]⟩
def row1 : S95 := ⟨⟨#[83, 117, 98, 106, 101, 99, 116, 58, 32, 97, 13, 10]⟩, nm0, true, true⟩
def row2 : S95 := ⟨⟨#[32, 98, 13, 10]⟩, nm0, false, true⟩
def rStates : List (Nat × ByteArray × List S95 × Bool × ByteArray) := [(2, head0, [], false, ⟨#[]⟩), (1, ⟨#[32, 98, 13, 10, 13, 10]⟩, [row1], true, nm0), (0, ⟨#[13, 10]⟩, [row1, row2], true, nm0)]
def letter_rows.f (a0 : ByteArray) : Option (List S95) := if a0 = head0 then some [row1, row2] else none
theorem toList_nil {x : ByteArray} (h : x.toList = []) : x = ⟨#[]⟩ := by
  have h2 : x.data.toList = [] := by rw [← Lib.toList_data]; exact h
  apply ByteArray.ext
  exact Array.toList_inj.1 h2
theorem rStep (kq : Nat) (x : ByteArray) (acc : List S95) (b : Bool) (nm : ByteArray) (h : (kq, x, acc, b, nm) ∈ rStates) : acc.length ≤ 2 ∧ x.size ≤ 18 ∧
    ((x ≠ ⟨#[]⟩ ∧ ∃ _ : 0 < x.size, strings_HasPrefix.f x ⟨#[13, 10]⟩ = some false ∧ ∃ i : Nat, strings_Index.f x ⟨#[13, 10]⟩ = some (i : Int) ∧ i + 2 ≤ x.size ∧
      ((letter_isBlank.f (x[0].toNat : Int) = some true ∧ (kq - 1, x.extract (i + 2) x.size, acc ++ [⟨x.extract 0 (i + 2), nm, false, b⟩], b, nm) ∈ rStates) ∨
       (letter_isBlank.f (x[0].toNat : Int) = some false ∧ ∃ nm1 b1, letter_begins.f 40 (x.extract 0 (i + 2)) = some (nm1, b1) ∧ (kq - 1, x.extract (i + 2) x.size, acc ++ [⟨x.extract 0 (i + 2), nm1, b1, b1⟩], b1, nm1) ∈ rStates)) ∧ kq - 1 < kq) ∨
     (x ≠ ⟨#[]⟩ ∧ strings_HasPrefix.f x ⟨#[13, 10]⟩ = some true ∧ acc = [row1, row2])) := by
  simp only [rStates, List.mem_cons, Prod.mk.injEq, List.not_mem_nil, or_false] at h
  rcases h with ⟨rfl, rfl, rfl, rfl, rfl⟩ | ⟨rfl, rfl, rfl, rfl, rfl⟩ | ⟨rfl, rfl, rfl, rfl, rfl⟩
  · exact ⟨by decide, by decide, .inl ⟨by decide, by decide, by decide +kernel, 10, by decide +kernel, by decide, .inr ⟨by decide +kernel, nm0, true, by decide +kernel, by (simp only [rStates, List.mem_cons, Prod.mk.injEq, List.not_mem_nil, or_false]; decide +kernel)⟩, by decide⟩⟩
  · exact ⟨by decide, by decide, .inl ⟨by decide, by decide, by decide +kernel, 2, by decide +kernel, by decide, .inl ⟨by decide +kernel, by (simp only [rStates, List.mem_cons, Prod.mk.injEq, List.not_mem_nil, or_false]; decide +kernel)⟩, by decide⟩⟩
  · exact ⟨by decide, by decide, .inr ⟨by decide, by decide +kernel, rfl⟩⟩
set_option maxHeartbeats 400000 in
set_option maxRecDepth 100000 in
theorem letter_rows.calls (a0 : ByteArray) (r : List S95) (w : World) (hG : Good w) (h : letter_rows.f a0 = some r) :
    Calls Tryd.prog 47 #[.string a0] w fun e w' => ∃ v0_ : Value, e = .returned (v0_) ∧ Kd.R k95 95 w' w.heap.size (fun _ => True) v0_ r ∧ Below w.heap.size w w' := by
  unfold letter_rows.f at h
  split at h
  case isFalse => cases h
  rename_i hs
  subst hs
  obtain rfl := Option.some.inj h
  clear h
  go_enter Tryd.func47, Tryd.ntmps47
  go_wp2
  go_loopg [0, 3, 4, 5] 2 (fun kq v0 v3 v4 v5 wr => ∃ (x nm : ByteArray) (b : Bool) (vs : Value) (acc : List S95), vs = v3 ∧ v0 = .string x ∧ v4 = .bool b ∧ v5 = .string nm ∧ Aside0 ((kq, x, acc, b, nm) ∈ rStates) ∧ Aside0 (Kd.R k95 95 wr w.heap.size (fun _ => True) vs acc) ∧ Aside0 (Below w.heap.size w wr))
  case atStart => exact ⟨_, _, _, _, [], rfl, rfl, rfl, rfl, ⟨by simp [rStates]⟩, ⟨Kd.R_nil _ _ _ _ _⟩, ⟨Below.refl _ _⟩⟩
  case round =>
    obtain ⟨x, nm, b, vs, acc, rfl, rfl, rfl, rfl, hc, hR, hB⟩ := hrel
    obtain ⟨hacc, hxs, hst⟩ := rStep _ _ _ _ _ hc.out
    have hbs := hB.out.size
    rcases hst with ⟨hx, hx0, hp, i, hi, hix, hst, hk⟩ | ⟨hx, hp, rfl⟩
    · have HP := Aside0.mk hp
      have HI := Aside0.mk hi
      have HST := Aside0.mk hst
      clear hp hi hc hst
      have hxe : x.toList.isEmpty = false := by
        cases he : x.toList with
        | nil => exact absurd (toList_nil he) hx
        | cons _ _ => rfl
      have hi0 : (i : Int) ≥ 0 := by omega
      go_wp2_with (go_at_call 45; refine (strings_HasPrefix.calls _ _ false _ HP.out).mono ?_; rintro e w1 ⟨rfl, ⟨nd, rfl⟩⟩)
      go_wp2_with (go_at_call 46; refine (strings_Index.calls _ _ _ _ (hG.below (pw_below_drewN hB.out _)) HI.out).mono ?_; rintro e w2 ⟨rfl, hB2⟩)
      rcases HST.out with ⟨hb, hm⟩ | ⟨hb, nm1, b1, hbg, hm⟩
      · have HBL := Aside0.mk hb
        have HM := Aside0.mk hm
        clear hb hm HST
        go_wp2_with (go_at_call 70; refine (letter_isBlank.calls _ true _ HBL.out).mono ?_)
        rintro e w3 ⟨rfl, ⟨nd3, hw3⟩⟩
        have hbox : w3.heap[w2.heap.size]? = some (.cells #[.string (x.extract 0 (i + 2)), .string ⟨#[]⟩, .bool false, .bool false] 95 (0, 0)) := by
          rw [hw3]; exact heap_alloc_new w2 _
        have hB3 : Below w2.heap.size w2 w3 := by
          rw [hw3]; exact pw_below_drewN (below_alloc (Below.refl _ _) _) _
        have hBw : Below w.heap.size w w2 := below_step (pw_below_drewN hB.out _) hB2
        have hRw := Kd.R_elderB (Kd.R_below (Kd.R_drewN hR.out nd) hB2) w2.heap.size (Nat.le_refl _)
        have hRw3 := Kd.R_below hRw hB3
        have hB4 := below_step hBw hB3
        have hgw : w.heap.size ≤ w2.heap.size := hBw.size
        clear hw3 hRw hBw hB3 hB2
        generalize w2.heap.size = g at hbox hRw3 hgw ⊢
        have c1 : w3.cell? ⟨g, 1, none⟩ = some (.string ⟨#[]⟩) := (blk_cell hbox 1).trans rfl
        have c3 : w3.cell? ⟨g, 3, none⟩ = some (.bool false) := (blk_cell hbox 3).trans rfl
        have HR3 := Aside0.mk hRw3
        have HB4 := Aside0.mk hB4
        clear hRw3 hB4
        have f1 := blk_frozen hbox 1
        have f3 := blk_frozen hbox 3
        have HBOX := Aside0.mk hbox
        clear hbox
        have c0 : w3.cell? ⟨g, 0, none⟩ = some (.string (x.extract 0 (i + 2))) := (blk_cell HBOX.out 0).trans rfl
        have c2 : w3.cell? ⟨g, 2, none⟩ = some (.bool false) := (blk_cell HBOX.out 2).trans rfl
        go_wp2_with ((with_reducible refine gate_builtin (b := .append) (xs := #[.tmp 44, .tmp 46]) rfl ?_); at_builtin; go_loud (refine Kd.R_append k95 (w0 := w) w.heap.size rfl (.tmp 44) (.tmp 46) 92 95 (.agg #[(.string ⟨#[]⟩), (.string ⟨#[]⟩), (.bool false), (.bool false)]) 40 rfl Tryd.underlying92 info95 rfl (by decide) (by omega) vs acc (⟨x.extract 0 (i + 2), nm, false, b⟩ : S95) [.string (x.extract 0 (i + 2)), .string nm, .bool false, .bool b] (fun k => True) (fun _ => False) rfl (by first | (go_simp; done) | (go_simp; rfl)) ?aP (fun _ hk => hk.elim) (fun _ _ => trivial) ?aO ?aB ?aS ?aL ?_))
        case aP => exact k95_mkM _ _ _ _
        case aO => exact Kd.R_mono (Kd.R_far (p := ⟨g, 3, none⟩) (Kd.R_far (p := ⟨g, 1, none⟩) HR3.out (fun _ hk => hk.2) _) (fun _ hk => hk.2) _) (fun _ _ => trivial)
        case aB => exact below_set (below_set HB4.out hgw) hgw
        case aS => exact below_size (below_set (below_set HB4.out hgw) hgw)
        case aL => omega
        intro v1 w5 hR5 hB5 hg hat
        have HR5 := Aside0.mk hR5
        have HB5 := Aside0.mk hB5
        clear hR5 hB5 hg hat c0 c1 c2 c3 f1 f3
        have hxi : (i : Int) + 2 ≤ (x.size : Int) := by omega
        go_wp2
        go_roundg (gk - 1)
        case rel => exact ⟨_, nm, b, v1, _, rfl, rfl, rfl, rfl, HM, HR5, HB5⟩
        case measure => exact hk
      · have HBL := Aside0.mk hb
        have HBG := Aside0.mk hbg
        have HM := Aside0.mk hm
        clear hb hbg hm HST
        go_wp2_with (go_at_call 70; refine (letter_isBlank.calls _ false _ HBL.out).mono ?_)
        rintro e w3 ⟨rfl, ⟨nd3, hw3⟩⟩
        have hbox : w3.heap[w2.heap.size]? = some (.cells #[.string (x.extract 0 (i + 2)), .string ⟨#[]⟩, .bool false, .bool false] 95 (0, 0)) := by
          rw [hw3]; exact heap_alloc_new w2 _
        have hB3 : Below w2.heap.size w2 w3 := by
          rw [hw3]; exact pw_below_drewN (below_alloc (Below.refl _ _) _) _
        have hBw : Below w.heap.size w w2 := below_step (pw_below_drewN hB.out _) hB2
        have hRw := Kd.R_elderB (Kd.R_below (Kd.R_drewN hR.out nd) hB2) w2.heap.size (Nat.le_refl _)
        have hRw3 := Kd.R_below hRw hB3
        have hB4 := below_step hBw hB3
        have hgw : w.heap.size ≤ w2.heap.size := hBw.size
        clear hw3 hRw hBw hB3 hB2
        generalize w2.heap.size = g at hbox hRw3 hgw ⊢
        have c1 : w3.cell? ⟨g, 1, none⟩ = some (.string ⟨#[]⟩) := (blk_cell hbox 1).trans rfl
        have c3 : w3.cell? ⟨g, 3, none⟩ = some (.bool false) := (blk_cell hbox 3).trans rfl
        have HR3 := Aside0.mk hRw3
        have HB4 := Aside0.mk hB4
        clear hRw3 hB4
        have f1 := blk_frozen hbox 1
        have f3 := blk_frozen hbox 3
        have HBOX := Aside0.mk hbox
        clear hbox
        have c0 : w3.cell? ⟨g, 0, none⟩ = some (.string (x.extract 0 (i + 2))) := (blk_cell HBOX.out 0).trans rfl
        have c2 : w3.cell? ⟨g, 2, none⟩ = some (.bool false) := (blk_cell HBOX.out 2).trans rfl
        have f2 := blk_frozen HBOX.out 2
        go_wp2_with (go_at_call 71; refine (letter_begins.calls _ _ _ _ _ HBG.out).mono ?_)
        rintro e w4 ⟨rfl, ⟨nd4, hw4⟩⟩
        have HBOX4 : Aside0 (w4.heap[g]? = some (.cells #[.string (x.extract 0 (i + 2)), .string ⟨#[]⟩, .bool false, .bool false] 95 (0, 0))) := ⟨by rw [hw4]; exact HBOX.out⟩
        have HR4 : Aside0 (Kd.R k95 95 w4 w.heap.size (fun k => True ∧ k ≠ g) vs acc) := ⟨by rw [hw4]; exact Kd.R_drewN HR3.out _⟩
        have HB4' : Aside0 (Below w.heap.size w w4) := ⟨by rw [hw4]; exact pw_below_drewN HB4.out _⟩
        clear hw4 c0 c1 c2 c3 f1 f2 f3
        have c0 : w4.cell? ⟨g, 0, none⟩ = some (.string (x.extract 0 (i + 2))) := (blk_cell HBOX4.out 0).trans rfl
        have c1 : w4.cell? ⟨g, 1, none⟩ = some (.string ⟨#[]⟩) := (blk_cell HBOX4.out 1).trans rfl
        have c2 : w4.cell? ⟨g, 2, none⟩ = some (.bool false) := (blk_cell HBOX4.out 2).trans rfl
        have c3 : w4.cell? ⟨g, 3, none⟩ = some (.bool false) := (blk_cell HBOX4.out 3).trans rfl
        have f1 := blk_frozen HBOX4.out 1
        have f2 := blk_frozen HBOX4.out 2
        have f3 := blk_frozen HBOX4.out 3
        go_wp2_with ((with_reducible refine gate_builtin (b := .append) (xs := #[.tmp 44, .tmp 46]) rfl ?_); at_builtin; refine Kd.R_append k95 (w0 := w) w.heap.size rfl (.tmp 44) (.tmp 46) 92 95 (.agg #[(.string ⟨#[]⟩), (.string ⟨#[]⟩), (.bool false), (.bool false)]) 40 rfl Tryd.underlying92 info95 rfl (by decide) (by omega) vs acc (⟨x.extract 0 (i + 2), nm1, b1, b1⟩ : S95) [.string (x.extract 0 (i + 2)), .string nm1, .bool b1, .bool b1] (fun k => True) (fun _ => False) rfl (by first | (go_simp; done) | (go_simp; rfl)) ?aP (fun _ hk => hk.elim) (fun _ _ => trivial) ?aO ?aB ?aS ?aL ?_)
        case aP => exact k95_mkM _ _ _ _
        case aO => exact Kd.R_mono (Kd.R_far (p := ⟨g, 3, none⟩) (Kd.R_far (p := ⟨g, 1, none⟩) (Kd.R_far (p := ⟨g, 2, none⟩) HR4.out (fun _ hk => hk.2) _) (fun _ hk => hk.2) _) (fun _ hk => hk.2) _) (fun _ _ => trivial)
        case aB => exact below_set (below_set (below_set HB4'.out hgw) hgw) hgw
        case aS => exact below_size (below_set (below_set (below_set HB4'.out hgw) hgw) hgw)
        case aL => omega
        intro v1 w5 hR5 hB5 hg hat
        have HR5 := Aside0.mk hR5
        have HB5 := Aside0.mk hB5
        clear hR5 hB5 hg hat c0 c1 c2 c3 f1 f2 f3
        have hxi : (i : Int) + 2 ≤ (x.size : Int) := by omega
        go_wp2
        go_roundg (gk - 1)
        case rel => exact ⟨_, nm1, b1, v1, _, rfl, rfl, rfl, rfl, HM, HR5, HB5⟩
        case measure => exact hk
    · have HP := Aside0.mk hp
      clear hp hc
      have hxe : x.toList.isEmpty = false := by
        cases he : x.toList with
        | nil => exact absurd (toList_nil he) hx
        | cons _ _ => rfl
      go_wp2_with (go_at_call 45; refine (strings_HasPrefix.calls _ _ true _ HP.out).mono ?_; rintro e w1 ⟨rfl, ⟨nd, rfl⟩⟩)
      go_ret
      exact ⟨_, rfl, Kd.R_drewN hR.out _, pw_below_drewN hB.out _⟩
end Go.Proofs.YtgmlhmojcemliaaDoor.P
end
section
namespace Go.Proofs.YtgmlhmojcemliaaDoor.P
open Go.RowKit Go.Proofs.YtgmlhmojcemliaaDoorW.PrintWords Go.Proofs.YtgmlhmojcemliaaDoorW.PrintLast Go.Proofs.YtgmlhmojcemliaaDoorW.PrintMore
attribute [local go_sem] max2_int min2_int max_two min_two max_three min_three max_four min_four   -- for this text's walks alone
set_option linter.unusedVariables false
set_option linter.unusedSimpArgs false

/-! ### stringslite_HasSuffix: function 96 -/
def stringslite_HasSuffix.f (a0 : ByteArray) (a1 : ByteArray) : Option (Bool) := if (a0.size : Int) ≥ (a1.size : Int) then (if 0 ≤ (wrap64 ((a0.size : Int) - (a1.size : Int))) then (if (wrap64 ((a0.size : Int) - (a1.size : Int))) ≤ (a0.size : Int) then (some ((a0.extract ((wrap64 ((a0.size : Int) - (a1.size : Int))) : Int).toNat a0.size).toList == a1.toList)) else (none)) else (none)) else (some false)
set_option maxHeartbeats 8000000 in
set_option maxRecDepth 100000 in
theorem stringslite_HasSuffix.calls (a0 : ByteArray) (a1 : ByteArray) (r : Bool) (w : World) (h : stringslite_HasSuffix.f a0 a1 = some r) :
    Calls Tryd.prog 96 #[.string a0, .string a1] w fun e w' => e = .returned (.bool r) ∧ Drawn0 w w' := by
  have H : (if (a0.size : Int) ≥ (a1.size : Int) then (if 0 ≤ (wrap64 ((a0.size : Int) - (a1.size : Int))) then (if (wrap64 ((a0.size : Int) - (a1.size : Int))) ≤ (a0.size : Int) then (some ((a0.extract ((wrap64 ((a0.size : Int) - (a1.size : Int))) : Int).toNat a0.size).toList == a1.toList)) else (none)) else (none)) else (some false)) = some r := h
  clear h
  by_cases c3 : (a0.size : Int) ≥ (a1.size : Int)
  · rw [if_pos c3] at H
    have c3b0 : decide ((a1.size : Int) ≤ (a0.size : Int)) = true := decide_eq_true c3
    have c3b1 : decide (a1.size ≤ a0.size) = true := decide_eq_true (Int.ofNat_le.mp c3)
    clear c3
    obtain ⟨ji4, hji4⟩ : ∃ j_ : Int, (wrap64 ((a0.size : Int) - (a1.size : Int))) = j_ := ⟨_, rfl⟩
    replace H : (if 0 ≤ (ji4) then (if (ji4) ≤ (a0.size : Int) then (some ((a0.extract ((ji4) : Int).toNat a0.size).toList == a1.toList)) else (none)) else (none)) = some r := by first | (rw [hji4] at H; exact H) | (simp only [hji4] at H ⊢; exact H)
    have hji4w : (IntKind.i64.wrap ((a0.size : Int) - (a1.size : Int))) = ji4 := (i64_w _).trans hji4
    by_cases c5 : 0 ≤ (ji4)
    · rw [if_pos c5] at H
      have c5b0 := eq_true c5
      have c5b1 : decide (0 ≤ (ji4)) = true := decide_eq_true c5
      clear c5
      by_cases c6 : (ji4) ≤ (a0.size : Int)
      · rw [if_pos c6] at H
        have c6b0 := eq_true c6
        have c6b1 : decide ((ji4) ≤ (a0.size : Int)) = true := decide_eq_true c6
        clear c6
        obtain rfl := Option.some.inj H
        go_enter Tryd.func96, Tryd.ntmps96
        go_wp2
        go_ret
        exact ⟨by first | rfl | (simp; done) | (simp only [← hji4] <;> (first | rfl | simp)) | (simp [*]; done), by repeat (first | exact Drawn0.refl _ | apply Drawn0.step)⟩
      · rw [if_neg c6] at H
        exact absurd H (by simp)
    · rw [if_neg c5] at H
      exact absurd H (by simp)
  · rw [if_neg c3] at H
    have c3b0 : decide ((a1.size : Int) ≤ (a0.size : Int)) = false := decide_eq_false c3
    have c3b1 : decide (a1.size ≤ a0.size) = false := decide_eq_false (fun h => c3 (Int.ofNat_le.mpr h))
    clear c3
    obtain rfl := Option.some.inj H
    go_enter Tryd.func96, Tryd.ntmps96
    go_wp2
    go_ret
    exact ⟨by first | rfl | (simp; done) | (simp [*]; done), by repeat (first | exact Drawn0.refl _ | apply Drawn0.step)⟩

/-! ### stringslite_TrimSuffix: function 72 -/
def stringslite_TrimSuffix.f (a0 : ByteArray) (a1 : ByteArray) : Option (ByteArray) := (stringslite_HasSuffix.f a0 a1).bind fun t105 => (if t105 = true then (if 0 ≤ (wrap64 ((a0.size : Int) - (a1.size : Int))) then (if (wrap64 ((a0.size : Int) - (a1.size : Int))) ≤ (a0.size : Int) then (some (a0.extract 0 ((wrap64 ((a0.size : Int) - (a1.size : Int))) : Int).toNat)) else (none)) else (none)) else (some a0))
set_option maxHeartbeats 8000000 in
set_option maxRecDepth 100000 in
theorem stringslite_TrimSuffix.calls (a0 : ByteArray) (a1 : ByteArray) (r : ByteArray) (w : World) (h : stringslite_TrimSuffix.f a0 a1 = some r) :
    Calls Tryd.prog 72 #[.string a0, .string a1] w fun e w' => e = .returned (.string r) ∧ Drawn0 w w' := by
  have H : ((stringslite_HasSuffix.f a0 a1).bind fun t105 => (if t105 = true then (if 0 ≤ (wrap64 ((a0.size : Int) - (a1.size : Int))) then (if (wrap64 ((a0.size : Int) - (a1.size : Int))) ≤ (a0.size : Int) then (some (a0.extract 0 ((wrap64 ((a0.size : Int) - (a1.size : Int))) : Int).toNat)) else (none)) else (none)) else (some a0))) = some r := h
  clear h
  replace H := Option.bind_eq_some_iff.mp H
  obtain ⟨t105, A30, H⟩ := H
  replace H : (if t105 = true then (if 0 ≤ (wrap64 ((a0.size : Int) - (a1.size : Int))) then (if (wrap64 ((a0.size : Int) - (a1.size : Int))) ≤ (a0.size : Int) then (some (a0.extract 0 ((wrap64 ((a0.size : Int) - (a1.size : Int))) : Int).toNat)) else (none)) else (none)) else (some a0)) = some r := H
  have A3 := Aside0.mk A30
  clear A30
  by_cases c4 : t105 = true
  · subst c4
    have H1 : (if 0 ≤ (wrap64 ((a0.size : Int) - (a1.size : Int))) then (if (wrap64 ((a0.size : Int) - (a1.size : Int))) ≤ (a0.size : Int) then (some (a0.extract 0 ((wrap64 ((a0.size : Int) - (a1.size : Int))) : Int).toNat)) else (none)) else (none)) = some r := by rw [if_pos rfl] at H; exact H
    clear H
    have H := H1
    clear H1
    obtain ⟨ji5, hji5⟩ : ∃ j_ : Int, (wrap64 ((a0.size : Int) - (a1.size : Int))) = j_ := ⟨_, rfl⟩
    replace H : (if 0 ≤ (ji5) then (if (ji5) ≤ (a0.size : Int) then (some (a0.extract 0 ((ji5) : Int).toNat)) else (none)) else (none)) = some r := by first | (rw [hji5] at H; exact H) | (simp only [hji5] at H ⊢; exact H)
    (try rw [hji5] at A3)
    have hji5w : (IntKind.i64.wrap ((a0.size : Int) - (a1.size : Int))) = ji5 := (i64_w _).trans hji5
    by_cases c6 : 0 ≤ (ji5)
    · rw [if_pos c6] at H
      have c6b0 := eq_true c6
      have c6b1 : decide (0 ≤ (ji5)) = true := decide_eq_true c6
      clear c6
      by_cases c7 : (ji5) ≤ (a0.size : Int)
      · rw [if_pos c7] at H
        have c7b0 := eq_true c7
        have c7b1 : decide ((ji5) ≤ (a0.size : Int)) = true := decide_eq_true c7
        clear c7
        obtain rfl := Option.some.inj H
        go_enter Tryd.func72, Tryd.ntmps72
        go_wp2_with (first | ((with_reducible refine gate_callee (f := 96) rfl ?_); refine goesL_ (some 7) rfl rfl Tryd.func96 (by kernel_rfl) rfl #[.string a0, .string a1] rfl (by (try simp only [List.map_toArray, List.map_cons, List.map_nil]); first | done | rfl | (simp only [List.length_drop, List.length_take]; rfl)) ?_; (with_reducible refine (stringslite_HasSuffix.calls a0 a1 true _ A3.out).mono ?_); rintro e w' ⟨rfl, ⟨nd, rfl⟩⟩; refine ⟨_, rfl, ?_⟩))
        go_ret
        exact ⟨by first | rfl | (simp; done) | (simp only [← hji5] <;> (first | rfl | simp)) | (simp [*]; done), by repeat (first | exact Drawn0.refl _ | apply Drawn0.step)⟩
      · rw [if_neg c7] at H
        exact absurd H (by simp)
    · rw [if_neg c6] at H
      exact absurd H (by simp)
  · replace c4 := Bool.eq_false_iff.mpr c4
    subst c4
    have H1 : (some a0) = some r := by rw [if_neg (show ¬ (false = true) by decide)] at H; exact H
    clear H
    have H := H1
    clear H1
    obtain rfl := Option.some.inj H
    go_enter Tryd.func72, Tryd.ntmps72
    go_wp2_with (first | ((with_reducible refine gate_callee (f := 96) rfl ?_); refine goesL_ (some 7) rfl rfl Tryd.func96 (by kernel_rfl) rfl #[.string a0, .string a1] rfl (by (try simp only [List.map_toArray, List.map_cons, List.map_nil]); first | done | rfl | (simp only [List.length_drop, List.length_take]; rfl)) ?_; (with_reducible refine (stringslite_HasSuffix.calls a0 a1 false _ A3.out).mono ?_); rintro e w' ⟨rfl, ⟨nd, rfl⟩⟩; refine ⟨_, rfl, ?_⟩))
    go_ret
    exact ⟨by first | rfl | (simp; done) | (simp [*]; done), by repeat (first | exact Drawn0.refl _ | apply Drawn0.step)⟩

/-! ### strings_TrimSuffix: function 48 -/
def strings_TrimSuffix.f (a0 : ByteArray) (a1 : ByteArray) : Option (ByteArray) := (stringslite_TrimSuffix.f a0 a1).bind fun t106 => (some t106)
set_option maxHeartbeats 8000000 in
set_option maxRecDepth 100000 in
theorem strings_TrimSuffix.calls (a0 : ByteArray) (a1 : ByteArray) (r : ByteArray) (w : World) (h : strings_TrimSuffix.f a0 a1 = some r) :
    Calls Tryd.prog 48 #[.string a0, .string a1] w fun e w' => e = .returned (.string r) ∧ Drawn0 w w' := by
  have H : ((stringslite_TrimSuffix.f a0 a1).bind fun t106 => (some t106)) = some r := h
  clear h
  replace H := Option.bind_eq_some_iff.mp H
  obtain ⟨t106, A30, H⟩ := H
  replace H : (some t106) = some r := H
  have A3 := Aside0.mk A30
  clear A30
  obtain rfl := Option.some.inj H
  go_enter Tryd.func48, Tryd.ntmps48
  go_wp2_with (first | ((with_reducible refine gate_callee (f := 72) rfl ?_); refine goesL_ (some 7) rfl rfl Tryd.func72 (by kernel_rfl) rfl #[.string a0, .string a1] rfl (by (try simp only [List.map_toArray, List.map_cons, List.map_nil]); first | done | rfl | (simp only [List.length_drop, List.length_take]; rfl)) ?_; (with_reducible refine (stringslite_TrimSuffix.calls a0 a1 t106 _ A3.out).mono ?_); rintro e w' ⟨rfl, ⟨nd, rfl⟩⟩; refine ⟨_, rfl, ?_⟩))
  go_ret
  exact ⟨by first | rfl | (simp; done) | (simp [*]; done), by repeat (first | exact Drawn0.refl _ | apply Drawn0.step)⟩

end Go.Proofs.YtgmlhmojcemliaaDoor.P
end
section
namespace Go.Proofs.YtgmlhmojcemliaaDoor.P
open Go.RowKit Go.Proofs.YtgmlhmojcemliaaDoorW.PrintWords Go.Proofs.YtgmlhmojcemliaaDoorW.PrintLast Go.Proofs.YtgmlhmojcemliaaDoorW.PrintMore
attribute [local go_sem] max2_int min2_int max_two min_two max_three min_three max_four min_four   -- for this text's walks alone
set_option linter.unusedVariables false
set_option linter.unusedSimpArgs false

/-! ### strings_IndexByte: function 49, GIVEN -/
def strings_IndexByte.f (a0 : ByteArray) (a1 : Int) : Option Int := some (Lib.indexByte a0.data.toList a1.toNat.toUInt8)
theorem strings_IndexByte.calls (a0 : ByteArray) (a1 : Int) (r : Int) (w : World) (h : strings_IndexByte.f a0 a1 = some r) :
    Calls Tryd.prog 49 #[.string a0, .int .u8 a1] w fun e w' => e = .returned (.int .i64 r) ∧ Drawn0 w w' := by
  obtain rfl := Option.some.inj h
  exact (Tryd.strings_IndexByte a0 a1 w).mono fun e w' ⟨h1, h2⟩ => ⟨h1, h2 ▸ Drawn0.refl _⟩
end Go.Proofs.YtgmlhmojcemliaaDoor.P
end
section
namespace Go.Proofs.YtgmlhmojcemliaaDoor.P
open Go.RowKit Go.Proofs.YtgmlhmojcemliaaDoorW.PrintWords Go.Proofs.YtgmlhmojcemliaaDoorW.PrintLast Go.Proofs.YtgmlhmojcemliaaDoorW.PrintMore
attribute [local go_sem] max2_int min2_int max_two min_two max_three min_three max_four min_four   -- for this text's walks alone
set_option linter.unusedVariables false
set_option linter.unusedSimpArgs false

/-! ### strings_Trim: function 50, GIVEN -/
def strings_Trim.f (a0 a1 : ByteArray) : Option ByteArray := if a0.size ≤ 9223372036854775807 ∧ a1.size < 4294967281 ∧ a1.data.toList.all (fun b => decide (b.toNat < 128)) = true then some ⟨(Lib.trimS a0.data.toList a1.data.toList).toArray⟩ else none
theorem strings_Trim.calls (a0 a1 : ByteArray) (r : ByteArray) (w : World) (h : strings_Trim.f a0 a1 = some r) :
    Calls Tryd.prog 50 #[.string a0, .string a1] w fun e w' => e = .returned (.string r) ∧ Below w.heap.size w w' := by
  unfold strings_Trim.f at h
  split at h
  · rename_i hc
    obtain rfl := Option.some.inj h
    exact Tryd.strings_Trim_laid a0 a1 w hc.1 hc.2.1 (ascii_of_all hc.2.2)
  · cases h
end Go.Proofs.YtgmlhmojcemliaaDoor.P
end
section
namespace Go.Proofs.YtgmlhmojcemliaaDoor.P
open Go.RowKit Go.Proofs.YtgmlhmojcemliaaDoorW.PrintWords Go.Proofs.YtgmlhmojcemliaaDoorW.PrintLast Go.Proofs.YtgmlhmojcemliaaDoorW.PrintMore
attribute [local go_sem] max2_int min2_int max_two min_two max_three min_three max_four min_four   -- for this text's walks alone
set_option linter.unusedVariables false
set_option linter.unusedSimpArgs false

/-! ### letter_Fields: function 24, GIVEN -/
def fCut (t : ByteArray) : ByteArray := t.extract (Lib.indexByte t.data.toList 58 + 1).toNat t.size
theorem indexByte_lt (l : List UInt8) (c : UInt8) : Lib.indexByte l c < l.length ∨ Lib.indexByte l c = -1 := by
  induction l with
  | nil => exact .inr rfl
  | cons b l ih => unfold Lib.indexByte; split <;> (try split) <;> simp_all <;> omega
def fUpd (fs : List S64) (vs : List ByteArray) (raw t : ByteArray) : Option (List S64 × List ByteArray) :=
  if 0 < fs.length ∧ fs.length ≤ 64 ∧ vs.length = fs.length ∧ (rd_T64 fs ((fs.length - 1 : Nat) : Int)).f2.size + raw.size ≤ 140737488355328 ∧ (rdOf ByteArray.empty vs ((fs.length - 1 : Nat) : Int)).size + t.size ≤ 140737488355328 then
    some (fs.set (fs.length - 1) ⟨(rd_T64 fs ((fs.length - 1 : Nat) : Int)).f0, (rd_T64 fs ((fs.length - 1 : Nat) : Int)).f1, (rd_T64 fs ((fs.length - 1 : Nat) : Int)).f2 ++ raw⟩, vs.set (fs.length - 1) (rdOf ByteArray.empty vs ((fs.length - 1 : Nat) : Int) ++ t))
  else none
def fTrim (v : ByteArray) : ByteArray := ⟨(Lib.trimS v.data.toList [32, 9]).toArray⟩
def fFin : List S64 → List ByteArray → List S64 := List.zipWith (fun f v => ⟨f.f0, fTrim v, f.f2⟩)
/-- The first k fields have their values, the others not yet. -/
def fPart (gs : List S64) (us : List ByteArray) (k : Nat) : List S64 := (fFin gs us).take k ++ gs.drop k
theorem fFin_length (gs : List S64) (us : List ByteArray) (h : us.length = gs.length) : (fFin gs us).length = gs.length := by simp [fFin, List.length_zipWith, h]
theorem fPart_zero (gs : List S64) (us : List ByteArray) : fPart gs us 0 = gs := by simp [fPart]
theorem fPart_length (gs : List S64) (us : List ByteArray) (k : Nat) (h : us.length = gs.length) : (fPart gs us k).length = gs.length := by
  simp [fPart, fFin_length gs us h]; omega
theorem fPart_all (gs : List S64) (us : List ByteArray) (h : us.length = gs.length) : fPart gs us gs.length = fFin gs us := by
  have := fFin_length gs us h
  simp [fPart, ← this]
theorem fAll {us : List ByteArray} (h : us.all (fun v => decide (v.size ≤ 140737488355328)) = true) (k : Nat) (hk : k < us.length) : (rdOf ByteArray.empty us (k : Int)).size ≤ 140737488355328 := by
  have := List.all_eq_true.1 h us[k] (List.getElem_mem hk)
  simpa [rdOf, List.getD_eq_getElem?_getD, List.getElem?_eq_getElem hk] using this
theorem fTrim_f (v : ByteArray) (h : v.size ≤ 140737488355328) : strings_Trim.f v ⟨#[32, 9]⟩ = some (fTrim v) := by
  unfold strings_Trim.f
  rw [if_pos ⟨by omega, by decide, by decide⟩]
  rfl
theorem fPart_succ (gs : List S64) (us : List ByteArray) (k : Nat) (h : us.length = gs.length) (hk : k < gs.length) :
    (fPart gs us k).set k ⟨(rd_T64 (fPart gs us k) (k : Int)).f0, fTrim (rdOf ByteArray.empty us (k : Int)), (rd_T64 (fPart gs us k) (k : Int)).f2⟩ = fPart gs us (k + 1) := by
  have hl := fFin_length gs us h
  have hg : (fPart gs us k)[k]? = some gs[k] := by
    unfold fPart
    rw [List.getElem?_append_right (by simp; omega)]
    simp [hl, Nat.min_eq_left (Nat.le_of_lt hk)]
  have hr : rd_T64 (fPart gs us k) (k : Int) = gs[k] := by simp [rd_T64, List.getD_eq_getElem?_getD, hg]
  have hu : rdOf ByteArray.empty us (k : Int) = us[k] := by simp [rdOf, List.getD_eq_getElem?_getD, List.getElem?_eq_getElem (show k < us.length by omega)]
  rw [hr, hu]
  apply List.ext_getElem?
  intro j
  rw [List.getElem?_set]
  by_cases e : k = j
  · subst e
    rw [if_pos rfl, fPart_length gs us k h, if_pos hk]
    unfold fPart
    rw [List.getElem?_append_left (by simp; omega), List.getElem?_take, if_pos (by omega)]
    simp [fFin, List.getElem?_zipWith, List.getElem?_eq_getElem hk, List.getElem?_eq_getElem (show k < us.length by omega)]
  · rw [if_neg e]
    unfold fPart
    by_cases hj : j < k
    · rw [List.getElem?_append_left (by simp; omega), List.getElem?_append_left (by simp; omega), List.getElem?_take, List.getElem?_take, if_pos hj, if_pos (by omega)]
    · rw [List.getElem?_append_right (by simp; omega), List.getElem?_append_right (by simp; omega)]
      simp [hl, Nat.min_eq_left (Nat.le_of_lt hk), Nat.min_eq_left (show k + 1 ≤ gs.length by omega)]
      congr 1; omega
theorem fUpd_some {fs : List S64} {vs : List ByteArray} {raw t : ByteArray} {a : List S64} {b : List ByteArray} (h : fUpd fs vs raw t = some (a, b)) :
    0 < fs.length ∧ fs.length ≤ 64 ∧ vs.length = fs.length ∧ (rd_T64 fs ((fs.length - 1 : Nat) : Int)).f2.size + raw.size ≤ 140737488355328 ∧ (rdOf ByteArray.empty vs ((fs.length - 1 : Nat) : Int)).size + t.size ≤ 140737488355328 ∧
    fs.set (fs.length - 1) ⟨(rd_T64 fs ((fs.length - 1 : Nat) : Int)).f0, (rd_T64 fs ((fs.length - 1 : Nat) : Int)).f1, (rd_T64 fs ((fs.length - 1 : Nat) : Int)).f2 ++ raw⟩ = a ∧ vs.set (fs.length - 1) (rdOf ByteArray.empty vs ((fs.length - 1 : Nat) : Int) ++ t) = b := by
  unfold fUpd at h
  split at h
  case isFalse => cases h
  rename_i hc
  simp only [Option.some.injEq, Prod.mk.injEq] at h
  exact ⟨hc.1, hc.2.1, hc.2.2.1, hc.2.2.2.1, hc.2.2.2.2, h.1, h.2⟩
def fStep (r : S95) (fs : List S64) (vs : List ByteArray) : Option (List S64 × List ByteArray) :=
  (strings_TrimSuffix.f r.f0 ⟨#[13, 10]⟩).bind fun t =>
    if t.size ≤ 140737488355328 then (if r.f2 = true then (if fs.length < 64 then fUpd (fs ++ [⟨r.f1, ⟨#[]⟩, ⟨#[]⟩⟩]) (vs ++ [⟨#[]⟩]) r.f0 (fCut t) else none) else fUpd fs vs r.f0 t) else none
def fGo : List S95 → List S64 → List ByteArray → Option (List S64 × List ByteArray)
  | [], fs, vs => some (fs, vs)
  | r :: rs, fs, vs => if r.f3 = false ∨ (r.f2 = true ∧ fs.length = 64) then (if r.f2 = true then some (fs, vs) else fGo rs fs vs) else (fStep r fs vs).bind fun p => fGo rs p.1 p.2
def letter_Fields.f (a0 : ByteArray) : Option (List S64) :=
  (letter_rows.f a0).bind fun rs => (fGo rs [] []).bind fun p => if p.2.all (fun v => decide (v.size ≤ 140737488355328)) = true then some (fFin p.1 p.2) else none
set_option maxHeartbeats 4000000 in
set_option maxRecDepth 100000 in
theorem letter_Fields.calls (a0 : ByteArray) (r : List S64) (w : World) (hG : Good w) (h : letter_Fields.f a0 = some r) :
    Calls Tryd.prog 24 #[.string a0] w fun e w' => ∃ v0_ : Value, e = .returned (v0_) ∧ Kd.R k64 64 w' w.heap.size (fun _ => True) v0_ r ∧ Below w.heap.size w w' := by
  unfold letter_Fields.f at h
  obtain ⟨rs, hrs, h⟩ := Option.bind_eq_some_iff.mp h
  obtain ⟨⟨gs, us⟩, hgo, h⟩ := Option.bind_eq_some_iff.mp h
  split at h
  case isFalse => cases h
  rename_i hall
  obtain rfl := Option.some.inj h
  have HGO := Aside0.mk hgo
  have HALL := Aside0.mk hall
  have HRS := Aside0.mk hrs
  clear h hgo hall hrs
  go_enter Tryd.func24, Tryd.ntmps24
  go_upto_block 0 with (go_at_call 47; refine (letter_rows.calls _ _ _ hG HRS.out).mono ?_; rintro e w1 ⟨v1, rfl, hR, hB1⟩; obtain ⟨A, c, rfl⟩ := Kd.R_slice hR)
  have hrl : rs.length ≤ 9223372036854775807 := (Kd.R_reads' hR).2.2.2.1
  go_cut [3, 4] (fun v3 v4 wr => ∃ (c3 c4 : Nat) (A3 A4 : Option Addr), v3 = .slice A3 gs.length c3 ∧ v4 = .slice A4 us.length c4 ∧ gs.length ≤ 64 ∧ Aside0 (us.length = gs.length) ∧ Aside0 (Kd.R k64 64 wr w.heap.size (fun _ => True) (.slice A3 gs.length c3) gs) ∧ Aside0 (Kd.R Kd.string 9 wr w.heap.size (fun _ => True) (.slice A4 us.length c4) us) ∧ Aside0 (Below w.heap.size w wr))
  case first =>
    go_wp2
    go_loopg [3, 4, 12] (rs.length) (fun kq v3 v4 v12 wr => ∃ (k : Nat) (fs : List S64) (vs : List ByteArray) (c3 c4 : Nat) (A3 A4 : Option Addr), v3 = .slice A3 fs.length c3 ∧ v4 = .slice A4 vs.length c4 ∧ v12 = .int .i64 k ∧ k ≤ rs.length ∧ fs.length ≤ 64 ∧ Aside0 (kq = rs.length - k) ∧ Aside0 (fGo (rs.drop k) fs vs = some (gs, us)) ∧ Aside0 (vs.length = fs.length) ∧ Aside0 (Kd.R k64 64 wr w.heap.size (fun _ => True) (.slice A3 fs.length c3) fs) ∧ Aside0 (Kd.R Kd.string 9 wr w.heap.size (fun _ => True) (.slice A4 vs.length c4) vs) ∧ Aside0 (Kd.R k95 95 wr w.heap.size (fun _ => True) (.slice A rs.length c) rs) ∧ Aside0 (Below w.heap.size w wr))
    case atStart => exact ⟨0, [], [], _, _, _, _, rfl, rfl, rfl, Nat.zero_le _, Nat.zero_le _, ⟨rfl⟩, ⟨HGO.out⟩, ⟨rfl⟩, ⟨Kd.R_nil _ _ _ _ _⟩, ⟨Kd.R_nil _ _ _ _ _⟩, ⟨hR⟩, ⟨hB1⟩⟩
    case round =>
      obtain ⟨k, fs, vs, c3, c4, A3, A4, rfl, rfl, rfl, hk, hfl, hkq, hF, hL, hR3, hR4, hR5, hB⟩ := hrel
      clear hR hB1
      by_cases hlt : k < rs.length
      · have hd : rs.drop k = rd_T95 rs k :: rs.drop (k + 1) := by
          rw [List.drop_eq_getElem_cons hlt]; simp [rd_T95, List.getD_eq_getElem?_getD, List.getElem?_eq_getElem hlt]
        obtain ⟨ad, e1, hx0, hx1, hx2, hx3⟩ := at_T95 (Kd.R_reads' hR5.out).2.2 (k : Int) (by omega) (by omega)
        simp only [Int.toNat_natCast] at hx0 hx1 hx2 hx3
        cases e1
        have hf := hF.out
        rw [hd, fGo] at hf
        generalize rd_T95 rs k = q at hf hx0 hx1 hx2 hx3
        obtain ⟨q0, q1, q2, q3⟩ := q
        have hB2 := below_alloc hB.out (.cells #[.string q0, .string q1, .bool q2, .bool q3] 95)
        have hR3' := Kd.R_alloc hR3.out (.cells #[.string q0, .string q1, .bool q2, .bool q3] 95)
        have hR4' := Kd.R_alloc hR4.out (.cells #[.string q0, .string q1, .bool q2, .bool q3] 95)
        have hR5' := Kd.R_alloc hR5.out (.cells #[.string q0, .string q1, .bool q2, .bool q3] 95)
        have HB2 := Aside0.mk hB2
        have HR3 := Aside0.mk hR3'
        have HR4 := Aside0.mk hR4'
        have HR5 := Aside0.mk hR5'
        clear hB2 hR3' hR4' hR5' hd hF
        by_cases hbr : q3 = true ∧ q2 = true ∧ fs.length = 64
        · obtain ⟨rfl, rfl, h64⟩ := hbr
          have h64b : ((fs.length : Int) == 64) = true := by simp; omega
          rw [if_pos (.inr ⟨rfl, h64⟩), if_pos rfl] at hf
          simp only [Option.some.injEq, Prod.mk.injEq] at hf
          obtain ⟨rfl, rfl⟩ := hf
          clear h64
          go_wp2
          go_meet
          exact ⟨_, _, _, _, rfl, rfl, hfl, hL, HR3, HR4, HB2⟩
        · cases q3
          · rw [if_pos (.inl rfl)] at hf
            cases q2
            · rw [if_neg (by simp)] at hf
              have HF := Aside0.mk hf
              clear hf
              go_wp2
              go_roundg (rs.length - (k + 1))
              case rel => exact ⟨k + 1, fs, vs, _, _, _, _, rfl, rfl, by go_num, by omega, hfl, ⟨rfl⟩, HF, hL, HR3, HR4, HR5, HB2⟩
              case measure => have := hkq.out; omega
            · rw [if_pos rfl] at hf
              simp only [Option.some.injEq, Prod.mk.injEq] at hf
              obtain ⟨rfl, rfl⟩ := hf
              go_wp2
              go_meet
              exact ⟨_, _, _, _, rfl, rfl, hfl, hL, HR3, HR4, HB2⟩
          · rw [if_neg (by simpa using hbr)] at hf
            obtain ⟨⟨fs2, vs2⟩, hst, hgo⟩ := Option.bind_eq_some_iff.mp hf
            unfold fStep at hst
            obtain ⟨t, ht, hst⟩ := Option.bind_eq_some_iff.mp hst
            split at hst
            case isFalse => cases hst
            rename_i htz
            have HT := Aside0.mk ht
            have HGO' := Aside0.mk hgo
            have HST := Aside0.mk hst
            clear hf hst ht hgo
            have hgw : w.heap.size ≤ wr.heap.size := hB.out.size
            cases q2
            all_goals
              try have h64b : ((fs.length : Int) == 64) = false := by simp at hbr; simp; omega
              clear hbr
              go_wp2_with fail
              refine (strings_TrimSuffix.calls _ _ t _ HT.out).mono ?_
              rintro e w2 ⟨rfl, hw2⟩
              have HBX := Aside0.mk ((hw2.below.block wr.heap.size (by simp)).trans (heap_alloc_new wr _))
              have HR3b := Aside0.mk (Kd.R_below HR3.out hw2.below)
              have HR4b := Aside0.mk (Kd.R_below HR4.out hw2.below)
              have HR5b := Aside0.mk (Kd.R_below HR5.out hw2.below)
              have HBb := Aside0.mk (below_step HB2.out hw2.below)
              clear hw2 HR3 HR4 HR5 HB2 hx0 hx1 hx2 hx3
              generalize wr.heap.size = g at HBX hgw ⊢
              have b0 := (blk_cell HBX.out 0).trans rfl
              have b1 := (blk_cell HBX.out 1).trans rfl
              have b2 := (blk_cell HBX.out 2).trans rfl
              go_upto_if 34 with fail
              go_cut [3, 4, 7] (fun v3 v4 v7 wx => ∃ (fs1 : List S64) (vs1 : List ByteArray) (t1 : ByteArray) (d3 d4 : Nat) (E3 E4 : Option Addr), v3 = .slice E3 fs1.length d3 ∧ v4 = .slice E4 vs1.length d4 ∧ v7 = .string t1 ∧ Aside0 (fUpd fs1 vs1 q0 t1 = some (fs2, vs2)) ∧ Aside0 (Kd.R k64 64 wx w.heap.size (fun _ => True) (.slice E3 fs1.length d3) fs1) ∧ Aside0 (Kd.R Kd.string 9 wx w.heap.size (fun _ => True) (.slice E4 vs1.length d4) vs1) ∧ Aside0 (Kd.R k95 95 wx w.heap.size (fun _ => True) (.slice (some ad) rs.length c) rs) ∧ Aside0 (Below w.heap.size w wx) ∧ wx.cell? ⟨g, 0, none⟩ = some (.string q0))
              case rest =>
                obtain ⟨fs1, vs1, t1, d3, d4, E3, E4, rfl, rfl, rfl, HU, HR3, HR4, HR5, HB, b0⟩ := hcut
                clear b1 b2 HR3b HR4b HR5b HBb HBX
                obtain ⟨hp0, hp64, hpl, hs1, hs2, hu⟩ := fUpd_some HU.out
                obtain ⟨m, hm⟩ : ∃ m, fs1.length = m + 1 := ⟨fs1.length - 1, by omega⟩
                rw [hm] at hpl hu hs1 hs2 hp64 HR3 ⊢
                rw [hpl] at HR4 ⊢
                rw [Nat.add_sub_cancel] at hs1 hs2 hu
                obtain ⟨rfl, rfl⟩ := hu
                have HPL := Aside0.mk hpl
                have HM := Aside0.mk hm
                clear hpl hm HU hp0
                obtain ⟨ad3, e3, _⟩ := at_T64 (Kd.R_reads' HR3.out).2.2 (m : Int) (by omega) (by have := HM.out; omega)
                obtain ⟨ad4, e4, _⟩ := Kd.at_string (Kd.R_reads' HR4.out).2.2 (m : Int) (by omega) (by have := HPL.out; omega)
                cases e3
                cases e4
                obtain ⟨g3, rfl⟩ := Kd.R_head HR3.out
                obtain ⟨g4, rfl⟩ := Kd.R_head HR4.out
                go_wp2_with fail
                refine wp_region_still_tail 12 (by kernel_rfl) (by kernel_rfl) ?_
                generalize hwq : World.mk wc.heap wc.tape (wc.drawn + 1) wc.os wc.output = wq
                have HR3q : Aside0 (Kd.R k64 64 wq w.heap.size (fun _ => True) (.slice (some ⟨g3, 0, none⟩) (m + 1) d3) fs1) := ⟨by rw [← hwq]; exact Kd.R_drew HR3.out⟩
                have HR4q : Aside0 (Kd.R Kd.string 9 wq w.heap.size (fun _ => True) (.slice (some ⟨g4, 0, none⟩) (m + 1) d4) vs1) := ⟨by rw [← hwq]; exact Kd.R_drew HR4.out⟩
                have HR5q : Aside0 (Kd.R k95 95 wq w.heap.size (fun _ => True) (.slice (some ad) rs.length c) rs) := ⟨by rw [← hwq]; exact Kd.R_drew HR5.out⟩
                have HBq : Aside0 (Below w.heap.size w wq) := ⟨by rw [← hwq]; exact below_drew HB.out⟩
                have b0q : wq.cell? ⟨g, 0, none⟩ = some (.string q0) := by rw [← hwq]; exact b0
                clear hwq b0 HR3 HR4 HR5 HB
                obtain ⟨ce, hcl, hM3, hcc, hfr⟩ := Kd.R_elem HR3q.out z64 (m : Int) (by omega) (by omega)
                obtain rfl := k64_openM hM3
                have y2 : wq.cell? ⟨g3, m * 3 + 2, none⟩ = some (.string (rd_T64 fs1 (m : Int)).f2) := hcc 2 _ rfl
                have yf : wq.frozen? ⟨g3, m * 3 + 2, none⟩ = false := hfr 2
                have HP := Aside0.mk (Kd.R_seg HR3q.out (m : Int) (by omega) (by omega) (seg := [.string ((rd_T64 fs1 (m : Int)).f2 ++ q0)]) (j := 2) hcl hcc (show 3 ≤ 3 from by decide) (x' := (⟨(rd_T64 fs1 (m : Int)).f0, (rd_T64 fs1 (m : Int)).f1, (rd_T64 fs1 (m : Int)).f2 ++ q0⟩ : S64)) (k64_mkM _ _ _ _) (fun _ hk => hk))
                have hwm : IntKind.i64.wrap (m : Int) = (m : Int) := IntWalk.i64_in _ (by omega)
                have hne : g4 ≠ g3 := by
                  rintro rfl
                  obtain ⟨_, h1⟩ := Kd.R_typed HR3q.out g4 rfl
                  obtain ⟨_, h2⟩ := Kd.R_typed HR4q.out g4 rfl
                  rw [h1] at h2
                  cases h2
                have hne' : g3 ≠ g4 := hne.symm
                obtain ⟨ce4, hcl4, hM4, hcc4, hfr4⟩ := Kd.R_elem HR4q.out ByteArray.empty (m : Int) (by omega) (by omega)
                obtain rfl : ce4 = [.string (rdOf ByteArray.empty vs1 (m : Int))] := hM4
                have z2 : wq.cell? ⟨g4, m, none⟩ = some (.string (rdOf ByteArray.empty vs1 (m : Int))) := by have := hcc4 0 _ rfl; simpa [Kd.string, Kd.scalar] using this
                have zf : wq.frozen? ⟨g4, m, none⟩ = false := by have := hfr4 0; simpa [Kd.string, Kd.scalar] using this
                have hs1n : ¬ (9223372036854775807 < (rd_T64 fs1 (m : Int)).f2.size + q0.size) := by omega
                have hs2n : ¬ (9223372036854775807 < (rdOf ByteArray.empty vs1 (m : Int)).size + t1.size) := by omega
                have hm0 : (0 : Int) ≤ (m : Int) := by omega
                have hm1 : (m : Int) < (m : Int) + 1 := by omega
                clear hfr hM3 hcl hcc
                simp only [List.take_succ_cons, List.take_zero, List.drop_succ_cons, List.drop_zero]
                repeat still_step
                refine wpStill_nil ?_
                go_wp2_with fail
                go_roundg (rs.length - (k + 1))
                case measure => have := hkq.out; omega
                case rel =>
                  obtain ⟨cs3, ht3⟩ := Kd.R_typed HR3q.out g3 rfl
                  obtain ⟨cs4, ht4⟩ := Kd.R_typed HR4q.out g4 rfl
                  have ht4' : (wq.setCell ⟨g3, m * 3 + 2, none⟩ (.string ((rd_T64 fs1 (m : Int)).f2 ++ q0))).heap[g4]? = some (.cells cs4 9 (0, 0)) := (Below.heap_setCell _ ⟨g3, m * 3 + 2, none⟩ _ g4 hne).trans ht4
                  have e3 : (fs1.set m ⟨(rd_T64 fs1 (m : Int)).f0, (rd_T64 fs1 (m : Int)).f1, (rd_T64 fs1 (m : Int)).f2 ++ q0⟩).length = m + 1 := by rw [List.length_set]; exact HM.out
                  have e4 : (vs1.set m (rdOf ByteArray.empty vs1 (m : Int) ++ t1)).length = m + 1 := by rw [List.length_set]; exact HPL.out
                  have r4 := Kd.R_set HR4q.out ht3 (by decide) (m * 3 + 2) (.string ((rd_T64 fs1 (m : Int)).f2 ++ q0))
                  rw [← HPL.out] at r4
                  have r4' := (Kd.R_put r4 (m : Int) (rdOf ByteArray.empty vs1 (m : Int) ++ t1)).1
                  rw [HPL.out] at r4'
                  exact ⟨k + 1, _, _, d3, d4, some ⟨g3, 0, none⟩, some ⟨g4, 0, none⟩, by rw [e3], by rw [e4], by go_num, by omega, by rw [e3]; exact hp64, ⟨rfl⟩, HGO', ⟨by rw [e3, e4]⟩, ⟨by rw [e3]; exact Kd.R_set HP.out.1 ht4' (by decide) m _⟩, ⟨by rw [e4]; exact r4'⟩, ⟨Kd.R_set (Kd.R_set HR5q.out ht3 (by decide) _ _) ht4' (by decide) _ _⟩, ⟨below_set (below_set HBq.out (Kd.R_base HR3q.out g3 rfl)) (Kd.R_base HR4q.out g4 rfl)⟩⟩
            · have hst := HST.out
              rw [if_neg (by simp)] at hst
              have HU := Aside0.mk hst
              clear hst
              go_wp2
              go_meet
              exact ⟨fs, vs, t, _, _, _, _, rfl, rfl, rfl, HU, HR3b, HR4b, HR5b, HBb, b0⟩
            · have hst := HST.out
              rw [if_pos (by simp)] at hst
              split at hst
              case isFalse => cases hst
              rename_i hl64
              have HU := Aside0.mk hst
              clear hst
              go_wp2_with (first | ((with_reducible refine gate_builtin (b := .append) (xs := #[.tmp 35, .tmp 39]) rfl ?_); at_builtin; refine Kd.R_append k64 (w0 := w) w.heap.size rfl (.tmp 35) (.tmp 39) 60 64 (.agg #[(.string ⟨#[]⟩), (.string ⟨#[]⟩), (.string ⟨#[]⟩)]) 48 rfl Tryd.underlying60 info64 rfl (by decide) (by omega) (.slice A3 fs.length c3) fs (⟨q1, ⟨#[]⟩, ⟨#[]⟩⟩ : S64) [.string q1, .string ⟨#[]⟩, .string ⟨#[]⟩] (fun _ => True) (fun _ => False) rfl (by first | (go_simp; done) | (go_simp; rfl)) ?aP (fun _ hk => hk.elim) (fun _ _ => trivial) ?aO ?aB ?aS ?aL ?_; (case aP => exact k64_mkM _ _ _ _); (case aO => exact HR3b.out); (case aB => exact HBb.out); (case aS => exact below_size HBb.out); (case aL => omega); intro v1 w3 ho hb hg hat; have HR4c := Aside0.mk (Kd.R_over' HR4b.out (Kd.R_typed HR3b.out) (by decide) hg); have HR5c := Aside0.mk (Kd.R_over' HR5b.out (Kd.R_typed HR3b.out) (by decide) hg); have HBXc := Aside0.mk (blk_grown HBX.out hg (Kd.R_ne HR3b.out HBX.out (by decide))); have HBc := Aside0.mk hb; have HR3c := Aside0.mk ho; obtain ⟨E3, d3, rfl⟩ := Kd.R_slice ho; clear ho hb hg hat) | ((with_reducible refine gate_builtin (b := .append) (xs := #[.tmp 41, .tmp 42]) rfl ?_); at_builtin; refine Kd.R_append Kd.string (w0 := w) w.heap.size rfl (.tmp 41) (.tmp 42) 26 9 (.string ⟨#[]⟩) 16 rfl Tryd.underlying26 info9 rfl (by decide) (by omega) (.slice A4 vs.length c4) vs (⟨#[]⟩ : ByteArray) [.string (⟨#[]⟩ : ByteArray)] (fun _ => True) (fun _ => False) rfl rfl ?aP (fun _ hk => hk.elim) (fun _ _ => trivial) ?aO ?aB ?aS ?aL ?_; (case aP => exact rfl); (case aO => exact HR4c.out); (case aB => exact HBc.out); (case aS => exact below_size HBc.out); (case aL => have := hL.out; omega); intro v2 w4 ho hb hg hat; have HR3d := Aside0.mk (Kd.R_over' HR3c.out (Kd.R_typed HR4c.out) (by decide) hg); have HR5d := Aside0.mk (Kd.R_over' HR5c.out (Kd.R_typed HR4c.out) (by decide) hg); have HBXd := Aside0.mk (blk_grown HBXc.out hg (Kd.R_ne HR4c.out HBXc.out (by decide))); have HBd := Aside0.mk hb; have HR4d := Aside0.mk ho; obtain ⟨E4, d4, rfl⟩ := Kd.R_slice ho; clear ho hb hg hat))
              have hix : strings_IndexByte.f t 58 = some (Lib.indexByte t.data.toList 58) := rfl
              have hi1 := Lib.indexByte_ge t.data.toList 58
              have hi2 : Lib.indexByte t.data.toList 58 < t.size := by have := indexByte_lt t.data.toList 58; have := Nat.zero_le t.size; simp at *; omega
              have hcut : fCut t = t.extract (Lib.indexByte t.data.toList 58 + 1).toNat t.size := rfl
              rw [hcut] at HU
              clear hcut
              generalize Lib.indexByte t.data.toList 58 = ix at hix hi1 hi2 HU
              have HIX := Aside0.mk hix
              clear hix
              have hi3 : 0 ≤ ix + 1 := by omega
              have hi4 : ix + 1 ≤ (t.size : Int) := by omega
              go_wp2_with (go_at_call 49; refine (strings_IndexByte.calls _ _ ix _ HIX.out).mono ?_; rintro e w5 ⟨rfl, ⟨nd5, rfl⟩⟩)
              go_meet
              exact ⟨_, _, _, d3, d4, E3, E4, by simp, by simp, rfl, HU, ⟨Kd.R_drewN HR3d.out _⟩, ⟨Kd.R_drewN HR4d.out _⟩, ⟨Kd.R_drewN HR5d.out _⟩, ⟨pw_below_drewN HBd.out _⟩, (blk_cell HBXd.out 0).trans rfl⟩
      · have hke : rs.drop k = [] := by simp; omega
        have hf := hF.out
        rw [hke, fGo] at hf
        simp only [Option.some.injEq, Prod.mk.injEq] at hf
        obtain ⟨rfl, rfl⟩ := hf
        clear hke
        go_wp2
        go_meet
        exact ⟨_, _, _, _, rfl, rfl, hfl, hL, hR3, hR4, hB⟩
  case rest =>
    obtain ⟨c3, c4, A3, A4, rfl, rfl, hgl, hul, hR3, hR4, hB⟩ := hcut
    clear hR hB1
    go_wp2
    go_loopg [73] (gs.length) (fun kq v73 wr => ∃ (k : Nat), v73 = .int .i64 k ∧ k ≤ gs.length ∧ Aside0 (kq = gs.length - k) ∧ Aside0 (Kd.R k64 64 wr w.heap.size (fun _ => True) (.slice A3 gs.length c3) (fPart gs us k)) ∧ Aside0 (Kd.R Kd.string 9 wr w.heap.size (fun _ => True) (.slice A4 us.length c4) us) ∧ Aside0 (Below w.heap.size w wr))
    case atStart => exact ⟨0, rfl, Nat.zero_le _, ⟨rfl⟩, ⟨by rw [fPart_zero]; exact hR3.out⟩, hR4, hB⟩
    case round =>
      obtain ⟨k, rfl, hk, hkq, hR3, hR4, hB⟩ := hrel
      by_cases hlt : k < gs.length
      · have hul' := hul.out
        obtain ⟨ad3, e3, _⟩ := at_T64 (n := gs.length) (by have := (Kd.R_reads' hR3.out).2.2; rw [fPart_length _ _ _ hul'] at this; exact this) (k : Int) (by omega) (by omega)
        obtain ⟨ad4, e4, z0⟩ := Kd.at_string (Kd.R_reads' hR4.out).2.2 (k : Int) (by omega) (by omega)
        cases e3
        cases e4
        obtain ⟨g3, rfl⟩ := Kd.R_head hR3.out
        obtain ⟨g4, rfl⟩ := Kd.R_head hR4.out
        have z1 : wr.cell? ⟨g4, k, none⟩ = some (.string (rdOf ByteArray.empty us (k : Int))) := by rw [Int.toNat_natCast, add_plain] at z0; exact z0
        have hus := fAll HALL.out k (by omega)
        have HTR := Aside0.mk (fTrim_f (rdOf ByteArray.empty us (k : Int)) hus)
        have hku : (k : Int) < (us.length : Int) := by omega
        clear z0 hul'
        go_wp2_with fail
        refine (strings_Trim.calls _ _ _ _ HTR.out).mono ?_
        rintro e w2 ⟨rfl, hb2⟩
        have HR3 := Aside0.mk (Kd.R_below hR3.out hb2)
        have HR4 := Aside0.mk (Kd.R_below hR4.out hb2)
        have HB := Aside0.mk (below_step hB.out hb2)
        clear hb2 z1
        have hR3f := HR3.out
        obtain ⟨ce, hcl, hM3, hcc, hfr⟩ := Kd.R_elem HR3.out z64 (k : Int) (by omega) (by omega)
        obtain rfl := k64_openM hM3
        have HP := Aside0.mk (Kd.R_seg HR3.out (k : Int) (by omega) (by omega) (seg := [.string (fTrim (rdOf ByteArray.empty us (k : Int)))]) (j := 1) hcl hcc (show 2 ≤ 3 from by decide) (x' := (⟨(rd_T64 (fPart gs us k) (k : Int)).f0, fTrim (rdOf ByteArray.empty us (k : Int)), (rd_T64 (fPart gs us k) (k : Int)).f2⟩ : S64)) (k64_mkM _ _ _ _) (fun _ hk => hk))
        have y1 : w2.cell? ⟨g3, k * 3 + 1, none⟩ = some (.string (rd_T64 (fPart gs us k) (k : Int)).f1) := hcc 1 _ rfl
        have yf : w2.frozen? ⟨g3, k * 3 + 1, none⟩ = false := hfr 1
        clear hfr hM3 hcl hcc hR3f
        go_wp2_with fail
        go_roundg (gs.length - (k + 1))
        case measure => have := hkq.out; omega
        case rel =>
          obtain ⟨cs3, ht3⟩ := Kd.R_typed HR3.out g3 rfl
          exact ⟨k + 1, by go_num, by omega, ⟨rfl⟩, ⟨by rw [← fPart_succ _ _ _ hul.out hlt]; exact HP.out.1⟩, ⟨Kd.R_set HR4.out ht3 (by decide) _ _⟩, ⟨below_set HB.out (Kd.R_base HR3.out g3 rfl)⟩⟩
      · obtain rfl : k = gs.length := by omega
        go_wp2
        go_ret
        exact ⟨_, rfl, by have := hR3.out; rw [fPart_all _ _ hul.out] at this; exact this, hB.out⟩
end Go.Proofs.YtgmlhmojcemliaaDoor.P
end
section
namespace Go.Proofs.YtgmlhmojcemliaaDoor.P
open Go.RowKit Go.Proofs.YtgmlhmojcemliaaDoorW.PrintWords Go.Proofs.YtgmlhmojcemliaaDoorW.PrintLast Go.Proofs.YtgmlhmojcemliaaDoorW.PrintMore
attribute [local go_sem] max2_int min2_int max_two min_two max_three min_three max_four min_four   -- for this text's walks alone
set_option linter.unusedVariables false
set_option linter.unusedSimpArgs false

/-- A state of type 112 at block g of W; what its slices lead to came in by w0. -/
def IsS112 (w0 W : World) (g : Nat) (f0 : ByteArray) (f1 : Int) : Prop := W.heap[g]? = some (.cells #[.string f0, .int .i64 f1] 112 (0, 0)) ∧ w0.heap.size ≤ g
theorem IsS112.grown {w0 W : World} {g : Nat} {f0 : ByteArray} {f1 : Int} {W1 : World} {row : Option Nat} (h : IsS112 w0 W g f0 f1) (hw : W.grownBy W1 row) (hne : some g ≠ row) : IsS112 w0 W1 g f0 f1 := by
  obtain ⟨hb, hg⟩ := h
  exact ⟨blk_grown hb hw hne, hg⟩
theorem IsS112.own_neN {w0 W : World} {g : Nat} {f0 : ByteArray} {f1 : Int} {α : Type} {d : Kd α} {e : Nat} {base : Nat} {ok : Nat → Prop} {v : Value} {xs : List α} (h : IsS112 w0 W g f0 f1) (ho : Kd.N d e W base ok v xs) (ht : e ≠ 112) : some g ≠ v.ownBlock := by
  obtain ⟨hb, hg⟩ := h
  exact Kd.N_ne ho hb ht
theorem IsS112.fresh {w0 W : World} {g : Nat} {f0 : ByteArray} {f1 : Int} (h : IsS112 w0 W g f0 f1) : ∀ k, W.heap.size ≤ k → k ≠ g := by
  obtain ⟨hb, hg⟩ := h
  exact Kd.freshB hb
theorem IsS112.kept {w0 W : World} {g : Nat} {f0 : ByteArray} {f1 : Int} {W1 : World} {S : Nat → Prop} (h : IsS112 w0 W g f0 f1) (hk : Kept W W1 S) (hne : ¬ S g) : IsS112 w0 W1 g f0 f1 := by
  obtain ⟨hb, hg⟩ := h
  exact ⟨blk_kept hb hk hne, hg⟩
theorem IsS112.below {w0 W : World} {g : Nat} {f0 : ByteArray} {f1 : Int} {W1 : World} (h : IsS112 w0 W g f0 f1) (hw : Below W.heap.size W W1) : IsS112 w0 W1 g f0 f1 := h.grown (grown_of_below hw none) (by simp)
theorem IsS112.alloc {w0 W : World} {g : Nat} {f0 : ByteArray} {f1 : Int} (h : IsS112 w0 W g f0 f1) (o : Obj) : IsS112 w0 (W.alloc o) g f0 f1 := h.below (below_alloc (Below.refl _ _) o)
theorem IsS112.drewN {w0 W : World} {g : Nat} {f0 : ByteArray} {f1 : Int} (h : IsS112 w0 W g f0 f1) (m : Nat) : IsS112 w0 (W.drewN m) g f0 f1 := h
theorem IsS112.drew {w0 W : World} {g : Nat} {f0 : ByteArray} {f1 : Int} (h : IsS112 w0 W g f0 f1) : IsS112 w0 W.drew g f0 f1 := h
theorem IsS112.at_ {w0 W : World} {g : Nat} {f0 : ByteArray} {f1 : Int} {w' : World} {m : Nat} (hq : W.drewN m = w') (h : IsS112 w0 W g f0 f1) : IsS112 w0 w' g f0 f1 := by subst hq; exact IsS112.drewN h m
theorem IsS112.apart {w0 W : World} {g : Nat} {f0 : ByteArray} {f1 : Int} {α : Type} {d : Kd α} {e : Nat} {base : Nat} {ok : Nat → Prop} {v : Value} {xs : List α} (h : IsS112 w0 W g f0 f1) (ho : d.R e W base ok v xs) (ht : ∀ q, q ∈ e :: d.E → q ≠ 112) : d.R e W base (fun k => ok k ∧ k ≠ g) v xs := by
  obtain ⟨hb, hg⟩ := h
  exact Kd.R_types ho hb ht
theorem IsS112.own_ne {w0 W : World} {g : Nat} {f0 : ByteArray} {f1 : Int} {α : Type} {d : Kd α} {e : Nat} {base : Nat} {ok : Nat → Prop} {v : Value} {xs : List α} (h : IsS112 w0 W g f0 f1) (ho : d.R e W base ok v xs) (ht : e ≠ 112) : some g ≠ v.ownBlock := by
  obtain ⟨hb, hg⟩ := h
  exact Kd.R_ne ho hb ht
theorem IsS112.apartQ {w0 W : World} {g : Nat} {f0 : ByteArray} {f1 : Int} {α : Type} {d : Kd α} {e : Nat} {base : Nat} {ok : Nat → Prop} {v : Value} {xs : List α} (h : IsS112 w0 W g f0 f1) (ho : d.Q e W base ok v xs) (ht : ∀ q, q ∈ e :: d.E → q ≠ 112) : d.Q e W base (fun k => ok k ∧ k ≠ g) v xs := by
  obtain ⟨hb, hg⟩ := h
  exact Kd.Q_types ho hb ht
theorem IsS112.own_neQ {w0 W : World} {g : Nat} {f0 : ByteArray} {f1 : Int} {α : Type} {d : Kd α} {e : Nat} {base : Nat} {ok : Nat → Prop} {v : Value} {xs : List α} (h : IsS112 w0 W g f0 f1) (ho : d.Q e W base ok v xs) (ht : e ≠ 112) : some g ≠ v.ownBlock := by
  obtain ⟨hb, hg⟩ := h
  exact Kd.Q_ne ho hb ht
theorem IsS112.apartS {w0 W : World} {g : Nat} {f0 : ByteArray} {f1 : Int} {α : Type} {d : Kd α} {e : Nat} {base : Nat} {ok : Nat → Prop} {v : Value} {xs : List α} (h : IsS112 w0 W g f0 f1) (ho : d.S e W base ok v xs) (ht : ∀ q, q ∈ e :: d.E → q ≠ 112) : d.S e W base (fun k => ok k ∧ k ≠ g) v xs := by
  obtain ⟨hb, hg⟩ := h
  exact Kd.S_types ho hb ht
theorem IsS112.own_neS {w0 W : World} {g : Nat} {f0 : ByteArray} {f1 : Int} {α : Type} {d : Kd α} {e : Nat} {base : Nat} {ok : Nat → Prop} {v : Value} {xs : List α} (h : IsS112 w0 W g f0 f1) (ho : d.S e W base ok v xs) (ht : e ≠ 112) : some g ≠ v.ownBlock := by
  obtain ⟨hb, hg⟩ := h
  exact Kd.S_ne ho hb ht
theorem IsS112.lt {w0 W : World} {g : Nat} {f0 : ByteArray} {f1 : Int} (h : IsS112 w0 W g f0 f1) : g < W.heap.size := by
  obtain ⟨hb, hg⟩ := h
  exact blk_lt hb
theorem IsS112.ge {w0 W : World} {g : Nat} {f0 : ByteArray} {f1 : Int} (h : IsS112 w0 W g f0 f1) : w0.heap.size ≤ g := by
  obtain ⟨hb, hg⟩ := h
  exact hg
theorem IsS112.ne_blk {w0 W : World} {g : Nat} {f0 : ByteArray} {f1 : Int} {a : Nat} {cs : Array Value} {t : TypeId} {fr : Nat × Nat} (h : IsS112 w0 W g f0 f1) (hb2 : W.heap[a]? = some (.cells cs t fr)) (ht : t ≠ 112) : g ≠ a := by
  obtain ⟨hb, hg⟩ := h
  rintro rfl
  rw [hb] at hb2
  injection hb2 with hb2
  injection hb2 with _ ht2
  exact ht ht2.symm
theorem IsS112.far {w0 W : World} {g : Nat} {f0 : ByteArray} {f1 : Int} {p : Addr} (h : IsS112 w0 W g f0 f1) (hne : g ≠ p.block) (u : Value) : IsS112 w0 (W.setCell p u) g f0 f1 := by
  obtain ⟨hb, hg⟩ := h
  exact ⟨blk_far hb hne u, hg⟩
theorem cellS112_0 {W : World} {g : Nat} {f0 : ByteArray} {f1 : Int} (h : W.heap[g]? = some (.cells #[.string f0, .int .i64 f1] 112 (0, 0))) : W.cell? ⟨g, 0, none⟩ = some (.string f0) := (blk_cell h 0).trans rfl
theorem IsS112.set_0 {w0 W : World} {g : Nat} {f0 : ByteArray} {f1 : Int} (h : IsS112 w0 W g f0 f1) (x : ByteArray) : IsS112 w0 (W.setCell ⟨g, 0, none⟩ (.string x)) g x f1 := by
  obtain ⟨hb, hg⟩ := h
  exact ⟨by simpa using blk_set hb 0 (.string x), hg⟩
theorem cellS112_1 {W : World} {g : Nat} {f0 : ByteArray} {f1 : Int} (h : W.heap[g]? = some (.cells #[.string f0, .int .i64 f1] 112 (0, 0))) : W.cell? ⟨g, 1, none⟩ = some (.int .i64 f1) := (blk_cell h 1).trans rfl
theorem IsS112.set_1 {w0 W : World} {g : Nat} {f0 : ByteArray} {f1 : Int} (h : IsS112 w0 W g f0 f1) (x : Int) : IsS112 w0 (W.setCell ⟨g, 1, none⟩ (.int .i64 x)) g f0 x := by
  obtain ⟨hb, hg⟩ := h
  exact ⟨by simpa using blk_set hb 1 (.int .i64 x), hg⟩
theorem IsS112.new (w0 W : World) (f0 : ByteArray) (f1 : Int) (hB : Below w0.heap.size w0 W) : IsS112 w0 (W.alloc (.cells #[.string f0, .int .i64 f1] 112)) W.heap.size f0 f1 := ⟨by simpa using heap_alloc_new W _, hB.size⟩

end Go.Proofs.YtgmlhmojcemliaaDoor.P
end
section
namespace Go.Proofs.YtgmlhmojcemliaaDoor.P
open Go.RowKit Go.Proofs.YtgmlhmojcemliaaDoorW.PrintWords Go.Proofs.YtgmlhmojcemliaaDoorW.PrintLast Go.Proofs.YtgmlhmojcemliaaDoorW.PrintMore
attribute [local go_sem] max2_int min2_int max_two min_two max_three min_three max_four min_four   -- for this text's walks alone
set_option linter.unusedVariables false
set_option linter.unusedSimpArgs false

/-! ### letter_isSign: function 100 -/
def letter_isSign.f (a0 : Int) : Option (Bool) := (strings_IndexByte.f (⟨#[60, 62, 58, 59, 64, 44, 46]⟩ : ByteArray) a0).bind fun t107 => (some (decide (t107 ≥ 0)))
set_option maxHeartbeats 8000000 in
set_option maxRecDepth 100000 in
theorem letter_isSign.calls (a0 : Int) (r : Bool) (w : World) (h : letter_isSign.f a0 = some r) :
    Calls Tryd.prog 100 #[.int .u8 a0] w fun e w' => e = .returned (.bool r) ∧ Drawn0 w w' := by
  have H : ((strings_IndexByte.f (⟨#[60, 62, 58, 59, 64, 44, 46]⟩ : ByteArray) a0).bind fun t107 => (some (decide (t107 ≥ 0)))) = some r := h
  clear h
  replace H := Option.bind_eq_some_iff.mp H
  obtain ⟨t107, A20, H⟩ := H
  replace H : (some (decide (t107 ≥ 0))) = some r := H
  have A2 := Aside0.mk A20
  clear A20
  obtain rfl := Option.some.inj H
  go_enter Tryd.func100, Tryd.ntmps100
  go_wp2_with (first | ((with_reducible refine gate_callee (f := 49) rfl ?_); refine goesL_ (some 4) rfl rfl Tryd.func49 (by kernel_rfl) rfl #[.string (⟨#[60, 62, 58, 59, 64, 44, 46]⟩ : ByteArray), .int .u8 a0] rfl (by (try simp only [List.map_toArray, List.map_cons, List.map_nil]); first | done | rfl | (simp only [List.length_drop, List.length_take]; rfl)) ?_; (with_reducible refine (strings_IndexByte.calls (⟨#[60, 62, 58, 59, 64, 44, 46]⟩ : ByteArray) a0 t107 _ A2.out).mono ?_); rintro e w' ⟨rfl, ⟨nd, rfl⟩⟩; refine ⟨_, rfl, ?_⟩))
  go_ret
  exact ⟨by first | rfl | (simp; done) | (simp [*]; done), by repeat (first | exact Drawn0.refl _ | apply Drawn0.step)⟩

/-! ### letter_isSpace: function 81 -/
def letter_isSpace.f (a0 : Int) : Option (Bool) := if a0 = 32 then (some true) else (if a0 = 9 then (some true) else (if a0 = 13 then (some true) else (some (a0 == 10))))
set_option maxHeartbeats 8000000 in
set_option maxRecDepth 100000 in
theorem letter_isSpace.calls (a0 : Int) (r : Bool) (w : World) (h : letter_isSpace.f a0 = some r) :
    Calls Tryd.prog 81 #[.int .u8 a0] w fun e w' => e = .returned (.bool r) ∧ Drawn0 w w' := by
  have H : (if a0 = 32 then (some true) else (if a0 = 9 then (some true) else (if a0 = 13 then (some true) else (some (a0 == 10))))) = some r := h
  clear h
  by_cases c2 : a0 = 32
  · rw [if_pos c2] at H
    have c2b0 : (a0 == 32) = true := beq_iff_eq.mpr c2
    have c2b1 : (a0 != 32) = false := bne_eq_false_iff_eq.mpr c2
    clear c2
    obtain rfl := Option.some.inj H
    go_enter Tryd.func81, Tryd.ntmps81
    go_wp2
    go_ret
    exact ⟨by first | rfl | (simp; done) | (simp [*]; done), by repeat (first | exact Drawn0.refl _ | apply Drawn0.step)⟩
  · rw [if_neg c2] at H
    have c2b0 : (a0 == 32) = false := beq_eq_false_iff_ne.mpr c2
    have c2b1 : (a0 != 32) = true := bne_iff_ne.mpr c2
    by_cases c3 : a0 = 9
    · rw [if_pos c3] at H
      have c3b0 : (a0 == 9) = true := beq_iff_eq.mpr c3
      have c3b1 : (a0 != 9) = false := bne_eq_false_iff_eq.mpr c3
      clear c3
      obtain rfl := Option.some.inj H
      go_enter Tryd.func81, Tryd.ntmps81
      go_wp2
      go_ret
      exact ⟨by first | rfl | (simp; done) | (simp [*]; done), by repeat (first | exact Drawn0.refl _ | apply Drawn0.step)⟩
    · rw [if_neg c3] at H
      have c3b0 : (a0 == 9) = false := beq_eq_false_iff_ne.mpr c3
      have c3b1 : (a0 != 9) = true := bne_iff_ne.mpr c3
      by_cases c4 : a0 = 13
      · rw [if_pos c4] at H
        have c4b0 : (a0 == 13) = true := beq_iff_eq.mpr c4
        have c4b1 : (a0 != 13) = false := bne_eq_false_iff_eq.mpr c4
        clear c4
        obtain rfl := Option.some.inj H
        go_enter Tryd.func81, Tryd.ntmps81
        go_wp2
        go_ret
        exact ⟨by first | rfl | (simp; done) | (simp [*]; done), by repeat (first | exact Drawn0.refl _ | apply Drawn0.step)⟩
      · rw [if_neg c4] at H
        have c4b0 : (a0 == 13) = false := beq_eq_false_iff_ne.mpr c4
        have c4b1 : (a0 != 13) = true := bne_iff_ne.mpr c4
        obtain rfl := Option.some.inj H
        go_enter Tryd.func81, Tryd.ntmps81
        go_wp2
        go_ret
        exact ⟨by first | rfl | (simp; done) | (simp [*]; done), by repeat (first | exact Drawn0.refl _ | apply Drawn0.step)⟩

/-! ### letter_isAtom: function 101 -/
def letter_isAtom.f (a0 : Int) : Option (Bool) := (letter_isSpace.f a0).bind fun t108 => (if t108 = true then (some false) else ((letter_isSign.f a0).bind fun t109 => (if t109 = true then (some false) else ((strings_IndexByte.f (⟨#[40, 41, 91, 93, 92, 34]⟩ : ByteArray) a0).bind fun t110 => (some (decide (t110 < 0)))))))
set_option maxHeartbeats 8000000 in
set_option maxRecDepth 100000 in
theorem letter_isAtom.calls (a0 : Int) (r : Bool) (w : World) (h : letter_isAtom.f a0 = some r) :
    Calls Tryd.prog 101 #[.int .u8 a0] w fun e w' => e = .returned (.bool r) ∧ Drawn0 w w' := by
  have H : ((letter_isSpace.f a0).bind fun t108 => (if t108 = true then (some false) else ((letter_isSign.f a0).bind fun t109 => (if t109 = true then (some false) else ((strings_IndexByte.f (⟨#[40, 41, 91, 93, 92, 34]⟩ : ByteArray) a0).bind fun t110 => (some (decide (t110 < 0)))))))) = some r := h
  clear h
  replace H := Option.bind_eq_some_iff.mp H
  obtain ⟨t108, A20, H⟩ := H
  replace H : (if t108 = true then (some false) else ((letter_isSign.f a0).bind fun t109 => (if t109 = true then (some false) else ((strings_IndexByte.f (⟨#[40, 41, 91, 93, 92, 34]⟩ : ByteArray) a0).bind fun t110 => (some (decide (t110 < 0))))))) = some r := H
  have A2 := Aside0.mk A20
  clear A20
  by_cases c3 : t108 = true
  · subst c3
    have H1 : (some false) = some r := by rw [if_pos rfl] at H; exact H
    clear H
    have H := H1
    clear H1
    obtain rfl := Option.some.inj H
    go_enter Tryd.func101, Tryd.ntmps101
    go_wp2_with (first | ((with_reducible refine gate_callee (f := 81) rfl ?_); refine goesL_ (some 4) rfl rfl Tryd.func81 (by kernel_rfl) rfl #[.int .u8 a0] rfl (by (try simp only [List.map_toArray, List.map_cons, List.map_nil]); first | done | rfl | (simp only [List.length_drop, List.length_take]; rfl)) ?_; (with_reducible refine (letter_isSpace.calls a0 true _ A2.out).mono ?_); rintro e w' ⟨rfl, ⟨nd, rfl⟩⟩; refine ⟨_, rfl, ?_⟩))
    go_ret
    exact ⟨by first | rfl | (simp; done) | (simp [*]; done), by repeat (first | exact Drawn0.refl _ | apply Drawn0.step)⟩
  · replace c3 := Bool.eq_false_iff.mpr c3
    subst c3
    have H1 : ((letter_isSign.f a0).bind fun t109 => (if t109 = true then (some false) else ((strings_IndexByte.f (⟨#[40, 41, 91, 93, 92, 34]⟩ : ByteArray) a0).bind fun t110 => (some (decide (t110 < 0)))))) = some r := by rw [if_neg (show ¬ (false = true) by decide)] at H; exact H
    clear H
    have H := H1
    clear H1
    replace H := Option.bind_eq_some_iff.mp H
    obtain ⟨t109, A40, H⟩ := H
    replace H : (if t109 = true then (some false) else ((strings_IndexByte.f (⟨#[40, 41, 91, 93, 92, 34]⟩ : ByteArray) a0).bind fun t110 => (some (decide (t110 < 0))))) = some r := H
    have A4 := Aside0.mk A40
    clear A40
    by_cases c5 : t109 = true
    · subst c5
      have H1 : (some false) = some r := by rw [if_pos rfl] at H; exact H
      clear H
      have H := H1
      clear H1
      obtain rfl := Option.some.inj H
      go_enter Tryd.func101, Tryd.ntmps101
      go_wp2_with (first | ((with_reducible refine gate_callee (f := 81) rfl ?_); refine goesL_ (some 4) rfl rfl Tryd.func81 (by kernel_rfl) rfl #[.int .u8 a0] rfl (by (try simp only [List.map_toArray, List.map_cons, List.map_nil]); first | done | rfl | (simp only [List.length_drop, List.length_take]; rfl)) ?_; (with_reducible refine (letter_isSpace.calls a0 false _ A2.out).mono ?_); rintro e w' ⟨rfl, ⟨nd, rfl⟩⟩; refine ⟨_, rfl, ?_⟩) | (go_at_call 100; (with_reducible refine (letter_isSign.calls a0 true _ A4.out).mono ?_); rintro e w' ⟨rfl, ⟨nd, rfl⟩⟩))
      go_ret
      exact ⟨by first | rfl | (simp; done) | (simp [*]; done), by repeat (first | exact Drawn0.refl _ | apply Drawn0.step)⟩
    · replace c5 := Bool.eq_false_iff.mpr c5
      subst c5
      have H1 : ((strings_IndexByte.f (⟨#[40, 41, 91, 93, 92, 34]⟩ : ByteArray) a0).bind fun t110 => (some (decide (t110 < 0)))) = some r := by rw [if_neg (show ¬ (false = true) by decide)] at H; exact H
      clear H
      have H := H1
      clear H1
      replace H := Option.bind_eq_some_iff.mp H
      obtain ⟨t110, A60, H⟩ := H
      replace H : (some (decide (t110 < 0))) = some r := H
      have A6 := Aside0.mk A60
      clear A60
      obtain rfl := Option.some.inj H
      go_enter Tryd.func101, Tryd.ntmps101
      go_wp2_with (first | ((with_reducible refine gate_callee (f := 81) rfl ?_); refine goesL_ (some 4) rfl rfl Tryd.func81 (by kernel_rfl) rfl #[.int .u8 a0] rfl (by (try simp only [List.map_toArray, List.map_cons, List.map_nil]); first | done | rfl | (simp only [List.length_drop, List.length_take]; rfl)) ?_; (with_reducible refine (letter_isSpace.calls a0 false _ A2.out).mono ?_); rintro e w' ⟨rfl, ⟨nd, rfl⟩⟩; refine ⟨_, rfl, ?_⟩) | (go_at_call 100; (with_reducible refine (letter_isSign.calls a0 false _ A4.out).mono ?_); rintro e w' ⟨rfl, ⟨nd, rfl⟩⟩) | (go_at_call 49; (with_reducible refine (strings_IndexByte.calls (⟨#[40, 41, 91, 93, 92, 34]⟩ : ByteArray) a0 t110 _ A6.out).mono ?_); rintro e w' ⟨rfl, ⟨nd, rfl⟩⟩))
      go_ret
      exact ⟨by first | rfl | (simp; done) | (simp [*]; done), by repeat (first | exact Drawn0.refl _ | apply Drawn0.step)⟩

end Go.Proofs.YtgmlhmojcemliaaDoor.P
end
section
namespace Go.Proofs.YtgmlhmojcemliaaDoor.P
open Go.RowKit Go.Proofs.YtgmlhmojcemliaaDoorW.PrintWords Go.Proofs.YtgmlhmojcemliaaDoorW.PrintLast Go.Proofs.YtgmlhmojcemliaaDoorW.PrintMore
attribute [local go_sem] max2_int min2_int max_two min_two max_three min_three max_four min_four   -- for this text's walks alone
set_option linter.unusedVariables false
set_option linter.unusedSimpArgs false

/-! ### letter_one: function 51, GIVEN -/
theorem KeepBut.of_below' {b : Nat} {w w1 : World} (h : Below b w w1) (g : Nat) (row : Option Nat) (hb : w.heap.size ≤ w1.heap.size := h.size) : ∀ {v : World}, v.heap.size ≤ b → KeepBut v w g row → KeepBut v w1 g row := fun hv k => ⟨Nat.le_trans k.1 hb, fun i hi hg hr => (h.block i (Nat.lt_of_lt_of_le hi hv)).trans (k.2 i hi hg hr)⟩
def isSp (c : UInt8) : Bool := c == 32 || c == 9 || c == 13 || c == 10
theorem isSp_f (c : UInt8) : letter_isSpace.f (c.toNat : Int) = some (isSp c) := by
  have h : ∀ n : Fin 256, letter_isSpace.f (n.val : Int) = some (isSp (UInt8.ofNat n.val)) := by decide +kernel
  have := h ⟨c.toNat, c.toNat_lt⟩
  simpa using this
def letter_one.go : List UInt8 → Bool → List UInt8
  | [], _ => []
  | c :: l, g => if isSp c = true then (if g = true then [] else [32]) ++ letter_one.go l true else c :: letter_one.go l false
theorem letter_one.len (l : List UInt8) (g : Bool) : (letter_one.go l g).length ≤ l.length := by
  induction l generalizing g with
  | nil => simp [letter_one.go]
  | cons c l ih => have h1 := ih true; have h2 := ih false; simp only [letter_one.go]; split <;> (try split) <;> simp <;> omega
def letter_one.f (a0 : ByteArray) : Option ByteArray := if a0.size ≤ 140737488355328 then some ⟨(letter_one.go a0.data.toList false).toArray⟩ else none
theorem drop_byte (s : ByteArray) (k : Nat) (h : k < s.size) : s.data.toList.drop k = s[k] :: s.data.toList.drop (k + 1) := by
  rw [List.drop_eq_getElem_cons (by simpa using h)]; rfl
set_option maxHeartbeats 1000000 in
set_option maxRecDepth 100000 in
theorem letter_one.calls (a0 : ByteArray) (r : ByteArray) (w : World) (h : letter_one.f a0 = some r) :
    Calls Tryd.prog 51 #[.string a0] w fun e w' => e = .returned (.string r) ∧ Below w.heap.size w w' := by
  unfold letter_one.f at h
  split at h
  case isFalse => cases h
  rename_i hsz
  obtain rfl := Option.some.inj h
  clear h
  go_enter Tryd.func51, Tryd.ntmps51
  go_wp2
  go_loopw [4, 8] (fun v4 v8 wr => ∃ (g : Bool) (k : Nat) (acc : List UInt8), v4 = .bool g ∧ v8 = .int .i64 k ∧ k ≤ a0.size ∧ Aside0 (acc.length ≤ k) ∧ Aside0 (letter_one.go a0.data.toList false = acc ++ letter_one.go (a0.data.toList.drop k) g) ∧ Aside0 (IsB w.heap.size acc wr) ∧ Aside0 (Below w.heap.size w wr)) (fun _ i _ => a0.size - (intOf i).toNat)
  case atStart => exact ⟨false, 0, [], rfl, rfl, Nat.zero_le _, ⟨Nat.zero_le _⟩, ⟨rfl⟩, ⟨IsB.new w⟩, ⟨(Below.refl _ _).alloc (Nat.le_refl _) _⟩⟩
  case round =>
    obtain ⟨g, k, acc, rfl, rfl, hk, hacc, hgo, hI, hB⟩ := hrel
    by_cases hlt : k < a0.size
    · have hgo := hgo.out
      have hacc := hacc.out
      rw [drop_byte a0 k hlt, letter_one.go] at hgo
      by_cases h0 : isSp a0[k] = true
      · rw [if_pos h0] at hgo
        cases g with
        | true =>
          simp only [if_true, List.nil_append] at hgo
          have HG := Aside0.mk hgo
          have H0 := Aside0.mk h0
          clear hgo h0
          go_wp2_with (first | (go_at_call 81; refine (letter_isSpace.calls _ true _ (by rw [isSp_f, H0.out])).mono ?_; rintro e w1 ⟨rfl, ⟨nd, rfl⟩⟩) | fail)
          go_roundw
          case rel => exact ⟨true, k + 1, acc, rfl, by go_num, by omega, ⟨by omega⟩, HG, ⟨hI.out.drewN _⟩, ⟨pw_below_drewN hB.out _⟩⟩
          case measure => simp [intOf]; omega
        | false =>
          simp only [Bool.false_eq_true, if_false] at hgo
          have HG := Aside0.mk hgo
          have H0 := Aside0.mk h0
          clear hgo h0
          go_wp2_with (go_at_call 81; refine (letter_isSpace.calls _ true _ (by rw [isSp_f, H0.out])).mono ?_; rintro e w1 ⟨rfl, ⟨nd, rfl⟩⟩)
          go_wp2_with (go_at_call 59; refine (bW1 w.heap.size acc 32 32 rfl _ (hI.out.drewN _) (by omega)).mono ?_; rintro e w2 ⟨rfl, hI2, hB2, hK2⟩)
          go_wp2_with (go_at_call 81; refine (letter_isSpace.calls _ true _ (by rw [isSp_f, H0.out])).mono ?_; rintro e w3 ⟨rfl, ⟨nd3, rfl⟩⟩)
          go_roundw
          case rel => exact ⟨true, k + 1, acc ++ [32], rfl, by go_num, by omega, ⟨by simp; omega⟩, ⟨by rw [HG.out]; simp⟩, ⟨hI2.drewN _⟩, ⟨pw_below_drewN ((pw_below_drewN hB.out _).trans hB2) _⟩⟩
          case measure => simp [intOf]; omega
      · rw [if_neg h0] at hgo
        have HG := Aside0.mk hgo
        have H0 := Aside0.mk (eq_false_of_ne_true h0)
        clear hgo h0
        go_wp2_with (go_at_call 81; refine (letter_isSpace.calls _ false _ (by rw [isSp_f, H0.out])).mono ?_; rintro e w1 ⟨rfl, ⟨nd, rfl⟩⟩)
        go_wp2_with (go_at_call 59; refine (bW1 w.heap.size acc a0[k] _ rfl _ (hI.out.drewN _) (by omega)).mono ?_; rintro e w2 ⟨rfl, hI2, hB2, hK2⟩)
        go_wp2_with (go_at_call 81; refine (letter_isSpace.calls _ false _ (by rw [isSp_f, H0.out])).mono ?_; rintro e w3 ⟨rfl, ⟨nd3, rfl⟩⟩)
        go_roundw
        case rel => exact ⟨false, k + 1, acc ++ [a0[k]], rfl, by go_num, by omega, ⟨by simp; omega⟩, ⟨by rw [HG.out]; simp⟩, ⟨hI2.drewN _⟩, ⟨pw_below_drewN ((pw_below_drewN hB.out _).trans hB2) _⟩⟩
        case measure => simp [intOf]; omega
    · have hk' : a0.data.toList.drop k = [] := by simp; omega
      have hgo := hgo.out
      rw [hk', letter_one.go, List.append_nil] at hgo
      have HG := Aside0.mk hgo
      clear hgo hk'
      go_wp2_with (go_at_call 57; refine (bStr w.heap.size acc wr hI.out).mono ?_; rintro e w' ⟨rfl, hI', hB', hK'⟩)
      go_ret
      exact ⟨by rw [HG.out]; rfl, hB.out.trans hB'⟩
end Go.Proofs.YtgmlhmojcemliaaDoor.P
end
section
namespace Go.Proofs.YtgmlhmojcemliaaDoor.P
open Go.RowKit Go.Proofs.YtgmlhmojcemliaaDoorW.PrintWords Go.Proofs.YtgmlhmojcemliaaDoorW.PrintLast Go.Proofs.YtgmlhmojcemliaaDoorW.PrintMore
attribute [local go_sem] max2_int min2_int max_two min_two max_three min_three max_four min_four   -- for this text's walks alone
set_option linter.unusedVariables false
set_option linter.unusedSimpArgs false

/-! ### letter_cursor_comment: function 97, GIVEN -/
def cmt : List UInt8 → Nat → Nat
  | [], _ => 0
  | c :: l, d =>
    if c = 40 then 1 + cmt l (d + 1)
    else if c = 41 then (if d = 1 then 1 else 1 + cmt l (d - 1))
    else if c = 92 then (match l with | [] => 1 | _ :: l' => 2 + cmt l' d)
    else 1 + cmt l d
theorem cmt_cons (c : UInt8) (l : List UInt8) (d : Nat) : cmt (c :: l) d = if c = 40 then 1 + cmt l (d + 1) else if c = 41 then (if d = 1 then 1 else 1 + cmt l (d - 1)) else if c = 92 then (match l with | [] => 1 | _ :: l' => 2 + cmt l' d) else 1 + cmt l d := by
  rw [cmt.eq_def]
theorem cmt_le (l : List UInt8) (d : Nat) : cmt l d ≤ l.length := by
  fun_induction cmt l d <;> simp_all <;> omega
def letter_cursor_comment.f (s : ByteArray) (a : Int) : Option (ByteArray × Int) :=
  if 0 ≤ a ∧ a.toNat < s.size ∧ s.size ≤ 140737488355328 ∧ s.data.toList[a.toNat]? = some 40 then some (s, a + 1 + cmt (s.data.toList.drop (a.toNat + 1)) 1) else none
def CmtRel (s : ByteArray) (a d n : Nat) : Prop := (d = 0 ∧ n = a) ∨ (0 < d ∧ a < n ∧ n ≤ s.size ∧ a + 1 + cmt (s.data.toList.drop (a + 1)) 1 = n + cmt (s.data.toList.drop n) d) ∨ (0 < d ∧ n = s.size + 1 ∧ a + 1 + cmt (s.data.toList.drop (a + 1)) 1 = s.size)
theorem CmtRel.out {s : ByteArray} {a d n : Nat} (h : CmtRel s a d n) (ha : a < s.size) (hn : ¬ n < s.size) : a + 1 + cmt (s.data.toList.drop (a + 1)) 1 = s.size := by
  rcases h with ⟨_, rfl⟩ | ⟨_, _, hle, h⟩ | ⟨_, _, h⟩
  · omega
  · obtain rfl : n = s.size := by omega
    have : s.data.toList.drop s.size = [] := by simp
    rw [this] at h
    simpa [cmt] using h
  · exact h
theorem CmtRel.pos {s : ByteArray} {a d n : Nat} (h : CmtRel s a d n) (ha : s.data.toList[a]? = some 40) (hn : n < s.size) (hc : s[n] ≠ 40) : 0 < d := by
  rcases h with ⟨_, rfl⟩ | ⟨h, _⟩ | ⟨h, _⟩
  · exfalso; apply hc
    rw [List.getElem?_eq_getElem (by simpa using hn)] at ha
    exact Option.some.inj ha
  · exact h
  · exact h
theorem CmtRel.open_ {s : ByteArray} {a d n : Nat} (h : CmtRel s a d n) (hn : n < s.size) (hc : s[n] = 40) : CmtRel s a (d + 1) (n + 1) := by
  rcases h with ⟨rfl, rfl⟩ | ⟨h0, h1, h2, h⟩ | ⟨_, h, _⟩
  · exact .inr (.inl ⟨by omega, by omega, by omega, rfl⟩)
  · refine .inr (.inl ⟨by omega, by omega, by omega, ?_⟩)
    rw [h, drop_byte s n hn, cmt_cons, if_pos hc]; omega
  · omega
theorem CmtRel.shut {s : ByteArray} {a d n : Nat} (h : CmtRel s a (d + 2) n) (hn : n < s.size) (hc : s[n] = 41) : CmtRel s a (d + 1) (n + 1) := by
  rcases h with ⟨h, _⟩ | ⟨h0, h1, h2, h⟩ | ⟨_, h, _⟩
  · omega
  · refine .inr (.inl ⟨by omega, by omega, by omega, ?_⟩)
    rw [h, drop_byte s n hn, cmt_cons, if_neg (by rw [hc]; decide), if_pos hc, if_neg (by omega)]; simp; omega
  · omega
theorem CmtRel.last {s : ByteArray} {a n : Nat} (h : CmtRel s a 1 n) (hn : n < s.size) (hc : s[n] = 41) : a + 1 + cmt (s.data.toList.drop (a + 1)) 1 = n + 1 := by
  rcases h with ⟨h, _⟩ | ⟨h0, h1, h2, h⟩ | ⟨_, h, _⟩
  · omega
  · rw [h, drop_byte s n hn, cmt_cons, if_neg (by rw [hc]; decide), if_pos hc, if_pos rfl]
  · omega
theorem CmtRel.skip {s : ByteArray} {a d n : Nat} (h : CmtRel s a d n) (hd : 0 < d) (hn : n < s.size) (h1 : s[n] ≠ 40) (h2 : s[n] ≠ 41) (h3 : s[n] ≠ 92) : CmtRel s a d (n + 1) := by
  rcases h with ⟨h, _⟩ | ⟨h0, h1', h2', h⟩ | ⟨_, h, _⟩
  · omega
  · refine .inr (.inl ⟨by omega, by omega, by omega, ?_⟩)
    rw [h, drop_byte s n hn, cmt_cons, if_neg h1, if_neg h2, if_neg h3]; omega
  · omega
theorem CmtRel.back {s : ByteArray} {a d n : Nat} (h : CmtRel s a d n) (hd : 0 < d) (hn : n < s.size) (h3 : s[n] = 92) : CmtRel s a d (n + 1 + 1) := by
  rcases h with ⟨h, _⟩ | ⟨h0, h1', h2', h⟩ | ⟨_, h, _⟩
  · omega
  · rw [drop_byte s n hn, cmt_cons, if_neg (by rw [h3]; decide), if_neg (by rw [h3]; decide), if_pos h3] at h
    by_cases hl : n + 1 < s.size
    · refine .inr (.inl ⟨by omega, by omega, by omega, ?_⟩)
      rw [drop_byte s (n + 1) hl] at h
      simp only at h
      rw [h]; omega
    · refine .inr (.inr ⟨hd, by omega, ?_⟩)
      have e : s.data.toList.drop (n + 1) = [] := by simp; omega
      rw [e] at h
      simp only at h
      omega
  · omega
theorem byte_beq {c : UInt8} {n : Nat} (hn : n < 256) (h : c = UInt8.ofNat n) : ((c.toNat : Int) == n) = true := by
  subst h; rw [beq_iff_eq]; simp; omega
theorem byte_bne {c : UInt8} {n : Nat} (h : c ≠ UInt8.ofNat n) : ((c.toNat : Int) == n) = false := by
  rw [beq_eq_false_iff_ne]; intro e; apply h; apply UInt8.toNat_inj.1
  have : c.toNat = n := by omega
  subst this; simp
set_option maxHeartbeats 2000000 in
set_option maxRecDepth 100000 in
theorem letter_cursor_comment.calls (g : Nat) (s0_0 : ByteArray) (s0_1 : Int) (r1 : ByteArray) (r2 : Int) (w0 w : World) (hI : IsS112 w0 w g s0_0 s0_1) (hB : Below w0.heap.size w0 w) (h : letter_cursor_comment.f s0_0 s0_1 = some (r1, r2)) :
    Calls Tryd.prog 97 #[.pointer (some ⟨g, 0, none⟩)] w fun e w' => e = .returned (.tuple #[]) ∧ IsS112 w0 w' g r1 r2 ∧ Below w0.heap.size w0 w' ∧ KeepBut w w' g none := by
  unfold letter_cursor_comment.f at h
  split at h
  case isFalse => cases h
  rename_i hc
  obtain ⟨ha0, halt, hsz, hpar⟩ := hc
  simp only [Option.some.injEq, Prod.mk.injEq] at h
  obtain ⟨rfl, rfl⟩ := h
  obtain ⟨a, rfl⟩ := Int.eq_ofNat_of_zero_le ha0
  rw [Int.toNat_natCast] at halt hpar ⊢
  have hge := hI.ge
  have HP := Aside0.mk hpar
  have HI := Aside0.mk hI
  have HB := Aside0.mk hB
  clear hpar hI hB ha0
  go_enter Tryd.func97, Tryd.ntmps97
  go_wp2
  go_loopg [2] (s0_0.size + 1 - a) (fun kq v2 w' => ∃ (d n : Nat), v2 = .int .i64 d ∧ Aside0 (kq = s0_0.size + 1 - n) ∧ d ≤ n ∧ n ≤ s0_0.size + 1 ∧ Aside0 (CmtRel s0_0 a d n) ∧ Aside0 (IsS112 w0 w' g s0_0 n) ∧ Aside0 (KeepBut w w' g none) ∧ Aside0 (Below w0.heap.size w0 w'))
  case atStart => exact ⟨0, a, rfl, ⟨rfl⟩, Nat.zero_le _, by omega, ⟨.inl ⟨rfl, rfl⟩⟩, HI, ⟨KeepBut.refl _ _ _⟩, HB⟩
  case round =>
    obtain ⟨d, n, rfl, hkq, hdn, hn, hrel, hI, hK, hB⟩ := hrel
    have hblk := hI.out.1
    have cs0 := cellS112_0 hblk
    have cs1 := cellS112_1 hblk
    have cf1 := blk_frozen hblk 1
    clear hblk
    by_cases hlt : n < s0_0.size
    · have hltb : decide ((n : Int) < (s0_0.size : Int)) = true := by simp; omega
      by_cases h1 : s0_0[n] = 40
      · have b1 := byte_beq (by decide) h1
        have hd' : (((d : Int) + 1) == 0) = false := by rw [beq_eq_false_iff_ne]; omega
        have HR := Aside0.mk (hrel.out.open_ hlt h1)
        clear h1
        go_wp2_with fail
        repeat (go_quiet (fail); try go_wp2)
        go_roundg (s0_0.size + 1 - (n + 1))
        case measure => have := hkq.out; omega
        case rel => exact ⟨d + 1, n + 1, by go_num, ⟨rfl⟩, by omega, by omega, HR, ⟨(hI.out.drewN _).set_1 _⟩, ⟨KeepBut.set_ hK.out 1 _⟩, ⟨below_set (pw_below_drewN hB.out _) hge⟩⟩
      have hpos := hrel.out.pos HP.out hlt h1
      have b1 := byte_bne (n := 40) h1
      by_cases h2 : s0_0[n] = 41
      · have b2 := byte_beq (by decide) h2
        rcases d with _ | _ | d
        · omega
        · have HF := Aside0.mk (hrel.out.last hlt h2)
          have hmin : (n : Int) + 1 ≤ (s0_0.size : Int) := by omega
          clear h1 h2
          go_wp2_with fail
          repeat (go_quiet (fail); try go_wp2)
          generalize hW : World.setCell _ _ _ = W
          have HIW : IsS112 w0 W g s0_0 ((n : Int) + 1) := by rw [← hW]; exact (hI.out.drewN _).set_1 _
          have HBW : Below w0.heap.size w0 W := by rw [← hW]; exact below_set (pw_below_drewN hB.out _) hge
          have HKW : KeepBut w W g none := by rw [← hW]; exact KeepBut.set_ hK.out 1 _
          have cw0 := cellS112_0 HIW.1
          have cw1 := cellS112_1 HIW.1
          have cwf := blk_frozen HIW.1 1
          clear hW
          refine wp_region_still_tail 11 (by kernel_rfl) (by kernel_rfl) ?_
          generalize hwq : World.mk W.heap W.tape (W.drawn + 1) W.os W.output = wq
          have cq0 : wq.cell? ⟨g, 0, none⟩ = some (.string s0_0) := by rw [← hwq]; exact cw0
          have cq1 : wq.cell? ⟨g, 1, none⟩ = some (.int .i64 ((n : Int) + 1)) := by rw [← hwq]; exact cw1
          have cqf : wq.frozen? ⟨g, 1, none⟩ = false := by rw [← hwq]; exact cwf
          have HIq : Aside0 (IsS112 w0 wq g s0_0 ((n : Int) + 1)) := ⟨by rw [← hwq]; exact HIW.drew⟩
          have HBq : Aside0 (Below w0.heap.size w0 wq) := ⟨by rw [← hwq]; exact below_drew HBW⟩
          have HKq : Aside0 (KeepBut w wq g none) := ⟨by rw [← hwq]; exact HKW⟩
          clear hwq HIW HBW HKW
          simp only [List.take_succ_cons, List.take_zero, List.drop_succ_cons, List.drop_zero]
          repeat still_step
          refine wpStill_nil ?_
          go_wp2
          all_goals
            go_end0
            have e : ((a : Int) + 1 + (cmt (s0_0.data.toList.drop (a + 1)) 1 : Int)) = (n : Int) + 1 := by have := HF.out; omega
            refine ⟨rfl, ?_, below_set HBq.out hge, KeepBut.set_ HKq.out 1 _⟩
            first
              | (rw [e]; exact HIq.out.set_1 _)
              | (rw [e, show (n : Int) + 1 = (s0_0.size : Int) from by omega]; exact HIq.out.set_1 _)
        · have hd' : (((d + 1 + 1 : Nat) : Int) - 1 == 0) = false := by rw [beq_eq_false_iff_ne]; omega
          have hd'' : ((d : Int) + 1 + 1 - 1 == 0) = false := by rw [beq_eq_false_iff_ne]; omega
          have hd3 : ((d : Int) + 1 == 0) = false := by rw [beq_eq_false_iff_ne]; omega
          have HR := Aside0.mk (hrel.out.shut hlt h2)
          clear h1 h2
          go_wp2_with fail
          repeat (go_quiet (fail); try go_wp2)
          go_roundg (s0_0.size + 1 - (n + 1))
          case measure => have := hkq.out; omega
          case rel => exact ⟨d + 1, n + 1, by go_num, ⟨rfl⟩, by omega, by omega, HR, ⟨(hI.out.drewN _).set_1 _⟩, ⟨KeepBut.set_ hK.out 1 _⟩, ⟨below_set (pw_below_drewN hB.out _) hge⟩⟩
      have b2 := byte_bne (n := 41) h2
      have hd0 : ((d : Int) == 0) = false := by rw [beq_eq_false_iff_ne]; omega
      by_cases h3 : s0_0[n] = 92
      · have b3 := byte_beq (by decide) h3
        have HR := Aside0.mk (hrel.out.back hpos hlt h3)
        clear h1 h2 h3
        go_wp2_with fail
        repeat (go_quiet (fail); try go_wp2)
        go_roundg (s0_0.size + 1 - (n + 1 + 1))
        case measure => have := hkq.out; omega
        case rel => exact ⟨d, n + 1 + 1, by go_num, ⟨rfl⟩, by omega, by omega, HR, ⟨((hI.out.drewN _).set_1 _).set_1 _⟩, ⟨KeepBut.set_ (KeepBut.set_ hK.out 1 _) 1 _⟩, ⟨below_set (below_set (pw_below_drewN hB.out _) hge) hge⟩⟩
      · have b3 := byte_bne (n := 92) h3
        have HR := Aside0.mk (hrel.out.skip hpos hlt h1 h2 h3)
        clear h1 h2 h3
        go_wp2_with fail
        repeat (go_quiet (fail); try go_wp2)
        go_roundg (s0_0.size + 1 - (n + 1))
        case measure => have := hkq.out; omega
        case rel => exact ⟨d, n + 1, by go_num, ⟨rfl⟩, by omega, by omega, HR, ⟨(hI.out.drewN _).set_1 _⟩, ⟨KeepBut.set_ hK.out 1 _⟩, ⟨below_set (pw_below_drewN hB.out _) hge⟩⟩
    · have hlt' : decide ((n : Int) < (s0_0.size : Int)) = false := by simp; omega
      have hfin := hrel.out.out halt hlt
      have HF := Aside0.mk hfin
      clear hfin
      have hmin : ¬ (n : Int) < (s0_0.size : Int) := by omega
      go_wp2_with fail
      go_quiet (fail)
      go_wp2_with fail
      rename_i nq
      refine wp_region_still_tail 11 (by kernel_rfl) (by kernel_rfl) ?_
      generalize hwq : World.mk (wr.drewN nq).heap (wr.drewN nq).tape ((wr.drewN nq).drawn + 1) (wr.drewN nq).os (wr.drewN nq).output = wq
      have cq0 : wq.cell? ⟨g, 0, none⟩ = some (.string s0_0) := by rw [← hwq]; exact cs0
      have cq1 : wq.cell? ⟨g, 1, none⟩ = some (.int .i64 n) := by rw [← hwq]; exact cs1
      have cqf : wq.frozen? ⟨g, 1, none⟩ = false := by rw [← hwq]; exact cf1
      have HIq : Aside0 (IsS112 w0 wq g s0_0 n) := ⟨by rw [← hwq]; exact (hI.out.drewN nq).drew⟩
      have HBq : Aside0 (Below w0.heap.size w0 wq) := ⟨by rw [← hwq]; exact below_drew (pw_below_drewN hB.out nq)⟩
      have HKq : Aside0 (KeepBut w wq g none) := ⟨by rw [← hwq]; exact hK.out⟩
      clear hwq
      simp only [List.take_succ_cons, List.take_zero, List.drop_succ_cons, List.drop_zero]
      repeat still_step
      refine wpStill_nil ?_
      go_wp2
      all_goals
        go_end0
        have e : ((a : Int) + 1 + (cmt (s0_0.data.toList.drop (a + 1)) 1 : Int)) = (s0_0.size : Int) := by have := HF.out; omega
        refine ⟨rfl, ?_, below_set HBq.out hge, KeepBut.set_ HKq.out 1 _⟩
        first
          | (rw [e]; exact HIq.out.set_1 _)
          | (rw [e, show (s0_0.size : Int) = (n : Int) from by omega]; exact HIq.out.set_1 _)
end Go.Proofs.YtgmlhmojcemliaaDoor.P
end
section
namespace Go.Proofs.YtgmlhmojcemliaaDoor.P
open Go.RowKit Go.Proofs.YtgmlhmojcemliaaDoorW.PrintWords Go.Proofs.YtgmlhmojcemliaaDoorW.PrintLast Go.Proofs.YtgmlhmojcemliaaDoorW.PrintMore
attribute [local go_sem] max2_int min2_int max_two min_two max_three min_three max_four min_four   -- for this text's walks alone
set_option linter.unusedVariables false
set_option linter.unusedSimpArgs false

/-! ### letter_cursor_quotes: function 98, GIVEN -/
def qtx : List UInt8 → List UInt8 × Nat
  | [] => ([], 0)
  | c :: l => if c = 34 then ([], 1) else if c = 92 then (match l with | [] => ([], 1) | x :: l' => (x :: (qtx l').1, 2 + (qtx l').2)) else (c :: (qtx l).1, 1 + (qtx l).2)
theorem qtx_cons (c : UInt8) (l : List UInt8) : qtx (c :: l) = if c = 34 then ([], 1) else if c = 92 then (match l with | [] => ([], 1) | x :: l' => (x :: (qtx l').1, 2 + (qtx l').2)) else (c :: (qtx l).1, 1 + (qtx l).2) := by
  rw [qtx.eq_def]
theorem qtx_le (l : List UInt8) : (qtx l).2 ≤ l.length ∧ (qtx l).1.length ≤ l.length := by
  fun_induction qtx l <;> simp_all <;> omega
def letter_cursor_quotes.f (s : ByteArray) (a : Int) : Option (ByteArray × ByteArray × Int) :=
  if 0 ≤ a ∧ a.toNat < s.size ∧ s.size ≤ 140737488355328 then some (⟨(qtx (s.data.toList.drop (a.toNat + 1))).1.toArray⟩, s, a + 1 + (qtx (s.data.toList.drop (a.toNat + 1))).2) else none
def QRel (s : ByteArray) (a n : Nat) (acc : List UInt8) : Prop := n ≤ s.size ∧ a + 1 ≤ n ∧ acc.length ≤ n ∧ (qtx (s.data.toList.drop (a + 1))).1 = acc ++ (qtx (s.data.toList.drop n)).1 ∧ a + 1 + (qtx (s.data.toList.drop (a + 1))).2 = n + (qtx (s.data.toList.drop n)).2
theorem QRel.out {s : ByteArray} {a n : Nat} {acc : List UInt8} (h : QRel s a n acc) (hn : ¬ n < s.size) : (qtx (s.data.toList.drop (a + 1))).1 = acc ∧ a + 1 + (qtx (s.data.toList.drop (a + 1))).2 = s.size := by
  obtain ⟨h1, h2, h3, h4, h5⟩ := h
  obtain rfl : n = s.size := by omega
  have : s.data.toList.drop s.size = [] := by simp
  rw [this] at h4 h5
  exact ⟨by simpa [qtx] using h4, by simpa [qtx] using h5⟩
theorem QRel.last {s : ByteArray} {a n : Nat} {acc : List UInt8} (h : QRel s a n acc) (hn : n < s.size) (hc : s[n] = 34) : (qtx (s.data.toList.drop (a + 1))).1 = acc ∧ a + 1 + (qtx (s.data.toList.drop (a + 1))).2 = n + 1 := by
  obtain ⟨h1, h2, h3, h4, h5⟩ := h
  rw [drop_byte s n hn, qtx_cons, if_pos hc] at h4 h5
  exact ⟨by simpa using h4, by simpa using h5⟩
theorem QRel.skip {s : ByteArray} {a n : Nat} {acc : List UInt8} (h : QRel s a n acc) (hn : n < s.size) (c1 : s[n] ≠ 34) (c2 : s[n] ≠ 92) : QRel s a (n + 1) (acc ++ [s[n]]) := by
  obtain ⟨h1, h2, h3, h4, h5⟩ := h
  rw [drop_byte s n hn, qtx_cons, if_neg c1, if_neg c2] at h4 h5
  exact ⟨by omega, by omega, by simp; omega, by rw [h4]; simp, by rw [h5]; simp; omega⟩
theorem QRel.back {s : ByteArray} {a n : Nat} {acc : List UInt8} (h : QRel s a n acc) (hn : n + 1 < s.size) (c2 : s[n] = 92) : QRel s a (n + 1 + 1) (acc ++ [s[n + 1]]) := by
  obtain ⟨h1, h2, h3, h4, h5⟩ := h
  rw [drop_byte s n (by omega), qtx_cons, if_neg (by rw [c2]; decide), if_pos c2, drop_byte s (n + 1) hn] at h4 h5
  exact ⟨by omega, by omega, by simp; omega, by rw [h4]; simp, by rw [h5]; simp; omega⟩
theorem QRel.end_ {s : ByteArray} {a n : Nat} {acc : List UInt8} (h : QRel s a n acc) (hn : n < s.size) (hl : ¬ n + 1 < s.size) (c2 : s[n] = 92) : QRel s a (n + 1) acc := by
  obtain ⟨h1, h2, h3, h4, h5⟩ := h
  have e : s.data.toList.drop (n + 1) = [] := by simp; omega
  rw [drop_byte s n hn, qtx_cons, if_neg (by rw [c2]; decide), if_pos c2, e] at h4 h5
  exact ⟨by omega, by omega, by omega, by rw [h4, e]; simp [qtx], by rw [h5, e]; simp [qtx]⟩
theorem stateBelow {w0 w W : World} {g b : Nat} {s : ByteArray} {n : Int} (h : IsS112 w0 w g s n) (hb : Below b w W) (hg : g < b) : IsS112 w0 W g s n := ⟨(hb.block g hg).trans h.1, h.2⟩
set_option maxHeartbeats 4000000 in
set_option maxRecDepth 100000 in
theorem letter_cursor_quotes.calls (g : Nat) (s0_0 : ByteArray) (s0_1 : Int) (r1 : ByteArray) (r2 : ByteArray) (r3 : Int) (w0 w : World) (hI : IsS112 w0 w g s0_0 s0_1) (hB : Below w0.heap.size w0 w) (h : letter_cursor_quotes.f s0_0 s0_1 = some (r1, r2, r3)) :
    Calls Tryd.prog 98 #[.pointer (some ⟨g, 0, none⟩)] w fun e w' => e = .returned (.string r1) ∧ IsS112 w0 w' g r2 r3 ∧ Below w0.heap.size w0 w' ∧ KeepBut w w' g none := by
  unfold letter_cursor_quotes.f at h
  split at h
  case isFalse => cases h
  rename_i hc
  obtain ⟨ha0, halt, hsz⟩ := hc
  simp only [Option.some.injEq, Prod.mk.injEq] at h
  obtain ⟨rfl, rfl, rfl⟩ := h
  obtain ⟨a, rfl⟩ := Int.eq_ofNat_of_zero_le ha0
  rw [Int.toNat_natCast] at halt ⊢
  have hge := hI.ge
  have hglt := hI.lt
  have hw0 := hB.size
  have HI := Aside0.mk hI
  have HB := Aside0.mk hB
  have hIa := hI.alloc (.cells #[.pointer none, .slice none 0 0] 104)
  have ci0 := cellS112_0 hIa.1
  have ci1 := cellS112_1 hIa.1
  have cif := blk_frozen hIa.1 1
  have HIa := Aside0.mk hIa
  clear hI hB ha0 hIa
  go_enter Tryd.func98, Tryd.ntmps98
  go_wp2
  go_loopg [] (s0_0.size + 1 - (a + 1)) (fun kq w' => ∃ (n : Nat) (acc : List UInt8), Aside0 (kq = s0_0.size + 1 - n) ∧ Aside0 (QRel s0_0 a n acc) ∧ Aside0 (IsB w.heap.size acc w') ∧ Aside0 (IsS112 w0 w' g s0_0 n) ∧ Aside0 (KeepBut w w' g none) ∧ Aside0 (Below w0.heap.size w0 w'))
  case atStart => exact ⟨a + 1, [], ⟨rfl⟩, ⟨by omega, Nat.le_refl _, by simp, rfl, rfl⟩, ⟨by have := IsB.new (w.setCell ⟨g, 1, none⟩ (.int .i64 ((a : Int) + 1))); simpa using this⟩, ⟨(HI.out.set_1 _).alloc _⟩, ⟨KeepBut.of_below' (Below.alloc (Below.refl _ _) (Nat.le_refl _) _) g none (by simp) (by simp) (KeepBut.set_ (KeepBut.refl _ _ _) 1 _)⟩, ⟨below_alloc (below_set HB.out hge) _⟩⟩
  case round =>
    clear ci0 ci1 cif
    obtain ⟨n, acc, hkq, hrel, hA, hI, hK, hB⟩ := hrel
    have hn := hrel.out.1
    have hacc := hrel.out.2.2.1
    have hblk := hI.out.1
    have cs0 := cellS112_0 hblk
    have cs1 := cellS112_1 hblk
    have cf1 := blk_frozen hblk 1
    clear hblk
    by_cases hlt : n < s0_0.size
    · have hltb : decide ((n : Int) < (s0_0.size : Int)) = true := by simp; omega
      by_cases h1 : s0_0[n] = 34
      · have b1 : ((s0_0[n].toNat : Int) != 34) = false := by have := byte_beq (n := 34) (by decide) h1; simpa using this
        have HF := Aside0.mk (hrel.out.last hlt h1)
        have hmin : (n : Int) + 1 ≤ (s0_0.size : Int) := by omega
        clear h1
        go_wp2_with fail
        go_quiet (fail)
        go_wp2_with fail
        generalize hz : World.drewN wr _ = wz
        have cz0 : wz.cell? ⟨g, 0, none⟩ = some (.string s0_0) := by rw [← hz]; exact cs0
        have cz1 : wz.cell? ⟨g, 1, none⟩ = some (.int .i64 n) := by rw [← hz]; exact cs1
        have czf : wz.frozen? ⟨g, 1, none⟩ = false := by rw [← hz]; exact cf1
        have HIz : IsS112 w0 wz g s0_0 n := by rw [← hz]; exact hI.out.drewN _
        have HAz : IsB w.heap.size acc wz := by rw [← hz]; exact hA.out.drewN _
        have HBz : Below w0.heap.size w0 wz := by rw [← hz]; exact pw_below_drewN hB.out _
        have HKz : KeepBut w wz g none := by rw [← hz]; exact hK.out
        clear hz
        refine wp_region_still_tail 12 (by kernel_rfl) (by kernel_rfl) ?_
        generalize hwq : World.mk wz.heap wz.tape (wz.drawn + 1) wz.os wz.output = wq
        have cq0 : wq.cell? ⟨g, 0, none⟩ = some (.string s0_0) := by rw [← hwq]; exact cz0
        have cq1 : wq.cell? ⟨g, 1, none⟩ = some (.int .i64 n) := by rw [← hwq]; exact cz1
        have cqf : wq.frozen? ⟨g, 1, none⟩ = false := by rw [← hwq]; exact czf
        have HIq : Aside0 (IsS112 w0 wq g s0_0 n) := ⟨by rw [← hwq]; exact HIz.drew⟩
        have HAq : Aside0 (IsB w.heap.size acc wq) := ⟨by rw [← hwq]; exact HAz.drew⟩
        have HBq : Aside0 (Below w0.heap.size w0 wq) := ⟨by rw [← hwq]; exact below_drew HBz⟩
        have HKq : Aside0 (KeepBut w wq g none) := ⟨by rw [← hwq]; exact HKz⟩
        clear hwq HIz HAz HBz HKz cz0 cz1 czf
        simp only [List.take_succ_cons, List.take_zero, List.drop_succ_cons, List.drop_zero]
        repeat still_step
        refine wpStill_nil ?_
        go_wp2_with fail
        all_goals
          first | (exfalso; omega) | skip
          go_wp2_with (go_at_call 57; refine (bStr w.heap.size acc _ (HAq.out.setFar HIq.out.1 (by decide) (by decide) _)).mono ?_; rintro e W ⟨rfl, hI', hB', hK'⟩)
          go_ret
          refine ⟨by rw [HF.out.1]; rfl, ?_, below_weaken (below_set HBq.out hge) hw0 hB', ?_⟩
          · refine stateBelow ?_ hB' hglt
            have e : (a : Int) + 1 + ((qtx (s0_0.data.toList.drop (a + 1))).2 : Int) = (n : Int) + 1 := by have := HF.out.2; omega
            rw [e]
            exact HIq.out.set_1 _
          · exact KeepBut.of_below' hB' g none hB'.size (Nat.le_refl _) (KeepBut.set_ HKq.out 1 _)
      · have b1 : ((s0_0[n].toNat : Int) != 34) = true := by have := byte_bne (n := 34) h1; simpa using this
        by_cases h2 : s0_0[n] = 92
        · have b2 := byte_beq (by decide) h2
          by_cases hl2 : n + 1 < s0_0.size
          · have hl2b : decide ((n : Int) + 1 < (s0_0.size : Int)) = true := by simp; omega
            have HR := Aside0.mk (hrel.out.back hl2 h2)
            clear h1 h2
            go_wp2_with fail
            go_quiet (fail)
            go_wp2_with fail
            go_quiet (fail)
            go_wp2_with fail
            go_quiet (fail)
            go_wp2_with fail
            try simp only [World.drewN_drewN]
            generalize hz : World.drewN (World.setCell _ _ _) _ = wz
            have HIz : IsS112 w0 wz g s0_0 ((n : Int) + 1) := by rw [← hz]; exact ((hI.out.drewN _).set_1 _).drewN _
            have HAz : IsB w.heap.size acc wz := by rw [← hz]; exact (IsB.setFar (hA.out.drewN _) (hI.out.drewN _).1 (by decide) (by decide) _).drewN _
            have HBz : Below w0.heap.size w0 wz := by rw [← hz]; exact pw_below_drewN (below_set (pw_below_drewN hB.out _) hge) _
            have HKz : KeepBut w wz g none := by rw [← hz]; exact KeepBut.set_ hK.out 1 _
            have cz0 := cellS112_0 HIz.1
            have cz1 := cellS112_1 HIz.1
            clear hz
            refine wp_region_still_tail 9 (by kernel_rfl) (by kernel_rfl) ?_
            generalize hwq : World.mk wz.heap wz.tape (wz.drawn + 1) wz.os wz.output = wq
            have cq0 : wq.cell? ⟨g, 0, none⟩ = some (.string s0_0) := by rw [← hwq]; exact cz0
            have cq1 : wq.cell? ⟨g, 1, none⟩ = some (.int .i64 ((n : Int) + 1)) := by rw [← hwq]; exact cz1
            have HIq : Aside0 (IsS112 w0 wq g s0_0 ((n : Int) + 1)) := ⟨by rw [← hwq]; exact HIz.drew⟩
            have HAq : Aside0 (IsB w.heap.size acc wq) := ⟨by rw [← hwq]; exact HAz.drew⟩
            have HBq : Aside0 (Below w0.heap.size w0 wq) := ⟨by rw [← hwq]; exact below_drew HBz⟩
            have HKq : Aside0 (KeepBut w wq g none) := ⟨by rw [← hwq]; exact HKz⟩
            clear hwq HIz HAz HBz HKz cz0 cz1
            simp only [List.take_succ_cons, List.take_zero, List.drop_succ_cons, List.drop_zero]
            have za : (0 : Int) ≤ ((n : Int) + 1) := by omega
            have zb : ((n : Int) + 1) < (s0_0.size : Int) := by omega
            repeat still_step
            refine wpStill_nil ?_
            go_wp2_with (go_at_call 59; refine (bW1 w.heap.size acc s0_0[n + 1] _ rfl _ HAq.out (by omega)).mono ?_)
            rintro e W ⟨rfl, hA2, hB2, hK2⟩
            have HI2 := stateBelow HIq.out hB2 hglt
            have cw0 := cellS112_0 HI2.1
            have cw1 := cellS112_1 HI2.1
            have cwf := blk_frozen HI2.1 1
            have HI2 := Aside0.mk HI2
            go_wp2
            go_roundg (s0_0.size + 1 - (n + 1 + 1))
            case measure => have := hkq.out; omega
            case rel => exact ⟨n + 1 + 1, acc ++ [s0_0[n + 1]], ⟨rfl⟩, HR, ⟨hA2.setFar HI2.out.1 (by decide) (by decide) _⟩, ⟨HI2.out.set_1 _⟩, ⟨KeepBut.set_ (KeepBut.of_below' hB2 g none hB2.size (Nat.le_refl _) HKq.out) 1 _⟩, ⟨below_set (below_weaken HBq.out hw0 hB2) hge⟩⟩
          · have hl2b : decide ((n : Int) + 1 < (s0_0.size : Int)) = false := by simp; omega
            have HR := Aside0.mk (hrel.out.end_ hlt hl2 h2)
            clear h1 h2
            go_wp2_with fail
            go_quiet (fail)
            go_wp2_with fail
            go_quiet (fail)
            go_wp2_with fail
            go_quiet (fail)
            go_wp2_with fail
            go_roundg (s0_0.size + 1 - (n + 1))
            case measure => have := hkq.out; omega
            case rel => exact ⟨n + 1, acc, ⟨rfl⟩, HR, ⟨(IsB.setFar (hA.out.drewN _) (hI.out.drewN _).1 (by decide) (by decide) _).drewN _⟩, ⟨((hI.out.drewN _).set_1 _).drewN _⟩, ⟨KeepBut.set_ hK.out 1 _⟩, ⟨pw_below_drewN (below_set (pw_below_drewN hB.out _) hge) _⟩⟩
        · have b2 := byte_bne (n := 92) h2
          have HR := Aside0.mk (hrel.out.skip hlt h1 h2)
          clear h1 h2
          go_wp2_with fail
          go_quiet (fail)
          go_wp2_with fail
          go_quiet (fail)
          go_wp2_with fail
          go_quiet (fail)
          go_wp2_with fail
          try simp only [World.drewN_drewN]
          generalize hz : World.drewN wr _ = wz
          have HIz : IsS112 w0 wz g s0_0 (n : Int) := by rw [← hz]; exact hI.out.drewN _
          have HAz : IsB w.heap.size acc wz := by rw [← hz]; exact hA.out.drewN _
          have HBz : Below w0.heap.size w0 wz := by rw [← hz]; exact pw_below_drewN hB.out _
          have HKz : KeepBut w wz g none := by rw [← hz]; exact hK.out
          have cz0 := cellS112_0 HIz.1
          have cz1 := cellS112_1 HIz.1
          clear hz
          refine wp_region_still_tail 9 (by kernel_rfl) (by kernel_rfl) ?_
          generalize hwq : World.mk wz.heap wz.tape (wz.drawn + 1) wz.os wz.output = wq
          have cq0 : wq.cell? ⟨g, 0, none⟩ = some (.string s0_0) := by rw [← hwq]; exact cz0
          have cq1 : wq.cell? ⟨g, 1, none⟩ = some (.int .i64 (n : Int)) := by rw [← hwq]; exact cz1
          have HIq : Aside0 (IsS112 w0 wq g s0_0 (n : Int)) := ⟨by rw [← hwq]; exact HIz.drew⟩
          have HAq : Aside0 (IsB w.heap.size acc wq) := ⟨by rw [← hwq]; exact HAz.drew⟩
          have HBq : Aside0 (Below w0.heap.size w0 wq) := ⟨by rw [← hwq]; exact below_drew HBz⟩
          have HKq : Aside0 (KeepBut w wq g none) := ⟨by rw [← hwq]; exact HKz⟩
          clear hwq HIz HAz HBz HKz cz0 cz1
          simp only [List.take_succ_cons, List.take_zero, List.drop_succ_cons, List.drop_zero]
          have za : (0 : Int) ≤ (n : Int) := by omega
          have zb : (n : Int) < (s0_0.size : Int) := by omega
          repeat still_step
          refine wpStill_nil ?_
          go_wp2_with (go_at_call 59; refine (bW1 w.heap.size acc s0_0[n] _ rfl _ HAq.out (by omega)).mono ?_)
          rintro e W ⟨rfl, hA2, hB2, hK2⟩
          have HI2 := stateBelow HIq.out hB2 hglt
          have cw0 := cellS112_0 HI2.1
          have cw1 := cellS112_1 HI2.1
          have cwf := blk_frozen HI2.1 1
          have HI2 := Aside0.mk HI2
          go_wp2
          go_roundg (s0_0.size + 1 - (n + 1))
          case measure => have := hkq.out; omega
          case rel => exact ⟨n + 1, acc ++ [s0_0[n]], ⟨rfl⟩, HR, ⟨hA2.setFar HI2.out.1 (by decide) (by decide) _⟩, ⟨HI2.out.set_1 _⟩, ⟨KeepBut.set_ (KeepBut.of_below' hB2 g none hB2.size (Nat.le_refl _) HKq.out) 1 _⟩, ⟨below_set (below_weaken HBq.out hw0 hB2) hge⟩⟩
    · have hlt' : decide ((n : Int) < (s0_0.size : Int)) = false := by simp; omega
      have HF := Aside0.mk (hrel.out.out hlt)
      have hmin : ¬ (n : Int) < (s0_0.size : Int) := by omega
      go_wp2_with fail
      go_quiet (fail)
      go_wp2_with fail
      generalize hz : World.drewN wr _ = wz
      have cz0 : wz.cell? ⟨g, 0, none⟩ = some (.string s0_0) := by rw [← hz]; exact cs0
      have cz1 : wz.cell? ⟨g, 1, none⟩ = some (.int .i64 n) := by rw [← hz]; exact cs1
      have czf : wz.frozen? ⟨g, 1, none⟩ = false := by rw [← hz]; exact cf1
      have HIz : IsS112 w0 wz g s0_0 n := by rw [← hz]; exact hI.out.drewN _
      have HAz : IsB w.heap.size acc wz := by rw [← hz]; exact hA.out.drewN _
      have HBz : Below w0.heap.size w0 wz := by rw [← hz]; exact pw_below_drewN hB.out _
      have HKz : KeepBut w wz g none := by rw [← hz]; exact hK.out
      clear hz
      refine wp_region_still_tail 12 (by kernel_rfl) (by kernel_rfl) ?_
      generalize hwq : World.mk wz.heap wz.tape (wz.drawn + 1) wz.os wz.output = wq
      have cq0 : wq.cell? ⟨g, 0, none⟩ = some (.string s0_0) := by rw [← hwq]; exact cz0
      have cq1 : wq.cell? ⟨g, 1, none⟩ = some (.int .i64 n) := by rw [← hwq]; exact cz1
      have cqf : wq.frozen? ⟨g, 1, none⟩ = false := by rw [← hwq]; exact czf
      have HIq : Aside0 (IsS112 w0 wq g s0_0 n) := ⟨by rw [← hwq]; exact HIz.drew⟩
      have HAq : Aside0 (IsB w.heap.size acc wq) := ⟨by rw [← hwq]; exact HAz.drew⟩
      have HBq : Aside0 (Below w0.heap.size w0 wq) := ⟨by rw [← hwq]; exact below_drew HBz⟩
      have HKq : Aside0 (KeepBut w wq g none) := ⟨by rw [← hwq]; exact HKz⟩
      clear hwq HIz HAz HBz HKz cz0 cz1 czf
      simp only [List.take_succ_cons, List.take_zero, List.drop_succ_cons, List.drop_zero]
      repeat still_step
      refine wpStill_nil ?_
      go_wp2_with fail
      all_goals
        first | (exfalso; omega) | skip
        go_wp2_with (go_at_call 57; refine (bStr w.heap.size acc _ (HAq.out.setFar HIq.out.1 (by decide) (by decide) _)).mono ?_; rintro e W ⟨rfl, hI', hB', hK'⟩)
        go_ret
        refine ⟨by rw [HF.out.1]; rfl, ?_, below_weaken (below_set HBq.out hge) hw0 hB', ?_⟩
        · refine stateBelow ?_ hB' hglt
          have e : (a : Int) + 1 + ((qtx (s0_0.data.toList.drop (a + 1))).2 : Int) = (s0_0.size : Int) := by have := HF.out.2; omega
          rw [e]
          exact HIq.out.set_1 _
        · exact KeepBut.of_below' hB' g none hB'.size (Nat.le_refl _) (KeepBut.set_ HKq.out 1 _)
end Go.Proofs.YtgmlhmojcemliaaDoor.P
end
section
namespace Go.Proofs.YtgmlhmojcemliaaDoor.P
open Go.RowKit Go.Proofs.YtgmlhmojcemliaaDoorW.PrintWords Go.Proofs.YtgmlhmojcemliaaDoorW.PrintLast Go.Proofs.YtgmlhmojcemliaaDoorW.PrintMore
attribute [local go_sem] max2_int min2_int max_two min_two max_three min_three max_four min_four   -- for this text's walks alone
set_option linter.unusedVariables false
set_option linter.unusedSimpArgs false

/-! ### letter_cursor_host: function 99, GIVEN -/
def hend : List UInt8 → Nat
  | [] => 0
  | c :: l => if c = 93 then 1 else if c = 92 then (match l with | [] => 1 | _ :: l' => 2 + hend l') else 1 + hend l
theorem hend_cons (c : UInt8) (l : List UInt8) : hend (c :: l) = if c = 93 then 1 else if c = 92 then (match l with | [] => 1 | _ :: l' => 2 + hend l') else 1 + hend l := by
  rw [hend.eq_def]
theorem hend_le (l : List UInt8) : hend l ≤ l.length := by
  fun_induction hend l <;> simp_all <;> omega
def letter_cursor_host.f (s : ByteArray) (a : Int) : Option (ByteArray × ByteArray × Int) :=
  if 0 ≤ a ∧ a.toNat ≤ s.size ∧ s.size ≤ 140737488355328 then some (s.extract a.toNat (a.toNat + hend (s.data.toList.drop a.toNat)), s, a + hend (s.data.toList.drop a.toNat)) else none
def HstRel (s : ByteArray) (a n : Nat) : Prop := (n ≤ s.size ∧ a ≤ n ∧ a + hend (s.data.toList.drop a) = n + hend (s.data.toList.drop n)) ∨ (n = s.size + 1 ∧ a ≤ s.size ∧ a + hend (s.data.toList.drop a) = s.size)
theorem HstRel.le {s : ByteArray} {a n : Nat} (h : HstRel s a n) : n ≤ s.size + 1 := by rcases h with ⟨h, _⟩ | ⟨h, _⟩ <;> omega
theorem HstRel.ge {s : ByteArray} {a n : Nat} (h : HstRel s a n) : a ≤ n := by rcases h with ⟨_, h, _⟩ | ⟨h, h', _⟩ <;> omega
theorem HstRel.out {s : ByteArray} {a n : Nat} (h : HstRel s a n) (hn : ¬ n < s.size) : a + hend (s.data.toList.drop a) = s.size := by
  rcases h with ⟨hle, _, h⟩ | ⟨_, _, h⟩
  · obtain rfl : n = s.size := by omega
    have : s.data.toList.drop s.size = [] := by simp
    rw [this] at h
    simpa [hend] using h
  · exact h
theorem HstRel.last {s : ByteArray} {a n : Nat} (h : HstRel s a n) (hn : n < s.size) (hc : s[n] = 93) : a + hend (s.data.toList.drop a) = n + 1 := by
  rcases h with ⟨_, _, h⟩ | ⟨h, _⟩
  · rw [h, drop_byte s n hn, hend_cons, if_pos hc]
  · omega
theorem HstRel.skip {s : ByteArray} {a n : Nat} (h : HstRel s a n) (hn : n < s.size) (h1 : s[n] ≠ 93) (h2 : s[n] ≠ 92) : HstRel s a (n + 1) := by
  rcases h with ⟨_, _, h⟩ | ⟨h, _⟩
  · refine .inl ⟨by omega, by omega, ?_⟩
    rw [h, drop_byte s n hn, hend_cons, if_neg h1, if_neg h2]; omega
  · omega
theorem HstRel.back {s : ByteArray} {a n : Nat} (h : HstRel s a n) (hn : n < s.size) (h3 : s[n] = 92) : HstRel s a (n + 1 + 1) := by
  rcases h with ⟨_, hge, h⟩ | ⟨h, _⟩
  · rw [drop_byte s n hn, hend_cons, if_neg (by rw [h3]; decide), if_pos h3] at h
    by_cases hl : n + 1 < s.size
    · refine .inl ⟨by omega, by omega, ?_⟩
      rw [drop_byte s (n + 1) hl] at h
      simp only at h
      rw [h]; omega
    · refine .inr ⟨by omega, by omega, ?_⟩
      have e : s.data.toList.drop (n + 1) = [] := by simp; omega
      rw [e] at h
      simp only at h
      omega
  · omega
set_option maxHeartbeats 2000000 in
set_option maxRecDepth 100000 in
theorem letter_cursor_host.calls (g : Nat) (s0_0 : ByteArray) (s0_1 : Int) (r1 : ByteArray) (r2 : ByteArray) (r3 : Int) (w0 w : World) (hI : IsS112 w0 w g s0_0 s0_1) (hB : Below w0.heap.size w0 w) (h : letter_cursor_host.f s0_0 s0_1 = some (r1, r2, r3)) :
    Calls Tryd.prog 99 #[.pointer (some ⟨g, 0, none⟩)] w fun e w' => e = .returned (.string r1) ∧ IsS112 w0 w' g r2 r3 ∧ Below w0.heap.size w0 w' ∧ KeepBut w w' g none := by
  unfold letter_cursor_host.f at h
  split at h
  case isFalse => cases h
  rename_i hc
  obtain ⟨ha0, halt, hsz⟩ := hc
  simp only [Option.some.injEq, Prod.mk.injEq] at h
  obtain ⟨rfl, rfl, rfl⟩ := h
  obtain ⟨a, rfl⟩ := Int.eq_ofNat_of_zero_le ha0
  rw [Int.toNat_natCast] at halt ⊢
  have hge := hI.ge
  have HI := Aside0.mk hI
  have HB := Aside0.mk hB
  have ci0 := cellS112_0 hI.1
  have ci1 := cellS112_1 hI.1
  clear hI hB ha0
  go_enter Tryd.func99, Tryd.ntmps99
  go_wp2
  go_loopg [] (s0_0.size + 1 - a) (fun kq w' => ∃ (n : Nat), Aside0 (kq = s0_0.size + 1 - n) ∧ Aside0 (HstRel s0_0 a n) ∧ Aside0 (IsS112 w0 w' g s0_0 n) ∧ Aside0 (KeepBut w w' g none) ∧ Aside0 (Below w0.heap.size w0 w'))
  case atStart => exact ⟨a, ⟨rfl⟩, ⟨.inl ⟨halt, Nat.le_refl _, rfl⟩⟩, HI, ⟨KeepBut.refl _ _ _⟩, HB⟩
  case round =>
    clear ci0 ci1
    obtain ⟨n, hkq, hrel, hI, hK, hB⟩ := hrel
    have hn := hrel.out.le
    have hblk := hI.out.1
    have cs0 := cellS112_0 hblk
    have cs1 := cellS112_1 hblk
    have cf1 := blk_frozen hblk 1
    clear hblk
    by_cases hlt : n < s0_0.size
    · have hltb : decide ((n : Int) < (s0_0.size : Int)) = true := by simp; omega
      by_cases h1 : s0_0[n] = 93
      · have b1 : ((s0_0[n].toNat : Int) != 93) = false := by have := byte_beq (n := 93) (by decide) h1; simpa using this
        have HF := Aside0.mk (hrel.out.last hlt h1)
        have hmin : (n : Int) + 1 ≤ (s0_0.size : Int) := by omega
        clear h1
        go_wp2_with fail
        go_quiet (fail)
        go_wp2_with fail
        generalize hz : World.drewN wr _ = wz
        have cz0 : wz.cell? ⟨g, 0, none⟩ = some (.string s0_0) := by rw [← hz]; exact cs0
        have cz1 : wz.cell? ⟨g, 1, none⟩ = some (.int .i64 n) := by rw [← hz]; exact cs1
        have czf : wz.frozen? ⟨g, 1, none⟩ = false := by rw [← hz]; exact cf1
        have HIz : IsS112 w0 wz g s0_0 n := by rw [← hz]; exact hI.out.drewN _
        have HBz : Below w0.heap.size w0 wz := by rw [← hz]; exact pw_below_drewN hB.out _
        have HKz : KeepBut w wz g none := by rw [← hz]; exact hK.out
        clear hz
        refine wp_region_still_tail 12 (by kernel_rfl) (by kernel_rfl) ?_
        generalize hwq : World.mk wz.heap wz.tape (wz.drawn + 1) wz.os wz.output = wq
        have cq0 : wq.cell? ⟨g, 0, none⟩ = some (.string s0_0) := by rw [← hwq]; exact cz0
        have cq1 : wq.cell? ⟨g, 1, none⟩ = some (.int .i64 n) := by rw [← hwq]; exact cz1
        have cqf : wq.frozen? ⟨g, 1, none⟩ = false := by rw [← hwq]; exact czf
        have HIq : Aside0 (IsS112 w0 wq g s0_0 n) := ⟨by rw [← hwq]; exact HIz.drew⟩
        have HBq : Aside0 (Below w0.heap.size w0 wq) := ⟨by rw [← hwq]; exact below_drew HBz⟩
        have HKq : Aside0 (KeepBut w wq g none) := ⟨by rw [← hwq]; exact HKz⟩
        clear hwq HIz HBz HKz cz0 cz1 czf
        simp only [List.take_succ_cons, List.take_zero, List.drop_succ_cons, List.drop_zero]
        repeat still_step
        refine wpStill_nil ?_
        have za : (0 : Int) ≤ (a : Int) := by omega
        have zn : (a : Int) ≤ (n : Int) := by have := hrel.out.ge; omega
        go_wp2_with fail
        all_goals
          first | (exfalso; omega) | skip
          have e : a + hend (s0_0.data.toList.drop a) = n + 1 := by have := HF.out; omega
          generalize hW : World.setCell _ _ _ = W
          obtain ⟨mm, em, HIW⟩ : ∃ mm : Nat, mm = a + hend (s0_0.data.toList.drop a) ∧ IsS112 w0 W g s0_0 (mm : Int) := ⟨_, rfl, by rw [← hW, e]; exact HIq.out.set_1 _⟩
          have HBW : Below w0.heap.size w0 W := by rw [← hW]; exact below_set HBq.out hge
          have HKW : KeepBut w W g none := by rw [← hW]; exact KeepBut.set_ HKq.out 1 _
          have cw0 := cellS112_0 HIW.1
          have cw1 := cellS112_1 HIW.1
          clear hW
          have m1 : a ≤ mm := by omega
          have m2 : mm ≤ s0_0.size := by omega
          have m3 : (a : Int) ≤ (mm : Int) := by omega
          have m4 : (mm : Int) ≤ (s0_0.size : Int) := by omega
          have EM := Aside0.mk em
          clear em e
          repeat (go_quiet (fail); try go_wp2)
          go_ret
          refine ⟨by rw [← EM.out]; simp, ?_, pw_below_drewN HBW _, HKW⟩
          have := EM.out
          rw [show (a : Int) + (hend (s0_0.data.toList.drop a) : Int) = (mm : Int) from by omega]
          exact HIW.drewN _
      · have b1 : ((s0_0[n].toNat : Int) != 93) = true := by have := byte_bne (n := 93) h1; simpa using this
        by_cases h2 : s0_0[n] = 92
        · have b2 := byte_beq (by decide) h2
          have HR := Aside0.mk (hrel.out.back hlt h2)
          clear h1 h2
          go_wp2_with fail
          repeat (go_quiet (fail); try go_wp2)
          go_roundg (s0_0.size + 1 - (n + 1 + 1))
          case measure => have := hkq.out; omega
          case rel => exact ⟨n + 1 + 1, ⟨rfl⟩, HR, ⟨((hI.out.drewN _).set_1 _).set_1 _⟩, ⟨KeepBut.set_ (KeepBut.set_ hK.out 1 _) 1 _⟩, ⟨below_set (below_set (pw_below_drewN hB.out _) hge) hge⟩⟩
        · have b2 := byte_bne (n := 92) h2
          have HR := Aside0.mk (hrel.out.skip hlt h1 h2)
          clear h1 h2
          go_wp2_with fail
          repeat (go_quiet (fail); try go_wp2)
          go_roundg (s0_0.size + 1 - (n + 1))
          case measure => have := hkq.out; omega
          case rel => exact ⟨n + 1, ⟨rfl⟩, HR, ⟨(hI.out.drewN _).set_1 _⟩, ⟨KeepBut.set_ hK.out 1 _⟩, ⟨below_set (pw_below_drewN hB.out _) hge⟩⟩
    · have hlt' : decide ((n : Int) < (s0_0.size : Int)) = false := by simp; omega
      have HF := Aside0.mk (hrel.out.out hlt)
      have hmin : ¬ (n : Int) < (s0_0.size : Int) := by omega
      go_wp2_with fail
      go_quiet (fail)
      go_wp2_with fail
      generalize hz : World.drewN wr _ = wz
      have cz0 : wz.cell? ⟨g, 0, none⟩ = some (.string s0_0) := by rw [← hz]; exact cs0
      have cz1 : wz.cell? ⟨g, 1, none⟩ = some (.int .i64 n) := by rw [← hz]; exact cs1
      have czf : wz.frozen? ⟨g, 1, none⟩ = false := by rw [← hz]; exact cf1
      have HIz : IsS112 w0 wz g s0_0 n := by rw [← hz]; exact hI.out.drewN _
      have HBz : Below w0.heap.size w0 wz := by rw [← hz]; exact pw_below_drewN hB.out _
      have HKz : KeepBut w wz g none := by rw [← hz]; exact hK.out
      clear hz
      refine wp_region_still_tail 12 (by kernel_rfl) (by kernel_rfl) ?_
      generalize hwq : World.mk wz.heap wz.tape (wz.drawn + 1) wz.os wz.output = wq
      have cq0 : wq.cell? ⟨g, 0, none⟩ = some (.string s0_0) := by rw [← hwq]; exact cz0
      have cq1 : wq.cell? ⟨g, 1, none⟩ = some (.int .i64 n) := by rw [← hwq]; exact cz1
      have cqf : wq.frozen? ⟨g, 1, none⟩ = false := by rw [← hwq]; exact czf
      have HIq : Aside0 (IsS112 w0 wq g s0_0 n) := ⟨by rw [← hwq]; exact HIz.drew⟩
      have HBq : Aside0 (Below w0.heap.size w0 wq) := ⟨by rw [← hwq]; exact below_drew HBz⟩
      have HKq : Aside0 (KeepBut w wq g none) := ⟨by rw [← hwq]; exact HKz⟩
      clear hwq HIz HBz HKz cz0 cz1 czf
      simp only [List.take_succ_cons, List.take_zero, List.drop_succ_cons, List.drop_zero]
      repeat still_step
      refine wpStill_nil ?_
      have za : (0 : Int) ≤ (a : Int) := by omega
      have zn : (a : Int) ≤ (n : Int) := by have := hrel.out.ge; omega
      go_wp2_with fail
      all_goals
        first | (exfalso; omega) | skip
        have e : a + hend (s0_0.data.toList.drop a) = s0_0.size := by have := HF.out; omega
        generalize hW : World.setCell _ _ _ = W
        obtain ⟨mm, em, HIW⟩ : ∃ mm : Nat, mm = a + hend (s0_0.data.toList.drop a) ∧ IsS112 w0 W g s0_0 (mm : Int) := ⟨_, rfl, by rw [← hW, e]; exact HIq.out.set_1 _⟩
        have HBW : Below w0.heap.size w0 W := by rw [← hW]; exact below_set HBq.out hge
        have HKW : KeepBut w W g none := by rw [← hW]; exact KeepBut.set_ HKq.out 1 _
        have cw0 := cellS112_0 HIW.1
        have cw1 := cellS112_1 HIW.1
        clear hW
        have m1 : a ≤ mm := by omega
        have m2 : mm ≤ s0_0.size := by omega
        have m3 : (a : Int) ≤ (mm : Int) := by omega
        have m4 : (mm : Int) ≤ (s0_0.size : Int) := by omega
        have EM := Aside0.mk em
        clear em e
        repeat (go_quiet (fail); try go_wp2)
        go_ret
        refine ⟨by rw [← EM.out]; simp, ?_, pw_below_drewN HBW _, HKW⟩
        have := EM.out
        rw [show (a : Int) + (hend (s0_0.data.toList.drop a) : Int) = (mm : Int) from by omega]
        exact HIW.drewN _
end Go.Proofs.YtgmlhmojcemliaaDoor.P
end
section
namespace Go.Proofs.YtgmlhmojcemliaaDoor.P
open Go.RowKit Go.Proofs.YtgmlhmojcemliaaDoorW.PrintWords Go.Proofs.YtgmlhmojcemliaaDoorW.PrintLast Go.Proofs.YtgmlhmojcemliaaDoorW.PrintMore
attribute [local go_sem] max2_int min2_int max_two min_two max_three min_three max_four min_four   -- for this text's walks alone
set_option linter.unusedVariables false
set_option linter.unusedSimpArgs false

/-! ### letter_cursor_next: function 58, GIVEN -/
def isSg (c : UInt8) : Bool := c == 60 || c == 62 || c == 58 || c == 59 || c == 64 || c == 44 || c == 46
def isAt (c : UInt8) : Bool := !isSp c && !isSg c && !(c == 40 || c == 41 || c == 91 || c == 93 || c == 92 || c == 34)
theorem isSg_f (c : UInt8) : letter_isSign.f (c.toNat : Int) = some (isSg c) := by
  have h : ∀ n : Fin 256, letter_isSign.f (n.val : Int) = some (isSg (UInt8.ofNat n.val)) := by decide +kernel
  have := h ⟨c.toNat, c.toNat_lt⟩
  simpa using this
theorem isAt_f (c : UInt8) : letter_isAtom.f (c.toNat : Int) = some (isAt c) := by
  have h : ∀ n : Fin 256, letter_isAtom.f (n.val : Int) = some (isAt (UInt8.ofNat n.val)) := by decide +kernel
  have := h ⟨c.toNat, c.toNat_lt⟩
  simpa using this
theorem sg_enc (c : UInt8) (h : isSg c = true) : Utf8.encode (c.toNat : Int) = ⟨#[c]⟩ := by
  have h' : ∀ n : Fin 256, isSg (UInt8.ofNat n.val) = true → Utf8.encode (n.val : Int) = ⟨#[UInt8.ofNat n.val]⟩ := by decide +kernel
  have := h' ⟨c.toNat, c.toNat_lt⟩
  simpa using this (by simpa using h)
theorem at_sg (c : UInt8) (h : isSg c = true) : isAt c = false := by simp [isAt, h]
def nxt : List UInt8 → Int × List UInt8 × Nat
  | [] => (0, [], 0)
  | c :: l => if c = 40 then (0, [], 1 + cmt l 1) else if c = 34 then (1, (qtx l).1, 1 + (qtx l).2) else if c = 91 then (2, (c :: l).take (hend (c :: l)), hend (c :: l)) else if isSg c = true then (3, [c], 1) else if isAt c = true then (4, (c :: l).takeWhile isAt, ((c :: l).takeWhile isAt).length) else (0, [], 1)
def letter_cursor_next.f (s : ByteArray) (a : Int) : Option (Int × ByteArray × ByteArray × Int) :=
  if 0 ≤ a ∧ a.toNat < s.size ∧ s.size ≤ 140737488355328 then some ((nxt (s.data.toList.drop a.toNat)).1, ⟨(nxt (s.data.toList.drop a.toNat)).2.1.toArray⟩, s, a + (nxt (s.data.toList.drop a.toNat)).2.2) else none
theorem extract_take (s : ByteArray) (n h : Nat) : s.extract n (n + h) = ⟨((s.data.toList.drop n).take h).toArray⟩ := by
  apply ByteArray.ext
  rw [ByteArray.data_extract]
  apply Array.toList_inj.1
  simp [Array.toList_extract, List.extract_eq_take_drop]
theorem len_takeWhile_le (p : UInt8 → Bool) (l : List UInt8) : (l.takeWhile p).length ≤ l.length := (List.takeWhile_sublist p).length_le
theorem at_fin (s : ByteArray) (a n : Nat) (han : a ≤ n) (h : ((s.data.toList.drop a).takeWhile isAt).length = n - a + ([] : List UInt8).length) : (⟨((s.data.toList.drop a).takeWhile isAt).toArray⟩ : ByteArray) = s.extract a n ∧ ((s.data.toList.drop a).takeWhile isAt).length = n - a := by
  have h2 : ((s.data.toList.drop a).takeWhile isAt).length = n - a := by simpa using h
  refine ⟨?_, h2⟩
  have e := List.prefix_iff_eq_take.1 (List.takeWhile_prefix isAt (l := s.data.toList.drop a))
  rw [h2] at e
  rw [show n = a + (n - a) from by omega, extract_take, ← e]
theorem nxt_fin {w0 w W : World} {g gb : Nat} {s : ByteArray} {n k : Int} {t : ByteArray} {c0 c1 : Value} (hS : IsS112 w0 W g s n) (hB : Below w0.heap.size w0 W) (hK : KeepBut w W g none) (hx : W.heap[gb]? = some (.cells #[c0, c1] 71 (0, 0))) (hgb : g ≠ gb) (hgw : w.heap.size ≤ gb) (hw0 : w0.heap.size ≤ w.heap.size) :
    ((W.setCell ⟨gb, 0, none⟩ (.int .i64 k)).setCell ⟨gb, 1, none⟩ (.string t)).heap[gb]? = some (.cells #[.int .i64 k, .string t] 71 (0, 0)) ∧ IsS112 w0 ((W.setCell ⟨gb, 0, none⟩ (.int .i64 k)).setCell ⟨gb, 1, none⟩ (.string t)) g s n ∧ Below w0.heap.size w0 ((W.setCell ⟨gb, 0, none⟩ (.int .i64 k)).setCell ⟨gb, 1, none⟩ (.string t)) ∧ KeepBut w ((W.setCell ⟨gb, 0, none⟩ (.int .i64 k)).setCell ⟨gb, 1, none⟩ (.string t)) g none := by
  refine ⟨blk_put (cs := #[.int .i64 k, c1]) (blk_put hx 0 _ rfl) 1 _ rfl, (hS.far (p := ⟨gb, 0, none⟩) hgb _).far (p := ⟨gb, 1, none⟩) hgb _, below_set (below_set hB (by omega)) (by omega), ?_⟩
  refine ⟨by simpa [World.setCell] using hK.1, fun i hi hg hr => ?_⟩
  rw [Below.heap_setCell _ ⟨gb, 1, none⟩ _ i (by simp; omega), Below.heap_setCell _ ⟨gb, 0, none⟩ _ i (by simp; omega)]
  exact hK.2 i hi hg hr
set_option maxHeartbeats 4000000 in
set_option maxRecDepth 100000 in
theorem letter_cursor_next.calls (g : Nat) (s0_0 : ByteArray) (s0_1 : Int) (r1 : Int) (r2 : ByteArray) (r3 : ByteArray) (r4 : Int) (w0 w : World) (hI : IsS112 w0 w g s0_0 s0_1) (hB : Below w0.heap.size w0 w) (h : letter_cursor_next.f s0_0 s0_1 = some (r1, r2, r3, r4)) :
    Calls Tryd.prog 58 #[.pointer (some ⟨g, 0, none⟩)] w fun e w' => e = .returned (.agg #[.int .i64 r1, .string r2]) ∧ IsS112 w0 w' g r3 r4 ∧ Below w0.heap.size w0 w' ∧ KeepBut w w' g none := by
  unfold letter_cursor_next.f at h
  split at h
  case isFalse => cases h
  rename_i hc
  obtain ⟨ha0, halt, hsz⟩ := hc
  simp only [Option.some.injEq, Prod.mk.injEq] at h
  obtain ⟨a, rfl⟩ := Int.eq_ofNat_of_zero_le ha0
  rw [Int.toNat_natCast] at halt h
  rw [drop_byte s0_0 a halt] at h
  have hget : s0_0.data.toList[a]? = some s0_0[a] := by rw [List.getElem?_eq_getElem (by simpa using halt)]; rfl
  have hge := hI.ge
  have hglt := hI.lt
  have hw0 := hB.size
  have hH := Aside0.mk h
  have HI := Aside0.mk hI
  have HB := Aside0.mk hB
  have HGET := Aside0.mk hget
  clear hI hB ha0 h hget
  go_enter Tryd.func58, Tryd.ntmps58
  go_wp2_with ((with_reducible refine gate_dst (N := 2) rfl ?_); refine box_event ?hg (N := 2) ?hd (cs := #[.int .i64 0, .string (⟨#[]⟩ : ByteArray)]) (t := 71) ?hr ?_; (case hd => rfl); (case hg => rfl); (case hr => first | (go_simp; done) | (go_simp; rfl)))
  intro w2 hbox hb
  have hI2 := HI.out.below hb
  have hB2 : Below w0.heap.size w0 w2 := below_step HB.out hb
  have hK2 : KeepBut w w2 g none := KeepBut.of_below hb g none
  have hgb : g ≠ w.heap.size := by omega
  have hgb' : w.heap.size ≤ w.heap.size := by omega
  have cs0 := cellS112_0 hI2.1
  have cs1 := cellS112_1 hI2.1
  have cf1 := blk_frozen hI2.1 1
  have bf0 := blk_frozen hbox 0
  have bf1 := blk_frozen hbox 1
  have bc0 : w2.cell? ⟨w.heap.size, 0, none⟩ = some (.int .i64 0) := (blk_cell hbox 0).trans rfl
  have bc1 : w2.cell? ⟨w.heap.size, 1, none⟩ = some (.string (⟨#[]⟩ : ByteArray)) := (blk_cell hbox 1).trans rfl
  have HI2 := Aside0.mk hI2
  have HB2 := Aside0.mk hB2
  have HK2 := Aside0.mk hK2
  have HX := Aside0.mk hbox
  clear hI2 hB2 hK2 hbox hb HI HB
  have hltb : decide ((a : Int) < (s0_0.size : Int)) = true := by simp; omega
  have HN := nxt.eq_2 s0_0[a] (s0_0.data.toList.drop (a + 1))
  by_cases h1 : s0_0[a] = 40
  · have b1 := byte_beq (by decide) h1
    have H1 := Aside0.mk h1
    clear h1
    go_wp2_with fail
    go_quiet (fail)
    go_wp2_with (go_at_call 97; refine (letter_cursor_comment.calls g s0_0 a s0_0 ((a : Int) + 1 + cmt (s0_0.data.toList.drop (a + 1)) 1) w0 _ ?q1 ?q2 ?q3).mono ?_)
    case q1 => exact HI2.out.drewN _
    case q2 => exact pw_below_drewN HB2.out _
    case q3 => unfold letter_cursor_comment.f; rw [if_pos ⟨by omega, by rw [Int.toNat_natCast]; exact halt, hsz, by rw [Int.toNat_natCast, HGET.out, H1.out]⟩, Int.toNat_natCast]
    rintro e W ⟨rfl, hI3, hB3, hK3⟩
    have hx3 : W.heap[w.heap.size]? = some (.cells #[.int .i64 0, .string (⟨#[]⟩ : ByteArray)] 71 (0, 0)) := hK3.blk (blk_drewN HX.out _) (by omega) (by simp)
    have bf0' := blk_frozen hx3 0
    have bf1' := blk_frozen hx3 1
    have bc0' : W.cell? ⟨w.heap.size, 0, none⟩ = some (.int .i64 0) := (blk_cell hx3 0).trans rfl
    have bc1' : W.cell? ⟨w.heap.size, 1, none⟩ = some (.string (⟨#[]⟩ : ByteArray)) := (blk_cell hx3 1).trans rfl
    have HI3 := Aside0.mk hI3
    have HX3 := Aside0.mk hx3
    have HB3 := Aside0.mk hB3
    have HK3 := Aside0.mk (HK2.out.trans hK3 (.inl rfl))
    clear hI3 hx3 hB3 hK3
    go_wp2
    obtain ⟨e1, e2, e3, e4⟩ := nxt_fin (k := 0) (t := (⟨#[]⟩ : ByteArray)) HI3.out HB3.out HK3.out HX3.out hgb hgb' hw0
    refine bodyPost_ret (results_cell_row rfl _ _ w.heap.size 71 #[.int .i64 0, .string (⟨#[]⟩ : ByteArray)] (0, 0) _ rfl e1 Tryd.underlying71 rfl (by kernel_rfl)) rfl ?_
    have hH := hH.out
    rw [HN, if_pos H1.out] at hH
    obtain ⟨rfl, rfl, rfl, rfl⟩ := hH
    refine ⟨by rfl, ?_, e3, e4⟩
    rw [show (a : Int) + ((1 + cmt (s0_0.data.toList.drop (a + 1)) 1 : Nat) : Int) = (a : Int) + 1 + (cmt (s0_0.data.toList.drop (a + 1)) 1 : Int) from by omega]
    exact e2
  have b1 := byte_bne (n := 40) h1
  by_cases h2 : s0_0[a] = 34
  · have b2 := byte_beq (by decide) h2
    have H1 := Aside0.mk h1
    have H2 := Aside0.mk h2
    clear h1 h2
    go_wp2_with fail
    go_quiet (fail)
    go_wp2_with (go_at_call 98; refine (letter_cursor_quotes.calls g s0_0 a (⟨(qtx (s0_0.data.toList.drop (a + 1))).1.toArray⟩ : ByteArray) s0_0 ((a : Int) + 1 + (qtx (s0_0.data.toList.drop (a + 1))).2) w0 _ ?q1 ?q2 ?q3).mono ?_)
    case q1 => exact HI2.out.drewN _
    case q2 => exact pw_below_drewN HB2.out _
    case q3 => unfold letter_cursor_quotes.f; rw [if_pos ⟨by omega, by rw [Int.toNat_natCast]; exact halt, hsz⟩, Int.toNat_natCast]
    rintro e W ⟨rfl, hI3, hB3, hK3⟩
    have hx3 : W.heap[w.heap.size]? = some (.cells #[.int .i64 0, .string (⟨#[]⟩ : ByteArray)] 71 (0, 0)) := hK3.blk (blk_drewN HX.out _) (by omega) (by simp)
    have bf0' := blk_frozen hx3 0
    have bf1' := blk_frozen hx3 1
    have bc0' : W.cell? ⟨w.heap.size, 0, none⟩ = some (.int .i64 0) := (blk_cell hx3 0).trans rfl
    have bc1' : W.cell? ⟨w.heap.size, 1, none⟩ = some (.string (⟨#[]⟩ : ByteArray)) := (blk_cell hx3 1).trans rfl
    have HI3 := Aside0.mk hI3
    have HX3 := Aside0.mk hx3
    have HB3 := Aside0.mk hB3
    have HK3 := Aside0.mk (HK2.out.trans hK3 (.inl rfl))
    clear hI3 hx3 hB3 hK3
    go_wp2
    obtain ⟨e1, e2, e3, e4⟩ := nxt_fin (k := 1) (t := (⟨(qtx (s0_0.data.toList.drop (a + 1))).1.toArray⟩ : ByteArray)) HI3.out HB3.out HK3.out HX3.out hgb hgb' hw0
    refine bodyPost_ret (results_cell_row rfl _ _ w.heap.size 71 #[.int .i64 1, .string (⟨(qtx (s0_0.data.toList.drop (a + 1))).1.toArray⟩ : ByteArray)] (0, 0) _ rfl e1 Tryd.underlying71 rfl (by kernel_rfl)) rfl ?_
    have hH := hH.out
    rw [HN, if_neg H1.out, if_pos H2.out] at hH
    obtain ⟨rfl, rfl, rfl, rfl⟩ := hH
    refine ⟨by rfl, ?_, e3, e4⟩
    rw [show (a : Int) + ((1 + (qtx (s0_0.data.toList.drop (a + 1))).2 : Nat) : Int) = (a : Int) + 1 + ((qtx (s0_0.data.toList.drop (a + 1))).2 : Int) from by omega]
    exact e2
  have b2 := byte_bne (n := 34) h2
  by_cases h3 : s0_0[a] = 91
  · have b3 := byte_beq (by decide) h3
    have H1 := Aside0.mk h1
    have H2 := Aside0.mk h2
    have H3 := Aside0.mk h3
    clear h1 h2 h3
    go_wp2_with fail
    go_quiet (fail)
    go_wp2_with (go_at_call 99; refine (letter_cursor_host.calls g s0_0 a (s0_0.extract a (a + hend (s0_0.data.toList.drop a))) s0_0 ((a : Int) + hend (s0_0.data.toList.drop a)) w0 _ ?q1 ?q2 ?q3).mono ?_)
    case q1 => exact HI2.out.drewN _
    case q2 => exact pw_below_drewN HB2.out _
    case q3 => unfold letter_cursor_host.f; rw [if_pos ⟨by omega, by rw [Int.toNat_natCast]; omega, hsz⟩, Int.toNat_natCast]
    rintro e W ⟨rfl, hI3, hB3, hK3⟩
    have hx3 : W.heap[w.heap.size]? = some (.cells #[.int .i64 0, .string (⟨#[]⟩ : ByteArray)] 71 (0, 0)) := hK3.blk (blk_drewN HX.out _) (by omega) (by simp)
    have bf0' := blk_frozen hx3 0
    have bf1' := blk_frozen hx3 1
    have bc0' : W.cell? ⟨w.heap.size, 0, none⟩ = some (.int .i64 0) := (blk_cell hx3 0).trans rfl
    have bc1' : W.cell? ⟨w.heap.size, 1, none⟩ = some (.string (⟨#[]⟩ : ByteArray)) := (blk_cell hx3 1).trans rfl
    have HI3 := Aside0.mk hI3
    have HX3 := Aside0.mk hx3
    have HB3 := Aside0.mk hB3
    have HK3 := Aside0.mk (HK2.out.trans hK3 (.inl rfl))
    clear hI3 hx3 hB3 hK3
    go_wp2
    obtain ⟨e1, e2, e3, e4⟩ := nxt_fin (k := 2) (t := (s0_0.extract a (a + hend (s0_0.data.toList.drop a)))) HI3.out HB3.out HK3.out HX3.out hgb hgb' hw0
    refine bodyPost_ret (results_cell_row rfl _ _ w.heap.size 71 #[.int .i64 2, .string (s0_0.extract a (a + hend (s0_0.data.toList.drop a)))] (0, 0) _ rfl e1 Tryd.underlying71 rfl (by kernel_rfl)) rfl ?_
    have hH := hH.out
    rw [HN, if_neg H1.out, if_neg H2.out, if_pos H3.out] at hH
    obtain ⟨rfl, rfl, rfl, rfl⟩ := hH
    refine ⟨by rw [extract_take, drop_byte s0_0 a halt], ?_, e3, e4⟩
    rw [← drop_byte s0_0 a halt]
    exact e2
  have b3 := byte_bne (n := 91) h3
  by_cases h4 : isSg s0_0[a] = true
  · have H1 := Aside0.mk h1
    have H2 := Aside0.mk h2
    have H3 := Aside0.mk h3
    have H4 := Aside0.mk h4
    clear h1 h2 h3 h4
    go_wp2_with fail
    go_quiet (fail)
    go_wp2_with (go_at_call 100; refine (letter_isSign.calls _ true _ (by rw [isSg_f, H4.out])).mono ?_)
    rintro e W ⟨rfl, ⟨nd, rfl⟩⟩
    go_wp2
    refine bodyPost_ret (results_cell_row rfl _ _ w.heap.size 71 #[.int .i64 3, .string (Utf8.encode (s0_0[a].toNat : Int))] (0, 0) _ rfl (nxt_fin (k := 3) (t := (Utf8.encode (s0_0[a].toNat : Int))) ((HI2.out.drewN _).set_1 _) (below_set (pw_below_drewN HB2.out _) hge) (KeepBut.set_ HK2.out 1 _) (blk_far (blk_drewN HX.out _) (Ne.symm hgb) _) hgb hgb' hw0).1 Tryd.underlying71 rfl (by kernel_rfl)) rfl ?_
    have hH := hH.out
    rw [HN, if_neg H1.out, if_neg H2.out, if_neg H3.out, if_pos H4.out] at hH
    obtain ⟨rfl, rfl, rfl, rfl⟩ := hH
    exact ⟨by rw [sg_enc _ H4.out], (nxt_fin (k := 3) (t := (Utf8.encode (s0_0[a].toNat : Int))) ((HI2.out.drewN _).set_1 _) (below_set (pw_below_drewN HB2.out _) hge) (KeepBut.set_ HK2.out 1 _) (blk_far (blk_drewN HX.out _) (Ne.symm hgb) _) hgb hgb' hw0).2⟩
  by_cases h5 : isAt s0_0[a] = true
  · have H1 := Aside0.mk h1
    have H2 := Aside0.mk h2
    have H3 := Aside0.mk h3
    have H4 := Aside0.mk h4
    have H5 := Aside0.mk h5
    clear h1 h2 h3 h4 h5
    go_wp2_with fail
    go_quiet (fail)
    go_wp2_with (first | (go_at_call 100; refine (letter_isSign.calls _ false _ (by rw [isSg_f, eq_false_of_ne_true H4.out])).mono ?_; rintro e W ⟨rfl, ⟨nd, rfl⟩⟩) | (go_at_call 101; refine (letter_isAtom.calls _ true _ (by rw [isAt_f, H5.out])).mono ?_; rintro e W ⟨rfl, ⟨nd2, rfl⟩⟩))
    generalize hz : World.drewN w2 _ = w3
    have HI3 : Aside0 (IsS112 w0 w3 g s0_0 (a : Int)) := ⟨by rw [← hz]; exact HI2.out.drewN _⟩
    have HX3 : Aside0 (w3.heap[w.heap.size]? = some (.cells #[.int .i64 0, .string (⟨#[]⟩ : ByteArray)] 71 (0, 0))) := ⟨by rw [← hz]; exact HX.out⟩
    have HB3 : Aside0 (Below w0.heap.size w0 w3) := ⟨by rw [← hz]; exact pw_below_drewN HB2.out _⟩
    have HK3 : Aside0 (KeepBut w w3 g none) := ⟨by rw [← hz]; exact HK2.out⟩
    clear hz
    go_loopg [] (s0_0.size - a) (fun kq w' => ∃ (n : Nat), Aside0 (kq = s0_0.size - n) ∧ a ≤ n ∧ n ≤ s0_0.size ∧ Aside0 (((s0_0.data.toList.drop a).takeWhile isAt).length = (n - a) + ((s0_0.data.toList.drop n).takeWhile isAt).length) ∧ Aside0 (IsS112 w0 w' g s0_0 n) ∧ Aside0 (w'.heap[w.heap.size]? = some (.cells #[.int .i64 0, .string (⟨#[]⟩ : ByteArray)] 71 (0, 0))) ∧ Aside0 (KeepBut w w' g none) ∧ Aside0 (Below w0.heap.size w0 w'))
    case atStart => exact ⟨a, ⟨rfl⟩, Nat.le_refl _, by omega, ⟨by omega⟩, HI3, HX3, HK3, HB3⟩
    case round =>
      clear cs0 cs1 cf1 bf0 bf1 bc0 bc1
      obtain ⟨n, hkq, han, hn, hrel, hI, hX, hK, hB⟩ := hrel
      have cs0 := cellS112_0 hI.out.1
      have cs1 := cellS112_1 hI.out.1
      have cf1 := blk_frozen hI.out.1 1
      by_cases hlt : n < s0_0.size
      · have hltc : decide ((n : Int) < (s0_0.size : Int)) = true := by simp; omega
        have hr := hrel.out
        rw [drop_byte s0_0 n hlt, List.takeWhile_cons] at hr
        by_cases h6 : isAt s0_0[n] = true
        · rw [if_pos h6] at hr
          have HR := Aside0.mk (show ((s0_0.data.toList.drop a).takeWhile isAt).length = (n + 1 - a) + ((s0_0.data.toList.drop (n + 1)).takeWhile isAt).length by simp only [List.length_cons] at hr; omega)
          have H6 := Aside0.mk h6
          clear hr h6
          go_wp2_with fail
          go_quiet ((go_at_call 101; exact Calls.quiet_of ((letter_isAtom.calls _ true _ (by rw [isAt_f, H6.out])).mono fun e w' h => ⟨h.1, h.2.out⟩)))
          go_wp2
          go_roundg (s0_0.size - (n + 1))
          case measure => have := hkq.out; omega
          case rel => exact ⟨n + 1, ⟨rfl⟩, by omega, by omega, HR, ⟨(hI.out.drewN _).set_1 _⟩, ⟨blk_far (blk_drewN hX.out _) (Ne.symm hgb) _⟩, ⟨KeepBut.set_ hK.out 1 _⟩, ⟨below_set (pw_below_drewN hB.out _) hge⟩⟩
        · rw [if_neg h6] at hr
          have HF := Aside0.mk (at_fin s0_0 a n han hr)
          have H6 := Aside0.mk (eq_false_of_ne_true h6)
          clear hr h6
          go_wp2_with fail
          go_quiet ((go_at_call 101; exact Calls.quiet_of ((letter_isAtom.calls _ false _ (by rw [isAt_f, H6.out])).mono fun e w' h => ⟨h.1, h.2.out⟩)))
          go_wp2_with fail
          generalize hz : World.drewN wr _ = wz
          have HIz : IsS112 w0 wz g s0_0 n := by rw [← hz]; exact hI.out.drewN _
          have HXz : wz.heap[w.heap.size]? = some (.cells #[.int .i64 0, .string (⟨#[]⟩ : ByteArray)] 71 (0, 0)) := by rw [← hz]; exact hX.out
          have HBz : Below w0.heap.size w0 wz := by rw [← hz]; exact pw_below_drewN hB.out _
          have HKz : KeepBut w wz g none := by rw [← hz]; exact hK.out
          clear hz
          refine wp_region_still_tail 11 (by kernel_rfl) (by kernel_rfl) ?_
          generalize hwq : World.mk wz.heap wz.tape (wz.drawn + 1) wz.os wz.output = wq
          have HIq : Aside0 (IsS112 w0 wq g s0_0 n) := ⟨by rw [← hwq]; exact HIz.drew⟩
          have HXq : Aside0 (wq.heap[w.heap.size]? = some (.cells #[.int .i64 0, .string (⟨#[]⟩ : ByteArray)] 71 (0, 0))) := ⟨by rw [← hwq]; exact HXz⟩
          have HBq : Aside0 (Below w0.heap.size w0 wq) := ⟨by rw [← hwq]; exact below_drew HBz⟩
          have HKq : Aside0 (KeepBut w wq g none) := ⟨by rw [← hwq]; exact HKz⟩
          clear hwq HIz HXz HBz HKz
          have cq0 := cellS112_0 HIq.out.1
          have cq1 := cellS112_1 HIq.out.1
          have qf0 := blk_frozen HXq.out 0
          have qf1 := blk_frozen HXq.out 1
          have qc0 : wq.cell? ⟨w.heap.size, 0, none⟩ = some (.int .i64 0) := (blk_cell HXq.out 0).trans rfl
          have qc1 : wq.cell? ⟨w.heap.size, 1, none⟩ = some (.string (⟨#[]⟩ : ByteArray)) := (blk_cell HXq.out 1).trans rfl
          simp only [List.take_succ_cons, List.take_zero, List.drop_succ_cons, List.drop_zero]
          have za : (0 : Int) ≤ (a : Int) := by omega
          have zb : (a : Int) ≤ (n : Int) := by omega
          have zc : (n : Int) ≤ (s0_0.size : Int) := by omega
          repeat still_step
          refine wpStill_nil ?_
          go_wp2
          refine bodyPost_ret (results_cell_row rfl _ _ w.heap.size 71 #[.int .i64 4, .string (s0_0.extract a n)] (0, 0) _ rfl (nxt_fin (k := 4) (t := s0_0.extract a n) HIq.out HBq.out HKq.out HXq.out hgb hgb' hw0).1 Tryd.underlying71 rfl (by kernel_rfl)) rfl ?_
          have hH := hH.out
          rw [HN, if_neg H1.out, if_neg H2.out, if_neg H3.out, if_neg H4.out, if_pos H5.out, ← drop_byte s0_0 a halt] at hH
          obtain ⟨rfl, rfl, rfl, rfl⟩ := hH
          obtain ⟨f1, f2⟩ := HF.out
          refine ⟨by rw [f1], ?_⟩
          rw [show (a : Int) + (((s0_0.data.toList.drop a).takeWhile isAt).length : Int) = (n : Int) from by omega]
          exact (nxt_fin (k := 4) (t := s0_0.extract a n) HIq.out HBq.out HKq.out HXq.out hgb hgb' hw0).2
      · have hltc : decide ((n : Int) < (s0_0.size : Int)) = false := by simp; omega
        have hr := hrel.out
        have hnil : s0_0.data.toList.drop n = [] := by simp; omega
        rw [hnil] at hr
        have HF := Aside0.mk (at_fin s0_0 a n han hr)
        clear hr hnil
        go_wp2_with fail
        go_quiet (fail)
        go_wp2_with fail
        generalize hz : World.drewN wr _ = wz
        have HIz : IsS112 w0 wz g s0_0 n := by rw [← hz]; exact hI.out.drewN _
        have HXz : wz.heap[w.heap.size]? = some (.cells #[.int .i64 0, .string (⟨#[]⟩ : ByteArray)] 71 (0, 0)) := by rw [← hz]; exact hX.out
        have HBz : Below w0.heap.size w0 wz := by rw [← hz]; exact pw_below_drewN hB.out _
        have HKz : KeepBut w wz g none := by rw [← hz]; exact hK.out
        clear hz
        refine wp_region_still_tail 11 (by kernel_rfl) (by kernel_rfl) ?_
        generalize hwq : World.mk wz.heap wz.tape (wz.drawn + 1) wz.os wz.output = wq
        have HIq : Aside0 (IsS112 w0 wq g s0_0 n) := ⟨by rw [← hwq]; exact HIz.drew⟩
        have HXq : Aside0 (wq.heap[w.heap.size]? = some (.cells #[.int .i64 0, .string (⟨#[]⟩ : ByteArray)] 71 (0, 0))) := ⟨by rw [← hwq]; exact HXz⟩
        have HBq : Aside0 (Below w0.heap.size w0 wq) := ⟨by rw [← hwq]; exact below_drew HBz⟩
        have HKq : Aside0 (KeepBut w wq g none) := ⟨by rw [← hwq]; exact HKz⟩
        clear hwq HIz HXz HBz HKz
        have cq0 := cellS112_0 HIq.out.1
        have cq1 := cellS112_1 HIq.out.1
        have qf0 := blk_frozen HXq.out 0
        have qf1 := blk_frozen HXq.out 1
        have qc0 : wq.cell? ⟨w.heap.size, 0, none⟩ = some (.int .i64 0) := (blk_cell HXq.out 0).trans rfl
        have qc1 : wq.cell? ⟨w.heap.size, 1, none⟩ = some (.string (⟨#[]⟩ : ByteArray)) := (blk_cell HXq.out 1).trans rfl
        simp only [List.take_succ_cons, List.take_zero, List.drop_succ_cons, List.drop_zero]
        have za : (0 : Int) ≤ (a : Int) := by omega
        have zb : (a : Int) ≤ (n : Int) := by omega
        have zc : (n : Int) ≤ (s0_0.size : Int) := by omega
        repeat still_step
        refine wpStill_nil ?_
        go_wp2
        refine bodyPost_ret (results_cell_row rfl _ _ w.heap.size 71 #[.int .i64 4, .string (s0_0.extract a n)] (0, 0) _ rfl (nxt_fin (k := 4) (t := s0_0.extract a n) HIq.out HBq.out HKq.out HXq.out hgb hgb' hw0).1 Tryd.underlying71 rfl (by kernel_rfl)) rfl ?_
        have hH := hH.out
        rw [HN, if_neg H1.out, if_neg H2.out, if_neg H3.out, if_neg H4.out, if_pos H5.out, ← drop_byte s0_0 a halt] at hH
        obtain ⟨rfl, rfl, rfl, rfl⟩ := hH
        obtain ⟨f1, f2⟩ := HF.out
        refine ⟨by rw [f1], ?_⟩
        rw [show (a : Int) + (((s0_0.data.toList.drop a).takeWhile isAt).length : Int) = (n : Int) from by omega]
        exact (nxt_fin (k := 4) (t := s0_0.extract a n) HIq.out HBq.out HKq.out HXq.out hgb hgb' hw0).2
  · have H1 := Aside0.mk h1
    have H2 := Aside0.mk h2
    have H3 := Aside0.mk h3
    have H4 := Aside0.mk h4
    have H5 := Aside0.mk h5
    clear h1 h2 h3 h4 h5
    go_wp2_with fail
    go_quiet (fail)
    go_wp2_with (first | (go_at_call 100; refine (letter_isSign.calls _ false _ (by rw [isSg_f, eq_false_of_ne_true H4.out])).mono ?_; rintro e W ⟨rfl, ⟨nd, rfl⟩⟩) | (go_at_call 101; refine (letter_isAtom.calls _ false _ (by rw [isAt_f, eq_false_of_ne_true H5.out])).mono ?_; rintro e W ⟨rfl, ⟨nd2, rfl⟩⟩))
    refine bodyPost_ret (results_cell_row rfl _ _ w.heap.size 71 #[.int .i64 0, .string (⟨#[]⟩ : ByteArray)] (0, 0) _ rfl (nxt_fin (k := 0) (t := (⟨#[]⟩ : ByteArray)) ((HI2.out.drewN _).set_1 _) (below_set (pw_below_drewN HB2.out _) hge) (KeepBut.set_ HK2.out 1 _) (blk_far (blk_drewN HX.out _) (Ne.symm hgb) _) hgb hgb' hw0).1 Tryd.underlying71 rfl (by kernel_rfl)) rfl ?_
    have hH := hH.out
    rw [HN, if_neg H1.out, if_neg H2.out, if_neg H3.out, if_neg H4.out, if_neg H5.out] at hH
    obtain ⟨rfl, rfl, rfl, rfl⟩ := hH
    exact ⟨by rfl, (nxt_fin (k := 0) (t := (⟨#[]⟩ : ByteArray)) ((HI2.out.drewN _).set_1 _) (below_set (pw_below_drewN HB2.out _) hge) (KeepBut.set_ HK2.out 1 _) (blk_far (blk_drewN HX.out _) (Ne.symm hgb) _) hgb hgb' hw0).2⟩
end Go.Proofs.YtgmlhmojcemliaaDoor.P
end
section
namespace Go.Proofs.YtgmlhmojcemliaaDoor.P
open Go.RowKit Go.Proofs.YtgmlhmojcemliaaDoorW.PrintWords Go.Proofs.YtgmlhmojcemliaaDoorW.PrintLast Go.Proofs.YtgmlhmojcemliaaDoorW.PrintMore
attribute [local go_sem] max2_int min2_int max_two min_two max_three min_three max_four min_four   -- for this text's walks alone
set_option linter.unusedVariables false
set_option linter.unusedSimpArgs false

/-! ### letter_pieces: function 28, GIVEN -/
theorem hend_pos (c : UInt8) (l : List UInt8) : 1 ≤ hend (c :: l) := by
  rw [hend_cons]; split
  · omega
  · split
    · split <;> omega
    · omega
theorem nxt_pos (c : UInt8) (l : List UInt8) : 1 ≤ (nxt (c :: l)).2.2 := by
  have h := hend_pos c l
  rw [nxt.eq_2]
  repeat' split
  all_goals simp_all
theorem nxt_le (l : List UInt8) : (nxt l).2.2 ≤ l.length := by
  cases l with
  | nil => simp [nxt]
  | cons c l =>
    have h1 := cmt_le l 1
    have h2 := (qtx_le l).1
    have h3 := hend_le (c :: l)
    have h4 := len_takeWhile_le isAt (c :: l)
    simp only [List.length_cons] at h3 h4 ⊢
    rw [nxt.eq_2]
    repeat' split
    all_goals simp_all
    all_goals omega
def pcs (l : List UInt8) : List S71 :=
  match h : l with
  | [] => []
  | c :: t => ⟨(nxt (c :: t)).1, ⟨(nxt (c :: t)).2.1.toArray⟩⟩ :: pcs ((c :: t).drop (nxt (c :: t)).2.2)
termination_by l.length
decreasing_by have := nxt_pos c t; simp only [List.length_drop, List.length_cons]; omega
theorem pcs_nil : pcs [] = [] := by rw [pcs]
theorem pcs_cons (c : UInt8) (t : List UInt8) : pcs (c :: t) = ⟨(nxt (c :: t)).1, ⟨(nxt (c :: t)).2.1.toArray⟩⟩ :: pcs ((c :: t).drop (nxt (c :: t)).2.2) := by rw [pcs]
def letter_pieces.f (a0 : ByteArray) : Option (List S71) := if a0.size < 5864062014805 then some (pcs a0.data.toList) else none
set_option maxHeartbeats 4000000 in
set_option maxRecDepth 100000 in
theorem letter_pieces.calls (a0 : ByteArray) (r : List S71) (w : World) (h : letter_pieces.f a0 = some r) :
    Calls Tryd.prog 28 #[.string a0] w fun e w' => ∃ v0_ : Value, e = .returned (v0_) ∧ Kd.V k71 71 w' w.heap.size (fun k_ => (w.heap.size ≤ k_)) v0_ r ∧ Below w.heap.size w w' := by
  unfold letter_pieces.f at h
  split at h
  case isFalse => cases h
  rename_i hsz
  obtain rfl := Option.some.inj h
  clear h
  go_enter Tryd.func28, Tryd.ntmps28
  go_wp2
  go_loopg [4] (a0.size) (fun kq v4 wr => ∃ (n : Nat) (acc : List S71), Aside0 (kq = a0.size - n) ∧ n ≤ a0.size ∧ Aside0 (acc.length ≤ n) ∧ Aside0 (pcs a0.data.toList = acc ++ pcs (a0.data.toList.drop n)) ∧ Aside0 (Kd.R k71 71 wr w.heap.size (fun k => k ≠ w.heap.size) v4 acc) ∧ Aside0 (IsS112 w wr w.heap.size a0 n) ∧ Aside0 (Below w.heap.size w wr))
  case atStart => exact ⟨0, [], ⟨rfl⟩, Nat.zero_le _, ⟨Nat.le_refl _⟩, ⟨rfl⟩, ⟨Kd.R_nil _ _ _ _ _⟩, ⟨heap_alloc_new _ _, Nat.le_refl _⟩, ⟨below_alloc (Below.refl _ _) _⟩⟩
  case round =>
    obtain ⟨n, acc, hkq, hn, hacc, hrel, hR, hI, hB⟩ := hrel
    have cs0 := cellS112_0 hI.out.1
    have cs1 := cellS112_1 hI.out.1
    by_cases hlt : n < a0.size
    · have hltb : decide ((n : Int) < (a0.size : Int)) = true := by simp; omega
      go_wp2_with fail
      go_quiet (fail)
      go_wp2_with fail
      have hd := drop_byte a0 n hlt
      have hr := hrel.out
      rw [hd, pcs_cons, ← hd] at hr
      have hpos : 1 ≤ (nxt (a0.data.toList.drop n)).2.2 := by rw [hd]; exact nxt_pos _ _
      have hle : (nxt (a0.data.toList.drop n)).2.2 ≤ a0.size - n := by have := nxt_le (a0.data.toList.drop n); simpa using this
      have hf : letter_cursor_next.f a0 (n : Int) = some ((nxt (a0.data.toList.drop n)).1, ⟨(nxt (a0.data.toList.drop n)).2.1.toArray⟩, a0, (n : Int) + (nxt (a0.data.toList.drop n)).2.2) := by
        unfold letter_cursor_next.f
        rw [if_pos ⟨by omega, by rw [Int.toNat_natCast]; exact hlt, by omega⟩, Int.toNat_natCast]
      rw [List.drop_drop] at hr
      generalize (nxt (a0.data.toList.drop n)).1 = kk at hr hf
      generalize (⟨(nxt (a0.data.toList.drop n)).2.1.toArray⟩ : ByteArray) = tt at hr hf
      generalize (nxt (a0.data.toList.drop n)).2.2 = m at hr hf hpos hle
      have HR := Aside0.mk hr
      clear hr hd
      refine (letter_cursor_next.calls w.heap.size a0 n kk tt a0 ((n : Int) + m) w _ (hI.out.drewN _) (pw_below_drewN hB.out _) hf).mono ?_
      rintro e W ⟨rfl, hI3, hB3, hK3⟩
      have hR3 := Kd.R_keep (Kd.R_drewN hR.out _) hK3 (fun _ h => h)
      have HI3 := Aside0.mk hI3
      have HB3 := Aside0.mk hB3
      have HR3 := Aside0.mk hR3
      clear hI3 hB3 hK3 hR3
      go_wp2_with ((with_reducible refine gate_builtin (b := .append) (xs := #[.tmp 18, .tmp 21]) rfl ?_); at_builtin; refine Kd.R_append k71 (w0 := w) w.heap.size rfl (.tmp 18) (.tmp 21) 67 71 (.agg #[(.int .i64 0), (.string ⟨#[]⟩)]) 24 rfl Tryd.underlying67 info71 rfl (by decide) (by omega) u4 acc (⟨kk, tt⟩ : S71) [.int .i64 kk, .string tt] (fun k => k ≠ w.heap.size) (fun _ => False) rfl rfl ?aP (fun _ hk => hk.elim) ?aF ?aO ?aB ?aS ?aL ?_; (case aP => exact k71_mkM _ _ _ _); (case aF => intro k hk e; have := HI3.out.lt; omega); (case aO => exact HR3.out); (case aB => exact HB3.out); (case aS => exact below_size HB3.out); (case aL => have := hacc.out; omega); intro v1 w1 hR4 hB4 hg4 hat4; have HR4 := Aside0.mk hR4; have HB4 := Aside0.mk hB4; have HI4 := Aside0.mk (HI3.out.grown hg4 (fun e => (HR3.out.1 _ e.symm) rfl)); clear hR4 hB4 hg4 hat4)
      go_roundg (a0.size - (n + m))
      case measure => have := hkq.out; omega
      case rel => exact ⟨n + m, acc ++ [⟨kk, tt⟩], ⟨rfl⟩, by omega, ⟨by have := hacc.out; simp; omega⟩, ⟨by rw [HR.out, List.append_assoc]; rfl⟩, HR4, ⟨by exact HI4.out⟩, HB4⟩
    · have hltb : decide ((n : Int) < (a0.size : Int)) = false := by simp; omega
      have hnil : a0.data.toList.drop n = [] := by simp; omega
      have hr := hrel.out
      rw [hnil, pcs_nil, List.append_nil] at hr
      have HR := Aside0.mk hr
      clear hr hnil
      go_wp2_with fail
      go_quiet (fail)
      go_wp2
      go_ret
      exact ⟨_, rfl, by rw [HR.out]; exact Kd.V_mono (Kd.R_V (Kd.R_tight rfl (Kd.R_drewN hR.out _))) (fun k hk => Kd.R_base hR.out k hk.symm), pw_below_drewN hB.out _⟩
end Go.Proofs.YtgmlhmojcemliaaDoor.P
end
section
namespace Go.Proofs.YtgmlhmojcemliaaDoor.P
open Go.RowKit Go.Proofs.YtgmlhmojcemliaaDoorW.PrintWords Go.Proofs.YtgmlhmojcemliaaDoorW.PrintLast Go.Proofs.YtgmlhmojcemliaaDoorW.PrintMore
attribute [local go_sem] max2_int min2_int max_two min_two max_three min_three max_four min_four   -- for this text's walks alone
set_option linter.unusedVariables false
set_option linter.unusedSimpArgs false

/-! ### letter_piece_is: function 34 -/
def letter_piece_is.f (a0_0 : Int) (a0_1 : ByteArray) (a1 : ByteArray) : Option (Bool) := if a0_0 = 3 then (some (a0_1.toList == a1.toList)) else (some false)
set_option maxHeartbeats 8000000 in
set_option maxRecDepth 100000 in
theorem letter_piece_is.calls (a0_0 : Int) (a0_1 : ByteArray) (a1 : ByteArray) (r : Bool) (w : World) (h : letter_piece_is.f a0_0 a0_1 a1 = some r) :
    Calls Tryd.prog 34 #[.agg #[.int .i64 a0_0, .string a0_1], .string a1] w fun e w' => e = .returned (.bool r) ∧ Below w.heap.size w w' := by
  have hu71 := Tryd.underlying71
  have HB := Aside0.mk (Below.refl w.heap.size w)
  have H : (if a0_0 = 3 then (some (a0_1.toList == a1.toList)) else (some false)) = some r := h
  clear h
  by_cases c3 : a0_0 = 3
  · rw [if_pos c3] at H
    have c3b0 : (a0_0 == 3) = true := beq_iff_eq.mpr c3
    have c3b1 : (a0_0 != 3) = false := bne_eq_false_iff_eq.mpr c3
    clear c3
    obtain rfl := Option.some.inj H
    go_enter Tryd.func34, Tryd.ntmps34
    go_wp2_with (first | ((with_reducible refine gate_dst (N := 2) rfl ?_); refine box_event ?hg (N := 2) ?hd (cs := #[.int .i64 a0_0, .string a0_1]) (t := 71) ?hr ?_; (case hd => rfl); (case hg => rfl); (case hr => first | (go_simp; done) | (go_simp; rfl)); intro gb111 hg w4 hbox hb; have n0_ := Aside0.mk (below_step (by repeat (first | (with_reducible first | exact HB.out | apply below_alloc | apply pw_below_drewN | apply below_drew1) | exact HB.out)) hb); have n1_ := Aside0.mk (hbox); have n2_ := Aside0.mk ((by rw [hg]; exact (below_size (by repeat (first | (with_reducible first | exact HB.out | apply below_alloc | apply pw_below_drewN | apply below_drew1) | exact HB.out))) : w.heap.size ≤ gb111)); have n3_ := Aside0.mk ((by rw [hg]; exact (below_size (by repeat (first | (with_reducible first | exact HB.out | apply below_alloc | apply pw_below_drewN | apply below_drew1) | exact HB.out))) : w.heap.size ≤ gb111)); clear HB; have HB := n0_; have BK111 := n1_; have GW111 := n2_; have GE111 := n3_; clear n0_ n1_ n2_ n3_; clear hb hbox hg; have hcz5_0 : w4.cell? ⟨gb111, 0, none⟩ = some (.int .i64 a0_0) := (blk_cell BK111.out 0).trans rfl; have hcz5_1 : w4.cell? ⟨gb111, 1, none⟩ = some (.string a0_1) := (blk_cell BK111.out 1).trans rfl; have hfz5_0 := blk_frozen BK111.out 0; have hfz5_1 := blk_frozen BK111.out 1))
    go_ret
    exact ⟨by first | rfl | (simp [errW_none, errW_some] <;> rfl) | (simp [*, errW_none, errW_some] <;> rfl), by repeat (first | (with_reducible first | exact HB.out | apply below_alloc | apply pw_below_drewN | apply below_drew1 | refine below_set ?_ GE111.out) | exact HB.out)⟩
  · rw [if_neg c3] at H
    have c3b0 : (a0_0 == 3) = false := beq_eq_false_iff_ne.mpr c3
    have c3b1 : (a0_0 != 3) = true := bne_iff_ne.mpr c3
    obtain rfl := Option.some.inj H
    go_enter Tryd.func34, Tryd.ntmps34
    go_wp2_with (first | ((with_reducible refine gate_dst (N := 2) rfl ?_); refine box_event ?hg (N := 2) ?hd (cs := #[.int .i64 a0_0, .string a0_1]) (t := 71) ?hr ?_; (case hd => rfl); (case hg => rfl); (case hr => first | (go_simp; done) | (go_simp; rfl)); intro gb111 hg w6 hbox hb; have n0_ := Aside0.mk (below_step (by repeat (first | (with_reducible first | exact HB.out | apply below_alloc | apply pw_below_drewN | apply below_drew1) | exact HB.out)) hb); have n1_ := Aside0.mk (hbox); have n2_ := Aside0.mk ((by rw [hg]; exact (below_size (by repeat (first | (with_reducible first | exact HB.out | apply below_alloc | apply pw_below_drewN | apply below_drew1) | exact HB.out))) : w.heap.size ≤ gb111)); have n3_ := Aside0.mk ((by rw [hg]; exact (below_size (by repeat (first | (with_reducible first | exact HB.out | apply below_alloc | apply pw_below_drewN | apply below_drew1) | exact HB.out))) : w.heap.size ≤ gb111)); clear HB; have HB := n0_; have BK111 := n1_; have GW111 := n2_; have GE111 := n3_; clear n0_ n1_ n2_ n3_; clear hb hbox hg; have hcz7_0 : w6.cell? ⟨gb111, 0, none⟩ = some (.int .i64 a0_0) := (blk_cell BK111.out 0).trans rfl; have hcz7_1 : w6.cell? ⟨gb111, 1, none⟩ = some (.string a0_1) := (blk_cell BK111.out 1).trans rfl; have hfz7_0 := blk_frozen BK111.out 0; have hfz7_1 := blk_frozen BK111.out 1))
    go_ret
    exact ⟨by first | rfl | (simp [errW_none, errW_some] <;> rfl) | (simp [*, errW_none, errW_some] <;> rfl), by repeat (first | (with_reducible first | exact HB.out | apply below_alloc | apply pw_below_drewN | apply below_drew1 | refine below_set ?_ GE111.out) | exact HB.out)⟩

/-! ### letter_find: function 35 -/
def letter_find.l0 : Nat → List (S71) → ByteArray → Int → Option (Int)
  | 0, _, _, _ => none
  | k + 1, x0, x2, x7 => if x7 < (x0.length : Int) then (if 0 ≤ x7 then ((letter_piece_is.f ((rd_T71 x0 x7).f0) ((rd_T71 x0 x7).f1) x2).bind fun t113 => (if t113 = true then (some x7) else (letter_find.l0 k x0 x2 (wrap64 (x7 + 1))))) else (none)) else (some (x0.length : Int))
def letter_find.f (k : Nat) (l0 : List (S71)) (a1 : Int) (a2 : ByteArray) : Option (Int) := letter_find.l0 k l0 a2 a1
theorem letter_find.mono_l : ∀ k, (∀ y0 y1 y2, LeO (letter_find.l0 k y0 y1 y2) (letter_find.l0 (k + 1) y0 y1 y2))
  | 0 => fun _ _ _ r h => by simp [letter_find.l0] at h
  | k + 1 => by
    have ih0 := letter_find.mono_l k
    · intro y0 y1 y2
      unfold letter_find.l0
      repeat' first
      | (with_reducible exact ih0 _ _ _)
      | (with_reducible exact LeO.refl _)
      | (with_reducible exact LeO.none _)
      | (with_reducible refine LeO.ite ?_ ?_)
      | (with_reducible refine LeO.bind ?_ (fun _ => ?_))
      | exact ih0 _ _ _
      | exact LeO.none _
      | refine LeO.ite ?_ ?_
      | refine LeO.bind ?_ (fun _ => ?_)
theorem letter_find.mono : ∀ a0 a1 a2 k, LeO (letter_find.f k a0 a1 a2) (letter_find.f (k + 1) a0 a1 a2) := by
  intro a0 a1 a2 k
  have ih0 := letter_find.mono_l k
  unfold letter_find.f
  repeat' first
      | (with_reducible exact ih0 _ _ _)
      | (with_reducible exact LeO.refl _)
      | (with_reducible exact LeO.none _)
      | (with_reducible refine LeO.ite ?_ ?_)
      | (with_reducible refine LeO.bind ?_ (fun _ => ?_))
      | exact ih0 _ _ _
      | exact LeO.none _
      | refine LeO.ite ?_ ?_
      | refine LeO.bind ?_ (fun _ => ?_)
set_option maxHeartbeats 8000000 in
set_option maxRecDepth 100000 in
theorem letter_find.calls (k : Nat) (A0 : Option Addr) (c0 : Nat) (l0 : List (S71)) (a1 : Int) (a2 : ByteArray) (r : Int) (w : World) (hr0 : Kd.C k71 w A0 l0.length l0) (hc0 : l0.length ≤ c0) (h : letter_find.f k l0 a1 a2 = some r) :
    Calls Tryd.prog 35 #[.slice A0 l0.length c0, .int .i64 a1, .string a2] w fun e w' => e = .returned (.int .i64 r) ∧ Below w.heap.size w w' := by
  have hu71 := Tryd.underlying71
  have HR0 := Aside0.mk hr0
  have HC0 := Aside0.mk hc0
  clear hr0 hc0
  have HB := Aside0.mk (Below.refl w.heap.size w)
  have H : (letter_find.l0 k l0 a2 a1) = some r := h
  clear h
  have H' := Aside0.mk H
  clear H
  go_enter Tryd.func35, Tryd.ntmps35
  go_wp2
  go_loopg [7] k (fun kq v7 w' => ∃ (x7_1 : Int), v7 = .int .i64 x7_1 ∧ Aside0 (letter_find.l0 kq l0 a2 x7_1 = some r) ∧ Aside0 (kq ≤ k) ∧ Aside0 (Below w.heap.size w w'))
  case atStart => exact ⟨(a1), (by first | rfl | (simp; done) | (simp [*]; done)), H', ⟨Nat.le_refl _⟩, ⟨by repeat (first | (with_reducible first | exact HB.out | apply below_alloc | apply pw_below_drewN | apply below_drew1) | exact HB.out)⟩⟩
  case round =>
    clear H'
    try clear p2
    try clear c3
    obtain ⟨x7_1, rfl, HA, HK1, HB⟩ := hrel
    cases gk with
    | zero => exact absurd HA.out (by simp [letter_find.l0])
    | succ k1 =>
      have H := HA.out
      clear HA
      simp only [letter_find.l0] at H
      by_cases c4 : x7_1 < (l0.length : Int)
      · rw [if_pos c4] at H
        have c4b0 : decide (x7_1 < (l0.length : Int)) = true := decide_eq_true c4
        clear c4
        by_cases c5 : 0 ≤ x7_1
        · rw [if_pos c5] at H
          have c5b0 : decide (0 ≤ x7_1) = true := decide_eq_true c5
          clear c5
          replace H := Option.bind_eq_some_iff.mp H
          obtain ⟨t113, A60, H⟩ := H
          replace H : (if t113 = true then (some x7_1) else (letter_find.l0 k1 l0 a2 (wrap64 (x7_1 + 1)))) = some r := H
          have A6 := Aside0.mk A60
          clear A60
          by_cases c7 : t113 = true
          · subst c7
            have H1 : (some x7_1) = some r := by rw [if_pos rfl] at H; exact H
            clear H
            have H := H1
            clear H1
            obtain rfl := Option.some.inj H
            have p112 : 0 ≤ (x7_1 : Int) := of_decide_eq_true (by first | (with_reducible assumption) | assumption)
            have q112 : x7_1 < (l0.length : Int) := of_decide_eq_true (by first | (with_reducible assumption) | assumption)
            obtain ⟨ad112, e112, hx112_0, hx112_1⟩ := at_T71 HR0.out x7_1 p112 q112
            cases e112
            replace hx112_0 := (HB.out.cell (World.block_lt_of_cell? w _ hx112_0)).trans hx112_0
            replace hx112_1 := (HB.out.cell (World.block_lt_of_cell? w _ hx112_1)).trans hx112_1
            replace p112 := eq_true p112
            replace q112 := eq_true q112
            go_wp2_with (first | ((with_reducible refine gate_callee (f := 34) rfl ?_); refine goesL_ (some 20) rfl rfl Tryd.func34 (by kernel_rfl) rfl #[.agg #[.int .i64 ((rd_T71 l0 x7_1).f0), .string ((rd_T71 l0 x7_1).f1)], .string a2] rfl (by (try simp only [List.map_toArray, List.map_cons, List.map_nil]); first | done | rfl | (simp only [List.length_drop, List.length_take]; rfl)) ?_; (with_reducible refine (letter_piece_is.calls ((rd_T71 l0 x7_1).f0) ((rd_T71 l0 x7_1).f1) a2 true _ A6.out).mono ?_); rintro e w8 ⟨rfl, hb⟩; refine ⟨_, rfl, ?_⟩; have n0_ := Aside0.mk (below_step (by repeat (first | (with_reducible first | exact HB.out | apply below_alloc | apply pw_below_drewN | apply below_drew1) | exact HB.out)) hb); clear HB; have HB := n0_; clear n0_; (try clear hb); (try clear hb2); (try clear hk); (try clear hi)))
            go_ret
            exact ⟨by first | rfl | (simp [errW_none, errW_some] <;> rfl) | (simp [*, errW_none, errW_some] <;> rfl), by repeat (first | (with_reducible first | exact HB.out | apply below_alloc | apply pw_below_drewN | apply below_drew1) | exact HB.out)⟩
          · replace c7 := Bool.eq_false_iff.mpr c7
            subst c7
            have H1 : (letter_find.l0 k1 l0 a2 (wrap64 (x7_1 + 1))) = some r := by rw [if_neg (show ¬ (false = true) by decide)] at H; exact H
            clear H
            have H := H1
            clear H1
            have H' := Aside0.mk H
            clear H
            have p112 : 0 ≤ (x7_1 : Int) := of_decide_eq_true (by first | (with_reducible assumption) | assumption)
            have q112 : x7_1 < (l0.length : Int) := of_decide_eq_true (by first | (with_reducible assumption) | assumption)
            obtain ⟨ad112, e112, hx112_0, hx112_1⟩ := at_T71 HR0.out x7_1 p112 q112
            cases e112
            replace hx112_0 := (HB.out.cell (World.block_lt_of_cell? w _ hx112_0)).trans hx112_0
            replace hx112_1 := (HB.out.cell (World.block_lt_of_cell? w _ hx112_1)).trans hx112_1
            replace p112 := eq_true p112
            replace q112 := eq_true q112
            go_wp2_with (first | ((with_reducible refine gate_callee (f := 34) rfl ?_); refine goesL_ (some 20) rfl rfl Tryd.func34 (by kernel_rfl) rfl #[.agg #[.int .i64 ((rd_T71 l0 x7_1).f0), .string ((rd_T71 l0 x7_1).f1)], .string a2] rfl (by (try simp only [List.map_toArray, List.map_cons, List.map_nil]); first | done | rfl | (simp only [List.length_drop, List.length_take]; rfl)) ?_; (with_reducible refine (letter_piece_is.calls ((rd_T71 l0 x7_1).f0) ((rd_T71 l0 x7_1).f1) a2 false _ A6.out).mono ?_); rintro e w9 ⟨rfl, hb⟩; refine ⟨_, rfl, ?_⟩; have n0_ := Aside0.mk (below_step (by repeat (first | (with_reducible first | exact HB.out | apply below_alloc | apply pw_below_drewN | apply below_drew1) | exact HB.out)) hb); clear HB; have HB := n0_; clear n0_; (try clear hb); (try clear hb2); (try clear hk); (try clear hi)))
            go_roundg k1
            case measure => have := HK1.out; omega
            case rel => exact ⟨(wrap64 (x7_1 + 1)), (by first | rfl | (simp; done) | (simp [*]; done)), H', ⟨by have := HK1.out; omega⟩, ⟨by repeat (first | (with_reducible first | exact HB.out | apply below_alloc | apply pw_below_drewN | apply below_drew1) | exact HB.out)⟩⟩
        · rw [if_neg c5] at H
          exact absurd H (by simp)
      · rw [if_neg c4] at H
        have c4b0 : decide (x7_1 < (l0.length : Int)) = false := decide_eq_false c4
        clear c4
        obtain rfl := Option.some.inj H
        go_wp2
        go_ret
        exact ⟨by first | rfl | (simp [errW_none, errW_some] <;> rfl) | (simp [*, errW_none, errW_some] <;> rfl), by repeat (first | (with_reducible first | exact HB.out | apply below_alloc | apply pw_below_drewN | apply below_drew1) | exact HB.out)⟩

/-! ### letter_part: function 29 -/
def letter_part.l0 : Nat → List (S71) → Int → Option (Int)
  | 0, _, _ => none
  | k + 1, x0, x5 => if x5 < (x0.length : Int) then (if 0 ≤ x5 then ((letter_piece_is.f ((rd_T71 x0 x5).f0) ((rd_T71 x0 x5).f1) (⟨#[60]⟩ : ByteArray)).bind fun t115 => (if t115 = true then ((letter_find.f k x0 x5 (⟨#[62]⟩ : ByteArray)).bind fun t116 => (if t116 = (x0.length : Int) then (some t116) else (letter_part.l0 k x0 (wrap64 (t116 + 1))))) else ((letter_piece_is.f ((rd_T71 x0 x5).f0) ((rd_T71 x0 x5).f1) (⟨#[44]⟩ : ByteArray)).bind fun t118 => (if t118 = true then (some x5) else ((letter_piece_is.f ((rd_T71 x0 x5).f0) ((rd_T71 x0 x5).f1) (⟨#[59]⟩ : ByteArray)).bind fun t120 => (if t120 = true then (some x5) else ((letter_piece_is.f ((rd_T71 x0 x5).f0) ((rd_T71 x0 x5).f1) (⟨#[58]⟩ : ByteArray)).bind fun t122 => (if t122 = true then (some x5) else (letter_part.l0 k x0 (wrap64 (x5 + 1))))))))))) else (none)) else (some (x0.length : Int))
def letter_part.f (k : Nat) (l0 : List (S71)) (a1 : Int) : Option (Int) := letter_part.l0 k l0 a1
theorem letter_part.mono_l : ∀ k, (∀ y0 y1, LeO (letter_part.l0 k y0 y1) (letter_part.l0 (k + 1) y0 y1))
  | 0 => fun _ _ r h => by simp [letter_part.l0] at h
  | k + 1 => by
    have ih0 := letter_part.mono_l k
    · intro y0 y1
      unfold letter_part.l0
      repeat' first
      | (with_reducible exact ih0 _ _)
      | (with_reducible exact letter_find.mono _ _ _ _)
      | (with_reducible exact LeO.refl _)
      | (with_reducible exact LeO.none _)
      | (with_reducible refine LeO.ite ?_ ?_)
      | (with_reducible refine LeO.bind ?_ (fun _ => ?_))
      | exact ih0 _ _
      | exact letter_find.mono _ _ _ _
      | exact LeO.none _
      | refine LeO.ite ?_ ?_
      | refine LeO.bind ?_ (fun _ => ?_)
theorem letter_part.mono : ∀ a0 a1 k, LeO (letter_part.f k a0 a1) (letter_part.f (k + 1) a0 a1) := by
  intro a0 a1 k
  have ih0 := letter_part.mono_l k
  unfold letter_part.f
  repeat' first
      | (with_reducible exact ih0 _ _)
      | (with_reducible exact letter_find.mono _ _ _ _)
      | (with_reducible exact LeO.refl _)
      | (with_reducible exact LeO.none _)
      | (with_reducible refine LeO.ite ?_ ?_)
      | (with_reducible refine LeO.bind ?_ (fun _ => ?_))
      | exact ih0 _ _
      | exact letter_find.mono _ _ _ _
      | exact LeO.none _
      | refine LeO.ite ?_ ?_
      | refine LeO.bind ?_ (fun _ => ?_)
set_option maxHeartbeats 8000000 in
set_option maxRecDepth 100000 in
theorem letter_part.calls (k : Nat) (A0 : Option Addr) (c0 : Nat) (l0 : List (S71)) (a1 : Int) (r : Int) (w : World) (hr0 : Kd.C k71 w A0 l0.length l0) (hc0 : l0.length ≤ c0) (h : letter_part.f k l0 a1 = some r) :
    Calls Tryd.prog 29 #[.slice A0 l0.length c0, .int .i64 a1] w fun e w' => e = .returned (.int .i64 r) ∧ Below w.heap.size w w' := by
  have hu71 := Tryd.underlying71
  have HR0 := Aside0.mk hr0
  have HC0 := Aside0.mk hc0
  clear hr0 hc0
  have HB := Aside0.mk (Below.refl w.heap.size w)
  have H : (letter_part.l0 k l0 a1) = some r := h
  clear h
  have H' := Aside0.mk H
  clear H
  go_enter Tryd.func29, Tryd.ntmps29
  go_wp2
  go_loopg [5] k (fun kq v5 w' => ∃ (x5_1 : Int), v5 = .int .i64 x5_1 ∧ Aside0 (letter_part.l0 kq l0 x5_1 = some r) ∧ Aside0 (kq ≤ k) ∧ Aside0 (Below w.heap.size w w'))
  case atStart => exact ⟨(a1), (by first | rfl | (simp; done) | (simp [*]; done)), H', ⟨Nat.le_refl _⟩, ⟨by repeat (first | (with_reducible first | exact HB.out | apply below_alloc | apply pw_below_drewN | apply below_drew1) | exact HB.out)⟩⟩
  case round =>
    clear H'
    try clear c2
    try clear p2
    obtain ⟨x5_1, rfl, HA, HK1, HB⟩ := hrel
    cases gk with
    | zero => exact absurd HA.out (by simp [letter_part.l0])
    | succ k1 =>
      have H := HA.out
      clear HA
      simp only [letter_part.l0] at H
      by_cases c3 : x5_1 < (l0.length : Int)
      · rw [if_pos c3] at H
        have c3b0 : decide (x5_1 < (l0.length : Int)) = true := decide_eq_true c3
        clear c3
        by_cases c4 : 0 ≤ x5_1
        · rw [if_pos c4] at H
          have c4b0 : decide (0 ≤ x5_1) = true := decide_eq_true c4
          clear c4
          replace H := Option.bind_eq_some_iff.mp H
          obtain ⟨t115, A50, H⟩ := H
          replace H : (if t115 = true then ((letter_find.f k1 l0 x5_1 (⟨#[62]⟩ : ByteArray)).bind fun t116 => (if t116 = (l0.length : Int) then (some t116) else (letter_part.l0 k1 l0 (wrap64 (t116 + 1))))) else ((letter_piece_is.f ((rd_T71 l0 x5_1).f0) ((rd_T71 l0 x5_1).f1) (⟨#[44]⟩ : ByteArray)).bind fun t118 => (if t118 = true then (some x5_1) else ((letter_piece_is.f ((rd_T71 l0 x5_1).f0) ((rd_T71 l0 x5_1).f1) (⟨#[59]⟩ : ByteArray)).bind fun t120 => (if t120 = true then (some x5_1) else ((letter_piece_is.f ((rd_T71 l0 x5_1).f0) ((rd_T71 l0 x5_1).f1) (⟨#[58]⟩ : ByteArray)).bind fun t122 => (if t122 = true then (some x5_1) else (letter_part.l0 k1 l0 (wrap64 (x5_1 + 1)))))))))) = some r := H
          have A5 := Aside0.mk A50
          clear A50
          by_cases c6 : t115 = true
          · subst c6
            have H1 : ((letter_find.f k1 l0 x5_1 (⟨#[62]⟩ : ByteArray)).bind fun t116 => (if t116 = (l0.length : Int) then (some t116) else (letter_part.l0 k1 l0 (wrap64 (t116 + 1))))) = some r := by rw [if_pos rfl] at H; exact H
            clear H
            have H := H1
            clear H1
            replace H := Option.bind_eq_some_iff.mp H
            obtain ⟨t116, A70, H⟩ := H
            replace H : (if t116 = (l0.length : Int) then (some t116) else (letter_part.l0 k1 l0 (wrap64 (t116 + 1)))) = some r := H
            have A7 := Aside0.mk A70
            clear A70
            by_cases c8 : t116 = (l0.length : Int)
            · rw [if_pos c8] at H
              have c8b0 : (t116 == (l0.length : Int)) = true := beq_iff_eq.mpr c8
              have c8b1 : (t116 != (l0.length : Int)) = false := bne_eq_false_iff_eq.mpr c8
              clear c8
              obtain rfl := Option.some.inj H
              have p114 : 0 ≤ (x5_1 : Int) := of_decide_eq_true (by first | (with_reducible assumption) | assumption)
              have q114 : x5_1 < (l0.length : Int) := of_decide_eq_true (by first | (with_reducible assumption) | assumption)
              obtain ⟨ad114, e114, hx114_0, hx114_1⟩ := at_T71 HR0.out x5_1 p114 q114
              cases e114
              replace hx114_0 := (HB.out.cell (World.block_lt_of_cell? w _ hx114_0)).trans hx114_0
              replace hx114_1 := (HB.out.cell (World.block_lt_of_cell? w _ hx114_1)).trans hx114_1
              replace p114 := eq_true p114
              replace q114 := eq_true q114
              go_wp2_with (first | ((with_reducible refine gate_callee (f := 34) rfl ?_); refine goesL_ (some 18) rfl rfl Tryd.func34 (by kernel_rfl) rfl #[.agg #[.int .i64 ((rd_T71 l0 x5_1).f0), .string ((rd_T71 l0 x5_1).f1)], .string (⟨#[60]⟩ : ByteArray)] rfl (by (try simp only [List.map_toArray, List.map_cons, List.map_nil]); first | done | rfl | (simp only [List.length_drop, List.length_take]; rfl)) ?_; (with_reducible refine (letter_piece_is.calls ((rd_T71 l0 x5_1).f0) ((rd_T71 l0 x5_1).f1) (⟨#[60]⟩ : ByteArray) true _ A5.out).mono ?_); rintro e w9 ⟨rfl, hb⟩; refine ⟨_, rfl, ?_⟩; have n0_ := Aside0.mk (below_step (by repeat (first | (with_reducible first | exact HB.out | apply below_alloc | apply pw_below_drewN | apply below_drew1) | exact HB.out)) hb); clear HB; have HB := n0_; clear n0_; (try clear hb); (try clear hb2); (try clear hk); (try clear hi)) | ((with_reducible refine gate_callee (f := 35) rfl ?_); refine goesL_ (some 21) rfl rfl Tryd.func35 (by kernel_rfl) rfl #[.slice (some ad114) l0.length c0, .int .i64 x5_1, .string (⟨#[62]⟩ : ByteArray)] rfl (by (try simp only [List.map_toArray, List.map_cons, List.map_nil]); first | done | rfl | (simp only [List.length_drop, List.length_take]; rfl)) ?_; (with_reducible refine (letter_find.calls k1 _ _ l0 x5_1 (⟨#[62]⟩ : ByteArray) t116 _ ?side1 ?side2 A7.out).mono ?_); (case side1 => repeat (first | exact (Kd.C_below HR0.out HB.out) | (with_reducible refine Kd.C_alloc ?_ _) | (with_reducible refine Kd.C_drewN ?_ _) | (with_reducible refine Kd.C_drew ?_))); (case side2 => exact HC0.out); rintro e w10 ⟨rfl, hb⟩; refine ⟨_, rfl, ?_⟩; have n0_ := Aside0.mk (below_step (by repeat (first | (with_reducible first | exact HB.out | apply below_alloc | apply pw_below_drewN | apply below_drew1) | exact HB.out)) hb); clear HB; have HB := n0_; clear n0_; (try clear hb); (try clear hb2); (try clear hk); (try clear hi)))
              go_ret
              exact ⟨by first | rfl | (simp [errW_none, errW_some] <;> rfl) | (simp [*, errW_none, errW_some] <;> rfl), by repeat (first | (with_reducible first | exact HB.out | apply below_alloc | apply pw_below_drewN | apply below_drew1) | exact HB.out)⟩
            · rw [if_neg c8] at H
              have c8b0 : (t116 == (l0.length : Int)) = false := beq_eq_false_iff_ne.mpr c8
              have c8b1 : (t116 != (l0.length : Int)) = true := bne_iff_ne.mpr c8
              have H' := Aside0.mk H
              clear H
              have p114 : 0 ≤ (x5_1 : Int) := of_decide_eq_true (by first | (with_reducible assumption) | assumption)
              have q114 : x5_1 < (l0.length : Int) := of_decide_eq_true (by first | (with_reducible assumption) | assumption)
              obtain ⟨ad114, e114, hx114_0, hx114_1⟩ := at_T71 HR0.out x5_1 p114 q114
              cases e114
              replace hx114_0 := (HB.out.cell (World.block_lt_of_cell? w _ hx114_0)).trans hx114_0
              replace hx114_1 := (HB.out.cell (World.block_lt_of_cell? w _ hx114_1)).trans hx114_1
              replace p114 := eq_true p114
              replace q114 := eq_true q114
              go_wp2_with (first | ((with_reducible refine gate_callee (f := 34) rfl ?_); refine goesL_ (some 18) rfl rfl Tryd.func34 (by kernel_rfl) rfl #[.agg #[.int .i64 ((rd_T71 l0 x5_1).f0), .string ((rd_T71 l0 x5_1).f1)], .string (⟨#[60]⟩ : ByteArray)] rfl (by (try simp only [List.map_toArray, List.map_cons, List.map_nil]); first | done | rfl | (simp only [List.length_drop, List.length_take]; rfl)) ?_; (with_reducible refine (letter_piece_is.calls ((rd_T71 l0 x5_1).f0) ((rd_T71 l0 x5_1).f1) (⟨#[60]⟩ : ByteArray) true _ A5.out).mono ?_); rintro e w11 ⟨rfl, hb⟩; refine ⟨_, rfl, ?_⟩; have n0_ := Aside0.mk (below_step (by repeat (first | (with_reducible first | exact HB.out | apply below_alloc | apply pw_below_drewN | apply below_drew1) | exact HB.out)) hb); clear HB; have HB := n0_; clear n0_; (try clear hb); (try clear hb2); (try clear hk); (try clear hi)) | ((with_reducible refine gate_callee (f := 35) rfl ?_); refine goesL_ (some 21) rfl rfl Tryd.func35 (by kernel_rfl) rfl #[.slice (some ad114) l0.length c0, .int .i64 x5_1, .string (⟨#[62]⟩ : ByteArray)] rfl (by (try simp only [List.map_toArray, List.map_cons, List.map_nil]); first | done | rfl | (simp only [List.length_drop, List.length_take]; rfl)) ?_; (with_reducible refine (letter_find.calls k1 _ _ l0 x5_1 (⟨#[62]⟩ : ByteArray) t116 _ ?side1 ?side2 A7.out).mono ?_); (case side1 => repeat (first | exact (Kd.C_below HR0.out HB.out) | (with_reducible refine Kd.C_alloc ?_ _) | (with_reducible refine Kd.C_drewN ?_ _) | (with_reducible refine Kd.C_drew ?_))); (case side2 => exact HC0.out); rintro e w12 ⟨rfl, hb⟩; refine ⟨_, rfl, ?_⟩; have n0_ := Aside0.mk (below_step (by repeat (first | (with_reducible first | exact HB.out | apply below_alloc | apply pw_below_drewN | apply below_drew1) | exact HB.out)) hb); clear HB; have HB := n0_; clear n0_; (try clear hb); (try clear hb2); (try clear hk); (try clear hi)))
              go_roundg k1
              case measure => have := HK1.out; omega
              case rel => exact ⟨(wrap64 (t116 + 1)), (by first | rfl | (simp; done) | (simp [*]; done)), H', ⟨by have := HK1.out; omega⟩, ⟨by repeat (first | (with_reducible first | exact HB.out | apply below_alloc | apply pw_below_drewN | apply below_drew1) | exact HB.out)⟩⟩
          · replace c6 := Bool.eq_false_iff.mpr c6
            subst c6
            have H1 : ((letter_piece_is.f ((rd_T71 l0 x5_1).f0) ((rd_T71 l0 x5_1).f1) (⟨#[44]⟩ : ByteArray)).bind fun t118 => (if t118 = true then (some x5_1) else ((letter_piece_is.f ((rd_T71 l0 x5_1).f0) ((rd_T71 l0 x5_1).f1) (⟨#[59]⟩ : ByteArray)).bind fun t120 => (if t120 = true then (some x5_1) else ((letter_piece_is.f ((rd_T71 l0 x5_1).f0) ((rd_T71 l0 x5_1).f1) (⟨#[58]⟩ : ByteArray)).bind fun t122 => (if t122 = true then (some x5_1) else (letter_part.l0 k1 l0 (wrap64 (x5_1 + 1))))))))) = some r := by rw [if_neg (show ¬ (false = true) by decide)] at H; exact H
            clear H
            have H := H1
            clear H1
            replace H := Option.bind_eq_some_iff.mp H
            obtain ⟨t118, A130, H⟩ := H
            replace H : (if t118 = true then (some x5_1) else ((letter_piece_is.f ((rd_T71 l0 x5_1).f0) ((rd_T71 l0 x5_1).f1) (⟨#[59]⟩ : ByteArray)).bind fun t120 => (if t120 = true then (some x5_1) else ((letter_piece_is.f ((rd_T71 l0 x5_1).f0) ((rd_T71 l0 x5_1).f1) (⟨#[58]⟩ : ByteArray)).bind fun t122 => (if t122 = true then (some x5_1) else (letter_part.l0 k1 l0 (wrap64 (x5_1 + 1)))))))) = some r := H
            have A13 := Aside0.mk A130
            clear A130
            by_cases c14 : t118 = true
            · subst c14
              have H1 : (some x5_1) = some r := by rw [if_pos rfl] at H; exact H
              clear H
              have H := H1
              clear H1
              obtain rfl := Option.some.inj H
              have p114 : 0 ≤ (x5_1 : Int) := of_decide_eq_true (by first | (with_reducible assumption) | assumption)
              have q114 : x5_1 < (l0.length : Int) := of_decide_eq_true (by first | (with_reducible assumption) | assumption)
              obtain ⟨ad114, e114, hx114_0, hx114_1⟩ := at_T71 HR0.out x5_1 p114 q114
              cases e114
              replace hx114_0 := (HB.out.cell (World.block_lt_of_cell? w _ hx114_0)).trans hx114_0
              replace hx114_1 := (HB.out.cell (World.block_lt_of_cell? w _ hx114_1)).trans hx114_1
              replace p114 := eq_true p114
              replace q114 := eq_true q114
              go_wp2_with (first | ((with_reducible refine gate_callee (f := 34) rfl ?_); refine goesL_ (some 18) rfl rfl Tryd.func34 (by kernel_rfl) rfl #[.agg #[.int .i64 ((rd_T71 l0 x5_1).f0), .string ((rd_T71 l0 x5_1).f1)], .string (⟨#[60]⟩ : ByteArray)] rfl (by (try simp only [List.map_toArray, List.map_cons, List.map_nil]); first | done | rfl | (simp only [List.length_drop, List.length_take]; rfl)) ?_; (with_reducible refine (letter_piece_is.calls ((rd_T71 l0 x5_1).f0) ((rd_T71 l0 x5_1).f1) (⟨#[60]⟩ : ByteArray) false _ A5.out).mono ?_); rintro e w15 ⟨rfl, hb⟩; refine ⟨_, rfl, ?_⟩; have n0_ := Aside0.mk (below_step (by repeat (first | (with_reducible first | exact HB.out | apply below_alloc | apply pw_below_drewN | apply below_drew1) | exact HB.out)) hb); clear HB; have HB := n0_; clear n0_; (try clear hb); (try clear hb2); (try clear hk); (try clear hi); have p117 : 0 ≤ (x5_1 : Int) := of_decide_eq_true (by first | (with_reducible assumption) | assumption); have q117 : x5_1 < (l0.length : Int) := of_decide_eq_true (by first | (with_reducible assumption) | assumption); obtain ⟨ad117, e117, hx117_0, hx117_1⟩ := at_T71 HR0.out x5_1 p117 q117; obtain rfl : ad114 = ad117 := (by injection e117); replace hx117_0 := (HB.out.cell (World.block_lt_of_cell? w _ hx117_0)).trans hx117_0; replace hx117_1 := (HB.out.cell (World.block_lt_of_cell? w _ hx117_1)).trans hx117_1; replace p117 := eq_true p117; replace q117 := eq_true q117) | ((with_reducible refine gate_callee (f := 34) rfl ?_); refine goesL_ (some 32) rfl rfl Tryd.func34 (by kernel_rfl) rfl #[.agg #[.int .i64 ((rd_T71 l0 x5_1).f0), .string ((rd_T71 l0 x5_1).f1)], .string (⟨#[44]⟩ : ByteArray)] rfl (by (try simp only [List.map_toArray, List.map_cons, List.map_nil]); first | done | rfl | (simp only [List.length_drop, List.length_take]; rfl)) ?_; (with_reducible refine (letter_piece_is.calls ((rd_T71 l0 x5_1).f0) ((rd_T71 l0 x5_1).f1) (⟨#[44]⟩ : ByteArray) true _ A13.out).mono ?_); rintro e w16 ⟨rfl, hb⟩; refine ⟨_, rfl, ?_⟩; have n0_ := Aside0.mk (below_step (by repeat (first | (with_reducible first | exact HB.out | apply below_alloc | apply pw_below_drewN | apply below_drew1) | exact HB.out)) hb); clear HB; have HB := n0_; clear n0_; (try clear hb); (try clear hb2); (try clear hk); (try clear hi)))
              go_ret
              exact ⟨by first | rfl | (simp [errW_none, errW_some] <;> rfl) | (simp [*, errW_none, errW_some] <;> rfl), by repeat (first | (with_reducible first | exact HB.out | apply below_alloc | apply pw_below_drewN | apply below_drew1) | exact HB.out)⟩
            · replace c14 := Bool.eq_false_iff.mpr c14
              subst c14
              have H1 : ((letter_piece_is.f ((rd_T71 l0 x5_1).f0) ((rd_T71 l0 x5_1).f1) (⟨#[59]⟩ : ByteArray)).bind fun t120 => (if t120 = true then (some x5_1) else ((letter_piece_is.f ((rd_T71 l0 x5_1).f0) ((rd_T71 l0 x5_1).f1) (⟨#[58]⟩ : ByteArray)).bind fun t122 => (if t122 = true then (some x5_1) else (letter_part.l0 k1 l0 (wrap64 (x5_1 + 1))))))) = some r := by rw [if_neg (show ¬ (false = true) by decide)] at H; exact H
              clear H
              have H := H1
              clear H1
              replace H := Option.bind_eq_some_iff.mp H
              obtain ⟨t120, A170, H⟩ := H
              replace H : (if t120 = true then (some x5_1) else ((letter_piece_is.f ((rd_T71 l0 x5_1).f0) ((rd_T71 l0 x5_1).f1) (⟨#[58]⟩ : ByteArray)).bind fun t122 => (if t122 = true then (some x5_1) else (letter_part.l0 k1 l0 (wrap64 (x5_1 + 1)))))) = some r := H
              have A17 := Aside0.mk A170
              clear A170
              by_cases c18 : t120 = true
              · subst c18
                have H1 : (some x5_1) = some r := by rw [if_pos rfl] at H; exact H
                clear H
                have H := H1
                clear H1
                obtain rfl := Option.some.inj H
                have p114 : 0 ≤ (x5_1 : Int) := of_decide_eq_true (by first | (with_reducible assumption) | assumption)
                have q114 : x5_1 < (l0.length : Int) := of_decide_eq_true (by first | (with_reducible assumption) | assumption)
                obtain ⟨ad114, e114, hx114_0, hx114_1⟩ := at_T71 HR0.out x5_1 p114 q114
                cases e114
                replace hx114_0 := (HB.out.cell (World.block_lt_of_cell? w _ hx114_0)).trans hx114_0
                replace hx114_1 := (HB.out.cell (World.block_lt_of_cell? w _ hx114_1)).trans hx114_1
                replace p114 := eq_true p114
                replace q114 := eq_true q114
                go_wp2_with (first | ((with_reducible refine gate_callee (f := 34) rfl ?_); refine goesL_ (some 18) rfl rfl Tryd.func34 (by kernel_rfl) rfl #[.agg #[.int .i64 ((rd_T71 l0 x5_1).f0), .string ((rd_T71 l0 x5_1).f1)], .string (⟨#[60]⟩ : ByteArray)] rfl (by (try simp only [List.map_toArray, List.map_cons, List.map_nil]); first | done | rfl | (simp only [List.length_drop, List.length_take]; rfl)) ?_; (with_reducible refine (letter_piece_is.calls ((rd_T71 l0 x5_1).f0) ((rd_T71 l0 x5_1).f1) (⟨#[60]⟩ : ByteArray) false _ A5.out).mono ?_); rintro e w19 ⟨rfl, hb⟩; refine ⟨_, rfl, ?_⟩; have n0_ := Aside0.mk (below_step (by repeat (first | (with_reducible first | exact HB.out | apply below_alloc | apply pw_below_drewN | apply below_drew1) | exact HB.out)) hb); clear HB; have HB := n0_; clear n0_; (try clear hb); (try clear hb2); (try clear hk); (try clear hi); have p117 : 0 ≤ (x5_1 : Int) := of_decide_eq_true (by first | (with_reducible assumption) | assumption); have q117 : x5_1 < (l0.length : Int) := of_decide_eq_true (by first | (with_reducible assumption) | assumption); obtain ⟨ad117, e117, hx117_0, hx117_1⟩ := at_T71 HR0.out x5_1 p117 q117; obtain rfl : ad114 = ad117 := (by injection e117); replace hx117_0 := (HB.out.cell (World.block_lt_of_cell? w _ hx117_0)).trans hx117_0; replace hx117_1 := (HB.out.cell (World.block_lt_of_cell? w _ hx117_1)).trans hx117_1; replace p117 := eq_true p117; replace q117 := eq_true q117) | ((with_reducible refine gate_callee (f := 34) rfl ?_); refine goesL_ (some 32) rfl rfl Tryd.func34 (by kernel_rfl) rfl #[.agg #[.int .i64 ((rd_T71 l0 x5_1).f0), .string ((rd_T71 l0 x5_1).f1)], .string (⟨#[44]⟩ : ByteArray)] rfl (by (try simp only [List.map_toArray, List.map_cons, List.map_nil]); first | done | rfl | (simp only [List.length_drop, List.length_take]; rfl)) ?_; (with_reducible refine (letter_piece_is.calls ((rd_T71 l0 x5_1).f0) ((rd_T71 l0 x5_1).f1) (⟨#[44]⟩ : ByteArray) false _ A13.out).mono ?_); rintro e w20 ⟨rfl, hb⟩; refine ⟨_, rfl, ?_⟩; have n0_ := Aside0.mk (below_step (by repeat (first | (with_reducible first | exact HB.out | apply below_alloc | apply pw_below_drewN | apply below_drew1) | exact HB.out)) hb); clear HB; have HB := n0_; clear n0_; (try clear hb); (try clear hb2); (try clear hk); (try clear hi); have p119 : 0 ≤ (x5_1 : Int) := of_decide_eq_true (by first | (with_reducible assumption) | assumption); have q119 : x5_1 < (l0.length : Int) := of_decide_eq_true (by first | (with_reducible assumption) | assumption); obtain ⟨ad119, e119, hx119_0, hx119_1⟩ := at_T71 HR0.out x5_1 p119 q119; obtain rfl : ad114 = ad119 := (by injection e119); replace hx119_0 := (HB.out.cell (World.block_lt_of_cell? w _ hx119_0)).trans hx119_0; replace hx119_1 := (HB.out.cell (World.block_lt_of_cell? w _ hx119_1)).trans hx119_1; replace p119 := eq_true p119; replace q119 := eq_true q119) | (go_at_call 34; (with_reducible refine (letter_piece_is.calls ((rd_T71 l0 x5_1).f0) ((rd_T71 l0 x5_1).f1) (⟨#[59]⟩ : ByteArray) true _ A17.out).mono ?_); rintro e w21 ⟨rfl, hb⟩; have n0_ := Aside0.mk (below_step (by repeat (first | (with_reducible first | exact HB.out | apply below_alloc | apply pw_below_drewN | apply below_drew1) | exact HB.out)) hb); clear HB; have HB := n0_; clear n0_; (try clear hb); (try clear hb2); (try clear hk); (try clear hi)))
                go_ret
                exact ⟨by first | rfl | (simp [errW_none, errW_some] <;> rfl) | (simp [*, errW_none, errW_some] <;> rfl), by repeat (first | (with_reducible first | exact HB.out | apply below_alloc | apply pw_below_drewN | apply below_drew1) | exact HB.out)⟩
              · replace c18 := Bool.eq_false_iff.mpr c18
                subst c18
                have H1 : ((letter_piece_is.f ((rd_T71 l0 x5_1).f0) ((rd_T71 l0 x5_1).f1) (⟨#[58]⟩ : ByteArray)).bind fun t122 => (if t122 = true then (some x5_1) else (letter_part.l0 k1 l0 (wrap64 (x5_1 + 1))))) = some r := by rw [if_neg (show ¬ (false = true) by decide)] at H; exact H
                clear H
                have H := H1
                clear H1
                replace H := Option.bind_eq_some_iff.mp H
                obtain ⟨t122, A220, H⟩ := H
                replace H : (if t122 = true then (some x5_1) else (letter_part.l0 k1 l0 (wrap64 (x5_1 + 1)))) = some r := H
                have A22 := Aside0.mk A220
                clear A220
                by_cases c23 : t122 = true
                · subst c23
                  have H1 : (some x5_1) = some r := by rw [if_pos rfl] at H; exact H
                  clear H
                  have H := H1
                  clear H1
                  obtain rfl := Option.some.inj H
                  have p114 : 0 ≤ (x5_1 : Int) := of_decide_eq_true (by first | (with_reducible assumption) | assumption)
                  have q114 : x5_1 < (l0.length : Int) := of_decide_eq_true (by first | (with_reducible assumption) | assumption)
                  obtain ⟨ad114, e114, hx114_0, hx114_1⟩ := at_T71 HR0.out x5_1 p114 q114
                  cases e114
                  replace hx114_0 := (HB.out.cell (World.block_lt_of_cell? w _ hx114_0)).trans hx114_0
                  replace hx114_1 := (HB.out.cell (World.block_lt_of_cell? w _ hx114_1)).trans hx114_1
                  replace p114 := eq_true p114
                  replace q114 := eq_true q114
                  go_wp2_with (first | ((with_reducible refine gate_callee (f := 34) rfl ?_); refine goesL_ (some 18) rfl rfl Tryd.func34 (by kernel_rfl) rfl #[.agg #[.int .i64 ((rd_T71 l0 x5_1).f0), .string ((rd_T71 l0 x5_1).f1)], .string (⟨#[60]⟩ : ByteArray)] rfl (by (try simp only [List.map_toArray, List.map_cons, List.map_nil]); first | done | rfl | (simp only [List.length_drop, List.length_take]; rfl)) ?_; (with_reducible refine (letter_piece_is.calls ((rd_T71 l0 x5_1).f0) ((rd_T71 l0 x5_1).f1) (⟨#[60]⟩ : ByteArray) false _ A5.out).mono ?_); rintro e w24 ⟨rfl, hb⟩; refine ⟨_, rfl, ?_⟩; have n0_ := Aside0.mk (below_step (by repeat (first | (with_reducible first | exact HB.out | apply below_alloc | apply pw_below_drewN | apply below_drew1) | exact HB.out)) hb); clear HB; have HB := n0_; clear n0_; (try clear hb); (try clear hb2); (try clear hk); (try clear hi); have p117 : 0 ≤ (x5_1 : Int) := of_decide_eq_true (by first | (with_reducible assumption) | assumption); have q117 : x5_1 < (l0.length : Int) := of_decide_eq_true (by first | (with_reducible assumption) | assumption); obtain ⟨ad117, e117, hx117_0, hx117_1⟩ := at_T71 HR0.out x5_1 p117 q117; obtain rfl : ad114 = ad117 := (by injection e117); replace hx117_0 := (HB.out.cell (World.block_lt_of_cell? w _ hx117_0)).trans hx117_0; replace hx117_1 := (HB.out.cell (World.block_lt_of_cell? w _ hx117_1)).trans hx117_1; replace p117 := eq_true p117; replace q117 := eq_true q117) | ((with_reducible refine gate_callee (f := 34) rfl ?_); refine goesL_ (some 32) rfl rfl Tryd.func34 (by kernel_rfl) rfl #[.agg #[.int .i64 ((rd_T71 l0 x5_1).f0), .string ((rd_T71 l0 x5_1).f1)], .string (⟨#[44]⟩ : ByteArray)] rfl (by (try simp only [List.map_toArray, List.map_cons, List.map_nil]); first | done | rfl | (simp only [List.length_drop, List.length_take]; rfl)) ?_; (with_reducible refine (letter_piece_is.calls ((rd_T71 l0 x5_1).f0) ((rd_T71 l0 x5_1).f1) (⟨#[44]⟩ : ByteArray) false _ A13.out).mono ?_); rintro e w25 ⟨rfl, hb⟩; refine ⟨_, rfl, ?_⟩; have n0_ := Aside0.mk (below_step (by repeat (first | (with_reducible first | exact HB.out | apply below_alloc | apply pw_below_drewN | apply below_drew1) | exact HB.out)) hb); clear HB; have HB := n0_; clear n0_; (try clear hb); (try clear hb2); (try clear hk); (try clear hi); have p119 : 0 ≤ (x5_1 : Int) := of_decide_eq_true (by first | (with_reducible assumption) | assumption); have q119 : x5_1 < (l0.length : Int) := of_decide_eq_true (by first | (with_reducible assumption) | assumption); obtain ⟨ad119, e119, hx119_0, hx119_1⟩ := at_T71 HR0.out x5_1 p119 q119; obtain rfl : ad114 = ad119 := (by injection e119); replace hx119_0 := (HB.out.cell (World.block_lt_of_cell? w _ hx119_0)).trans hx119_0; replace hx119_1 := (HB.out.cell (World.block_lt_of_cell? w _ hx119_1)).trans hx119_1; replace p119 := eq_true p119; replace q119 := eq_true q119) | (go_at_call 34; (with_reducible refine (letter_piece_is.calls ((rd_T71 l0 x5_1).f0) ((rd_T71 l0 x5_1).f1) (⟨#[59]⟩ : ByteArray) false _ A17.out).mono ?_); rintro e w26 ⟨rfl, hb⟩; have n0_ := Aside0.mk (below_step (by repeat (first | (with_reducible first | exact HB.out | apply below_alloc | apply pw_below_drewN | apply below_drew1) | exact HB.out)) hb); clear HB; have HB := n0_; clear n0_; (try clear hb); (try clear hb2); (try clear hk); (try clear hi); have p121 : 0 ≤ (x5_1 : Int) := of_decide_eq_true (by first | (with_reducible assumption) | assumption); have q121 : x5_1 < (l0.length : Int) := of_decide_eq_true (by first | (with_reducible assumption) | assumption); obtain ⟨ad121, e121, hx121_0, hx121_1⟩ := at_T71 HR0.out x5_1 p121 q121; obtain rfl : ad114 = ad121 := (by injection e121); replace hx121_0 := (HB.out.cell (World.block_lt_of_cell? w _ hx121_0)).trans hx121_0; replace hx121_1 := (HB.out.cell (World.block_lt_of_cell? w _ hx121_1)).trans hx121_1; replace p121 := eq_true p121; replace q121 := eq_true q121) | (go_at_call 34; (with_reducible refine (letter_piece_is.calls ((rd_T71 l0 x5_1).f0) ((rd_T71 l0 x5_1).f1) (⟨#[58]⟩ : ByteArray) true _ A22.out).mono ?_); rintro e w27 ⟨rfl, hb⟩; have n0_ := Aside0.mk (below_step (by repeat (first | (with_reducible first | exact HB.out | apply below_alloc | apply pw_below_drewN | apply below_drew1) | exact HB.out)) hb); clear HB; have HB := n0_; clear n0_; (try clear hb); (try clear hb2); (try clear hk); (try clear hi)))
                  go_ret
                  exact ⟨by first | rfl | (simp [errW_none, errW_some] <;> rfl) | (simp [*, errW_none, errW_some] <;> rfl), by repeat (first | (with_reducible first | exact HB.out | apply below_alloc | apply pw_below_drewN | apply below_drew1) | exact HB.out)⟩
                · replace c23 := Bool.eq_false_iff.mpr c23
                  subst c23
                  have H1 : (letter_part.l0 k1 l0 (wrap64 (x5_1 + 1))) = some r := by rw [if_neg (show ¬ (false = true) by decide)] at H; exact H
                  clear H
                  have H := H1
                  clear H1
                  have H' := Aside0.mk H
                  clear H
                  have p114 : 0 ≤ (x5_1 : Int) := of_decide_eq_true (by first | (with_reducible assumption) | assumption)
                  have q114 : x5_1 < (l0.length : Int) := of_decide_eq_true (by first | (with_reducible assumption) | assumption)
                  obtain ⟨ad114, e114, hx114_0, hx114_1⟩ := at_T71 HR0.out x5_1 p114 q114
                  cases e114
                  replace hx114_0 := (HB.out.cell (World.block_lt_of_cell? w _ hx114_0)).trans hx114_0
                  replace hx114_1 := (HB.out.cell (World.block_lt_of_cell? w _ hx114_1)).trans hx114_1
                  replace p114 := eq_true p114
                  replace q114 := eq_true q114
                  go_wp2_with (first | ((with_reducible refine gate_callee (f := 34) rfl ?_); refine goesL_ (some 18) rfl rfl Tryd.func34 (by kernel_rfl) rfl #[.agg #[.int .i64 ((rd_T71 l0 x5_1).f0), .string ((rd_T71 l0 x5_1).f1)], .string (⟨#[60]⟩ : ByteArray)] rfl (by (try simp only [List.map_toArray, List.map_cons, List.map_nil]); first | done | rfl | (simp only [List.length_drop, List.length_take]; rfl)) ?_; (with_reducible refine (letter_piece_is.calls ((rd_T71 l0 x5_1).f0) ((rd_T71 l0 x5_1).f1) (⟨#[60]⟩ : ByteArray) false _ A5.out).mono ?_); rintro e w28 ⟨rfl, hb⟩; refine ⟨_, rfl, ?_⟩; have n0_ := Aside0.mk (below_step (by repeat (first | (with_reducible first | exact HB.out | apply below_alloc | apply pw_below_drewN | apply below_drew1) | exact HB.out)) hb); clear HB; have HB := n0_; clear n0_; (try clear hb); (try clear hb2); (try clear hk); (try clear hi); have p117 : 0 ≤ (x5_1 : Int) := of_decide_eq_true (by first | (with_reducible assumption) | assumption); have q117 : x5_1 < (l0.length : Int) := of_decide_eq_true (by first | (with_reducible assumption) | assumption); obtain ⟨ad117, e117, hx117_0, hx117_1⟩ := at_T71 HR0.out x5_1 p117 q117; obtain rfl : ad114 = ad117 := (by injection e117); replace hx117_0 := (HB.out.cell (World.block_lt_of_cell? w _ hx117_0)).trans hx117_0; replace hx117_1 := (HB.out.cell (World.block_lt_of_cell? w _ hx117_1)).trans hx117_1; replace p117 := eq_true p117; replace q117 := eq_true q117) | ((with_reducible refine gate_callee (f := 34) rfl ?_); refine goesL_ (some 32) rfl rfl Tryd.func34 (by kernel_rfl) rfl #[.agg #[.int .i64 ((rd_T71 l0 x5_1).f0), .string ((rd_T71 l0 x5_1).f1)], .string (⟨#[44]⟩ : ByteArray)] rfl (by (try simp only [List.map_toArray, List.map_cons, List.map_nil]); first | done | rfl | (simp only [List.length_drop, List.length_take]; rfl)) ?_; (with_reducible refine (letter_piece_is.calls ((rd_T71 l0 x5_1).f0) ((rd_T71 l0 x5_1).f1) (⟨#[44]⟩ : ByteArray) false _ A13.out).mono ?_); rintro e w29 ⟨rfl, hb⟩; refine ⟨_, rfl, ?_⟩; have n0_ := Aside0.mk (below_step (by repeat (first | (with_reducible first | exact HB.out | apply below_alloc | apply pw_below_drewN | apply below_drew1) | exact HB.out)) hb); clear HB; have HB := n0_; clear n0_; (try clear hb); (try clear hb2); (try clear hk); (try clear hi); have p119 : 0 ≤ (x5_1 : Int) := of_decide_eq_true (by first | (with_reducible assumption) | assumption); have q119 : x5_1 < (l0.length : Int) := of_decide_eq_true (by first | (with_reducible assumption) | assumption); obtain ⟨ad119, e119, hx119_0, hx119_1⟩ := at_T71 HR0.out x5_1 p119 q119; obtain rfl : ad114 = ad119 := (by injection e119); replace hx119_0 := (HB.out.cell (World.block_lt_of_cell? w _ hx119_0)).trans hx119_0; replace hx119_1 := (HB.out.cell (World.block_lt_of_cell? w _ hx119_1)).trans hx119_1; replace p119 := eq_true p119; replace q119 := eq_true q119) | (go_at_call 34; (with_reducible refine (letter_piece_is.calls ((rd_T71 l0 x5_1).f0) ((rd_T71 l0 x5_1).f1) (⟨#[59]⟩ : ByteArray) false _ A17.out).mono ?_); rintro e w30 ⟨rfl, hb⟩; have n0_ := Aside0.mk (below_step (by repeat (first | (with_reducible first | exact HB.out | apply below_alloc | apply pw_below_drewN | apply below_drew1) | exact HB.out)) hb); clear HB; have HB := n0_; clear n0_; (try clear hb); (try clear hb2); (try clear hk); (try clear hi); have p121 : 0 ≤ (x5_1 : Int) := of_decide_eq_true (by first | (with_reducible assumption) | assumption); have q121 : x5_1 < (l0.length : Int) := of_decide_eq_true (by first | (with_reducible assumption) | assumption); obtain ⟨ad121, e121, hx121_0, hx121_1⟩ := at_T71 HR0.out x5_1 p121 q121; obtain rfl : ad114 = ad121 := (by injection e121); replace hx121_0 := (HB.out.cell (World.block_lt_of_cell? w _ hx121_0)).trans hx121_0; replace hx121_1 := (HB.out.cell (World.block_lt_of_cell? w _ hx121_1)).trans hx121_1; replace p121 := eq_true p121; replace q121 := eq_true q121) | (go_at_call 34; (with_reducible refine (letter_piece_is.calls ((rd_T71 l0 x5_1).f0) ((rd_T71 l0 x5_1).f1) (⟨#[58]⟩ : ByteArray) false _ A22.out).mono ?_); rintro e w31 ⟨rfl, hb⟩; have n0_ := Aside0.mk (below_step (by repeat (first | (with_reducible first | exact HB.out | apply below_alloc | apply pw_below_drewN | apply below_drew1) | exact HB.out)) hb); clear HB; have HB := n0_; clear n0_; (try clear hb); (try clear hb2); (try clear hk); (try clear hi)))
                  go_roundg k1
                  case measure => have := HK1.out; omega
                  case rel => exact ⟨(wrap64 (x5_1 + 1)), (by first | rfl | (simp; done) | (simp [*]; done)), H', ⟨by have := HK1.out; omega⟩, ⟨by repeat (first | (with_reducible first | exact HB.out | apply below_alloc | apply pw_below_drewN | apply below_drew1) | exact HB.out)⟩⟩
        · rw [if_neg c4] at H
          exact absurd H (by simp)
      · rw [if_neg c3] at H
        have c3b0 : decide (x5_1 < (l0.length : Int)) = false := decide_eq_false c3
        clear c3
        obtain rfl := Option.some.inj H
        go_wp2
        go_ret
        exact ⟨by first | rfl | (simp [errW_none, errW_some] <;> rfl) | (simp [*, errW_none, errW_some] <;> rfl), by repeat (first | (with_reducible first | exact HB.out | apply below_alloc | apply pw_below_drewN | apply below_drew1) | exact HB.out)⟩

/-! ### letter_some: function 30 -/
def letter_some.f (a0 : ByteArray) : Option (Bool × ByteArray) := some (true, a0)
set_option maxHeartbeats 8000000 in
set_option maxRecDepth 100000 in
theorem letter_some.calls (a0 : ByteArray) (r1 : Bool) (r2 : ByteArray) (w : World) (h : letter_some.f a0 = some (r1, r2)) :
    Calls Tryd.prog 30 #[.string a0] w fun e w' => e = .returned (.agg #[.bool r1, .string r2]) ∧ Below w.heap.size w w' := by
  have hu30 := Tryd.underlying30
  have HB := Aside0.mk (Below.refl w.heap.size w)
  have H : (some (true, a0)) = some (r1, r2) := h
  clear h
  simp only [Option.some.injEq, Prod.mk.injEq] at H
  obtain ⟨rfl, rfl⟩ := H
  go_enter Tryd.func30, Tryd.ntmps30
  go_wp2_with (first | ((with_reducible refine gate_dst (N := 2) rfl ?_); refine box_event ?hg (N := 2) ?hd (cs := #[.bool false, .string (⟨#[]⟩ : ByteArray)]) (t := 30) ?hr ?_; (case hd => rfl); (case hg => rfl); (case hr => first | (go_simp; done) | (go_simp; rfl)); intro gb123 hg w2 hbox hb; have n0_ := Aside0.mk (below_step (by repeat (first | (with_reducible first | exact HB.out | apply below_alloc | apply pw_below_drewN | apply below_drew1) | exact HB.out)) hb); have n1_ := Aside0.mk (hbox); have n2_ := Aside0.mk ((by rw [hg]; exact (below_size (by repeat (first | (with_reducible first | exact HB.out | apply below_alloc | apply pw_below_drewN | apply below_drew1) | exact HB.out))) : w.heap.size ≤ gb123)); have n3_ := Aside0.mk ((by rw [hg]; exact (below_size (by repeat (first | (with_reducible first | exact HB.out | apply below_alloc | apply pw_below_drewN | apply below_drew1) | exact HB.out))) : w.heap.size ≤ gb123)); clear HB; have HB := n0_; have BK123 := n1_; have GW123 := n2_; have GE123 := n3_; clear n0_ n1_ n2_ n3_; clear hb hbox hg; have hcz3_0 : w2.cell? ⟨gb123, 0, none⟩ = some (.bool false) := (blk_cell BK123.out 0).trans rfl; have hcz3_1 : w2.cell? ⟨gb123, 1, none⟩ = some (.string (⟨#[]⟩ : ByteArray)) := (blk_cell BK123.out 1).trans rfl; have hfz3_0 := blk_frozen BK123.out 0; have hfz3_1 := blk_frozen BK123.out 1))
  refine bodyPost_ret (results_cell_row rfl _ _ gb123 30 #[.bool true, .string a0] (0, 0) _ rfl (by (with_reducible repeat (first | refine blk_drewN ?_ _ | refine blk_drew ?_ | refine blk_alloc ?_ _)); refine blk_put (cs := #[.bool true, .string (⟨#[]⟩ : ByteArray)]) ?_ 1 _ rfl; (with_reducible repeat (first | refine blk_drewN ?_ _ | refine blk_drew ?_ | refine blk_alloc ?_ _)); refine blk_put (cs := #[.bool false, .string (⟨#[]⟩ : ByteArray)]) ?_ 0 _ rfl; (with_reducible repeat (first | refine blk_drewN ?_ _ | refine blk_drew ?_ | refine blk_alloc ?_ _)); exact BK123.out) Tryd.underlying30 rfl (by kernel_rfl)) rfl ?_
  exact ⟨by first | rfl | (simp [errW_none, errW_some] <;> rfl) | (simp [*, errW_none, errW_some] <;> rfl), by repeat (first | (with_reducible first | exact HB.out | apply below_alloc | apply pw_below_drewN | apply below_drew1 | refine below_set ?_ GE123.out) | exact HB.out)⟩

end Go.Proofs.YtgmlhmojcemliaaDoor.P
end
section
namespace Go.Proofs.YtgmlhmojcemliaaDoor.P
open Go.RowKit Go.Proofs.YtgmlhmojcemliaaDoorW.PrintWords Go.Proofs.YtgmlhmojcemliaaDoorW.PrintLast Go.Proofs.YtgmlhmojcemliaaDoorW.PrintMore
attribute [local go_sem] max2_int min2_int max_two min_two max_three min_three max_four min_four   -- for this text's walks alone
set_option linter.unusedVariables false
set_option linter.unusedSimpArgs false

/-! ### letter_text: function 31, GIVEN -/
def letter_text.go : List S71 → Bool → Bool → Bool → List UInt8
  | [], _, _, _ => []
  | p :: l, c, g, b => if p.f0 = 0 then letter_text.go l c b b else (if g = true ∧ c = false then [32] else []) ++ (p.f1.data.toList ++ letter_text.go l c false true)
def letter_text.f (l0 : List S71) (a1 : Bool) : Option ByteArray := if (letter_text.go l0 a1 false false).length ≤ 140737488355328 then some ⟨(letter_text.go l0 a1 false false).toArray⟩ else none
set_option maxHeartbeats 1000000 in
set_option maxRecDepth 100000 in
theorem letter_text.calls (A0 : Option Addr) (c0 : Nat) (l0 : List S71) (a1 : Bool) (r : ByteArray) (w : World) (hr0 : Kd.C k71 w A0 l0.length l0) (hc0 : l0.length ≤ c0) (h : letter_text.f l0 a1 = some r) :
    Calls Tryd.prog 31 #[.slice A0 l0.length c0, .bool a1] w fun e w' => e = .returned (.string r) ∧ Below w.heap.size w w' := by
  unfold letter_text.f at h
  split at h
  case isFalse => cases h
  rename_i hsz
  obtain rfl := Option.some.inj h
  have hlen : l0.length ≤ 9223372036854775807 := hr0.2.1
  have HR := Aside0.mk hr0
  clear h hr0
  go_enter Tryd.func31, Tryd.ntmps31
  go_wp2
  go_loopw [6, 7, 12] (fun v6 v7 v12 wr => ∃ (g b : Bool) (k : Nat) (acc : List UInt8), v6 = .bool g ∧ v7 = .bool b ∧ v12 = .int .i64 k ∧ k ≤ l0.length ∧ Aside0 (letter_text.go l0 a1 false false = acc ++ letter_text.go (l0.drop k) a1 g b) ∧ Aside0 (IsB w.heap.size acc wr) ∧ Aside0 (Below w.heap.size w wr)) (fun _ _ i _ => l0.length - (intOf i).toNat)
  case atStart => exact ⟨false, false, 0, [], rfl, rfl, rfl, Nat.zero_le _, ⟨rfl⟩, ⟨IsB.new w⟩, ⟨(Below.refl _ _).alloc (Nat.le_refl _) _⟩⟩
  case round =>
    obtain ⟨g, b, k, acc, rfl, rfl, rfl, hk, hgo, hI, hB⟩ := hrel
    by_cases hlt : k < l0.length
    · have hd : l0.drop k = rd_T71 l0 k :: l0.drop (k + 1) := by
        rw [List.drop_eq_getElem_cons hlt]; simp [rd_T71, List.getD_eq_getElem?_getD, List.getElem?_eq_getElem hlt]
      obtain ⟨ad, e1, hx0, hx1⟩ := at_T71 HR.out (k : Int) (by omega) (by omega)
      replace hx0 := (hB.out.cell (World.block_lt_of_cell? w _ hx0)).trans hx0
      replace hx1 := (hB.out.cell (World.block_lt_of_cell? w _ hx1)).trans hx1
      simp only [Int.toNat_natCast] at hx0 hx1
      cases e1
      have hgo := hgo.out
      rw [hd, letter_text.go] at hgo
      generalize rd_T71 l0 k = p at hgo hx0 hx1
      have hsz' := hsz
      rw [hgo] at hsz'
      have bl := hI.out.lt
      by_cases h0 : p.f0 = 0
      · rw [if_pos h0] at hgo
        have HG := Aside0.mk hgo
        clear hgo hsz' hd
        have h0b : (p.f0 == 0) = true := by simp [h0]
        clear h0
        go_wp2
        go_roundw
        case rel => exact ⟨_, _, k + 1, acc, rfl, rfl, by go_num, by omega, HG, ⟨hI.out.alloc _⟩, ⟨hB.out.alloc (hB.out.size) _⟩⟩
        case measure => simp [intOf]; omega
      · rw [if_neg h0] at hgo hsz'
        have h0b : (p.f0 == 0) = false := by simp [h0]
        clear h0
        by_cases h1 : g = true ∧ a1 = false
        · obtain ⟨rfl, rfl⟩ := h1
          rw [if_pos ⟨rfl, rfl⟩] at hgo hsz'
          simp only [List.length_append, List.length_cons, List.length_nil] at hsz'
          have HG := Aside0.mk hgo
          clear hgo hd
          go_wp2_with (go_at_call 59; refine (bW1 w.heap.size acc 32 32 rfl _ (hI.out.alloc _) (by omega)).mono ?_)
          rintro e w1 ⟨rfl, hI1, hB1, hK1⟩
          have hb1 : w1.heap[wr.heap.size]? = some (.cells #[.int .i64 p.f0, .string p.f1] 71 (0, 0)) := okept hK1 (heap_alloc_new _ _) (by decide) (by omega)
          have c0' := cell_blk hb1 0
          have c1' := cell_blk hb1 1
          go_wp2_with (go_at_call 55; refine (bWS w.heap.size (acc ++ [32]) p.f1 _ hI1 (by simp only [List.length_append, List.length_cons, List.length_nil]; omega)).mono ?_)
          rintro e w2 ⟨rfl, hI2, hB2, hK2⟩
          go_wp2
          go_roundw
          case rel => exact ⟨false, true, k + 1, acc ++ [32] ++ p.f1.data.toList, rfl, rfl, by go_num, by omega, ⟨by rw [HG.out]; simp⟩, ⟨hI2⟩, ⟨((hB.out.alloc hB.out.size _).trans hB1).trans hB2⟩⟩
          case measure => simp [intOf]; omega
        · rw [if_neg h1] at hgo hsz'
          simp only [List.length_append, List.nil_append] at hsz' hgo
          have HG := Aside0.mk hgo
          clear hgo hd
          rcases g with _ | _ <;> rcases a1 with _ | _ <;> first | (exact absurd ⟨rfl, rfl⟩ h1) | skip
          all_goals
            clear h1
            go_wp2_with (go_at_call 55; refine (bWS w.heap.size acc p.f1 _ (hI.out.alloc _) (by omega)).mono ?_)
            rintro e w2 ⟨rfl, hI2, hB2, hK2⟩
            go_wp2
            go_roundw
            case rel => exact ⟨false, true, k + 1, acc ++ p.f1.data.toList, rfl, rfl, by go_num, by omega, ⟨by rw [HG.out]; simp⟩, ⟨hI2⟩, ⟨(hB.out.alloc hB.out.size _).trans hB2⟩⟩
            case measure => simp [intOf]; omega
    · have hk' : k = l0.length := by omega
      have hgo := hgo.out
      rw [hk', List.drop_length, letter_text.go, List.append_nil] at hgo
      have HG := Aside0.mk hgo
      clear hgo hk'
      go_wp2_with (go_at_call 57; refine (bStr w.heap.size acc wr hI.out).mono ?_; rintro e w' ⟨rfl, hI', hB', hK'⟩)
      go_ret
      exact ⟨by rw [HG.out]; rfl, hB.out.trans hB'⟩
end Go.Proofs.YtgmlhmojcemliaaDoor.P
end
