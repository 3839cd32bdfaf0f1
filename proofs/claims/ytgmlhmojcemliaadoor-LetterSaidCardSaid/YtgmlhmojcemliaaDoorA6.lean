/- The statement LetterSaidCardSaid is proved: for every list of people and every gap text, the Go law postbaglaw5.LetterSaid returns true and leaves its arguments as they were. Conditions: only those that the given row and card state themselves (the two listed tables of unicode/utf8 are laid as the program's own text lays them). -/
import Derived.Test.YtgmlhmojcemliaaDoorA5
import Derived.Test.YtgmlhmojcemliaaDoorCards
import Derived.Test.YtgmlhmojcemliaaDoorTie
import Derived.WalkKit
import Derived.ProofKit
import Derived.OpenShut
import Derived.ShutString
import Derived.ChangeOld
import Derived.Below
import Derived.SizedLaws
import Derived.Deep.DeepHandedRow
import Derived.Lib.LaidTab
import Derived.Deep.Slices
import Derived.Deep.Fields
import Derived.ChangeSame
import Derived.Shelf.Vars
section
/- The law LetterSaid, walked: for every list of people and every gap it returns true. -/
namespace Go.Proofs.YtgmlhmojcemliaaDoor.P
open Go.RowKit Go.Proofs.YtgmlhmojcemliaaDoorW.PrintWords Go.Proofs.YtgmlhmojcemliaaDoorW.PrintLast Go.Proofs.YtgmlhmojcemliaaDoorW.PrintMore
set_option linter.unusedVariables false
set_option linter.unusedSimpArgs false
theorem atom_f (s : ByteArray) : postbaglaw5_atom.f s = some (atomB s) := rfl
/-- What the law's loop carries. -/
def LsSz (B : ByteArray) (l : List S28) (k : Nat) : Prop := (∀ p ∈ l.take k, okP p) ∧ (sAt B l k).size ≤ k * 4000 ∧ (iAt B l k).size ≤ k * 2000
theorem t2B_size (B : ByteArray) (p : S28) (hB : B.size ≤ 47) (h0 : p.f0.size ≤ 200) (h1 : p.f1.size ≤ 200) : (t0B B p).size ≤ 600 ∧ (t1B B p).size ≤ 1200 ∧ (t2B B p).size ≤ 1400 := by
  have q1 := quoB_size p.f1
  have q0 := quoB_size p.f0
  have a2 := atomB_size p.f2
  have z1 : (⟨#[64]⟩ : ByteArray).size = 1 := rfl
  have z2 : (⟨#[32, 46, 32]⟩ : ByteArray).size = 3 := rfl
  have z3 : (⟨#[60]⟩ : ByteArray).size = 1 := rfl
  have z4 : (⟨#[62]⟩ : ByteArray).size = 1 := rfl
  have z5 : (⟨#[103]⟩ : ByteArray).size = 1 := rfl
  have z6 : (⟨#[58]⟩ : ByteArray).size = 1 := rfl
  have z7 : (⟨#[59]⟩ : ByteArray).size = 1 := rfl
  have h0' : (t0B B p).size ≤ 600 := by
    unfold t0B; simp only [ByteArray.size_append]; omega
  have h1' : (t1B B p).size ≤ 1200 := by
    unfold t1B; split
    · simp only [ByteArray.size_append]; omega
    · omega
  refine ⟨h0', h1', ?_⟩
  unfold t2B; split
  · simp only [ByteArray.size_append]; omega
  · omega
theorem LsSz.next {B : ByteArray} {l : List S28} {k : Nat} (h : LsSz B l k) (hB : B.size ≤ 47) (hk : k < l.length) (h0 : (rd_T28 l (k : Int)).f0.size ≤ 200) (h1 : (rd_T28 l (k : Int)).f1.size ≤ 200) : LsSz B l (k + 1) := by
  obtain ⟨ha, hs, hi⟩ := h
  have ht := t2B_size B _ hB h0 h1
  have q1 := quoB_size ((rd_T28 l (k : Int)).f1 ++ (⟨#[97]⟩ : ByteArray))
  have a2 := atomB_size (rd_T28 l (k : Int)).f2
  refine ⟨?_, ?_, ?_⟩
  · rw [take_rd l k hk]
    intro p hp
    rcases List.mem_append.1 hp with hp | hp
    · exact ha p hp
    · obtain rfl := List.mem_singleton.1 hp
      exact ⟨by omega, by omega⟩
  · rw [sAt, sNext]
    have z1 : (⟨#[44]⟩ : ByteArray).size = 1 := rfl
    split
    · simp only [ByteArray.size_append]; omega
    · simp only [ByteArray.size_append]; omega
  · rw [iAt, iB]
    have z1 : (⟨#[60]⟩ : ByteArray).size = 1 := rfl
    have z2 : (⟨#[64]⟩ : ByteArray).size = 1 := rfl
    have z3 : (⟨#[62]⟩ : ByteArray).size = 1 := rfl
    have z4 : (⟨#[97]⟩ : ByteArray).size = 1 := rfl
    simp only [ByteArray.size_append] at q1 ⊢; omega
theorem gapB_size (g : ByteArray) : (gapB g).size ≤ 47 := by
  have := atomB_size g
  unfold gapB
  simp only [ByteArray.size_append]
  have z1 : (⟨#[40]⟩ : ByteArray).size = 1 := rfl
  have z2 : (⟨#[32, 92, 41, 32, 44, 32, 60, 113, 64, 114, 62, 59, 32, 113, 58, 32, 92, 92, 32, 40, 40, 120, 41, 41, 41]⟩ : ByteArray).size = 25 := rfl
  omega
theorem hostD_eq (p : S28) : atomB p.f2 ++ (⟨#[46]⟩ : ByteArray) ++ atomB p.f2 = hostD (hostB p) := by
  apply ByteArray.ext
  simp [hostD, hostB, atomB]
def adrCells (x : S32) : List Value := [.bool x.f0.f0, .string x.f0.f1, .bool x.f1.f0, .string x.f1.f1, .bool x.f2.f0, .string x.f2.f1, .bool x.f3.f0, .string x.f3.f1]
theorem reads3 (w : World) (x y z : S32) (cs : Array Value) (h : cs.toList = adrCells x ++ adrCells y ++ adrCells z) : Kd.C k32 (w.alloc (.cells cs 32)) (some ⟨w.heap.size, 0, none⟩) 3 [x, y, z] := by
  have hb := heap_alloc_new w (.cells cs 32)
  have hcs : ∀ i : Nat, (w.alloc (.cells cs 32)).cell? ⟨w.heap.size, i, none⟩ = (adrCells x ++ adrCells y ++ adrCells z)[i]? := by
    intro i; rw [blk_cell hb i, ← h]; simp
  refine ⟨rfl, by decide, fun _ => ⟨_, rfl, fun j q hj => ?_⟩⟩
  refine ⟨adrCells q, rfl, k32_mk _ q, fun i u hi => ?_⟩
  rw [add_plain, show k32.sz = 8 from rfl, hcs]
  have hi8 : i < 8 := by have := (List.getElem?_eq_some_iff.1 hi).1; simpa [adrCells] using this
  match j, hj with
  | 0, hj => cases hj; rw [List.append_assoc, List.getElem?_append_left (by simp [adrCells]; omega)]; simpa using hi
  | 1, hj => cases hj; rw [List.getElem?_append_left (by simp [adrCells]; omega), List.getElem?_append_right (by simp [adrCells])]; simpa [adrCells] using hi
  | 2, hj => cases hj; rw [List.getElem?_append_right (by simp [adrCells])]; simpa [adrCells] using hi
theorem want_len (l : List S28) : (l.flatMap wantP).length ≤ 3 * l.length := by
  induction l with
  | nil => simp
  | cons p r ih => simp only [List.flatMap_cons, List.length_append, List.length_cons]; have : (wantP p).length ≤ 3 := by unfold wantP; split <;> simp
                   omega
set_option maxHeartbeats 4000000 in
set_option maxRecDepth 100000 in
theorem said (A0 : Option Addr) (c0 : Nat) (l : List S28) (g : ByteArray) (w : World) (hr0 : Kd.C k28 w A0 l.length l) (hG : Good w) :
    Calls Tryd.prog 3 #[.slice A0 l.length c0, .string g] w fun e w' => e = .returned (.bool true) ∧ Below w.heap.size w w' := by
  have hll : l.length ≤ 9223372036854775807 := hr0.2.1
  have HR := Aside0.mk hr0
  clear hr0
  by_cases h10 : 10 < l.length
  · go_enter Tryd.func3, Tryd.ntmps3
    go_wp2
    go_ret
    exact ⟨rfl, Below.refl _ _⟩
  by_cases h200 : 200 < g.size
  · go_enter Tryd.func3, Tryd.ntmps3
    go_wp2
    go_ret
    exact ⟨rfl, Below.refl _ _⟩
  go_enter Tryd.func3, Tryd.ntmps3
  go_wp2_with fail
  refine (postbaglaw5_known.calls _ hG).mono ?_
  rintro e w1 ⟨rfl, hB1⟩
  go_wp2_with fail
  refine (postbaglaw5_atom.calls _ _ _ (atom_f g)).mono ?_
  rintro e w2 ⟨rfl, hB2⟩
  have HB2 := Aside0.mk (below_step hB1 hB2)
  clear hB1 hB2
  have hag := atomB_size g
  have HSZ0 : Aside0 (LsSz (gapB g) l 0) := ⟨⟨by intro p hp; simp at hp, Nat.le_refl 0, Nat.le_refl 0⟩⟩
  have hBs := gapB_size g
  go_wp2_with fail
  have hgap : (⟨#[40]⟩ : ByteArray) ++ atomB g ++ (⟨#[32, 92, 41, 32, 44, 32, 60, 113, 64, 114, 62, 59, 32, 113, 58, 32, 92, 92, 32, 40, 40, 120, 41, 41, 41]⟩ : ByteArray) = gapB g := rfl
  rw [hgap]
  clear hgap hag
  generalize hBdef : gapB g = B at HSZ0 hBs ⊢
  have HBD := Aside0.mk hBdef
  clear hBdef
  go_loopg [6, 7, 8, 9, 10] (l.length) (fun kq v6 v7 v8 v9 v10 wr => ∃ (k c8 c9 : Nat) (A8 A9 : Option Addr) (wl : List S32) (nl : List ByteArray), v6 = .string (sAt B l k) ∧ v7 = .string (iAt B l k) ∧ v8 = .slice A8 wl.length c8 ∧ v9 = .slice A9 nl.length c9 ∧ v10 = .int .i64 k ∧ k ≤ l.length ∧ Aside0 (kq = l.length - k) ∧ Aside0 (wl = (l.take k).flatMap wantP ∧ nl = (l.take k).map nameB) ∧ Aside0 (LsSz B l k) ∧ Aside0 (Kd.R k32 32 wr w.heap.size (fun _ => True) (.slice A8 wl.length c8) wl) ∧ Aside0 (Kd.R Kd.string 9 wr w.heap.size (fun _ => True) (.slice A9 nl.length c9) nl) ∧ Aside0 (Below w.heap.size w wr))
  case atStart => exact ⟨0, 0, 0, none, none, [], [], rfl, rfl, rfl, rfl, rfl, Nat.zero_le _, ⟨rfl⟩, ⟨rfl, rfl⟩, HSZ0, ⟨Kd.R_nil _ _ _ _ _⟩, ⟨Kd.R_nil _ _ _ _ _⟩, HB2⟩
  case round =>
    obtain ⟨k, c8, c9, A8, A9, wl, nl, rfl, rfl, rfl, rfl, rfl, hk, hkq, hwn, hSZ, hR8, hR9, hB⟩ := hrel
    clear HB2 HSZ0
    have hwl2 : wl.length ≤ 30 := by have := want_len (l.take k); rw [List.length_take] at this; rw [hwn.out.1]; omega
    have hnl2 : nl.length ≤ 10 := by rw [hwn.out.2, List.length_map, List.length_take]; omega
    have hss := hSZ.out.2.1
    have hsi := hSZ.out.2.2
    by_cases hlt : k < l.length
    · obtain ⟨ad, e1, hx0, hx1, hx2, hx3, hx4⟩ := at_T28 HR.out (k : Int) (by omega) (by omega)
      simp only [Int.toNat_natCast] at hx0 hx1 hx2 hx3 hx4
      cases e1
      replace hx0 := (hB.out.cell (World.block_lt_of_cell? w _ hx0)).trans hx0
      replace hx1 := (hB.out.cell (World.block_lt_of_cell? w _ hx1)).trans hx1
      replace hx2 := (hB.out.cell (World.block_lt_of_cell? w _ hx2)).trans hx2
      replace hx3 := (hB.out.cell (World.block_lt_of_cell? w _ hx3)).trans hx3
      replace hx4 := (hB.out.cell (World.block_lt_of_cell? w _ hx4)).trans hx4
      have hnx := fun h0 h1 => hSZ.out.next hBs hlt h0 h1
      have hts := fun h0 h1 => t2B_size B (rd_T28 l (k : Int)) hBs h0 h1
      have hsn : sAt B l (k + 1) = sNext B k (rd_T28 l (k : Int)) (sAt B l k) := rfl
      have hin : iAt B l (k + 1) = iB B (rd_T28 l (k : Int)) (iAt B l k) := rfl
      have htk := take_rd l k hlt
      have HNX := Aside0.mk hnx
      have HSN := Aside0.mk hsn
      have HIN := Aside0.mk hin
      have HTK := Aside0.mk htk
      have HTS := Aside0.mk hts
      clear hnx hsn hin htk hts
      generalize rd_T28 l (k : Int) = p at hx0 hx1 hx2 hx3 hx4 HNX HSN HIN HTK HTS
      generalize sAt B l k = sk at hss HSN ⊢
      generalize iAt B l k = ik at hsi HIN ⊢
      have hwb := hB.out.size
      by_cases h0 : 200 < p.f0.size
      · go_wp2
        go_ret
        exact ⟨rfl, below_alloc hB.out _⟩
      · by_cases h1 : 200 < p.f1.size
        · go_wp2
          go_ret
          exact ⟨rfl, below_alloc hB.out _⟩
        · have hq1 := quoB_size p.f1
          have hq0 := quoB_size p.f0
          have hat := atomB_size p.f2
          have hsz := HTS.out (by omega) (by omega)
          have hqa : (quoB (p.f1 ++ (⟨#[97]⟩ : ByteArray))).size ≤ 404 := by
            have := quoB_size (p.f1 ++ (⟨#[97]⟩ : ByteArray))
            have z4 : (⟨#[97]⟩ : ByteArray).size = 1 := rfl
            simp only [ByteArray.size_append] at this
            omega
          go_wp2_with fail
          refine (postbaglaw5_atom.calls _ _ _ (atom_f p.f2)).mono ?_
          rintro e w3 ⟨rfl, hb⟩
          have HP := Aside0.mk ((hb.block wr.heap.size (by simp)).trans (heap_alloc_new wr _))
          have HR8 := Aside0.mk (Kd.R_below (Kd.R_alloc hR8.out _) hb)
          have HR9 := Aside0.mk (Kd.R_below (Kd.R_alloc hR9.out _) hb)
          have HB3 := Aside0.mk (below_step (below_alloc hB.out _) hb)
          have hg3 : wr.heap.size < w3.heap.size := by have := hb.size; simp at this; omega
          clear hb hx0 hx1 hx2 hx3 hx4 hR8 hR9 hB
          generalize wr.heap.size = gp at HP hwb hg3 ⊢
          have b1 := (blk_cell HP.out 1).trans rfl
          go_wp2_with fail
          refine (postbaglaw5_quote.calls 300 _ _ _ (quote_f p.f1 (by omega) 300 (by omega))).mono ?_
          rintro e w4 ⟨rfl, hb⟩
          have HA := Aside0.mk ((hb.block w3.heap.size (by simp)).trans (heap_alloc_new w3 _))
          have HP4 := Aside0.mk ((hb.block gp (by simp; omega)).trans ((heap_alloc_old w3 _ hg3).trans HP.out))
          have HR84 : Aside0 (Kd.R k32 32 w4 w.heap.size (fun k_ => k_ ≠ w3.heap.size) (.slice A8 wl.length c8) wl) := ⟨Kd.R_mono (Kd.R_below (Kd.R_alloc (Kd.R_elderB HR8.out w3.heap.size (Nat.le_refl _)) _) hb) (fun _ hk => hk.2)⟩
          have HR94 := Aside0.mk (Kd.R_below (Kd.R_alloc HR9.out _) hb)
          have HB4 := Aside0.mk (below_step (below_alloc HB3.out _) hb)
          have hg4 : w3.heap.size < w4.heap.size := by have := hb.size; simp at this; omega
          have hw3 : w.heap.size ≤ w3.heap.size := HB3.out.size
          clear hb HR8 HR9 HB3 HP b1
          generalize w3.heap.size = ga at HA hg3 hg4 hw3 HR84 ⊢
          have b1 := (blk_cell HP4.out 1).trans rfl
          go_wp2_with fail
          generalize hT0 : quoB p.f1 ++ B ++ (⟨#[64]⟩ : ByteArray) ++ atomB p.f2 ++ (⟨#[32, 46, 32]⟩ : ByteArray) ++ atomB p.f2 = T0
          have HT0 := Aside0.mk hT0
          have hT0s : T0.size ≤ 600 := by rw [← hT0]; exact hsz.1
          clear hT0
          refine (postbaglaw5_quote.calls 300 _ _ _ (quote_f (p.f1 ++ (⟨#[97]⟩ : ByteArray)) (by rw [ByteArray.size_append]; have z4 : (⟨#[97]⟩ : ByteArray).size = 1 := rfl; omega) 300 (by rw [ByteArray.size_append]; have z4 : (⟨#[97]⟩ : ByteArray).size = 1 := rfl; omega))).mono ?_
          rintro e w5 ⟨rfl, hb⟩
          have HA5 := Aside0.mk ((hb.block ga (by omega)).trans HA.out)
          have HP5 := Aside0.mk ((hb.block gp (by omega)).trans HP4.out)
          have HR85 := Aside0.mk (Kd.R_below HR84.out hb)
          have HR95 := Aside0.mk (Kd.R_below HR94.out hb)
          have HB5 := Aside0.mk (below_step HB4.out hb)
          have hg5 : ga < w5.heap.size := by have := hb.size; omega
          clear hb HA HP4 HR84 HR94 HB4 b1 hg4
          have b1 := (blk_cell HP5.out 1).trans rfl
          go_upto_if 96 with ((with_reducible refine gate_builtin (b := .append) (xs := #[.tmp 87, .tmp 93]) rfl ?_); at_builtin; refine Kd.R_append Kd.string (w0 := w) w.heap.size rfl (.tmp 87) (.tmp 93) 26 9 (.string ⟨#[]⟩) 16 rfl Tryd.underlying26 info9 rfl (by decide) (by omega) (.slice A9 nl.length c9) nl (p.f1 ++ (⟨#[97, 64]⟩ : ByteArray) ++ atomB p.f2) [.string (p.f1 ++ (⟨#[97, 64]⟩ : ByteArray) ++ atomB p.f2)] (fun _ => True) (fun _ => False) rfl rfl ?aP (fun _ hk => hk.elim) (fun _ _ => trivial) ?aO ?aB ?aS ?aL ?_; (case aP => exact rfl); (case aO => exact HR95.out); (case aB => exact HB5.out); (case aS => exact below_size HB5.out); (case aL => omega); intro v9 w6 ho hb hg hat; have HR86 := Aside0.mk (Kd.R_over' HR85.out (Kd.R_typed HR95.out) (by decide) hg); have HA6 := Aside0.mk (blk_grown HA5.out hg (Kd.R_ne HR95.out HA5.out (by decide))); have HP6 := Aside0.mk (blk_grown HP5.out hg (Kd.R_ne HR95.out HP5.out (by decide))); have HB6 := Aside0.mk hb; have HR96 := Aside0.mk ho; have hg6 : ga < w6.heap.size := (Array.getElem?_eq_some_iff.1 HA6.out).1; obtain ⟨E9, d9, rfl⟩ := Kd.R_slice ho; have b36 := (blk_cell HP6.out 3).trans rfl; clear ho hb hg hat)
          have HA6' : Aside0 (w6.heap[ga]? = some (.cells #[.bool false, .string ⟨#[]⟩, .bool false, .string ⟨#[]⟩, .bool true, .string p.f1, .bool true, .string (hostD (hostB p))] 32 (0, 0))) := ⟨by rw [← hostD_eq]; exact HA6.out⟩
          clear HA6 HA5 HP5 HR85 HR95 HB5 b1
          go_cut [14] (fun v14 wx => v14 = .string (t1B B p) ∧ Aside0 (wx.heap[gp]? = some (.cells #[.string p.f0, .string p.f1, .string p.f2, .bool p.f3, .bool p.f4] 28 (0, 0))) ∧ Aside0 (wx.heap[ga]? = some (.cells #[.bool p.f3, .string (if p.f3 = true then p.f0 else ⟨#[]⟩), .bool false, .string ⟨#[]⟩, .bool true, .string p.f1, .bool true, .string (hostD (hostB p))] 32 (0, 0))) ∧ Aside0 (Kd.R k32 32 wx w.heap.size (fun k_ => k_ ≠ ga) (.slice A8 wl.length c8) wl) ∧ Aside0 (Kd.R Kd.string 9 wx w.heap.size (fun _ => True) (.slice E9 (nl ++ [p.f1 ++ (⟨#[97, 64]⟩ : ByteArray) ++ atomB p.f2]).length d9) (nl ++ [p.f1 ++ (⟨#[97, 64]⟩ : ByteArray) ++ atomB p.f2])) ∧ Aside0 (Below w.heap.size w wx))
          case first =>
            cases h3 : p.f3
            · go_wp2_with fail
              go_meet
              exact ⟨by unfold t1B; rw [if_neg (by rw [h3]; simp), ← HT0.out]; rfl, HP6, ⟨by simpa [h3] using HA6'.out⟩, HR86, HR96, HB6⟩
            · have b0 := (blk_cell HP6.out 0).trans rfl
              have a0 := (blk_cell HA6'.out 0).trans rfl
              have a1 := (blk_cell HA6'.out 1).trans rfl
              have f0 := blk_frozen HA6'.out 0
              have f1 := blk_frozen HA6'.out 1
              have hgne : gp ≠ ga := by omega
              go_wp2_with fail
              refine (postbaglaw5_quote.calls 300 _ _ _ (quote_f p.f0 (by omega) 300 (by omega))).mono ?_
              rintro e w7 ⟨rfl, hb⟩
              have ha1 := blk_put (cs' := #[.bool true, .string p.f0, .bool false, .string ⟨#[]⟩, .bool true, .string p.f1, .bool true, .string (hostD (hostB p))]) (blk_put (cs' := #[.bool true, .string ⟨#[]⟩, .bool false, .string ⟨#[]⟩, .bool true, .string p.f1, .bool true, .string (hostD (hostB p))]) HA6'.out 0 (.bool true) rfl) 1 (.string p.f0) rfl
              have hp1 := blk_far (p := ⟨ga, 1, none⟩) (blk_far (p := ⟨ga, 0, none⟩) HP6.out hgne (.bool true)) hgne (.string p.f0)
              have r8 := Kd.R_far (p := ⟨ga, 1, none⟩) (Kd.R_far (p := ⟨ga, 0, none⟩) HR86.out (fun _ hk => hk) (.bool true)) (fun _ hk => hk) (.string p.f0)
              have r9 := Kd.R_set (Kd.R_set HR96.out HA6'.out (by decide) 0 (.bool true)) (blk_put (cs' := #[.bool true, .string ⟨#[]⟩, .bool false, .string ⟨#[]⟩, .bool true, .string p.f1, .bool true, .string (hostD (hostB p))]) HA6'.out 0 (.bool true) rfl) (by decide) 1 (.string p.f0)
              have HA7 := Aside0.mk ((hb.block ga (blk_lt ha1)).trans ha1)
              have HP7 := Aside0.mk ((hb.block gp (blk_lt hp1)).trans hp1)
              have HR87 := Aside0.mk (Kd.R_below r8 hb)
              have HR97 := Aside0.mk (Kd.R_below r9 hb)
              have HB7 := Aside0.mk (below_step (below_set (below_set HB6.out (by omega)) (by omega)) hb)
              have HT1 : Aside0 (t1B B p = quoB p.f0 ++ B ++ (⟨#[60]⟩ : ByteArray) ++ T0 ++ (⟨#[62]⟩ : ByteArray)) := ⟨by unfold t1B; rw [if_pos h3, ← HT0.out]; rfl⟩
              clear hb ha1 hp1 r8 r9 a0 a1 f0 f1 b0
              go_wp2_with fail
              go_meet
              exact ⟨by rw [HT1.out], HP7, ⟨by simpa [h3] using HA7.out⟩, HR87, HR97, HB7⟩
          case rest =>
            rename_i wc
            obtain ⟨rfl, HP7, HA7, HR87, HR97, HB7⟩ := hcut
            clear HP6 HA6' HR86 HR96 HB6 b36 HT0 hT0s
            have hga7 := blk_lt HA7.out
            have hwa : wantA p = ⟨⟨p.f3, if p.f3 = true then p.f0 else ⟨#[]⟩⟩, ⟨false, ⟨#[]⟩⟩, ⟨true, p.f1⟩, ⟨true, hostD (hostB p)⟩⟩ := rfl
            generalize (if p.f3 = true then p.f0 else (⟨#[]⟩ : ByteArray)) = nm0 at HA7 hwa
            have HWA := Aside0.mk hwa
            clear hwa
            have ht1s := hsz.2.1
            have b4 := (blk_cell HP7.out 4).trans rfl
            generalize hT1 : t1B B p = T1 at ht1s ⊢
            have HT1 := Aside0.mk hT1
            clear hT1
            generalize hnl' : nl ++ [p.f1 ++ (⟨#[97, 64]⟩ : ByteArray) ++ atomB p.f2] = nl1 at HR97 ⊢
            have HNL := Aside0.mk hnl'
            clear hnl'
            go_upto_if 111 with fail
            go_cut [8, 14] (fun v8 v14 wx => ∃ (d8 : Nat) (E8 : Option Addr) (wl1 : List S32), v8 = .slice E8 wl1.length d8 ∧ v14 = .string (t2B B p) ∧ Aside0 (wl1 = wl ++ wantP p) ∧ Aside0 (Kd.R k32 32 wx w.heap.size (fun _ => True) (.slice E8 wl1.length d8) wl1) ∧ Aside0 (Kd.R Kd.string 9 wx w.heap.size (fun _ => True) (.slice E9 nl1.length d9) nl1) ∧ Aside0 (Below w.heap.size w wx))
            case first =>
              have a0 := (blk_cell HA7.out 0).trans rfl
              have a1 := (blk_cell HA7.out 1).trans rfl
              have a2 := (blk_cell HA7.out 2).trans rfl
              have a3 := (blk_cell HA7.out 3).trans rfl
              have a4 := (blk_cell HA7.out 4).trans rfl
              have a5 := (blk_cell HA7.out 5).trans rfl
              have a6 := (blk_cell HA7.out 6).trans rfl
              have a7 := (blk_cell HA7.out 7).trans rfl
              cases h4 : p.f4
              · go_wp2_with ((with_reducible refine gate_builtin (b := .append) (xs := #[.tmp 127, .tmp 129]) rfl ?_); at_builtin; refine Kd.R_append k32 (w0 := w) w.heap.size rfl (.tmp 127) (.tmp 129) 25 32 (.agg #[.bool false, .string ⟨#[]⟩, .bool false, .string ⟨#[]⟩, .bool false, .string ⟨#[]⟩, .bool false, .string ⟨#[]⟩]) 96 rfl Tryd.underlying25 info32 rfl (by decide) (by omega) (.slice A8 wl.length c8) wl (⟨⟨p.f3, nm0⟩, ⟨false, ⟨#[]⟩⟩, ⟨true, p.f1⟩, ⟨true, hostD (hostB p)⟩⟩ : S32) [.bool p.f3, .string nm0, .bool false, .string ⟨#[]⟩, .bool true, .string p.f1, .bool true, .string (hostD (hostB p))] (fun k_ => k_ ≠ ga) (fun _ => False) rfl (by first | (go_simp; done) | (go_simp; rfl)) ?aP (fun _ hk => hk.elim) ?aF ?aO ?aB ?aS ?aL ?_; (case aP => exact k32_mkM _ _ _ _); (case aF => intro k_ hk_; omega); (case aO => exact HR87.out); (case aB => exact HB7.out); (case aS => exact below_size HB7.out); (case aL => omega); intro v8 w8 ho hb hg hat; have HR98 := Aside0.mk (Kd.R_over' HR97.out (Kd.R_typed HR87.out) (by decide) hg); have HB8 := Aside0.mk hb; have HR88 := Aside0.mk (Kd.R_mono ho (fun _ _ => trivial)); obtain ⟨E8, d8, rfl⟩ := Kd.R_slice ho; clear ho hb hg hat)
                go_meet
                exact ⟨d8, E8, _, by rw [List.length_append]; rfl, by unfold t2B; rw [if_neg (by rw [h4]; simp)]; rw [HT1.out], ⟨by unfold wantP; rw [if_neg (by rw [h4]; simp), HWA.out]⟩, HR88, HR98, HB8⟩
              · go_wp2_with ((with_reducible refine gate_builtin (b := .append) (xs := #[.tmp 120, .tmp 125]) rfl ?_); at_builtin; go_loud (refine Kd.R_append_rows k32 (Rr := k32.K (wc.alloc (.cells #[.bool false, .string ⟨#[]⟩, .bool false, .string ⟨#[]⟩, .bool true, .string gB, .bool false, .string ⟨#[]⟩, .bool p.f3, .string nm0, .bool false, .string ⟨#[]⟩, .bool true, .string p.f1, .bool true, .string (hostD (hostB p)), .bool false, .string ⟨#[]⟩, .bool false, .string ⟨#[]⟩, .bool false, .string ⟨#[]⟩, .bool false, .string ⟨#[]⟩] 32))) (w0 := w) w.heap.size rfl (.tmp 120) (.tmp 125) 25 32 (.agg #[.bool false, .string ⟨#[]⟩, .bool false, .string ⟨#[]⟩, .bool false, .string ⟨#[]⟩, .bool false, .string ⟨#[]⟩]) 96 rfl Tryd.underlying25 info32 rfl (by decide) (by omega) (.slice A8 wl.length c8) wl [gA, (⟨⟨p.f3, nm0⟩, ⟨false, ⟨#[]⟩⟩, ⟨true, p.f1⟩, ⟨true, hostD (hostB p)⟩⟩ : S32), zA] (some ⟨wc.heap.size, 0, none⟩) 3 3 (fun k_ => k_ ≠ ga) (fun _ => False) rfl rfl (Kd.R_alloc HR87.out _) (reads3 wc _ _ _ _ rfl) ?aK (fun _ hk => hk.elim) ?aF (below_alloc HB7.out _) ?aS ?aL ?_); (case aK => intro x_ cs_ h_; obtain rfl := k32_open h_; exact k32_mkM _ _ _ _); (case aF => intro k_ hk_; simp at hk_; omega); (case aS => have := below_size HB7.out; simp; omega); (case aL => omega); intro v8 w8 ho hb hg hat; have HR98 := Aside0.mk (Kd.R_over' (Kd.R_alloc HR97.out _) (Kd.R_typed (Kd.R_alloc HR87.out _)) (by decide) hg); have HB8 := Aside0.mk hb; have HR88 := Aside0.mk (Kd.R_mono ho (fun _ _ => trivial)); obtain ⟨E8, d8, rfl⟩ := Kd.R_slice ho; clear ho hb hg hat)
                go_meet
                exact ⟨d8, E8, _, by rw [List.length_append]; rfl, by unfold t2B; rw [if_pos h4]; rw [HT1.out], ⟨by unfold wantP; rw [if_pos h4, HWA.out]⟩, HR88, HR98, HB8⟩
            case rest =>
              rename_i wd
              obtain ⟨d8, E8, wl1, rfl, rfl, HWL, HR8, HR9, HB8⟩ := hcut
              clear HR87 HR97 HB7 HA7 HP7 b4
              have ht2s := hsz.2.2
              have HDONE : Aside0 (wl1 = (l.take (k + 1)).flatMap wantP ∧ nl1 = (l.take (k + 1)).map nameB) := ⟨by
                rw [HTK.out, List.flatMap_append, List.map_append, ← hwn.out.1, ← hwn.out.2, HWL.out, ← HNL.out]
                exact ⟨by simp, by simp [nameB, hostB, atomB]⟩⟩
              have hnl1 : nl1.length = nl.length + 1 := by rw [← HNL.out, List.length_append]; rfl
              have HNL1 := Aside0.mk hnl1
              clear hnl1
              by_cases hk0 : 0 < k
              · have hsn2 : sNext B k p sk = sk ++ B ++ (⟨#[44]⟩ : ByteArray) ++ t2B B p := by unfold sNext; rw [if_pos hk0]
                have HS2 := Aside0.mk hsn2
                clear hsn2
                generalize t2B B p = T2 at ht2s HS2 ⊢
                go_wp2
                go_roundg (l.length - (k + 1))
                case measure => have := hkq.out; omega
                case rel => exact ⟨k + 1, d8, d9, E8, E9, wl1, nl1, by rw [HSN.out, HS2.out], by rw [HIN.out]; rfl, rfl, by rw [HNL1.out], by go_num, by omega, ⟨rfl⟩, HDONE, ⟨HNX.out (by omega) (by omega)⟩, HR8, HR9, HB8⟩
              · have hsn2 : sNext B k p sk = sk ++ t2B B p := by unfold sNext; rw [if_neg hk0]
                have HS2 := Aside0.mk hsn2
                clear hsn2
                generalize t2B B p = T2 at ht2s HS2 ⊢
                go_wp2
                go_roundg (l.length - (k + 1))
                case measure => have := hkq.out; omega
                case rel => exact ⟨k + 1, d8, d9, E8, E9, wl1, nl1, by rw [HSN.out, HS2.out], by rw [HIN.out]; rfl, rfl, by rw [HNL1.out], by go_num, by omega, ⟨rfl⟩, HDONE, ⟨HNX.out (by omega) (by omega)⟩, HR8, HR9, HB8⟩
    · obtain rfl : k = l.length := by omega
      have hD := hwn.out
      rw [List.take_length] at hD
      have hok := hSZ.out.1
      rw [List.take_length] at hok
      have hra := read_addresses g l (by omega) hok (by rw [HBD.out]; omega)
      have hri := read_ids g l (by omega) hok (by rw [HBD.out]; omega)
      rw [HBD.out] at hra hri
      rw [← hD.1] at hra
      rw [← hD.2] at hri
      have HRA := Aside0.mk hra
      have HRI := Aside0.mk hri
      clear hra hri hD hok
      generalize sAt B l l.length = sk at hss HRA ⊢
      generalize iAt B l l.length = ik at hsi HRI ⊢
      go_wp2_with fail
      refine (letter_Addresses.calls 300 _ _ _ HRA.out).mono ?_
      rintro e w3 ⟨v15, rfl, hra, hb⟩
      have HR8 := Aside0.mk (Kd.R_below hR8.out hb)
      have HR9 := Aside0.mk (Kd.R_below hR9.out hb)
      have HB3 := Aside0.mk (below_step hB.out hb)
      obtain ⟨A15, c15, rfl⟩ := Kd.R_slice hra
      have HRa := Aside0.mk hra
      clear hb hra hR8 hR9 hB
      go_wp2_with fail
      refine (letter_Ids.calls 300 _ _ _ (hG.below HB3.out) HRI.out).mono ?_
      rintro e w4 ⟨v16, rfl, hri, hb⟩
      have HR84 := Aside0.mk (Kd.R_below HR8.out hb)
      have HR94 := Aside0.mk (Kd.R_below HR9.out hb)
      have HRa4 := Aside0.mk (Kd.R_below HRa.out hb)
      have HB4 := Aside0.mk (below_step HB3.out hb)
      obtain ⟨A16, c16, rfl⟩ := Kd.R_slice hri
      have HRi := Aside0.mk hri
      clear hb hri HR8 HR9 HRa HB3
      go_wp2_with fail
      refine (postbaglaw5_addresses.calls 300 _ _ wl _ _ wl true _ (Kd.R_reads' HRa4.out).2.2 (Kd.R_reads' HRa4.out).2.1 (Kd.R_reads' HR84.out).2.2 (Kd.R_reads' HR84.out).2.1 (addresses_f wl (by omega) 300 (by omega))).mono ?_
      rintro e w5 ⟨rfl, hd⟩
      have HR95 := Aside0.mk (Kd.R_below HR94.out hd.below)
      have HRi5 := Aside0.mk (Kd.R_below HRi.out hd.below)
      have HB5 := Aside0.mk (below_step HB4.out hd.below)
      clear hd HR84 HR94 HRa4 HRi HB4
      go_wp2_with fail
      refine (postbaglaw5_texts.calls 300 _ _ nl _ _ nl true _ (Kd.R_reads' HRi5.out).2.2 (Kd.R_reads' HRi5.out).2.1 (Kd.R_reads' HR95.out).2.2 (Kd.R_reads' HR95.out).2.1 (texts_f nl (by omega) 300 (by omega))).mono ?_
      rintro e w6 ⟨rfl, hd⟩
      have HB6 := Aside0.mk (below_step HB5.out hd.below)
      clear hd
      go_wp2
      go_ret
      exact ⟨rfl, HB6.out⟩

end Go.Proofs.YtgmlhmojcemliaaDoor.P
end
section
/- LetterSaid returns true for every list of people and every gap, and the arguments read behind the call as before. Conditions: what the row itself lists (the two tables of unicode/utf8 are laid as the program's text lays them; the card ties them to that text), and no other. -/
namespace Go.Proofs.YtgmlhmojcemliaaDoor.letterSaid
open Go.ChangeShapes Go.WideShapes Go.ChangeAt Go.RowKit Go.Deep
open Go.ChangeMaps (open_string shut_string)
set_option linter.unusedVariables false
section
variable {H : Type} {enc : TypeId × Value → H} {P : Program} {w : World} {base : Nat} {spare : Nat → Bool} {held : Bool}
theorem open_slice_fields {t e : TypeId} {fs : Array Field} {fuel : Nat} {cs : List Value} {x : DataW H × List MemPlace} (ht : P.underlying t = some (.slice e)) (he : P.underlying e = some (.struct fs))
    (hone : oneCellFields P fs = true) (hC : P.cellsOf e = fs.size) (h : DataW.trod enc P w base spare held fuel t cs = some x) :
    (cs = [.slice none 0 0] ∧ x = (.nil, [])) ∨
    ∃ (a : Addr) (len cap m : Nat) (D : Nat → DataW H) (Pl : Nat → List MemPlace), cs = [.slice (some a) len cap] ∧ base ≤ a.block ∧ len ≤ cap ∧ cap ≤ maxLen ∧ m = (if spare a.block then cap else len) ∧
      x = (.slice ((List.range len).map D) ((List.range (m - len)).map fun j => D (len + j)), MemPlace.row a (m * fs.size) ++ (List.range m).flatMap Pl) ∧
      ∀ i, i < m → ∃ (ys : List (DataW H × List MemPlace)) (n : Nat), D i = .agg (ys.map (·.1)) ∧ Pl i = ys.flatMap (·.2) ∧ ys.length = fs.size ∧
        ∀ (j : Nat) (f : Field), fs[j]? = some f → ∃ (v : Value) (y : DataW H × List MemPlace), w.cell? (a.add (i * fs.size + j)) = some v ∧ ys[j]? = some y ∧ DataW.trod enc P w base spare held n f.type [v] = some y := by
  rcases open_slice ht h with h0 | ⟨a, len, cap, m, n, D, Pl, hcs, hb, hl, hm, hmm, hx, hi⟩
  · exact .inl h0
  · refine .inr ⟨a, len, cap, m, D, Pl, hcs, hb, hl, hm, hmm, by rw [hC] at hx; exact hx, fun i him => ?_⟩
    obtain ⟨cs', hc, ht'⟩ := hi i him
    rw [hC] at hc
    obtain ⟨ys, n', hn', hy, hlen, hyl, hf⟩ := DataW.trod_struct he ht'
    obtain ⟨_, hcl, hat⟩ := World.cells?_some hc
    simp only [Prod.mk.injEq] at hy
    refine ⟨ys, n', hy.1, hy.2, hyl, fun j f hj => ?_⟩
    obtain ⟨ho, hk⟩ := hone_of hone j f hj
    have hjl : j < fs.size := (Array.getElem?_eq_some_iff.1 hj).1
    have hcell := hat j hjl
    have hv : cs'[j]? = some (cs'[j]'(by omega)) := List.getElem?_eq_getElem (by omega)
    have h1 := hf j f hj
    rw [ho, hk] at h1
    have hone' : (cs'.drop j).take 1 = [cs'[j]'(by omega)] := by
      rw [List.drop_eq_getElem_cons (by omega)]
      rfl
    rw [hone'] at h1
    have hys : ys[j]? = some (ys[j]'(by omega)) := List.getElem?_eq_getElem (by omega)
    refine ⟨_, _, ?_, hys, h1.trans hys⟩
    rw [← Go.Deep.add_add, hcell, hv]
end
theorem own : ownKnob Tryd.prog.godebug = none := by kernel_rfl
theorem laidOut : laidOutB Tryd.prog = true := by kernel_rfl
/-- The library's variable MaxLen holds an int in every world that a row speaks of. -/
theorem good {W : World} (h : W.ShapedOpen Tryd.prog) : P.Good W :=
  cell_of_shapedOpen_int (g := 0) (t := 3) (zero := #[.int .i64 0]) (k := .i64) h (of_decide_eq_true (by kernel_rfl)) (by kernel_rfl) rfl (by kernel_rfl) (by kernel_rfl) Tryd.underlying3
/-- A list of people that reads as data is a list of people. -/
theorem open_people {H : Type} {enc : TypeId × Value → H} {W : World} {base : Nat} {spare : Nat → Bool} {held : Bool} {fuel : Nat} {a : Option Addr} {len cap : Nat} {x : DataW H × List MemPlace} (h : DataW.trod enc Tryd.prog W base spare held fuel 22 [.slice a len cap] = some x) :
    ∃ l : List P.S28, l.length = len ∧ YtgmlhmojcemliaaDoorW.PrintWords.Kd.C P.k28 W a l.length l := by
  rcases open_slice_fields Tryd.underlying22 Tryd.underlying28 (by kernel_rfl) (by kernel_rfl) h with ⟨hcs, _⟩ | ⟨ad, n, c, m, D, Pl, hcs, _, hl, hm, hmm, _, hf⟩
  · simp at hcs
    obtain ⟨rfl, rfl, rfl⟩ := hcs
    exact ⟨[], rfl, YtgmlhmojcemliaaDoorW.PrintWords.Kd.C_nil _ _⟩
  · simp at hcs
    obtain ⟨rfl, rfl, rfl⟩ := hcs
    have hnm : len ≤ m := by rw [hmm]; split <;> omega
    have hex : ∀ i : Fin len, ∃ p : P.S28, W.cell? (ad.add (i.val * 5 + 0)) = some (.string p.f0) ∧ W.cell? (ad.add (i.val * 5 + 1)) = some (.string p.f1) ∧ W.cell? (ad.add (i.val * 5 + 2)) = some (.string p.f2) ∧ W.cell? (ad.add (i.val * 5 + 3)) = some (.bool p.f3) ∧ W.cell? (ad.add (i.val * 5 + 4)) = some (.bool p.f4) := by
      intro i
      obtain ⟨ys, k, _, _, _, hcell⟩ := hf i.val (by have := i.isLt; omega)
      obtain ⟨v0, y0, h0, _, t0⟩ := hcell 0 _ rfl
      obtain ⟨v1, y1, h1, _, t1⟩ := hcell 1 _ rfl
      obtain ⟨v2, y2, h2, _, t2⟩ := hcell 2 _ rfl
      obtain ⟨v3, y3, h3, _, t3⟩ := hcell 3 _ rfl
      obtain ⟨v4, y4, h4, _, t4⟩ := hcell 4 _ rfl
      obtain ⟨s0, e0, _⟩ := DataW.trod_string Tryd.underlying9 t0
      obtain ⟨s1, e1, _⟩ := DataW.trod_string Tryd.underlying9 t1
      obtain ⟨s2, e2, _⟩ := DataW.trod_string Tryd.underlying9 t2
      obtain ⟨b3, e3, _⟩ := DataW.trod_bool Tryd.underlying4 t3
      obtain ⟨b4, e4, _⟩ := DataW.trod_bool Tryd.underlying4 t4
      cases e0
      cases e1
      cases e2
      cases e3
      cases e4
      exact ⟨⟨s0, s1, s2, b3, b4⟩, h0, h1, h2, h3, h4⟩
    refine ⟨List.ofFn (fun i => Classical.choose (hex i)), by simp, by simp, by simp; unfold maxLen at hm; omega, fun _ => ⟨ad, rfl, fun j p hj => ?_⟩⟩
    obtain ⟨hj1, hj2⟩ := List.getElem?_eq_some_iff.1 hj
    have hjl : j < len := by simpa using hj1
    have hp : Classical.choose (hex ⟨j, hjl⟩) = p := by simpa using hj2
    obtain ⟨c0, c1, c2, c3, c4⟩ := Classical.choose_spec (hex ⟨j, hjl⟩)
    rw [hp] at c0 c1 c2 c3 c4
    refine ⟨[.string p.f0, .string p.f1, .string p.f2, .bool p.f3, .bool p.f4], rfl, P.k28_mk _ p, fun i u hi => ?_⟩
    match i, hi with
    | 0, hi => cases hi; exact c0
    | 1, hi => cases hi; exact c1
    | 2, hi => cases hi; exact c2
    | 3, hi => cases hi; exact c3
    | 4, hi => cases hi; exact c4
set_option maxRecDepth 1000000 in
/-- WHAT THE WALK GIVES, FOR EVERY ARGUMENT AND EVERY WORLD THAT A ROW SPEAKS OF. -/
theorem contract (H : Type) (enc : TypeId × Value → H) (W : World) (base : Nat) (args : Array Value) (ds gs : List (DataW H)) (before : List MemPlace)
    (hval : ∀ (j : Nat) t v, Tryd.f3.params[j]? = some t → args[j]? = some v → Value.okWide Tryd.prog W .any base t v)
    (hW : DataW.Whole enc Tryd.prog Tryd.f3.params.toList Rows.letterSaidSpec.vars false W args.toList ds gs before) (hS : W.ShapedOpen Tryd.prog) :
    Calls Tryd.prog 3 args W fun e W' => ∃ v, e = .returned v ∧ Rows.letterSaidSpec.post enc Tryd.prog Tryd.f3 false true false false W args v W' := by
  have hW' := hW
  obtain ⟨p, q, hA0, hV, rfl, hfz, hnd⟩ := hW
  have hA : DataW.TrodAll enc Tryd.prog W 0 (fun _ => true) true Tryd.f3.params.toList args.toList ds p := hA0
  rw [Tryd.params3] at hA hval
  obtain ⟨v0, vs0, d0, ds0, p0, q0, hargs, rfl, rfl, h0, r0⟩ := trodAll_cons hA
  obtain ⟨v1, vs1, d1, ds1, p1, q1, rfl, rfl, rfl, h1, r1⟩ := trodAll_cons r0
  obtain ⟨rfl, rfl, rfl⟩ := trodAll_nil r1
  obtain rfl : args = #[v0, v1] := by cases args; simp_all
  obtain ⟨rfl, rfl⟩ := trodVars_none hV
  obtain ⟨a0, len0, cap0, rfl⟩ := okWide_slice Tryd.underlying22 (hval 0 22 v0 rfl rfl)
  have k0 := h0
  have lt0 : ∀ x ∈ p0, x.block < W.heap.size := by obtain ⟨m, hm⟩ := k0; exact DataW.trod_lt m _ _ _ hm
  obtain ⟨l, rfl, hl⟩ : ∃ l : List P.S28, l.length = len0 ∧ YtgmlhmojcemliaaDoorW.PrintWords.Kd.C P.k28 W a0 l.length l := by
    obtain ⟨fuel, hf⟩ := h0
    exact open_people (by simpa [Value.cells] using hf)
  obtain ⟨g, rfl, rfl, rfl, y1⟩ := open_string Tryd.underlying9 (hval 1 9 v1 rfl rfl) h1
  clear hA0 hval
  refine (P.said a0 cap0 l g W hl (good hS)).mono fun e W' ⟨he, bel⟩ => ?_
  subst he
  exact ⟨_, rfl, _, _, _, [], _, [], hW', trodAll_mk1 (shut_bool Tryd.underlying4 _), (trodAll_cons_mk (Below.trod laidOut (by kernel_rfl) (of_decide_eq_true (by kernel_rfl)) k0 bel lt0) (trodAll_cons_mk (shut_string Tryd.underlying9 y1) trodAll_mk0)), rfl, bel.frame _, fun h => by cases h⟩

/-- A WORLD FOR THE WITNESS: the settled one, the two tables holding what their initialisers lay. -/
def firstCells : Array Value := (Go.Pinned.utf8FirstZ.map (fun (n : Nat) => Value.int .u8 (n : Int))).toArray
def rangeCells : Array Value := #[.int .u8 128, .int .u8 191, .int .u8 160, .int .u8 191, .int .u8 128, .int .u8 159, .int .u8 144, .int .u8 191, .int .u8 128, .int .u8 143, .int .u8 0, .int .u8 0, .int .u8 0, .int .u8 0, .int .u8 0, .int .u8 0, .int .u8 0, .int .u8 0, .int .u8 0, .int .u8 0, .int .u8 0, .int .u8 0, .int .u8 0, .int .u8 0, .int .u8 0, .int .u8 0, .int .u8 0, .int .u8 0, .int .u8 0, .int .u8 0, .int .u8 0, .int .u8 0]
def put (cs : Array Value) : Obj → Obj
  | .cells _ t frozen => .cells cs t frozen
  | o => o
noncomputable def laidWorld (os : Os) : World :=
  { World.holding Tryd.prog os ⟨#[], #[], []⟩ with heap := ((World.holding Tryd.prog os ⟨#[], #[], []⟩).heap.modify 1 (put firstCells)).modify 2 (put rangeCells) }
def args0 : Array Value := #[.slice none 0 0, .string ByteArray.empty]
set_option maxRecDepth 1000000 in
theorem laid_met (os : Os) : laidMet Tryd.prog Rows.letterSaidRow.laid ((laidWorld os).forCall (fun _ _ => 0) ⟨#[], args0, []⟩).memory :=
  laidMet_of_run' 8 (by kernel_rfl) (by kernel_rfl)
theorem reads (os : Os) {H : Type} (enc : TypeId × Value → H) : ∃ places, DataW.whole enc Tryd.prog ((laidWorld os).forCall (fun _ _ => 0) ⟨#[], args0, []⟩).memory Tryd.f3.params.toList Rows.letterSaidSpec.vars false args0.toList 8 = some ([.nil, .lit (.string [])], [], places) :=
  ⟨[], by kernel_rfl⟩
set_option maxRecDepth 1000000 in
theorem lifted (os : Os) (started : os.Started) (H : Type) (enc : TypeId × Value → H) (F : Stop.Interp) :
    ReturnsInHanded {} Tryd.checked os 3 .any ((OpenSpec.ofChange Rows.letterSaidSpec).preRow enc Tryd.prog Tryd.f3 Rows.letterSaidRow.domain false Rows.letterSaidRow.laid) (((OpenSpec.ofChange Rows.letterSaidSpec).at F).post enc Tryd.prog Tryd.f3 false true false false) := by
  obtain ⟨places, hx⟩ := reads os enc
  refine returnsInHanded_of_row (C := Tryd.checked) (s := OpenSpec.ofChange Rows.letterSaidSpec) own started (by kernel_rfl) Tryd.func3
    (witness_row_at (enc := enc) (C := Tryd.checked) false (laidWorld os) args0 rfl (by kernel_rfl) (by kernel_rfl) (by kernel_rfl)
      (OpenSpec.preRow_of_cond 8 hx (by kernel_rfl) (fun k hk => by cases hk) (by kernel_rfl) (laid_met os))) ?_
  intro W base args ds gs before hval hW _ _ _ _ hS _
  exact contract H enc W base args ds gs before hval hW hS
theorem said : Rows.LetterSaidSaid :=
  OpenClaim.holds_of_cond 3 Tryd.f3 rfl rfl rfl rfl rfl rfl rfl ⟨rfl, rfl, rfl, rfl, rfl⟩ rfl rfl rfl rfl rfl (by kernel_rfl) Tryd.func3 (by kernel_rfl)
    (of_decide_eq_true (by kernel_rfl)) (by unfold Func.isWrapper; first | (rw [if_pos (by decide +kernel)]; kernel_rfl) | (rw [if_neg (by decide +kernel)]; exact ⟨rfl, rfl⟩))
    (fun os started H enc _ F => by rw [OpenClaim.pre_eq_preRow]; exact lifted os started H enc F)
/-- No parameter wants a stand-in; the program's own looks are off: what the card asks. -/
theorem plain (f : FuncId) (fn : Func) (hf : Tryd.pinned.checked.prog.funcNamed "postbag/postbaglaw5.LetterSaid" = some f) (hfn : Tryd.pinned.checked.prog.funcs[f]? = some fn) :
    false = Tryd.pinned.checked.prog.looks [] ∧ ∀ (j : Nat) t, fn.params[j]? = some t → Tryd.pinned.checked.prog.wantsStandIn t = false := by
  obtain rfl : f = 3 := Option.some.inj ((show Tryd.prog.funcNamed "postbag/postbaglaw5.LetterSaid" = some 3 by kernel_rfl).symm.trans hf) |>.symm
  obtain rfl : fn = Tryd.f3 := (Option.some.inj (Tryd.func3.symm.trans hfn)).symm
  refine ⟨by kernel_rfl, fun j t ht => ?_⟩
  rw [Tryd.params3] at ht
  have := Array.mem_of_getElem? ht
  simp at this
  rcases this with rfl | rfl
  · exact (show Tryd.prog.wantsStandIn 22 = false by kernel_rfl)
  · exact (show Tryd.prog.wantsStandIn 9 = false by kernel_rfl)
/-- THE CARD. -/
theorem card : Rows.LetterSaidCardSaid :=
  Claim7.holds_tied_plain_at .later [] _ _ _ _ said (fun _ h => by cases h) (by kernel_rfl) (fun _ h => by cases h) letterSaid_row_tie rfl ⟨rfl, rfl⟩ (by kernel_rfl) rfl plain (by kernel_rfl)
end Go.Proofs.YtgmlhmojcemliaaDoor.letterSaid
namespace Go.Proofs.YtgmlhmojcemliaaDoor
/-- The card, under a short name, for the claim. -/
theorem letterSaid_card : Rows.LetterSaidCardSaid := letterSaid.card
#print axioms letterSaid_card
end Go.Proofs.YtgmlhmojcemliaaDoor
end
