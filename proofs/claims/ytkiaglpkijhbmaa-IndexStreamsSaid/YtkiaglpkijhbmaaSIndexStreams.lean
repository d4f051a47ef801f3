import Derived.Lib.Hide
import Derived.Test.YtkiaglpkijhbmaaMath
import Derived.Test.YtkiaglpkijhbmaaRIndexStreamsx0
/-! horariumref07.Stream: the streams as lists: walked by hand (a row that is made of one that was made before, again and again). -/
namespace Go.Proofs.Ytkiaglpkijhbmaa.PIndexStreams
open Go.RowKit Go.Proofs.YtkiaglpkijhbmaaW.PrintWords Go.Proofs.YtkiaglpkijhbmaaW.PrintLast Go.Proofs.YtkiaglpkijhbmaaW.PrintMore Go.Proofs.Ytkiaglpkijhbmaa.Math
set_option linter.unusedVariables false
set_option linter.unusedSimpArgs false

/-! ### What it answers -/
def itemsS (m : Nat) : List S44 := (List.range m).map fun (i : Nat) => (⟨(i : Int), 0, 1⟩ : S44)
def overS (n : Int) (xs : List S44) : List S44 := (xs.flatMap fun x => List.replicate n.toNat x).take 400
def underS (n : Int) (xs : List S44) : List S44 := (List.range ((xs.length + (n.toNat - 1)) / n.toNat)).map fun (j : Nat) => rd_T44 xs ((j : Int) * n)
def oneT (o : S56) (xs : List S44) : List S44 :=
  if o.f0 = 3 then overS o.f1 xs else if o.f0 = 4 then underS o.f1 xs else if o.f0 = 5 then xs else if o.f0 = 7 then xs.drop 1 else (⟨0, o.f1, 2⟩ : S44) :: xs
def streamS (l : List S56) : List S44 := l.foldl (fun s o => oneT o s) (itemsS 200)
def okB (l : List S56) : Bool := decide (l.length ≤ 20) && l.all fun o => !(o.f0 == 3 || o.f0 == 4) || (decide (1 ≤ o.f1) && decide (o.f1 ≤ 100))
def horariumref07_Stream.f (l0 : List S56) (a1 : Int) : Option (List S44) := if a1 = 200 ∧ okB l0 = true then some (streamS l0) else none
theorem info44s : (Try.prog.info? 44).map (fun i => (i.zero, i.size, i.bytes)) = some (some (.agg #[(.int .i64 0), (.int .i64 0), (.int .i64 0)]), 3, 24) := by kernel_rfl
theorem items_succ (i : Nat) : itemsS (i + 1) = itemsS i ++ [(⟨(i : Int), 0, 1⟩ : S44)] := by simp [itemsS, List.range_succ]
theorem items_len (i : Nat) : (itemsS i).length = i := by simp [itemsS]

theorem step_take (l : List S56) (i : Nat) (h : i < l.length) : streamS (l.take (i + 1)) = oneT (rd_T56 l i) (streamS (l.take i)) := by
  unfold streamS
  rw [List.take_succ_eq_append_getElem h, List.foldl_append]
  simp [rd_T56, h]
theorem okB_at (l : List S56) (h : okB l = true) (i : Nat) (hi : i < l.length) : (rd_T56 l i).f0 = 3 ∨ (rd_T56 l i).f0 = 4 → 1 ≤ (rd_T56 l i).f1 ∧ (rd_T56 l i).f1 ≤ 100 := by
  unfold okB at h
  rw [Bool.and_eq_true, List.all_eq_true] at h
  have := h.2 (rd_T56 l i) (by simp [rd_T56, hi])
  intro hk
  rcases hk with hk | hk <;> simpa [hk] using this
theorem over_len (n : Int) (xs : List S44) : (overS n xs).length ≤ 400 := by simp [overS]; omega
theorem under_len (n : Int) (hn : 1 ≤ n) (xs : List S44) : (underS n xs).length ≤ xs.length := by
  simp only [underS, List.length_map, List.length_range]
  have : n.toNat ≥ 1 := by omega
  rw [Nat.div_le_iff_le_mul_add_pred (by omega)]
  have := Nat.le_mul_of_pos_left xs.length (show 0 < n.toNat by omega)
  omega
theorem stream_len (l : List S56) (h : okB l = true) : ∀ i, i ≤ l.length → (streamS (l.take i)).length ≤ 400 + i
  | 0, _ => by simp [streamS, items_len]
  | i + 1, hi => by
    have ih := stream_len l h i (by omega)
    have hn := okB_at l h i (by omega)
    rw [step_take l i (by omega)]
    unfold oneT
    split
    · have := over_len (rd_T56 l i).f1 (streamS (l.take i)); omega
    · split
      · rename_i h4
        have := under_len (rd_T56 l i).f1 (hn (.inr h4)).1 (streamS (l.take i)); omega
      · split
        · omega
        · split
          · simp; omega
          · simp; omega
theorem ok_len (l : List S56) (h : okB l = true) : l.length ≤ 20 := by
  unfold okB at h
  rw [Bool.and_eq_true] at h
  simpa using h.1

theorem stored {w w3 : World} {gb : Nat} {v : Value} {xs : List S44} {x y z x' y' z' : Value} (hB : Below w.heap.size w w3) (hg : w.heap.size ≤ gb) (hb : w3.heap[gb]? = some (.cells #[x, y, z] 56 (0, 0))) (hQ : Kd.Q k44 44 w3 w.heap.size (fun k => True ∧ k ≠ gb) v xs) :
    (((w3.setCell ⟨gb, 0, none⟩ x').setCell ⟨gb, 1, none⟩ y').setCell ⟨gb, 2, none⟩ z').heap[gb]? = some (.cells #[x', y', z'] 56 (0, 0)) ∧
    Kd.Q k44 44 (((w3.setCell ⟨gb, 0, none⟩ x').setCell ⟨gb, 1, none⟩ y').setCell ⟨gb, 2, none⟩ z') w.heap.size (fun _ => True) v xs ∧ Below w.heap.size w (((w3.setCell ⟨gb, 0, none⟩ x').setCell ⟨gb, 1, none⟩ y').setCell ⟨gb, 2, none⟩ z') :=
  ⟨blk_put (blk_put (blk_put hb 0 x' rfl) 1 y' rfl) 2 z' rfl, Kd.Q_mono (Kd.Q_far (p := ⟨gb, 2, none⟩) (Kd.Q_far (p := ⟨gb, 1, none⟩) (Kd.Q_far (p := ⟨gb, 0, none⟩) hQ (fun _ h => h.2) _) (fun _ h => h.2) _) (fun _ h => h.2) _) (fun _ _ => trivial), below_set (below_set (below_set hB hg) hg) hg⟩
theorem take_app {α : Type} (n : Nat) (a b : List α) : (a.take n ++ b).take n = (a ++ b).take n := by
  rw [List.take_append, List.take_append, List.take_take, Nat.min_self, List.length_take]
  congr 2
  omega
def midS (n : Int) (xs : List S44) (k j : Nat) : List S44 := (overS n (xs.take k) ++ List.replicate j (rd_T44 xs k)).take 400
theorem mid_zero (n : Int) (xs : List S44) (k : Nat) : midS n xs k 0 = overS n (xs.take k) := by
  unfold midS
  rw [List.replicate_zero, List.append_nil, List.take_of_length_le (over_len n _)]
theorem mid_succ (n : Int) (xs : List S44) (k j : Nat) (h : (midS n xs k j).length < 400) : midS n xs k (j + 1) = midS n xs k j ++ [rd_T44 xs k] := by
  unfold midS at *
  rw [List.length_take] at h
  rw [List.take_of_length_le (l := overS n (xs.take k) ++ List.replicate j (rd_T44 xs k)) (by omega), List.replicate_succ', ← List.append_assoc, List.take_of_length_le (by simp at h ⊢; omega)]
theorem mid_full (n : Int) (xs : List S44) (k j m : Nat) (hm : j ≤ m) (h : 400 ≤ (midS n xs k j).length) : midS n xs k j = midS n xs k m := by
  unfold midS at *
  rw [List.length_take] at h
  rw [show m = j + (m - j) by omega, ← List.replicate_append_replicate, ← List.append_assoc, List.take_append_of_le_length (l₁ := overS n (xs.take k) ++ List.replicate j (rd_T44 xs k)) (by omega)]
theorem mid_len (n : Int) (xs : List S44) (k j : Nat) : (midS n xs k j).length ≤ 400 := by unfold midS; simp; omega
theorem over_step (n : Int) (xs : List S44) (k : Nat) (h : k < xs.length) : midS n xs k n.toNat = overS n (xs.take (k + 1)) := by
  unfold midS overS
  rw [take_app, List.take_succ_eq_append_getElem h, List.flatMap_append]
  simp [rd_T44, h]
theorem over_full (n : Int) (xs : List S44) (k : Nat) (h : 400 ≤ (overS n (xs.take k)).length) : overS n (xs.take k) = overS n xs := by
  unfold overS at *
  rw [List.length_take] at h
  conv => rhs; rw [← List.take_append_drop k xs, List.flatMap_append]
  rw [List.take_append_of_le_length (by omega)]
theorem over_all (n : Int) (xs : List S44) (k : Nat) (h : xs.length ≤ k) : overS n (xs.take k) = overS n xs := by rw [List.take_of_length_le h]
theorem over_nil (n : Int) (xs : List S44) : overS n (xs.take 0) = [] := by simp [overS]

def someS (n : Int) (xs : List S44) (j : Nat) : List S44 := (List.range j).map fun (j : Nat) => rd_T44 xs ((j : Int) * n)
theorem some_succ (n : Int) (xs : List S44) (j : Nat) : someS n xs (j + 1) = someS n xs j ++ [rd_T44 xs ((j : Int) * n)] := by simp [someS, List.range_succ]
theorem some_len (n : Int) (xs : List S44) (j : Nat) : (someS n xs j).length = j := by simp [someS]
theorem some_le (n : Int) (xs : List S44) (j : Nat) (hn : 1 ≤ n) (h : (j : Int) * n < xs.length) : j + 1 ≤ xs.length + 1 := by
  have : (j : Int) * 1 ≤ (j : Int) * n := Int.mul_le_mul_of_nonneg_left hn (by omega)
  omega
theorem some_done (n : Int) (xs : List S44) (j : Nat) (hn : 1 ≤ n) (h : j = 0 ∨ ((j : Int) - 1) * n < xs.length) (h2 : (xs.length : Int) ≤ (j : Int) * n) : someS n xs j = underS n xs := by
  obtain ⟨m, rfl⟩ := Int.eq_ofNat_of_zero_le (show 0 ≤ n by omega)
  unfold someS underS
  congr 2
  have h3 : xs.length ≤ j * m := by exact_mod_cast h2
  symm
  rw [Int.toNat_natCast]
  refine Nat.div_eq_of_lt_le ?_ ?_
  · rcases h with rfl | h
    · simp
    · rcases Nat.eq_zero_or_pos j with rfl | hj
      · simp
      · have h4 : (j - 1) * m < xs.length := by
          rw [show (j : Int) - 1 = ((j - 1 : Nat) : Int) by omega] at h
          exact_mod_cast h
        have h5 : (j - 1) * m + m = j * m := by rw [← Nat.succ_mul]; congr 1; omega
        omega
  · rw [Nat.add_mul]
    omega

set_option maxHeartbeats 8000000 in
set_option maxRecDepth 100000 in
theorem stream_calls (A : Option Addr) (c : Nat) (l : List S56) (w : World) (hr : Kd.C k56 w A l.length l) (hc : l.length ≤ c) (hok : okB l = true) :
    Calls Try.prog 31 #[.slice A l.length c, .int .i64 200] w fun e w' => ∃ v0_ : Value, e = .returned (v0_) ∧ Kd.Q k44 44 w' w.heap.size (fun _ => True) v0_ (streamS l) ∧ Below w.heap.size w w' := by
  have HR := Aside0.mk hr
  have HC := Aside0.mk hc
  have HOK := Aside0.mk hok
  clear hr hc hok
  have hu41 := Try.underlying41
  have hu44 := Try.underlying44
  have hu56 := Try.underlying56
  go_enter Try.func31, Try.ntmps31
  go_wp2
  go_loopg [5, 6] 200 (fun g v5 v6 wr => ∃ i : Nat, v6 = .int .i64 i ∧ Aside0 (i + g = 200) ∧ Aside0 (Kd.Q k44 44 wr w.heap.size (fun _ => True) v5 (itemsS i)) ∧ Aside0 (Below w.heap.size w wr))
  case atStart => exact ⟨0, rfl, ⟨rfl⟩, ⟨Kd.Q_nil _ _ _ _ _⟩, ⟨by repeat (first | exact Below.refl _ _ | apply below_alloc | apply pw_below_drewN | apply below_drew1)⟩⟩
  case round =>
    obtain ⟨i, rfl, HI, HQ, HB⟩ := hrel
    by_cases hi : i < 200
    · have d1 : decide ((i : Int) < 200) = true := decide_eq_true (by omega)
      have NI := Aside0.mk hi
      clear hi
      go_wp2_with (first | ((with_reducible refine gate_builtin (b := .append) (xs := #[.tmp 18, .tmp 21]) rfl ?_); at_builtin; refine Kd.Q_append k44 (w0 := w) w.heap.size rfl (.tmp 18) (.tmp 21) 41 44 (.agg #[(.int .i64 0), (.int .i64 0), (.int .i64 0)]) 24 rfl Try.underlying41 info44s rfl (by decide) (by omega) u5 (itemsS i) (⟨(i : Int), 0, 1⟩ : S44) [.int .i64 (i : Int), .int .i64 0, .int .i64 1] (fun _ => True) (fun _ => False) rfl (by first | (go_simp; done) | (go_simp; rfl)) ?aP (fun _ hk => hk.elim) ?aF ?aO ?aB ?aS ?aL ?_; (case aP => exact k44_mkM _ _ _ (⟨(i : Int), 0, 1⟩ : S44)); (case aF => exact fun _ _ => trivial); (case aO => exact HQ.out); (case aB => exact HB.out); (case aS => exact HB.out.size); (case aL => rw [items_len]; have := NI.out; omega); intro v1 w1 ho hb hg hat; rw [← items_succ] at ho; have n0_ := Aside0.mk ho; have n1_ := Aside0.mk hb; clear HQ HB ho hb hg hat; have HQ := n0_; have HB := n1_; clear n0_ n1_))
      go_roundg (199 - i)
      case measure => have := HI.out; have := NI.out; omega
      case rel => exact ⟨i + 1, by rw [wrap64_id (by have := NI.out; omega) (by have := NI.out; omega)]; rfl, ⟨by have := NI.out; omega⟩, HQ, HB⟩
    · have hi200 : i = 200 := by have := HI.out; omega
      subst hi200
      clear hi HI
      go_wp2
      go_loopg [5, 7] l.length (fun g v5 v7 wb => ∃ i : Nat, v7 = .int .i64 i ∧ Aside0 (i + g = l.length) ∧ Aside0 (Kd.Q k44 44 wb w.heap.size (fun _ => True) v5 (streamS (l.take i))) ∧ Aside0 (Below w.heap.size w wb))
      case atStart => exact ⟨0, rfl, ⟨by omega⟩, HQ, HB⟩
      clear HQ HB
      case round =>
        obtain ⟨i, rfl, HI, HQ, HB⟩ := hrel
        by_cases hi : i < l.length
        · have d1 : decide ((i : Int) < (l.length : Int)) = true := decide_eq_true (by omega)
          have NI := Aside0.mk hi
          have p1 : 0 ≤ (i : Int) := by omega
          have q1 : (i : Int) < (l.length : Int) := by omega
          clear hi
          obtain ⟨ad, eA, hx0, hx1, hx2⟩ := at_T56 HR.out i p1 q1
          cases eA
          replace hx0 := (HB.out.cell (World.block_lt_of_cell? w _ hx0)).trans hx0
          replace hx1 := (HB.out.cell (World.block_lt_of_cell? w _ hx1)).trans hx1
          replace hx2 := (HB.out.cell (World.block_lt_of_cell? w _ hx2)).trans hx2
          simp only [Int.toNat_natCast] at hx0 hx1 hx2
          have HS := Aside0.mk (step_take l i NI.out)
          have HN := Aside0.mk (okB_at l HOK.out i NI.out)
          have HL := Aside0.mk (stream_len l HOK.out i (by have := NI.out; omega))
          generalize streamS (l.take i) = xs at *
          generalize rd_T56 l i = o at *
          obtain ⟨As, cs, eq, hls⟩ := Kd.Q_slice HQ.out
          subst eq
          replace p1 := eq_true p1
          replace q1 := eq_true q1
          by_cases c3 : o.f0 = 3
          · have b3 : (o.f0 == 3) = true := beq_iff_eq.mpr c3
            go_wp2_with (first | ((with_reducible refine gate_dst (N := 8) rfl ?_); refine box_event ?hg (N := 8) ?hd (cs := #[.int .i64 0, .int .i64 0, .int .i64 0]) (t := 56) ?hr ?_; (case hd => rfl); (case hg => rfl); (case hr => first | (go_simp; done) | (go_simp; rfl)); intro gb hg w3 hbox hb; have n0_ := Aside0.mk (below_step HB.out hb); have n1_ := Aside0.mk hbox; have n2_ := Aside0.mk ((by rw [hg]; exact HB.out.size) : w.heap.size ≤ gb); have n3_ := Aside0.mk (Kd.Q_below (Kd.Q_elderB HQ.out gb (Nat.le_of_eq hg.symm)) hb); clear HB HQ; have HB := n0_; have BK := n1_; have GE := n2_; have HQ := n3_; clear n0_ n1_ n2_ n3_; clear hb hbox hg; have hcz0 : w3.cell? ⟨gb, 0, none⟩ = some (.int .i64 0) := (blk_cell BK.out 0).trans rfl; have hcz1 : w3.cell? ⟨gb, 1, none⟩ = some (.int .i64 0) := (blk_cell BK.out 1).trans rfl; have hcz2 : w3.cell? ⟨gb, 2, none⟩ = some (.int .i64 0) := (blk_cell BK.out 2).trans rfl; have hfz0 := blk_frozen BK.out 0; have hfz1 := blk_frozen BK.out 1; have hfz2 := blk_frozen BK.out 2))
            generalize hW : ((w3.setCell ⟨gb, 0, none⟩ (.int .i64 3)).setCell ⟨gb, 1, none⟩ (.int .i64 o.f1)).setCell ⟨gb, 2, none⟩ (.int .i64 o.f2) = W
            obtain ⟨n1_, n2_, n3_⟩ := hW ▸ stored (x' := .int .i64 3) (y' := .int .i64 o.f1) (z' := .int .i64 o.f2) HB.out GE.out BK.out HQ.out
            have n1_ := Aside0.mk n1_
            have n2_ := Aside0.mk n2_
            have n3_ := Aside0.mk n3_
            clear hW HB HQ BK hcz0 hcz1 hcz2 hfz0 hfz1 hfz2 hx0 hx1 hx2
            have BK := n1_
            have HQ := n2_
            have HB := n3_
            clear n1_ n2_ n3_
            have HX := Aside0.mk (Kd.Q_reads' HQ.out).2.2
            have HK := Aside0.mk c3
            clear b3 c3 d1 p1 q1
            go_loopg [9, 10] xs.length (fun g v9 v10 wx => ∃ k : Nat, v10 = .int .i64 k ∧ Aside0 (k + g = xs.length) ∧ Aside0 (Kd.Q k44 44 wx W.heap.size (fun _ => True) v9 (overS o.f1 (xs.take k))) ∧ Aside0 (Below W.heap.size W wx))
            case atStart => exact ⟨0, rfl, ⟨by omega⟩, ⟨by rw [over_nil]; exact Kd.Q_nil _ _ _ _ _⟩, ⟨Below.refl _ _⟩⟩
            case round =>
              obtain ⟨k, rfl, HKG, HO, HW⟩ := hrel
              obtain ⟨A9, c9, e9, hl9⟩ := Kd.Q_slice HO.out
              subst e9
              by_cases hk : k < xs.length
              · have d2 : decide ((k : Int) < (xs.length : Int)) = true := decide_eq_true (by omega)
                have q2 : ((k : Int) < (xs.length : Int)) = True := eq_true (by omega)
                have r2 : (k < xs.length) = True := eq_true hk
                have NK := Aside0.mk hk
                clear hk
                by_cases h4 : (overS o.f1 (xs.take k)).length < 400
                · have d3 : decide (((overS o.f1 (xs.take k)).length : Int) < 400) = true := decide_eq_true (by omega)
                  have q3 : (((overS o.f1 (xs.take k)).length : Int) < 400) = True := eq_true (by omega)
                  have r3 : ((overS o.f1 (xs.take k)).length < 400) = True := eq_true h4
                  have N4 := Aside0.mk h4
                  clear h4
                  go_wp2
                  go_loopg [9, 11] o.f1.toNat (fun g v9 v11 wy => ∃ j : Nat, v11 = .int .i64 j ∧ Aside0 (j + g = o.f1.toNat) ∧ Aside0 (Kd.Q k44 44 wy W.heap.size (fun _ => True) v9 (midS o.f1 xs k j)) ∧ Aside0 (Below W.heap.size W wy))
                  case atStart => exact ⟨0, rfl, ⟨by omega⟩, ⟨by rw [mid_zero]; exact HO.out⟩, HW⟩
                  clear HO HW d2 q2 r2 d3 q3 r3 hl9
                  case round =>
                    obtain ⟨j, rfl, HJ, HO2, HW2⟩ := hrel
                    obtain ⟨A8, c8, e8, hl8⟩ := Kd.Q_slice HO2.out
                    subst e8
                    have hcell : wr.cell? ⟨gb, 1, none⟩ = some (.int .i64 o.f1) := (blk_cell (blk_below (g := gb) BK.out HW2.out) 1).trans rfl
                    by_cases hj : (j : Int) < o.f1
                    · have d4 : decide ((j : Int) < o.f1) = true := decide_eq_true hj
                      have q4 : ((j : Int) < o.f1) = True := eq_true hj
                      have NJ := Aside0.mk hj
                      clear hj
                      by_cases h5 : (midS o.f1 xs k j).length < 400
                      · have d5 : decide (((midS o.f1 xs k j).length : Int) < 400) = true := decide_eq_true (by omega)
                        have q5 : (((midS o.f1 xs k j).length : Int) < 400) = True := eq_true (by omega)
                        have r5 : ((midS o.f1 xs k j).length < 400) = True := eq_true h5
                        have M4 := Aside0.mk h5
                        clear h5
                        obtain ⟨adx, eA, y0, y1, y2⟩ := at_T44 HX.out k (by omega) (by have := NK.out; omega)
                        cases eA
                        replace y0 := (HW2.out.cell (World.block_lt_of_cell? W _ y0)).trans y0
                        replace y1 := (HW2.out.cell (World.block_lt_of_cell? W _ y1)).trans y1
                        replace y2 := (HW2.out.cell (World.block_lt_of_cell? W _ y2)).trans y2
                        simp only [Int.toNat_natCast] at y0 y1 y2
                        have p6 : (0 ≤ (k : Int)) = True := eq_true (by omega)
                        have q6 : ((k : Int) < (xs.length : Int)) = True := eq_true (by have := NK.out; omega)
                        have r6 : (k < xs.length) = True := eq_true NK.out
                        go_wp2_with (first | ((with_reducible refine gate_builtin (b := .append) (xs := #[.tmp 65, .tmp 70]) rfl ?_); at_builtin; refine Kd.Q_append k44 (w0 := W) W.heap.size rfl (.tmp 65) (.tmp 70) 41 44 (.agg #[(.int .i64 0), (.int .i64 0), (.int .i64 0)]) 24 rfl Try.underlying41 info44s rfl (by decide) (by omega) (.slice A8 (midS o.f1 xs k j).length c8) (midS o.f1 xs k j) (rd_T44 xs k) [.int .i64 (rd_T44 xs k).f0, .int .i64 (rd_T44 xs k).f1, .int .i64 (rd_T44 xs k).f2] (fun _ => True) (fun _ => False) rfl (by first | (go_simp; done) | (go_simp; rfl)) ?aP (fun _ hk => hk.elim) ?aF ?aO ?aB ?aS ?aL ?_; (case aP => exact k44_mkM _ _ _ (rd_T44 xs k)); (case aF => exact fun _ _ => trivial); (case aO => exact HO2.out); (case aB => exact HW2.out); (case aS => exact HW2.out.size); (case aL => have := M4.out; omega); intro v1 w1 ho hb hg hat; rw [← mid_succ _ _ _ _ M4.out] at ho; have n0_ := Aside0.mk ho; have n1_ := Aside0.mk hb; clear HO2 HW2 ho hb hg hat; have HO2 := n0_; have HW2 := n1_; clear n0_ n1_))
                        go_roundg (o.f1.toNat - (j + 1))
                        case measure => have := HJ.out; have := NJ.out; omega
                        case rel => exact ⟨j + 1, by rw [wrap64_id (by have := NJ.out; have := (HN.out (.inl HK.out)).2; omega) (by have := NJ.out; have := (HN.out (.inl HK.out)).2; omega)]; rfl, ⟨by have := NJ.out; omega⟩, HO2, HW2⟩
                      · have d5 : decide (((midS o.f1 xs k j).length : Int) < 400) = false := decide_eq_false (by omega)
                        have q5 : (((midS o.f1 xs k j).length : Int) < 400) = False := eq_false (by omega)
                        have r5 : ((midS o.f1 xs k j).length < 400) = False := eq_false h5
                        have M4 := Aside0.mk h5
                        clear h5
                        go_wp2
                        go_roundg (xs.length - (k + 1))
                        case measure => have := HKG.out; have := NK.out; omega
                        case rel => exact ⟨k + 1, by rw [wrap64_id (by have := NK.out; have := HL.out; have := NI.out; have := ok_len l HOK.out; omega) (by have := NK.out; have := HL.out; have := NI.out; have := ok_len l HOK.out; omega)]; rfl, ⟨by have := NK.out; omega⟩, ⟨by rw [← over_step o.f1 xs k NK.out, ← mid_full o.f1 xs k j o.f1.toNat (by have := NJ.out; omega) (by have := M4.out; omega)]; exact HO2.out⟩, HW2⟩
                    · have d4 : decide ((j : Int) < o.f1) = false := decide_eq_false hj
                      have q4 : ((j : Int) < o.f1) = False := eq_false hj
                      have NJ := Aside0.mk hj
                      clear hj
                      go_wp2
                      go_roundg (xs.length - (k + 1))
                      case measure => have := HKG.out; have := NK.out; omega
                      case rel => exact ⟨k + 1, by rw [wrap64_id (by have := NK.out; have := HL.out; have := NI.out; have := ok_len l HOK.out; omega) (by have := NK.out; have := HL.out; have := NI.out; have := ok_len l HOK.out; omega)]; rfl, ⟨by have := NK.out; omega⟩, ⟨by rw [← over_step o.f1 xs k NK.out, show o.f1.toNat = j by have := NJ.out; have := HJ.out; have := (HN.out (.inl HK.out)).1; omega]; exact HO2.out⟩, HW2⟩
                · have d3 : decide (((overS o.f1 (xs.take k)).length : Int) < 400) = false := decide_eq_false (by omega)
                  have q3 : (((overS o.f1 (xs.take k)).length : Int) < 400) = False := eq_false (by omega)
                  have r3 : ((overS o.f1 (xs.take k)).length < 400) = False := eq_false h4
                  have N4 := Aside0.mk h4
                  clear h4
                  go_wp2
                  go_roundg (l.length - (i + 1))
                  case measure => have := HI.out; have := NI.out; omega
                  case rel => exact ⟨i + 1, by rw [wrap64_id (by have := NI.out; have := ok_len l HOK.out; omega) (by have := NI.out; have := ok_len l HOK.out; omega)]; rfl, ⟨by have := NI.out; omega⟩, ⟨by rw [HS.out, oneT, if_pos HK.out, ← over_full o.f1 xs k (by have := N4.out; omega)]; exact Kd.Q_lower HO.out HB.out.size⟩, ⟨below_step HB.out HW.out⟩⟩
              · have d2 : decide ((k : Int) < (xs.length : Int)) = false := decide_eq_false (by omega)
                have q2 : ((k : Int) < (xs.length : Int)) = False := eq_false (by omega)
                have r2 : (k < xs.length) = False := eq_false hk
                have NK := Aside0.mk hk
                clear hk
                go_wp2
                go_roundg (l.length - (i + 1))
                case measure => have := HI.out; have := NI.out; omega
                case rel => exact ⟨i + 1, by rw [wrap64_id (by have := NI.out; have := ok_len l HOK.out; omega) (by have := NI.out; have := ok_len l HOK.out; omega)]; rfl, ⟨by have := NI.out; omega⟩, ⟨by rw [HS.out, oneT, if_pos HK.out, ← over_all o.f1 xs k (by have := NK.out; omega)]; exact Kd.Q_lower HO.out HB.out.size⟩, ⟨below_step HB.out HW.out⟩⟩
          · have b3 : (o.f0 == 3) = false := beq_eq_false_iff_ne.mpr c3
            by_cases c4 : o.f0 = 4
            · have b4 : (o.f0 == 4) = true := beq_iff_eq.mpr c4
              go_wp2_with (first | ((with_reducible refine gate_dst (N := 8) rfl ?_); refine box_event ?hg (N := 8) ?hd (cs := #[.int .i64 0, .int .i64 0, .int .i64 0]) (t := 56) ?hr ?_; (case hd => rfl); (case hg => rfl); (case hr => first | (go_simp; done) | (go_simp; rfl)); intro gb hg w3 hbox hb; have n0_ := Aside0.mk (below_step HB.out hb); have n1_ := Aside0.mk hbox; have n2_ := Aside0.mk ((by rw [hg]; exact HB.out.size) : w.heap.size ≤ gb); have n3_ := Aside0.mk (Kd.Q_below (Kd.Q_elderB HQ.out gb (Nat.le_of_eq hg.symm)) hb); clear HB HQ; have HB := n0_; have BK := n1_; have GE := n2_; have HQ := n3_; clear n0_ n1_ n2_ n3_; clear hb hbox hg; have hcz0 : w3.cell? ⟨gb, 0, none⟩ = some (.int .i64 0) := (blk_cell BK.out 0).trans rfl; have hcz1 : w3.cell? ⟨gb, 1, none⟩ = some (.int .i64 0) := (blk_cell BK.out 1).trans rfl; have hcz2 : w3.cell? ⟨gb, 2, none⟩ = some (.int .i64 0) := (blk_cell BK.out 2).trans rfl; have hfz0 := blk_frozen BK.out 0; have hfz1 := blk_frozen BK.out 1; have hfz2 := blk_frozen BK.out 2))
              generalize hW : ((w3.setCell ⟨gb, 0, none⟩ (.int .i64 4)).setCell ⟨gb, 1, none⟩ (.int .i64 o.f1)).setCell ⟨gb, 2, none⟩ (.int .i64 o.f2) = W
              obtain ⟨n1_, n2_, n3_⟩ := hW ▸ stored (x' := .int .i64 4) (y' := .int .i64 o.f1) (z' := .int .i64 o.f2) HB.out GE.out BK.out HQ.out
              have n1_ := Aside0.mk n1_
              have n2_ := Aside0.mk n2_
              have n3_ := Aside0.mk n3_
              clear hW HB HQ BK hcz0 hcz1 hcz2 hfz0 hfz1 hfz2 hx0 hx1 hx2
              have BK := n1_
              have HQ := n2_
              have HB := n3_
              clear n1_ n2_ n3_
              have HX := Aside0.mk (Kd.Q_reads' HQ.out).2.2
              have HK := Aside0.mk c4
              have HN1 := Aside0.mk (HN.out (.inr c4))
              clear b3 c3 b4 c4 d1 p1 q1
              go_loopg [9, 12] (xs.length + 100) (fun g v9 v12 wx => ∃ (kk : Int) (j : Nat), v12 = .int .i64 kk ∧ Aside0 ((kk + g = xs.length + 100 ∧ 0 ≤ kk) ∧ j ≤ xs.length + 1 ∧ (j = 0 ∨ ((j : Int) - 1) * o.f1 < xs.length) ∧ kk = (j : Int) * o.f1) ∧ Aside0 (Kd.Q k44 44 wx W.heap.size (fun _ => True) v9 (someS o.f1 xs j)) ∧ Aside0 (Below W.heap.size W wx))
              case atStart => exact ⟨0, 0, rfl, ⟨⟨by omega, by omega⟩, by omega, .inl rfl, by simp⟩, ⟨Kd.Q_nil _ _ _ _ _⟩, ⟨Below.refl _ _⟩⟩
              case round =>
                obtain ⟨kk, j, rfl, HJ, HO, HW⟩ := hrel
                by_cases hk : kk < (xs.length : Int)
                · have d2 : decide (kk < (xs.length : Int)) = true := decide_eq_true hk
                  have q2 : (kk < (xs.length : Int)) = True := eq_true hk
                  have p2 : (0 ≤ kk) = True := eq_true HJ.out.1.2
                  have NK := Aside0.mk hk
                  clear hk
                  have hcell : wr.cell? ⟨gb, 1, none⟩ = some (.int .i64 o.f1) := (blk_cell (blk_below (g := gb) BK.out HW.out) 1).trans rfl
                  obtain ⟨adx, eA, y0, y1, y2⟩ := at_T44 HX.out kk HJ.out.1.2 NK.out
                  cases eA
                  replace y0 := (HW.out.cell (World.block_lt_of_cell? W _ y0)).trans y0
                  replace y1 := (HW.out.cell (World.block_lt_of_cell? W _ y1)).trans y1
                  replace y2 := (HW.out.cell (World.block_lt_of_cell? W _ y2)).trans y2
                  go_wp2_with (first | ((with_reducible refine gate_builtin (b := .append) (xs := #[.tmp 82, .tmp 87]) rfl ?_); at_builtin; refine Kd.Q_append k44 (w0 := W) W.heap.size rfl (.tmp 82) (.tmp 87) 41 44 (.agg #[(.int .i64 0), (.int .i64 0), (.int .i64 0)]) 24 rfl Try.underlying41 info44s rfl (by decide) (by omega) u9 (someS o.f1 xs j) (rd_T44 xs kk) [.int .i64 (rd_T44 xs kk).f0, .int .i64 (rd_T44 xs kk).f1, .int .i64 (rd_T44 xs kk).f2] (fun _ => True) (fun _ => False) rfl (by first | (go_simp; done) | (go_simp; rfl)) ?aP (fun _ hk => hk.elim) ?aF ?aO ?aB ?aS ?aL ?_; (case aP => exact k44_mkM _ _ _ (rd_T44 xs kk)); (case aF => exact fun _ _ => trivial); (case aO => exact HO.out); (case aB => exact HW.out); (case aS => exact HW.out.size); (case aL => rw [some_len]; have := HJ.out.2.1; have := HL.out; have := NI.out; have := ok_len l HOK.out; omega); intro v1 w1 ho hb hg hat; rw [HJ.out.2.2.2, ← some_succ] at ho; have n0_ := Aside0.mk ho; have n1_ := Aside0.mk hb; clear HO HW ho hb hg hat hcell; have HO := n0_; have HW := n1_; clear n0_ n1_; have hcell : w1.cell? ⟨gb, 1, none⟩ = some (.int .i64 o.f1) := (blk_cell (blk_below (g := gb) BK.out HW.out) 1).trans rfl))
                  go_roundg ((xs.length + 100 - (kk + o.f1)).toNat)
                  case measure => have := HJ.out; have := NK.out; have := HN1.out; omega
                  case rel => exact ⟨kk + o.f1, j + 1, by rw [wrap64_id (by have := HJ.out; have := NK.out; have := HN1.out; have := HL.out; have := NI.out; have := ok_len l HOK.out; omega) (by have := HJ.out; have := NK.out; have := HN1.out; have := HL.out; have := NI.out; have := ok_len l HOK.out; omega)], ⟨⟨by have := HJ.out; have := NK.out; have := HN1.out; omega, by have := HJ.out; have := HN1.out; omega⟩, some_le o.f1 xs j HN1.out.1 (by rw [← HJ.out.2.2.2]; exact NK.out), .inr (by rw [show ((j + 1 : Nat) : Int) - 1 = j by omega, ← HJ.out.2.2.2]; exact NK.out), by rw [HJ.out.2.2.2]; rw [show ((j + 1 : Nat) : Int) = (j : Int) + 1 by omega, Int.add_mul, Int.one_mul]⟩, HO, HW⟩
                · have d2 : decide (kk < (xs.length : Int)) = false := decide_eq_false hk
                  have q2 : (kk < (xs.length : Int)) = False := eq_false hk
                  have NK := Aside0.mk hk
                  clear hk
                  go_wp2
                  go_roundg (l.length - (i + 1))
                  case measure => have := HI.out; have := NI.out; omega
                  case rel => exact ⟨i + 1, by rw [wrap64_id (by have := NI.out; have := ok_len l HOK.out; omega) (by have := NI.out; have := ok_len l HOK.out; omega)]; rfl, ⟨by have := NI.out; omega⟩, ⟨by rw [HS.out, oneT, if_neg (by rw [HK.out]; decide), if_pos HK.out, ← some_done o.f1 xs j HN1.out.1 HJ.out.2.2.1 (by rw [← HJ.out.2.2.2]; have := NK.out; omega)]; exact Kd.Q_lower HO.out HB.out.size⟩, ⟨below_step HB.out HW.out⟩⟩
            · have b4 : (o.f0 == 4) = false := beq_eq_false_iff_ne.mpr c4
              by_cases c5 : o.f0 = 5
              · have b5 : (o.f0 == 5) = true := beq_iff_eq.mpr c5
                have HK := Aside0.mk c5
                go_wp2_with (first | ((with_reducible refine gate_dst (N := 8) rfl ?_); refine box_event ?hg (N := 8) ?hd (cs := #[.int .i64 0, .int .i64 0, .int .i64 0]) (t := 56) ?hr ?_; (case hd => rfl); (case hg => rfl); (case hr => first | (go_simp; done) | (go_simp; rfl)); intro gb hg w3 hbox hb; have n0_ := Aside0.mk (below_step HB.out hb); have n1_ := Aside0.mk hbox; have n2_ := Aside0.mk ((by rw [hg]; exact HB.out.size) : w.heap.size ≤ gb); have n3_ := Aside0.mk (Kd.Q_below (Kd.Q_elderB HQ.out gb (Nat.le_of_eq hg.symm)) hb); clear HB HQ; have HB := n0_; have BK := n1_; have GE := n2_; have HQ := n3_; clear n0_ n1_ n2_ n3_; clear hb hbox hg; have hcz0 : w3.cell? ⟨gb, 0, none⟩ = some (.int .i64 0) := (blk_cell BK.out 0).trans rfl; have hcz1 : w3.cell? ⟨gb, 1, none⟩ = some (.int .i64 0) := (blk_cell BK.out 1).trans rfl; have hcz2 : w3.cell? ⟨gb, 2, none⟩ = some (.int .i64 0) := (blk_cell BK.out 2).trans rfl; have hfz0 := blk_frozen BK.out 0; have hfz1 := blk_frozen BK.out 1; have hfz2 := blk_frozen BK.out 2))
                go_roundg (l.length - (i + 1))
                case measure => have := HI.out; have := NI.out; omega
                case rel =>
                  have hst := stored (x' := .int .i64 5) (y' := .int .i64 o.f1) (z' := .int .i64 o.f2) HB.out GE.out BK.out HQ.out
                  exact ⟨i + 1, by rw [wrap64_id (by have := NI.out; have := ok_len l HOK.out; omega) (by have := NI.out; have := ok_len l HOK.out; omega)]; rfl, ⟨by have := NI.out; omega⟩, ⟨by rw [HS.out, oneT, if_neg (by rw [HK.out]; decide), if_neg (by rw [HK.out]; decide), if_pos HK.out]; exact hst.2.1⟩, ⟨hst.2.2⟩⟩
              · have b5 : (o.f0 == 5) = false := beq_eq_false_iff_ne.mpr c5
                by_cases c7 : o.f0 = 7
                · have b7 : (o.f0 == 7) = true := beq_iff_eq.mpr c7
                  have HK := Aside0.mk c7
                  by_cases h0 : 0 < xs.length
                  · have d2 : decide ((xs.length : Int) > 0) = true := decide_eq_true (by omega)
                    have d2' : decide (0 < (xs.length : Int)) = true := decide_eq_true (by omega)
                    have q2 : (0 < (xs.length : Int)) = True := eq_true (by omega)
                    have r2 : (0 < xs.length) = True := eq_true h0
                    have H0 := Aside0.mk h0
                    clear h0
                    have q6 : ((xs.length : Int) < 1) = False := eq_false (by have := H0.out; omega)
                    have r6 : (xs.length < 1) = False := eq_false (by have := H0.out; omega)
                    have q7 : ((1 : Int) ≤ (xs.length : Int)) = True := eq_true (by have := H0.out; omega)
                    have r7 : (1 ≤ xs.length) = True := eq_true (by have := H0.out; omega)
                    by_cases hc1 : cs = 1
                    · have e1 : (cs = 1) = True := eq_true hc1
                      have HC1 := Aside0.mk hc1
                      clear hc1
                      go_wp2_with (first | ((with_reducible refine gate_dst (N := 8) rfl ?_); refine box_event ?hg (N := 8) ?hd (cs := #[.int .i64 0, .int .i64 0, .int .i64 0]) (t := 56) ?hr ?_; (case hd => rfl); (case hg => rfl); (case hr => first | (go_simp; done) | (go_simp; rfl)); intro gb hg w3 hbox hb; have n0_ := Aside0.mk (below_step HB.out hb); have n1_ := Aside0.mk hbox; have n2_ := Aside0.mk ((by rw [hg]; exact HB.out.size) : w.heap.size ≤ gb); have n3_ := Aside0.mk (Kd.Q_below (Kd.Q_elderB HQ.out gb (Nat.le_of_eq hg.symm)) hb); clear HB HQ; have HB := n0_; have BK := n1_; have GE := n2_; have HQ := n3_; clear n0_ n1_ n2_ n3_; clear hb hbox hg; have hcz0 : w3.cell? ⟨gb, 0, none⟩ = some (.int .i64 0) := (blk_cell BK.out 0).trans rfl; have hcz1 : w3.cell? ⟨gb, 1, none⟩ = some (.int .i64 0) := (blk_cell BK.out 1).trans rfl; have hcz2 : w3.cell? ⟨gb, 2, none⟩ = some (.int .i64 0) := (blk_cell BK.out 2).trans rfl; have hfz0 := blk_frozen BK.out 0; have hfz1 := blk_frozen BK.out 1; have hfz2 := blk_frozen BK.out 2))
                      go_roundg (l.length - (i + 1))
                      case measure => have := HI.out; have := NI.out; omega
                      case rel =>
                        have hst := stored (x' := .int .i64 7) (y' := .int .i64 o.f1) (z' := .int .i64 o.f2) HB.out GE.out BK.out HQ.out
                        have hdr := Kd.Q_drop (k := 1) hst.2.1 (by have := H0.out; omega)
                        rw [if_pos HC1.out] at hdr
                        exact ⟨i + 1, by rw [wrap64_id (by have := NI.out; have := ok_len l HOK.out; omega) (by have := NI.out; have := ok_len l HOK.out; omega)]; rfl, ⟨by have := NI.out; omega⟩, ⟨by rw [HS.out, oneT, if_neg (by rw [HK.out]; decide), if_neg (by rw [HK.out]; decide), if_neg (by rw [HK.out]; decide), if_pos HK.out]; exact hdr⟩, ⟨hst.2.2⟩⟩
                    · have e1 : (cs = 1) = False := eq_false hc1
                      have HC1 := Aside0.mk hc1
                      clear hc1
                      go_wp2_with (first | ((with_reducible refine gate_dst (N := 8) rfl ?_); refine box_event ?hg (N := 8) ?hd (cs := #[.int .i64 0, .int .i64 0, .int .i64 0]) (t := 56) ?hr ?_; (case hd => rfl); (case hg => rfl); (case hr => first | (go_simp; done) | (go_simp; rfl)); intro gb hg w3 hbox hb; have n0_ := Aside0.mk (below_step HB.out hb); have n1_ := Aside0.mk hbox; have n2_ := Aside0.mk ((by rw [hg]; exact HB.out.size) : w.heap.size ≤ gb); have n3_ := Aside0.mk (Kd.Q_below (Kd.Q_elderB HQ.out gb (Nat.le_of_eq hg.symm)) hb); clear HB HQ; have HB := n0_; have BK := n1_; have GE := n2_; have HQ := n3_; clear n0_ n1_ n2_ n3_; clear hb hbox hg; have hcz0 : w3.cell? ⟨gb, 0, none⟩ = some (.int .i64 0) := (blk_cell BK.out 0).trans rfl; have hcz1 : w3.cell? ⟨gb, 1, none⟩ = some (.int .i64 0) := (blk_cell BK.out 1).trans rfl; have hcz2 : w3.cell? ⟨gb, 2, none⟩ = some (.int .i64 0) := (blk_cell BK.out 2).trans rfl; have hfz0 := blk_frozen BK.out 0; have hfz1 := blk_frozen BK.out 1; have hfz2 := blk_frozen BK.out 2))
                      go_roundg (l.length - (i + 1))
                      case measure => have := HI.out; have := NI.out; omega
                      case rel =>
                        have hst := stored (x' := .int .i64 7) (y' := .int .i64 o.f1) (z' := .int .i64 o.f2) HB.out GE.out BK.out HQ.out
                        have hdr := Kd.Q_drop (k := 1) hst.2.1 (by have := H0.out; omega)
                        rw [if_neg HC1.out] at hdr
                        exact ⟨i + 1, by rw [wrap64_id (by have := NI.out; have := ok_len l HOK.out; omega) (by have := NI.out; have := ok_len l HOK.out; omega)]; rfl, ⟨by have := NI.out; omega⟩, ⟨by rw [HS.out, oneT, if_neg (by rw [HK.out]; decide), if_neg (by rw [HK.out]; decide), if_neg (by rw [HK.out]; decide), if_pos HK.out]; exact hdr⟩, ⟨hst.2.2⟩⟩
                  · have d2 : decide ((xs.length : Int) > 0) = false := decide_eq_false (by omega)
                    have d2' : decide (0 < (xs.length : Int)) = false := decide_eq_false (by omega)
                    have q2 : (0 < (xs.length : Int)) = False := eq_false (by omega)
                    have r2 : (0 < xs.length) = False := eq_false h0
                    have H0 := Aside0.mk h0
                    clear h0
                    go_wp2_with (first | ((with_reducible refine gate_dst (N := 8) rfl ?_); refine box_event ?hg (N := 8) ?hd (cs := #[.int .i64 0, .int .i64 0, .int .i64 0]) (t := 56) ?hr ?_; (case hd => rfl); (case hg => rfl); (case hr => first | (go_simp; done) | (go_simp; rfl)); intro gb hg w3 hbox hb; have n0_ := Aside0.mk (below_step HB.out hb); have n1_ := Aside0.mk hbox; have n2_ := Aside0.mk ((by rw [hg]; exact HB.out.size) : w.heap.size ≤ gb); have n3_ := Aside0.mk (Kd.Q_below (Kd.Q_elderB HQ.out gb (Nat.le_of_eq hg.symm)) hb); clear HB HQ; have HB := n0_; have BK := n1_; have GE := n2_; have HQ := n3_; clear n0_ n1_ n2_ n3_; clear hb hbox hg; have hcz0 : w3.cell? ⟨gb, 0, none⟩ = some (.int .i64 0) := (blk_cell BK.out 0).trans rfl; have hcz1 : w3.cell? ⟨gb, 1, none⟩ = some (.int .i64 0) := (blk_cell BK.out 1).trans rfl; have hcz2 : w3.cell? ⟨gb, 2, none⟩ = some (.int .i64 0) := (blk_cell BK.out 2).trans rfl; have hfz0 := blk_frozen BK.out 0; have hfz1 := blk_frozen BK.out 1; have hfz2 := blk_frozen BK.out 2))
                    go_roundg (l.length - (i + 1))
                    case measure => have := HI.out; have := NI.out; omega
                    case rel =>
                      have hst := stored (x' := .int .i64 7) (y' := .int .i64 o.f1) (z' := .int .i64 o.f2) HB.out GE.out BK.out HQ.out
                      exact ⟨i + 1, by rw [wrap64_id (by have := NI.out; have := ok_len l HOK.out; omega) (by have := NI.out; have := ok_len l HOK.out; omega)]; rfl, ⟨by have := NI.out; omega⟩, ⟨by rw [HS.out, oneT, if_neg (by rw [HK.out]; decide), if_neg (by rw [HK.out]; decide), if_neg (by rw [HK.out]; decide), if_pos HK.out, List.drop_of_length_le (by have := H0.out; omega)]; exact Kd.Q_nil _ _ _ _ _⟩, ⟨hst.2.2⟩⟩
                · have b7 : (o.f0 == 7) = false := beq_eq_false_iff_ne.mpr c7
                  have HK := Aside0.mk (show ¬ o.f0 = 3 ∧ ¬ o.f0 = 4 ∧ ¬ o.f0 = 5 ∧ ¬ o.f0 = 7 from ⟨c3, c4, c5, c7⟩)
                  go_wp2_with (first | ((with_reducible refine gate_dst (N := 8) rfl ?_); refine box_event ?hg (N := 8) ?hd (cs := #[.int .i64 0, .int .i64 0, .int .i64 0]) (t := 56) ?hr ?_; (case hd => rfl); (case hg => rfl); (case hr => first | (go_simp; done) | (go_simp; rfl)); intro gb hg w3 hbox hb; have n0_ := Aside0.mk (below_step HB.out hb); have n1_ := Aside0.mk hbox; have n2_ := Aside0.mk ((by rw [hg]; exact HB.out.size) : w.heap.size ≤ gb); have n3_ := Aside0.mk (Kd.Q_below (Kd.Q_elderB HQ.out gb (Nat.le_of_eq hg.symm)) hb); clear HB HQ; have HB := n0_; have BK := n1_; have GE := n2_; have HQ := n3_; clear n0_ n1_ n2_ n3_; clear hb hbox hg; have hcz0 : w3.cell? ⟨gb, 0, none⟩ = some (.int .i64 0) := (blk_cell BK.out 0).trans rfl; have hcz1 : w3.cell? ⟨gb, 1, none⟩ = some (.int .i64 0) := (blk_cell BK.out 1).trans rfl; have hcz2 : w3.cell? ⟨gb, 2, none⟩ = some (.int .i64 0) := (blk_cell BK.out 2).trans rfl; have hfz0 := blk_frozen BK.out 0; have hfz1 := blk_frozen BK.out 1; have hfz2 := blk_frozen BK.out 2) | ((with_reducible refine gate_dst (N := 38) rfl ?_); refine Kd.R_lit k44 (w0 := w) w.heap.size 44 ?hg (N := 38) ?hd (xs := ([(⟨0, o.f1, 2⟩ : S44)] : List S44)) (inner := [.int .i64 0, .int .i64 o.f1, .int .i64 2]) (ok := fun _ => True) (okp := fun _ => True) ?hr ?hp (fun _ hk => hk) trivial ?hbB ?hbS (by simp) ?_; (case hd => rfl); (case hg => rfl); (case hr => first | (go_simp; done) | (go_simp; rfl)); (case hp => exact (Reps.c3 (show Kd.M k44 _ _ _ (⟨0, o.f1, 2⟩ : S44) [.int .i64 0, .int .i64 o.f1, .int .i64 2] from (k44_mkM _ _ _ (⟨0, o.f1, 2⟩ : S44))) (Reps.none _ _))); (case hbB => exact (stored (x' := .int .i64 o.f0) (y' := .int .i64 o.f1) (z' := .int .i64 o.f2) HB.out GE.out BK.out HQ.out).2.2); (case hbS => exact (stored (x' := .int .i64 o.f0) (y' := .int .i64 o.f1) (z' := .int .i64 o.f2) HB.out GE.out BK.out HQ.out).2.2.size); intro v1 w1 ho hb hg hat; have n0_ := Aside0.mk ho; have n1_ := Aside0.mk hb; have n2_ := Aside0.mk (Kd.Q_grown (stored (x' := .int .i64 o.f0) (y' := .int .i64 o.f1) (z' := .int .i64 o.f2) HB.out GE.out BK.out HQ.out).2.1 hg (fun _ _ => by simp)); clear HB HQ ho hb hg hat; have HO := n0_; have HB := n1_; have HQ := n2_; clear n0_ n1_ n2_) | ((with_reducible refine gate_builtin (b := .append) (xs := #[.tmp 38, .tmp 39]) rfl ?_); at_builtin; refine Kd.R_append_rows k44 (w0 := w) w.heap.size rfl (.tmp 38) (.tmp 39) 41 44 (.agg #[(.int .i64 0), (.int .i64 0), (.int .i64 0)]) 24 rfl Try.underlying41 info44s rfl (by decide) (by omega) v1 [(⟨0, o.f1, 2⟩ : S44)] xs _ _ _ (fun _ => True) (fun _ => False) rfl rfl ?aO ?aR (fun _ _ h => h) (fun _ h => h.elim) ?aF ?aB ?aS ?aL ?_; (case aR => exact (Kd.Q_reads' HQ.out).2.2); (case aF => exact fun _ _ => trivial); (case aO => exact HO.out); (case aB => exact HB.out); (case aS => exact HB.out.size); (case aL => have := HL.out; have := NI.out; have := ok_len l HOK.out; simp only [List.length_cons, List.length_nil]; omega); intro v2 w2 ho hb hg hat; have n0_ := Aside0.mk ho; have n1_ := Aside0.mk hb; clear HO HB HQ ho hb hg hat; have HO := n0_; have HB := n1_; clear n0_ n1_))
                  go_roundg (l.length - (i + 1))
                  case measure => have := HI.out; have := NI.out; omega
                  case rel => exact ⟨i + 1, by rw [wrap64_id (by have := NI.out; have := ok_len l HOK.out; omega) (by have := NI.out; have := ok_len l HOK.out; omega)]; rfl, ⟨by have := NI.out; omega⟩, ⟨by rw [HS.out, oneT, if_neg HK.out.1, if_neg HK.out.2.1, if_neg HK.out.2.2.1, if_neg HK.out.2.2.2]; exact Kd.Q_of_R HO.out⟩, HB⟩
        · have d1 : decide ((i : Int) < (l.length : Int)) = false := decide_eq_false (by omega)
          have q1 : ((i : Int) < (l.length : Int)) = False := eq_false (by omega)
          have r1 : (i < l.length) = False := eq_false hi
          have NI := Aside0.mk hi
          clear hi
          go_wp2
          go_ret
          exact ⟨_, rfl, by have e := HQ.out; rw [List.take_of_length_le (by have := NI.out; omega)] at e; exact e, HB.out⟩
theorem horariumref07_Stream.calls (A0 : Option Addr) (c0 : Nat) (l0 : List S56) (a1 : Int) (r : List S44) (w : World) (hr0 : Kd.C k56 w A0 l0.length l0) (hc0 : l0.length ≤ c0) (h : horariumref07_Stream.f l0 a1 = some r) :
    Calls Try.prog 31 #[.slice A0 l0.length c0, .int .i64 a1] w fun e w' => ∃ v0_ : Value, e = .returned (v0_) ∧ Kd.Q k44 44 w' w.heap.size (fun _ => True) v0_ r ∧ Below w.heap.size w w' := by
  unfold horariumref07_Stream.f at h
  split at h
  · rename_i hk
    obtain ⟨rfl, hok⟩ := hk
    cases h
    exact stream_calls A0 c0 l0 w hr0 hc0 hok
  · cases h
end Go.Proofs.Ytkiaglpkijhbmaa.PIndexStreams
