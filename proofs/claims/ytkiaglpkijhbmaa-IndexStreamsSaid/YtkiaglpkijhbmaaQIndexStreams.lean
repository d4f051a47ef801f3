import Derived.RangeFuncNested
import Derived.RangeFuncBound
import Derived.RangeFuncCalls
import Derived.RangeFuncLeaves
import Derived.Shelf.Abstract
import Derived.Shelf.RegionOpen
import Derived.WalkKit
import Derived.Lib.Hide
import Derived.OwnWalkIn
import Derived.TacticsInMore
import Derived.LoopNIn
import Derived.LoopIn
import Derived.Test.YtkiaglpkijhbmaaMath
import Derived.Test.YtkiaglpkijhbmaaQIndexStreams0
/-! index.Back: a range over slices.Backward, walked by hand: what it answers, for every slice of operators and every number. -/
namespace Go.Proofs.Ytkiaglpkijhbmaa.PIndexStreams
open Go.RowKit Go.Shelf Go.Proofs.YtkiaglpkijhbmaaW.PrintWords Go.Proofs.YtkiaglpkijhbmaaW.PrintMore Go.Proofs.Ytkiaglpkijhbmaa.Math
attribute [local go_sem] Oper.semAt_some

/-! ### What it answers -/
def stepS (o : S56) (n : Int) : Int × Int :=
  if o.f0 = 3 then (if 1 ≤ o.f1 then (wrap64 (n.tdiv o.f1), 1) else (0, 0))
  else if o.f0 = 4 then (if 1 ≤ o.f1 ∧ (n = 0 ∨ o.f1 ≤ wrap64 (Int.tdiv 1099511627776 n)) then (wrap64 (n * o.f1), 1) else (0, 0))
  else if o.f0 = 5 then (n, 1)
  else if o.f0 = 7 then (wrap64 (n + 1), 1)
  else if o.f0 = 6 ∨ o.f0 = 8 then (if n = 0 then (o.f1, 2) else (wrap64 (n - 1), 1))
  else (0, 0)
def inB (n : Int) : Bool := decide (0 ≤ n ∧ n ≤ 1099511627776)
/-- Where an operator lets the walk go on. -/
def oneS (o : S56) (n : Int) : Option Int := if (stepS o n).2 = 2 then none else if (stepS o n).2 = 0 then none else if inB (stepS o n).1 = true then some (stepS o n).1 else none
/-- What is told where it doesn't. -/
def stopS (o : S56) (n : Int) : Int × Int × Int := if (stepS o n).2 = 2 then (0, (stepS o n).1, 2) else (0, 0, 0)
def goS : List S56 → Int → Int × Int × Int
  | [], n => (n, 0, 1)
  | o :: r, n => match oneS o n with | some m => goS r m | none => stopS o n
def backS (l : List S56) (n : Int) : Int × Int × Int := if inB n = true then goS l.reverse n else (0, 0, 0)
def reachS : List S56 → Int → Option Int
  | [], n => some n
  | o :: r, n => (oneS o n).bind (reachS r)
theorem reachS_snoc : ∀ (l : List S56) (o : S56) (n : Int), reachS (l ++ [o]) n = (reachS l n).bind (oneS o)
  | [], o, n => by simp [reachS]
  | a :: l, o, n => by
    simp only [List.cons_append, reachS]
    cases h : oneS a n with
    | none => rfl
    | some m => simpa using reachS_snoc l o m
theorem goS_reach : ∀ (l r : List S56) (n m : Int), reachS l n = some m → goS (l ++ r) n = goS r m
  | [], r, n, m, h => by simp only [reachS, Option.some.injEq] at h; rw [h]; rfl
  | a :: l, r, n, m, h => by
    simp only [reachS] at h
    obtain ⟨x, hx, h⟩ := Option.bind_eq_some_iff.1 h
    simp only [List.cons_append, goS, hx]
    exact goS_reach l r x m h

theorem in_f (n : Int) : index_in.f n = some (inB n) := by
  unfold index_in.f inB
  split
  · congr 1; rw [Bool.eq_iff_iff]; simp; omega
  · congr 1; rw [Bool.eq_iff_iff]; simp; omega
theorem step_f (k : Nat) (o : S56) (n : Int) : index_step.f (k + 1) o.f0 o.f1 o.f2 n = some (stepS o n) := by
  unfold index_step.f stepS
  simp only [index_step.j0]
  by_cases h3 : o.f0 = 3
  · simp only [h3, if_true]
    (repeat' split) <;> first | rfl | omega
  · simp only [h3, if_false]
    by_cases h4 : o.f0 = 4
    · simp only [h4, if_true]
      (repeat' split) <;> first | rfl | omega
    · simp only [h4, if_false]
      by_cases h5 : o.f0 = 5
      · simp [h5]
      · by_cases h7 : o.f0 = 7
        · simp [h7]
        · simp only [h5, h7, if_false]
          by_cases h6 : o.f0 = 6
          · simp only [h6, if_true, beq_self_eq_true, true_or]
            (repeat' split) <;> first | rfl | omega
          · by_cases h8 : o.f0 = 8
            · simp only [h8, beq_self_eq_true, if_true, or_true]
              (repeat' split) <;> first | rfl | omega | simp_all
            · simp [h6, h8]

/-! ### slices.Backward -/
def upto {α : Type} (f : Nat → α) (k : Nat) : List α := (List.range k).map f
theorem upto_succ {α : Type} (f : Nat → α) (k : Nat) : upto f (k + 1) = upto f k ++ [f k] := by simp [upto, List.range_succ]
theorem upto_length {α : Type} (f : Nat → α) (k : Nat) : (upto f k).length = k := by simp [upto]
/-- What comes in round j. -/
def bwd (l : List S56) (j : Nat) : Int × S56 := ((l.length : Int) - 1 - j, rd_T56 l ((l.length : Int) - 1 - j))
def encO (o : S56) : Value := .agg #[.int .i64 o.f0, .int .i64 o.f1, .int .i64 o.f2]

set_option maxHeartbeats 1000000 in
/-- slices.Backward(s): the slice value is boxed; the function value captures the box. -/
theorem bw_in (n : Nat) (a : Option Addr) (len cap : Nat) (w : World) :
    CallsIn Fence.wide n Try.prog 50 #[.slice a len cap] w fun e w' => e = .returned (.func (.func 62) #[] #[.pointer (some ⟨w.heap.size, 0, none⟩)]) ∧ w' = w.alloc (.cells #[.slice a len cap] 35) := by
  refine callsIn_of_wp Try.func50 rfl trivial ?_ rfl
  simp only [Try.ntmps50, List.size_toArray, List.length_cons, List.length_nil, Nat.reduceAdd, Nat.reduceSub, Array.replicate_succ, Array.replicate_zero, List.push_toArray, List.append_toArray, List.nil_append, List.cons_append]
  gi_wp2
  go_ret
  exact ⟨rfl, rfl⟩

/-- What a round keeps: what lay below n₀, and the slice's box. -/
def KpB (n₀ Bs : Nat) (A B : World) : Prop := Below n₀ A B ∧ ∀ v, A.cell? ⟨Bs, 0, none⟩ = some v → B.cell? ⟨Bs, 0, none⟩ = some v
theorem KpB.refl (n₀ Bs : Nat) (A : World) : KpB n₀ Bs A A := ⟨Below.refl _ _, fun _ h => h⟩
theorem KpB.trans {n₀ Bs : Nat} {A B C : World} (h : KpB n₀ Bs A B) (k : KpB n₀ Bs B C) : KpB n₀ Bs A C := ⟨h.1.trans k.1, fun v hv => k.2 v (h.2 v hv)⟩
theorem KpB.put {n₀ Bs : Nat} (W : World) (l : Nat) (o o' : Obj) (hl : n₀ ≤ l) (h : W.heap[l]? = some o) (ho : o.isCells = false) (_ : o.isWalk = false) : KpB n₀ Bs W (W.putObj l o') := by
  have hne : ∀ v, W.cell? ⟨Bs, 0, none⟩ = some v → Bs ≠ l := by
    rintro v hv rfl
    unfold World.cell? at hv
    rw [h] at hv
    cases o <;> simp_all [Obj.isCells]
  refine ⟨(Below.refl n₀ W).grown (grownBy_putObj' W l o') (by have := (Array.getElem?_eq_some_iff.1 h).1; omega) (fun k e => by cases e; omega), fun v hv => ?_⟩
  rw [← hv]
  unfold World.cell?
  rw [World.putObj_heap_other (fun e => hne v hv e)]

set_option maxRecDepth 100000 in
set_option maxHeartbeats 2000000 in
/-- slices.Backward's closure: for every loop body that keeps what lay below n₀. -/
theorem bw1_in (n : Nat) (hn : 1 ≤ n) (l Bs n₀ cap : Nat) (A : Option Addr) (zs : List S56) (hlen : zs.length ≤ 9223372036854775807) (J Jx : List (Int × S56) → World → Prop)
    (hY : ∀ pre x W, J pre W → pre.length < zs.length → YieldAt Fence.wide (n - 1) Try.prog l #[.int .i64 x.1, encO x.2] W fun e W' =>
      (e = .returned (.bool true) ∧ J (pre ++ [x]) W' ∧ KpB n₀ Bs W W') ∨ (e = .returned (.bool false) ∧ Jx (pre ++ [x]) W'))
    (w0 W : World) (hw0 : n₀ = w0.heap.size) (hB0 : Below n₀ w0 W) (hBs : W.cell? ⟨Bs, 0, none⟩ = some (.slice A zs.length cap)) (hC : Kd.C k56 w0 A zs.length zs) (h0 : J [] W) :
    CallsIn Fence.wide n Try.prog 62 #[.func (.yield l) #[] #[], .pointer (some ⟨Bs, 0, none⟩)] W fun e W' => (∃ v, e = .returned v) ∧
      ((∃ ys, ys = upto (bwd zs) zs.length ∧ J ys W') ∨ (∃ pre, (∃ k, k ≤ zs.length ∧ pre = upto (bwd zs) k) ∧ Jx pre W')) := by
  refine callsIn_of_wp Try.func62 rfl trivial ?_ rfl
  simp only [Try.ntmps62, List.size_toArray, List.length_cons, List.length_nil, Nat.reduceAdd, Nat.reduceSub, Array.replicate_succ, Array.replicate_zero, List.push_toArray, List.append_toArray, List.nil_append, List.cons_append]
  gi_wp2
  gi_loopw [3] (fun i wr => ∃ k : Nat, k ≤ zs.length ∧ i = .int .i64 ((zs.length : Int) - 1 - k) ∧ J (upto (bwd zs) k) wr ∧ Below n₀ W wr ∧ wr.cell? ⟨Bs, 0, none⟩ = some (.slice A zs.length cap))
    (fun i _ => ((intOf i) + 1).toNat)
  case atStart => exact ⟨0, Nat.zero_le _, by simp, h0, Below.refl _ _, hBs⟩
  case round =>
    obtain ⟨k, hk, rfl, hJs, hnx, hBsx⟩ := hrel
    subst hw0
    have hB1 : Below w0.heap.size w0 wr := hB0.trans hnx
    by_cases hlt : k < zs.length
    · have p0 : 0 ≤ (zs.length : Int) - 1 - k := by omega
      have q0 : (zs.length : Int) - 1 - k < (zs.length : Int) := by omega
      obtain ⟨fn, tmps, assign, body, hy, hR⟩ := hY _ (bwd zs k) wr hJs (by rw [upto_length]; exact hlt)
      obtain ⟨ad, rfl, hx0, hx1, hx2⟩ := at_T56 hC _ p0 q0
      replace hx0 := (hB1.cell (World.block_lt_of_cell? w0 _ hx0)).trans hx0
      replace hx1 := (hB1.cell (World.block_lt_of_cell? w0 _ hx1)).trans hx1
      replace hx2 := (hB1.cell (World.block_lt_of_cell? w0 _ hx2)).trans hx2
      unfold bwd encO at hy
      dsimp only at hy
      generalize hi : (zs.length : Int) - 1 - k = i at *
      have HI := Lib.hid hi
      clear hi
      have d0 : decide (0 ≤ i) = true := decide_eq_true p0
      have d1 : decide (i < (zs.length : Int)) = true := decide_eq_true q0
      gi_wp2
      refine hR.mono ?_
      rintro e W3 (⟨rfl, hJ3, hk3⟩ | ⟨rfl, hJx3⟩)
      · gi_wp2
        go_roundw
        case rel => exact ⟨k + 1, by omega, by have := HI.out; congr 1; omega, by rw [upto_succ]; exact hJ3, hnx.trans hk3.1, hk3.2 _ hBsx⟩
        case measure => simp [intOf]; omega
      · gi_wp2
        refine bodyPost_ret (results_none rfl _ _ _) rfl ?_
        exact ⟨⟨_, rfl⟩, .inr ⟨_, ⟨k + 1, by omega, (upto_succ _ _).symm⟩, hJx3⟩⟩
    · obtain rfl : k = zs.length := by omega
      have d0 : decide (0 ≤ (zs.length : Int) - 1 - zs.length) = false := decide_eq_false (by omega)
      gi_wp2
      go_end0
      exact ⟨⟨_, rfl⟩, .inl ⟨_, rfl, hJs⟩⟩

/-- slices.Backward(s) hands back a value that stops. -/
theorem bw_stops (n : Nat) (hn : 1 ≤ n) (Bs cap : Nat) (A : Option Addr) (zs : List S56) (hlen : zs.length ≤ 9223372036854775807) (w0 w : World) (hB : Below w0.heap.size w0 w) (hBs : Bs < w.heap.size)
    (hc : w.cell? ⟨Bs, 0, none⟩ = some (.slice A zs.length cap)) (hC : Kd.C k56 w0 A zs.length zs) :
    SeqStopsK Fence.wide n Try.prog 62 #[.pointer (some ⟨Bs, 0, none⟩)] (fun x : Int × S56 => #[Value.int .i64 x.1, encO x.2]) (KpB w0.heap.size Bs) (fun ys => ys = upto (bwd zs) zs.length)
      (fun pre => ∃ k, k ≤ zs.length ∧ pre = upto (bwd zs) k) zs.length w := fun l J Jx W hW _ _ hY h0 =>
  bw1_in n hn l Bs w0.heap.size cap A zs hlen J Jx hY w0 W rfl (hB.trans (hW.mono hB.size)) ((hW.cell (p := ⟨Bs, 0, none⟩) hBs).trans hc) hC h0

def res (t : Int × Int × Int) : Value := .tuple #[.int .i64 t.1, .int .i64 t.2.1, .int .i64 t.2.2]

theorem boxed_drawn {W W' : World} {B : Nat} {t : TypeId} {v : Value} (h : Boxed W B t v) (hd : Drawn0 W W') : Boxed W' B t v := by
  obtain ⟨⟨n, rfl⟩⟩ := hd
  exact h
theorem size_drawn {W W' : World} (hd : Drawn0 W W') : W'.heap.size = W.heap.size := by
  obtain ⟨⟨n, rfl⟩⟩ := hd
  rfl
/-- The four boxes: n's, and the results'. -/
structure Boxes (w W : World) (m r1 r2 r3 : Int) : Prop where
  n : Boxed W w.heap.size 2 (.int .i64 m)
  a : Boxed W (w.heap.size + 1) 2 (.int .i64 r1)
  b : Boxed W (w.heap.size + 1 + 1) 2 (.int .i64 r2)
  c : Boxed W (w.heap.size + 1 + 1 + 1) 3 (.int .i64 r3)
  below : Below w.heap.size w W
theorem boxes_new (w : World) (x : Int) : Boxes w ((((w.alloc (.cells #[.int .i64 x] 2)).alloc (.cells #[.int .i64 0] 2)).alloc (.cells #[.int .i64 0] 2)).alloc (.cells #[.int .i64 0] 3)) x 0 0 0 := by
  have b1 := (((Boxed.new w 2 (.int .i64 x)).alloc (.cells #[.int .i64 0] 2)).alloc (.cells #[.int .i64 0] 2)).alloc (.cells #[.int .i64 0] 3)
  have b2 := ((Boxed.new (w.alloc (.cells #[.int .i64 x] 2)) 2 (.int .i64 0)).alloc (.cells #[.int .i64 0] 2)).alloc (.cells #[.int .i64 0] 3)
  have b3 := (Boxed.new ((w.alloc (.cells #[.int .i64 x] 2)).alloc (.cells #[.int .i64 0] 2)) 2 (.int .i64 0)).alloc (.cells #[.int .i64 0] 3)
  have b4 := Boxed.new (((w.alloc (.cells #[.int .i64 x] 2)).alloc (.cells #[.int .i64 0] 2)).alloc (.cells #[.int .i64 0] 2)) 3 (.int .i64 0)
  simp only [World.size_alloc] at b2 b3 b4
  exact ⟨b1, b2, b3, b4, ((((Below.refl _ w).alloc (Nat.le_refl _) _).alloc (by simp) _).alloc (by simp; omega) _).alloc (by simp; omega) _⟩
theorem Boxes.drawn {w W W' : World} {m r1 r2 r3 : Int} (h : Boxes w W m r1 r2 r3) (hd : Drawn0 W W') : Boxes w W' m r1 r2 r3 :=
  ⟨boxed_drawn h.n hd, boxed_drawn h.a hd, boxed_drawn h.b hd, boxed_drawn h.c hd, h.below.trans (hd.below.mono h.below.size)⟩

theorem Boxes.putn {w W : World} {m r1 r2 r3 : Int} (h : Boxes w W m r1 r2 r3) (m' : Int) : Boxes w (W.setCell ⟨w.heap.size, 0, none⟩ (.int .i64 m')) m' r1 r2 r3 :=
  ⟨h.n.set _, h.a.other (by omega) _, h.b.other (by omega) _, h.c.other (by omega) _, h.below.setCell (p := ⟨w.heap.size, 0, none⟩) (by simp) _⟩
theorem Boxes.puta {w W : World} {m r1 r2 r3 : Int} (h : Boxes w W m r1 r2 r3) (m' : Int) : Boxes w (W.setCell ⟨w.heap.size + 1, 0, none⟩ (.int .i64 m')) m m' r2 r3 :=
  ⟨h.n.other (by omega) _, h.a.set _, h.b.other (by omega) _, h.c.other (by omega) _, h.below.setCell (p := ⟨w.heap.size + 1, 0, none⟩) (by simp) _⟩
theorem Boxes.putb {w W : World} {m r1 r2 r3 : Int} (h : Boxes w W m r1 r2 r3) (m' : Int) : Boxes w (W.setCell ⟨w.heap.size + 1 + 1, 0, none⟩ (.int .i64 m')) m r1 m' r3 :=
  ⟨h.n.other (by omega) _, h.a.other (by omega) _, h.b.set _, h.c.other (by omega) _, h.below.setCell (p := ⟨w.heap.size + 1 + 1, 0, none⟩) (by simp; omega) _⟩
theorem Boxes.putc {w W : World} {m r1 r2 r3 : Int} (h : Boxes w W m r1 r2 r3) (m' : Int) : Boxes w (W.setCell ⟨w.heap.size + 1 + 1 + 1, 0, none⟩ (.int .i64 m')) m r1 r2 m' :=
  ⟨h.n.other (by omega) _, h.a.other (by omega) _, h.b.other (by omega) _, h.c.set _, h.below.setCell (p := ⟨w.heap.size + 1 + 1 + 1, 0, none⟩) (by simp; omega) _⟩

set_option maxRecDepth 100000 in
set_option maxHeartbeats 2000000 in
theorem back_out (n : Nat) (A : Option Addr) (cap : Nat) (zs : List S56) (x : Int) (w : World) (hx : inB x = false) :
    CallsIn Fence.wide n Try.prog 30 #[.slice A zs.length cap, .int .i64 x] w fun e W' => e = .returned (res (0, 0, 0)) ∧ Below w.heap.size w W' := by
  refine callsIn_of_wp_marks Try.func30 rfl trivial ?_ rfl
  simp only [Try.ntmps30, List.size_toArray, List.length_cons, List.length_nil, Nat.reduceAdd, Nat.reduceSub, Array.replicate_succ, Array.replicate_zero, List.push_toArray, List.append_toArray, List.nil_append, List.cons_append]
  have h49 := Aside0.mk (in_f x)
  rw [hx] at h49
  gi_wp2_with fail
  refine ⟨trivial, fun h => (by cases h), ?_⟩
  refine (callsIn_wide.2 (index_in.calls x false _ h49.out)).mono ?_
  rintro e w' ⟨rfl, hd⟩
  have hbx := Aside0.mk ((boxes_new w x).drawn hd)
  clear hd
  have cA := hbx.out.a.cell
  have cB := hbx.out.b.cell
  have cC := hbx.out.c.cell
  have fA := hbx.out.a.frozen
  have fB := hbx.out.b.frozen
  have fC := hbx.out.c.frozen
  gi_wp2_with fail
  have hz := ((hbx.out.puta 0).putb 0).putc 0
  exact ⟨res (0, 0, 0), by simp [results, Try.f30, go_sem, hz.a.cell, hz.b.cell, hz.c.cell, res], rfl, hz.below⟩

/-! ### In range -/
theorem boxed_below {W W' : World} {B : Nat} {t : TypeId} {v : Value} (h : Boxed W B t v) (hb : Below W.heap.size W W') : Boxed W' B t v := (hb.block B h.lt).trans h
theorem Boxes.step {w W W' : World} {m r1 r2 r3 : Int} (h : Boxes w W m r1 r2 r3) (hb : Below W.heap.size W W') : Boxes w W' m r1 r2 r3 :=
  ⟨boxed_below h.n hb, boxed_below h.a hb, boxed_below h.b hb, boxed_below h.c hb, h.below.trans (hb.mono h.below.size)⟩
theorem Boxes.own {w X Y : World} {m r1 r2 r3 : Int} {row : Option Nat} {B : Nat} (h : Boxes w X m r1 r2 r3) (hg : X.grownBy Y row) (hB : w.heap.size ≤ B) (hr : ∀ r, row = some r → B ≤ r ∧ ∃ o : Obj, X.heap[r]? = some o ∧ o.isCells = false) : Boxes w Y m r1 r2 r3 :=
  have hr' := fun r e => (hr r e).2
  ⟨boxed_own _ _ (fun _ : Unit => Value.int .i64 m) () X Y row h.n hg hr', boxed_own _ _ (fun _ : Unit => Value.int .i64 r1) () X Y row h.a hg hr', boxed_own _ _ (fun _ : Unit => Value.int .i64 r2) () X Y row h.b hg hr', boxed_own _ _ (fun _ : Unit => Value.int .i64 r3) () X Y row h.c hg hr',
    h.below.grown hg h.below.size (fun k e => Nat.le_trans hB (hr k e).1)⟩
theorem blk_own {X Y : World} {g : Nat} {cs : Array Value} {t : TypeId} {row : Option Nat} (h : X.heap[g]? = some (.cells cs t (0, 0))) (hg : X.grownBy Y row) (hr : ∀ r, row = some r → ∃ o : Obj, X.heap[r]? = some o ∧ o.isCells = false) : Y.heap[g]? = some (.cells cs t (0, 0)) :=
  (hg.block g (Array.getElem?_eq_some_iff.1 h).1 (fun e => by obtain ⟨o, ho, hc⟩ := hr g e.symm; rw [h] at ho; cases ho; cases hc)).trans h
/-- What a round's piece keeps. -/
def Rk (B n₀ Bs : Nat) (W Wx : World) : Prop := KeepsFrom B W Wx ∧ KpB n₀ Bs W Wx
theorem Rk.refl (B n₀ Bs : Nat) (W : World) : Rk B n₀ Bs W W := ⟨KeepsFrom.refl _ _, KpB.refl _ _ _⟩
theorem Rk.trans {B n₀ Bs : Nat} {W X Y : World} (h : Rk B n₀ Bs W X) (k : Rk B n₀ Bs X Y) : Rk B n₀ Bs W Y := ⟨h.1.trans k.1, h.2.trans k.2⟩
theorem Rk.below {B n₀ Bs : Nat} {X Y : World} (hb : Below X.heap.size X Y) (hn : n₀ ≤ X.heap.size) : Rk B n₀ Bs X Y :=
  ⟨KeepsFrom.of_grownBy (grown_of_below hb none) (by simp), hb.mono hn, fun _ hv => (hb.cell (World.block_lt_of_cell? X _ hv)).trans hv⟩
theorem Rk.set {B n₀ Bs : Nat} (X : World) (g : Nat) (v : Value) (hg : n₀ ≤ g) (hne : Bs ≠ g) : Rk B n₀ Bs X (X.setCell ⟨g, 0, none⟩ v) :=
  ⟨(KeepsOthers.setCell _ _ _).from _, (Below.refl _ X).setCell (p := ⟨g, 0, none⟩) hg _, fun u hu => by
    rw [← hu]
    exact World.cell?_setCell_other _ _ _ _ (fun e => hne (congrArg Addr.block e).symm)⟩

theorem step_calls (o : S56) (m : Int) (w : World) : Calls Try.prog 51 #[encO o, .int .i64 m] w fun e w' => e = .returned (.tuple #[.int .i64 (stepS o m).1, .int .i64 (stepS o m).2]) ∧ Below w.heap.size w w' :=
  index_step.calls 1 o.f0 o.f1 o.f2 m (stepS o m).1 (stepS o m).2 w (step_f 0 o m)
theorem in_calls (m : Int) (b : Bool) (hb : inB m = b) (w : World) : Calls Try.prog 49 #[.int .i64 m] w fun e w' => e = .returned (.bool b) ∧ Below w.heap.size w w' :=
  (index_in.calls m b w (by rw [in_f, hb])).mono fun _ _ ⟨h, hd⟩ => ⟨h, hd.below⟩

theorem map_bwd (zs : List S56) {k : Nat} (hk : k ≤ zs.length) : (upto (bwd zs) k).map (·.2) = zs.reverse.take k := by
  apply List.ext_getElem
  · simp [upto, hk]
  · intro i h1 h2
    have hi : i < k := by simpa [upto] using h1
    simp only [upto, bwd, List.map_map, List.getElem_map, List.getElem_range, Function.comp, List.getElem_take, List.getElem_reverse, rd_T56]
    rw [show ((zs.length : Int) - 1 - (i : Int)).toNat = zs.length - 1 - i by omega, List.getD_eq_getElem?_getD, List.getElem?_eq_getElem (by omega)]
    rfl

set_option maxRecDepth 100000 in
set_option maxHeartbeats 4000000 in
theorem back_yes (n : Nat) (hn : 3 ≤ n) (A : Option Addr) (cap : Nat) (zs : List S56) (hlen : zs.length ≤ 9223372036854775807) (x : Int) (w : World) (hC : Kd.C k56 w A zs.length zs) (hx : inB x = true) :
    CallsIn Fence.wide n Try.prog 30 #[.slice A zs.length cap, .int .i64 x] w fun e W' => e = .returned (res (goS zs.reverse x)) ∧ Below w.heap.size w W' := by
  refine callsIn_of_wp_marks Try.func30 rfl trivial ?_ rfl
  simp only [Try.ntmps30, List.size_toArray, List.length_cons, List.length_nil, Nat.reduceAdd, Nat.reduceSub, Array.replicate_succ, Array.replicate_zero, List.push_toArray, List.append_toArray, List.nil_append, List.cons_append]
  gi_wp2_with fail
  refine ⟨trivial, fun h => (by cases h), ?_⟩
  refine (callsIn_wide.2 (in_calls x true hx _)).mono ?_
  rintro e w1 ⟨rfl, hd⟩
  have hbx := (boxes_new w x).step hd
  have hsz := hd.size
  simp only [World.size_alloc] at hsz
  clear hd
  have HBX := Aside0.mk hbx
  have HSZ := Aside0.mk hsz
  clear hbx hsz
  gi_wp2_with fail
  refine ⟨trivial, fun h => (by cases h), ?_⟩
  refine (bw_in (n - 1) A zs.length cap _).mono ?_
  rintro e w2 ⟨rfl, rfl⟩
  gi_wp2_with fail
  have hbx := HBX.out
  have hsz := HSZ.out
  have bN := Boxed.new w1 35 (.slice A zs.length cap)
  have hb2 := hbx.step ((Below.refl _ w1).alloc (Nat.le_refl _) (.cells #[.slice A zs.length cap] 35))
  have hsz2 : (w1.alloc (.cells #[.slice A zs.length cap] 35)).heap.size = w1.heap.size + 1 := by simp
  obtain ⟨W0, hW0⟩ : ∃ W0, w1.alloc (.cells #[.slice A zs.length cap] 35) = W0 := ⟨_, rfl⟩
  rw [hW0] at bN hb2 hsz2 ⊢
  clear hW0
  refine wpIn_rangeFunc_ownH rfl (by omega) (gf := 62) (lb := #[.pointer (some ⟨w1.heap.size, 0, none⟩)]) rfl trivial (enters_of Try.func62 (by kernel_rfl) rfl)
    (bw_stops (n - 1) (by omega) w1.heap.size cap A zs hlen w W0 hb2.below (by omega) bN.cell hC) (fun h k => h.trans k) (fun W l o o' hl h ho hw => KpB.put W l o o' (by omega) h ho hw) (Below.refl _ _) (fun _ => rfl)
    (fun pre W => ∃ m, reachS (pre.map (·.2)) x = some m ∧ Boxes w W m 0 0 0)
    (fun c pre W => c = .ret ∧ ∃ ini last m, pre = ini ++ [last] ∧ reachS (ini.map (·.2)) x = some m ∧ oneS last.2 m = none ∧ Boxes w W m (stopS last.2 m).1 (stopS last.2 m).2.1 (stopS last.2 m).2.2)
    (fun pre X Y row hs hg hr => by
      obtain ⟨m, h1, h2⟩ := hs
      exact ⟨m, h1, h2.own hg (by omega) hr⟩)
    (fun c pre X Y row hs hg hr => by
      obtain ⟨h0, ini, last, m, h1, h2, h3, h4⟩ := hs
      exact ⟨h0, ini, last, m, h1, h2, h3, h4.own hg (by omega) hr⟩)
    ⟨x, rfl, hb2⟩
    (fun y a' W => ∃ Bx, w.heap.size + 1 + 1 + 1 < Bx ∧ W.heap[Bx]? = some (.cells #[.int .i64 y.2.f0, .int .i64 y.2.f1, .int .i64 y.2.f2] 56 (0, 0)) ∧ a' = { tmps := #[.slice A zs.length cap, .int .i64 x, undef, .pointer (some ⟨w.heap.size, 0, none⟩), .pointer (some ⟨w.heap.size + 1, 0, none⟩), .pointer (some ⟨w.heap.size + 1 + 1, 0, none⟩), .pointer (some ⟨w.heap.size + 1 + 1 + 1, 0, none⟩), undef, .pointer (some ⟨Bx, 0, none⟩), undef, undef, .int .i64 x, .bool true, .bool false, .slice A zs.length cap, .func (.func 62) #[] #[.pointer (some ⟨w1.heap.size, 0, none⟩)], .int .i64 y.1, encO y.2, undef, undef, undef, undef, undef, undef, undef, undef, undef, undef, undef, undef, undef, undef, undef, undef, undef, undef, undef, undef], defers := [] })
    (fun y a' _ X Y row hs hg hr => by
      obtain ⟨Bx, h1, h2, h3⟩ := hs
      exact ⟨Bx, h1, blk_own h2 hg (fun r e => (hr r e).2), h3⟩)
    ?assign ?body ?done ?stop
  case assign =>
    rintro l pre y W K ⟨m, h1, h2⟩ hK
    unfold encO
    gi_wp2
    have hst := (Below.refl _ W).alloc (Nat.le_refl _) (.cells #[.int .i64 y.2.f0, .int .i64 y.2.f1, .int .i64 y.2.f2] 56)
    exact hK _ _ (Rk.below (Bs := w1.heap.size) hst h2.below.size).1 (Rk.below (B := 0) (Bs := w1.heap.size) hst h2.below.size).2 ⟨m, h1, h2.step hst⟩ ⟨W.heap.size, h2.c.lt, World.alloc_heap_new W _, rfl⟩
  case body =>
    rintro l pre y a' W hl ⟨r, hr⟩ ⟨m, h1, h2⟩ ⟨Bx, hBx, hb, rfl⟩ hlt
    have cN := h2.n.cell
    have cX0 : W.cell? ⟨Bx, 0, none⟩ = some (.int .i64 y.2.f0) := (blk_cell hb 0).trans rfl
    have cX1 : W.cell? ⟨Bx, 1, none⟩ = some (.int .i64 y.2.f1) := (blk_cell hb 1).trans rfl
    have cX2 : W.cell? ⟨Bx, 2, none⟩ = some (.int .i64 y.2.f2) := (blk_cell hb 2).trans rfl
    gi_wp2_with fail
    refine ⟨trivial, fun h => (by cases h), ?_⟩
    refine (CallsIn.inRound l (callsIn_wide.2 (step_calls y.2 m _))).mono ?_
    rintro e w3 ⟨rfl, hb3⟩
    have hR := Rk.below (B := W0.heap.size) (Bs := w1.heap.size) hb3 h2.below.size
    have h3 := h2.step hb3
    have cN3 := h3.n.cell
    have cA3 := h3.a.cell
    have cB3 := h3.b.cell
    have cC3 := h3.c.cell
    have fN3 := h3.n.frozen
    have fA3 := h3.a.frozen
    have fB3 := h3.b.frozen
    have fC3 := h3.c.frozen
    have HR := Aside0.mk (And.intro hR h3)
    clear hR h3 hb3
    have H1 := Aside0.mk h1
    clear h1
    have hone : oneS y.2 m = if (stepS y.2 m).2 = 2 then none else if (stepS y.2 m).2 = 0 then none else if inB (stepS y.2 m).1 = true then some (stepS y.2 m).1 else none := rfl
    have hstop : stopS y.2 m = if (stepS y.2 m).2 = 2 then (0, (stepS y.2 m).1, 2) else (0, 0, 0) := rfl
    generalize (stepS y.2 m).1 = v at *
    generalize (stepS y.2 m).2 = how at *
    have HONE := Aside0.mk hone
    have HSTOP := Aside0.mk hstop
    clear hone hstop
    by_cases a2 : how = 2
    · have q2 : (how == 2) = true := beq_iff_eq.mpr a2
      have A2 := Aside0.mk a2
      clear a2
      gi_wp2_with fail
      have hz := HR.out.2.puta 0
      have hz2 := hz.putb v
      have hz3 := hz2.putc 2
      have hk := ((HR.out.1.trans (Rk.set w3 (w.heap.size + 1) (.int .i64 0) (by omega) (by have := HSZ.out; omega))).trans (Rk.set _ (w.heap.size + 1 + 1) (.int .i64 v) (by omega) (by have := HSZ.out; omega))).trans (Rk.set _ (w.heap.size + 1 + 1 + 1) (.int .i64 2) (by omega) (by have := HSZ.out; omega))
      exact ⟨hk.1, rfl, pre, y, m, rfl, H1.out, by rw [HONE.out, if_pos A2.out], by rw [HSTOP.out, if_pos A2.out]; exact hz3⟩
    · have q2 : (how == 2) = false := beq_eq_false_iff_ne.mpr a2
      have A2 := Aside0.mk a2
      clear a2
      by_cases a0 : how = 0
      · have q0 : (how == 0) = true := beq_iff_eq.mpr a0
        have A0 := Aside0.mk a0
        clear a0
        gi_wp2_with fail
        refine ⟨trivial, ?_⟩
        gi_wp2_with fail
        have hz3 := ((HR.out.2.puta 0).putb 0).putc 0
        have hk := ((HR.out.1.trans (Rk.set w3 (w.heap.size + 1) (.int .i64 0) (by omega) (by have := HSZ.out; omega))).trans (Rk.set _ (w.heap.size + 1 + 1) (.int .i64 0) (by omega) (by have := HSZ.out; omega))).trans (Rk.set _ (w.heap.size + 1 + 1 + 1) (.int .i64 0) (by omega) (by have := HSZ.out; omega))
        exact ⟨hk.1, rfl, pre, y, m, rfl, H1.out, by rw [HONE.out, if_neg (by rw [A0.out]; decide), if_pos A0.out], by rw [HSTOP.out, if_neg (by rw [A0.out]; decide)]; exact hz3⟩
      · have q0 : (how == 0) = false := beq_eq_false_iff_ne.mpr a0
        have A0 := Aside0.mk a0
        clear a0
        gi_wp2_with fail
        refine ⟨trivial, fun h => (by cases h), ?_⟩
        by_cases hin : inB v = true
        · refine (CallsIn.inRound l (callsIn_wide.2 (in_calls v true hin _))).mono ?_
          rintro e w4 ⟨rfl, hb4⟩
          have hR4 := HR.out.1.trans (Rk.below hb4 HR.out.2.below.size)
          have h4 := HR.out.2.step hb4
          have cN4 := h4.n.cell
          have fN4 := h4.n.frozen
          have HR4 := Aside0.mk (And.intro hR4 h4)
          have HIN := Aside0.mk hin
          clear hR4 h4 hb4 hin
          gi_wp2_with fail
          have hz := HR4.out.2.putn v
          have hk := HR4.out.1.trans (Rk.set w4 w.heap.size (.int .i64 v) (by omega) (by have := HSZ.out; omega))
          refine ⟨hk.1, hk.2, v, ?_, hz⟩
          simp only [List.map_append, List.map_cons, List.map_nil]
          rw [reachS_snoc, H1.out]
          simp only [Option.bind_some]
          rw [HONE.out, if_neg (by have := q2; simpa using this), if_neg (by have := q0; simpa using this), if_pos HIN.out]
        · refine (CallsIn.inRound l (callsIn_wide.2 (in_calls v false (by simpa using hin) _))).mono ?_
          rintro e w4 ⟨rfl, hb4⟩
          have hR4 := HR.out.1.trans (Rk.below hb4 HR.out.2.below.size)
          have h4 := HR.out.2.step hb4
          have cA4 := h4.a.cell
          have cB4 := h4.b.cell
          have cC4 := h4.c.cell
          have fA4 := h4.a.frozen
          have fB4 := h4.b.frozen
          have fC4 := h4.c.frozen
          have HR4 := Aside0.mk (And.intro hR4 h4)
          have HIN := Aside0.mk hin
          clear hR4 h4 hb4 hin
          gi_wp2_with fail
          have hz3 := ((HR4.out.2.puta 0).putb 0).putc 0
          have hk := ((HR4.out.1.trans (Rk.set w4 (w.heap.size + 1) (.int .i64 0) (by omega) (by have := HSZ.out; omega))).trans (Rk.set _ (w.heap.size + 1 + 1) (.int .i64 0) (by omega) (by have := HSZ.out; omega))).trans (Rk.set _ (w.heap.size + 1 + 1 + 1) (.int .i64 0) (by omega) (by have := HSZ.out; omega))
          exact ⟨hk.1, rfl, pre, y, m, rfl, H1.out, by rw [HONE.out, if_neg (by have := q2; simpa using this), if_neg (by have := q0; simpa using this), if_neg HIN.out], by rw [HSTOP.out, if_neg (by have := q2; simpa using this)]; exact hz3⟩
  case done =>
    rintro D ys W hD rfl ⟨m, h1, h2⟩ hK
    have cN := h2.n.cell
    have cA := h2.a.cell
    have cB := h2.b.cell
    have cC := h2.c.cell
    have fA := h2.a.frozen
    have fB := h2.b.frozen
    have fC := h2.c.frozen
    have hgo : goS zs.reverse x = (m, 0, 1) := by
      rw [map_bwd zs (Nat.le_refl _), List.take_of_length_le (by simp)] at h1
      have := goS_reach zs.reverse [] x m h1
      rw [List.append_nil] at this
      exact this
    have HG := Aside0.mk hgo
    clear hgo h1
    have H2 := Aside0.mk h2
    clear h2
    gi_wp2_with fail
    have hz := ((H2.out.puta m).putb 0).putc 1
    have hK' := ((KeepsOthers.setCell W ⟨w.heap.size + 1, 0, none⟩ (.int .i64 m)).trans ((KeepsOthers.setCell _ ⟨w.heap.size + 1 + 1, 0, none⟩ (.int .i64 0)).trans (KeepsOthers.setCell _ ⟨w.heap.size + 1 + 1 + 1, 0, none⟩ (.int .i64 1)))).same D _ hK rfl
    refine ⟨by simp, .inl ⟨_, _, rfl, run_takeDeferred hK', ?_⟩⟩
    have hz' := hz.own (grownBy_putObj' _ D (.deferred none)) (by omega : w.heap.size ≤ D) (fun r e => by cases e; exact ⟨Nat.le_refl _, _, hK', rfl⟩)
    exact ⟨res (m, 0, 1), by simp [results, Try.f30, go_sem, hz'.a.cell, hz'.b.cell, hz'.c.cell, res], by rw [HG.out], hz'.below⟩
  case stop =>
    rintro D c pre W hD ⟨k, hk, rfl⟩ ⟨rfl, ini, last, m, e1, e2, e3, hbx⟩ hK
    have hgo : goS zs.reverse x = stopS last.2 m := by
      have hs : zs.reverse = ini.map (·.2) ++ (last.2 :: zs.reverse.drop k) := by
        conv => lhs; rw [← List.take_append_drop k zs.reverse, ← map_bwd zs hk, e1]
        simp
      rw [hs, goS_reach _ _ _ _ e2]
      simp only [goS, e3]
    have HG := Aside0.mk hgo
    clear hgo e1 e2 e3
    have H2 := Aside0.mk hbx
    clear hbx
    gi_wp2_with fail
    refine ⟨by simp, .inl ⟨_, _, rfl, run_takeDeferred hK, ?_⟩⟩
    have hz' := H2.out.own (grownBy_putObj' _ D (.deferred none)) (by omega : w.heap.size ≤ D) (fun r e => by cases e; exact ⟨Nat.le_refl _, _, hK, rfl⟩)
    exact ⟨res (stopS last.2 m), by simp [results, Try.f30, go_sem, hz'.a.cell, hz'.b.cell, hz'.c.cell, res], by rw [HG.out], hz'.below⟩

/-- **index.Back, for every slice of operators and every number.** -/
theorem back_calls (A : Option Addr) (cap : Nat) (zs : List S56) (x : Int) (w : World) (hC : Kd.C k56 w A zs.length zs) :
    Calls Try.prog 30 #[.slice A zs.length cap, .int .i64 x] w fun e W' => e = .returned (res (backS zs x)) ∧ Below w.heap.size w W' := by
  refine (callsIn_wide (n := 3)).1 ?_
  unfold backS
  by_cases hx : inB x = true
  · rw [if_pos hx]
    exact back_yes 3 (Nat.le_refl _) A cap zs hC.2.1 x w hC hx
  · rw [if_neg hx]
    exact back_out 3 A cap zs x w (by simpa using hx)
def index_Back.f (l0 : List S56) (a1 : Int) : Option (Int × Int × Int) := some (backS l0 a1)
theorem index_Back.calls (A0 : Option Addr) (c0 : Nat) (l0 : List S56) (a1 r1 r2 r3 : Int) (w : World) (hr0 : Kd.C k56 w A0 l0.length l0) (_ : l0.length ≤ c0) (h : index_Back.f l0 a1 = some (r1, r2, r3)) :
    Calls Try.prog 30 #[.slice A0 l0.length c0, .int .i64 a1] w fun e w' => e = .returned (.tuple #[.int .i64 r1, .int .i64 r2, .int .i64 r3]) ∧ Below w.heap.size w w' := by
  have e : backS l0 a1 = (r1, r2, r3) := Option.some.inj h
  have := back_calls A0 c0 l0 a1 w hr0
  rw [e] at this
  exact this
end Go.Proofs.Ytkiaglpkijhbmaa.PIndexStreams
