import Derived.Lib.Hide
import Derived.Deep.RegionHeld3
import Derived.Deep.RegionWith
import Derived.WalkSpells
import Derived.Test.YtkiaglpkijhbmaaMath
import Derived.Test.YtkiaglpkijhbmaaRBodyValuesx1
/-! body.Eval: an expression's value, the parameters' values told by a closure: walked by hand. -/
namespace Go.Proofs.Ytkiaglpkijhbmaa.PBodyValues
open Go.RowKit Go.Proofs.YtkiaglpkijhbmaaW.PrintWords Go.Proofs.YtkiaglpkijhbmaaW.PrintLast Go.Proofs.YtkiaglpkijhbmaaW.PrintMore Go.Proofs.Ytkiaglpkijhbmaa.Math
set_option linter.unusedVariables false

/-! ### What it answers -/
/-- The first place of a name; -1. -/
def idxS : List ByteArray → ByteArray → Nat → Int
  | [], _, _ => -1
  | p :: l, s, i => if s.toList = p.toList then (i : Int) else idxS l s (i + 1)
/-- A parameter's value. -/
def lookS (ps : List ByteArray) (vs : List Int) (s : ByteArray) : Int := if idxS ps s 0 < 0 then 0 else if idxS ps s 0 ≥ (vs.length : Int) then 0 else rd vs (idxS ps s 0)
/-- An expression's value, by so many steps at most. -/
def evalF (f : ByteArray → Int) : Nat → S59 → Option Int
  | 0, _ => none
  | k + 1, e => if e.f0 = 11 then some (f e.f1) else
      if e.f0 = 13 ∧ e.f1.toList = ([63] : List UInt8) ∧ e.f4.length = 3 then (evalF f k (rd_T59 e.f4 0)).bind fun a => (if a = 0 then evalF f k (rd_T59 e.f4 2) else evalF f k (rd_T59 e.f4 1)) else
      if e.f0 = 13 ∧ e.f4.length = 2 then (evalF f k (rd_T59 e.f4 0)).bind fun a => (evalF f k (rd_T59 e.f4 1)).bind fun b => body_Op.f e.f1 a b else some e.f2
theorem evalF_mono (f : ByteArray → Int) : ∀ (k : Nat) (e : S59), LeO (evalF f k e) (evalF f (k + 1) e)
  | 0, e => fun r h => by simp [evalF] at h
  | k + 1, e => by
    have ih := evalF_mono f k
    conv => lhs; unfold evalF
    conv => rhs; unfold evalF
    exact LeO.ite (LeO.refl _) (LeO.ite (LeO.bind (ih _) fun a => LeO.ite (ih _) (ih _)) (LeO.ite (LeO.bind (ih _) fun a => LeO.bind (ih _) fun b => LeO.refl _) (LeO.refl _)))

theorem idx_l0 (l : List ByteArray) (hl : (l.length : Int) ≤ 9223372036854775807) (s : ByteArray) : ∀ (d i k : Nat), i + d = l.length → d < k → slices_Index_string_string.l0 k l s l.length i = some (idxS (l.drop i) s i)
  | 0, i, k, hi, hk => by
    obtain ⟨k, rfl⟩ : ∃ m, k = m + 1 := ⟨k - 1, by omega⟩
    simp only [slices_Index_string_string.l0]
    rw [if_neg (by omega), List.drop_of_length_le (by omega)]
    rfl
  | d + 1, i, k, hi, hk => by
    obtain ⟨k, rfl⟩ : ∃ m, k = m + 1 := ⟨k - 1, by omega⟩
    have hlt : i < l.length := by omega
    have hrd : rdOf ByteArray.empty l (i : Int) = l[i] := by simp [rdOf, hlt]
    simp only [slices_Index_string_string.l0]
    rw [if_pos (by omega), if_pos (by omega), if_pos (by omega), hrd, List.drop_eq_getElem_cons hlt]
    unfold idxS
    split
    · rfl
    · rw [wrap64_id (by omega) (by omega)]
      exact idx_l0 l hl s d (i + 1) k (by omega) (by omega)
theorem idx_f (l : List ByteArray) (hl : (l.length : Int) ≤ 9223372036854775807) (s : ByteArray) : slices_Index_string_string.f (l.length + 1) l s = some (idxS l s 0) :=
  idx_l0 l hl s l.length 0 (l.length + 1) (by omega) (by omega)
theorem idxS_range : ∀ (l : List ByteArray) (s : ByteArray) (i : Nat), idxS l s i = -1 ∨ (i ≤ idxS l s i ∧ idxS l s i < i + l.length)
  | [], _, _ => .inl rfl
  | p :: l, s, i => by
    unfold idxS
    split
    · right; simp; omega
    · rcases idxS_range l s (i + 1) with h | h
      · exact .inl h
      · right; simp; omega

/-! ### The closure -/
/-- What the closure captured, vs it lies: the node's box, and the arguments'. -/
structure Env (W : World) (b1 b2 : Nat) (ps : List ByteArray) (vs : List Int) : Prop where
  p : ∃ A c, W.cell? ⟨b1, 1, none⟩ = some (.slice A ps.length c) ∧ ps.length ≤ c ∧ Kd.C Kd.string W A ps.length ps
  a : ∃ A c, W.cell? ⟨b2, 0, none⟩ = some (.slice A vs.length c) ∧ vs.length ≤ c ∧ Kd.C (Kd.int .i64) W A vs.length vs
theorem Env.below {W W' : World} {b1 b2 : Nat} {ps : List ByteArray} {vs : List Int} (h : Env W b1 b2 ps vs) (hb : Below W.heap.size W W') : Env W' b1 b2 ps vs := by
  obtain ⟨⟨A, c, h1, h2, h3⟩, ⟨A', c', h1', h2', h3'⟩⟩ := h
  exact ⟨⟨A, c, (hb.cell (World.block_lt_of_cell? W _ h1)).trans h1, h2, Kd.C_below h3 hb⟩, ⟨A', c', (hb.cell (World.block_lt_of_cell? W _ h1')).trans h1', h2', Kd.C_below h3' hb⟩⟩
set_option maxHeartbeats 2000000 in
set_option maxRecDepth 100000 in
theorem look_calls (s : ByteArray) (b1 b2 : Nat) (ps : List ByteArray) (vs : List Int) (w : World) (hE : Env w b1 b2 ps vs) :
    Calls Try.prog 57 #[.string s, .pointer (some ⟨b1, 0, none⟩), .pointer (some ⟨b2, 0, none⟩)] w fun e w' => e = .returned (.int .i64 (lookS ps vs s)) ∧ Below w.heap.size w w' := by
  obtain ⟨⟨A, c, h1, h2, h3⟩, ⟨A', c', h1', h2', h3'⟩⟩ := hE
  have hidx := Aside0.mk (idx_f ps (by have := h3.2.1; omega) s)
  have hrange := idxS_range ps s 0
  have hlook : lookS ps vs s = if idxS ps s 0 < 0 then 0 else if idxS ps s 0 ≥ (vs.length : Int) then 0 else rd vs (idxS ps s 0) := rfl
  have hpl := h3.2.1
  have HL := Aside0.mk hlook
  clear hlook
  generalize idxS ps s 0 = i at *
  by_cases c1 : i < 0
  · have d1 : decide (i < 0) = true := decide_eq_true c1
    have C1 := Aside0.mk c1
    clear c1 hrange
    go_enter Try.func57, Try.ntmps57
    go_wp2_with (go_at_call 58; refine (slices_Index_string_string.calls (ps.length + 1) A c ps s i _ h3 h2 hidx.out).mono ?_; rintro e w' ⟨rfl, ⟨⟨nd, rfl⟩⟩⟩)
    go_ret
    exact ⟨by rw [HL.out, if_pos C1.out]; rfl, Drawn0.below ⟨⟨nd, rfl⟩⟩⟩
  · have d1 : decide (i < 0) = false := decide_eq_false c1
    have C1 := Aside0.mk c1
    by_cases c2 : i ≥ (vs.length : Int)
    · have d2 : decide ((vs.length : Int) ≤ i) = true := decide_eq_true c2
      have C2 := Aside0.mk c2
      clear c1 c2 hrange
      go_enter Try.func57, Try.ntmps57
      go_wp2_with (go_at_call 58; refine (slices_Index_string_string.calls (ps.length + 1) A c ps s i _ h3 h2 hidx.out).mono ?_; rintro e w' ⟨rfl, ⟨⟨nd, rfl⟩⟩⟩)
      go_ret
      exact ⟨by rw [HL.out, if_neg (by have := C1.out; omega), if_pos C2.out]; rfl, Drawn0.below ⟨⟨nd, rfl⟩⟩⟩
    · have d2 : decide ((vs.length : Int) ≤ i) = false := decide_eq_false c2
      have C2 := Aside0.mk c2
      obtain ⟨ad, cs, hA, _, hK, hcell⟩ := Kd.C_get h3' 0 i (by omega) (by omega)
      have hv : cs = [.int .i64 (rd vs i)] := hK
      subst hA hv
      have hx := hcell 0 _ rfl
      have hsz : (Kd.int .i64).sz = 1 := rfl
      rw [hsz] at hx
      simp only [Nat.mul_one, Nat.add_zero] at hx
      have d3 : decide (0 ≤ i) = true := decide_eq_true (by omega)
      have d4 : decide (i < (vs.length : Int)) = true := decide_eq_true (by omega)
      clear hrange hcell hK hsz
      have p0 : (0 ≤ i) = True := eq_true (by omega)
      have q0 : (i < (vs.length : Int)) = True := eq_true (by omega)
      clear c1 c2
      go_enter Try.func57, Try.ntmps57
      go_wp2_with (go_at_call 58; refine (slices_Index_string_string.calls (ps.length + 1) A c ps s i _ h3 h2 hidx.out).mono ?_; rintro e w' ⟨rfl, ⟨⟨nd, rfl⟩⟩⟩)
      go_ret
      exact ⟨by rw [HL.out, if_neg (by have := C1.out; omega), if_neg (by have := C2.out; omega)]; rfl, Drawn0.below ⟨⟨nd, rfl⟩⟩⟩

/-! ### The expression -/
theorem six {W : World} {g : Nat} {a b c d e f : Value} {t : TypeId} (h : W.heap[g]? = some (.cells #[a, b, c, d, e, f] t (0, 0))) :
    W.cell? ⟨g, 0, none⟩ = some a ∧ W.cell? ⟨g, 1, none⟩ = some b ∧ W.cell? ⟨g, 2, none⟩ = some c ∧ W.cell? ⟨g, 3, none⟩ = some d ∧ W.cell? ⟨g, 4, none⟩ = some e ∧ W.cell? ⟨g, 5, none⟩ = some f :=
  ⟨(blk_cell h 0).trans rfl, (blk_cell h 1).trans rfl, (blk_cell h 2).trans rfl, (blk_cell h 3).trans rfl, (blk_cell h 4).trans rfl, (blk_cell h 5).trans rfl⟩
theorem env_new {w : World} {b1 b2 : Nat} {ps : List ByteArray} {vs : List Int} (h : Env w b1 b2 ps vs) (o : Obj) : Env (w.alloc o).drew b1 b2 ps vs := h.below (below_alloc (Below.refl _ _) o).drew
theorem below_new (w : World) (o : Obj) : Below w.heap.size w (w.alloc o).drew := (below_alloc (Below.refl _ _) o).drew
theorem Addr.add_six (a : Addr) : a.add 6 = ⟨a.block, a.off + 6, none⟩ := rfl
theorem Addr.add_twelve (a : Addr) : a.add 12 = ⟨a.block, a.off + 12, none⟩ := rfl
theorem Addr.add_zero' (a : Addr) : a.add 0 = a := by simp [Addr.add]
/-- The element i of a row of expressions, as it lies. -/
theorem elem {W : World} {ad : Addr} {l : List S59} (h : Kd.C k59 W (some ad) l.length l) (i : Nat) (hi : i < l.length) : ∃ A c, W.cell? (ad.add (i * 6)) = some (.int .i64 (rd_T59 l i).f0) ∧ W.cell? ⟨(ad.add (i * 6)).block, (ad.add (i * 6)).off + 1, none⟩ = some (.string (rd_T59 l i).f1) ∧
    W.cell? ⟨(ad.add (i * 6)).block, (ad.add (i * 6)).off + 2, none⟩ = some (.int .i64 (rd_T59 l i).f2) ∧ W.cell? ⟨(ad.add (i * 6)).block, (ad.add (i * 6)).off + 3, none⟩ = some (.int .i64 (rd_T59 l i).f3) ∧
    W.cell? ⟨(ad.add (i * 6)).block, (ad.add (i * 6)).off + 4, none⟩ = some (.slice A (rd_T59 l i).f4.length c) ∧ W.cell? ⟨(ad.add (i * 6)).block, (ad.add (i * 6)).off + 5, none⟩ = some (.int .i64 (rd_T59 l i).f5) ∧ (rd_T59 l i).f4.length ≤ c ∧ Kd.C k59 W A (rd_T59 l i).f4.length (rd_T59 l i).f4 := by
  obtain ⟨ad', A, c, e, h0, h1, h2, h3, h4, h5, h6, h7⟩ := at_T59 h (i : Int) (by omega) (by omega)
  cases e
  simp only [Int.toNat_natCast] at h0 h1 h2 h3 h4 h5
  exact ⟨A, c, h0, h1, h2, h3, h4, h5, h6, h7⟩

def clo (b1 b2 : Nat) : Value := .func (.func 57) #[] #[.pointer (some ⟨b1, 0, none⟩), .pointer (some ⟨b2, 0, none⟩)]
def EvalC (b1 b2 : Nat) (ps : List ByteArray) (vs : List Int) (k : Nat) : Prop := ∀ (e : S59) (A : Option Addr) (c : Nat) (r : Int) (w : World), Env w b1 b2 ps vs → Kd.C k59 w A e.f4.length e.f4 → e.f4.length ≤ c → evalF (lookS ps vs) k e = some r →
    Calls Try.prog 56 #[.agg #[.int .i64 e.f0, .string e.f1, .int .i64 e.f2, .int .i64 e.f3, .slice A e.f4.length c, .int .i64 e.f5], .func (.func 57) #[] #[.pointer (some ⟨b1, 0, none⟩), .pointer (some ⟨b2, 0, none⟩)]] w fun e w' => e = .returned (.int .i64 r) ∧ Below w.heap.size w w'

set_option maxHeartbeats 4000000 in
set_option maxRecDepth 100000 in
theorem eval_param (b1 b2 : Nat) (ps : List ByteArray) (vs : List Int) (s : ByteArray) (n d : Int) (A : Option Addr) (c : Nat) (l : List S59) (q : Int) (w : World) (hE : Env w b1 b2 ps vs) :
    Calls Try.prog 56 #[.agg #[.int .i64 11, .string s, .int .i64 n, .int .i64 d, .slice A l.length c, .int .i64 q], .func (.func 57) #[] #[.pointer (some ⟨b1, 0, none⟩), .pointer (some ⟨b2, 0, none⟩)]] w fun e w' => e = .returned (.int .i64 (lookS ps vs s)) ∧ Below w.heap.size w w' := by
  go_enter Try.func56, Try.ntmps56
  go_wp2_with ((with_reducible refine gate_dst (N := 2) rfl ?_); refine box_event ?hg (N := 2) ?hd (cs := #[.int .i64 11, .string s, .int .i64 n, .int .i64 d, .slice A l.length c, .int .i64 q]) (t := 59) ?hr ?_; (case hd => rfl); (case hg => rfl); (case hr => first | (go_simp; done) | (go_simp; rfl)); intro gb hg w2 hbox hb; obtain ⟨x0, x1, x2, x3, x4, x5⟩ := six hbox; have HB := Aside0.mk hb; have HBX := Aside0.mk hbox; clear hb hbox hg)
  refine (look_calls s b1 b2 ps vs _ (hE.below HB.out)).mono ?_
  rintro e w3 ⟨rfl, hb3⟩
  have HB3 := Aside0.mk hb3
  clear hb3
  go_wp2_with fail
  go_ret
  exact ⟨rfl, HB.out.trans (HB3.out.mono HB.out.size)⟩
set_option maxHeartbeats 4000000 in
set_option maxRecDepth 100000 in
theorem eval_num (b1 b2 : Nat) (ps : List ByteArray) (vs : List Int) (s : ByteArray) (n d : Int) (A : Option Addr) (c : Nat) (l : List S59) (q : Int) (w : World) (f0 : Int) (h11 : (f0 == 11) = false) (h13 : (f0 == 13) = false) :
    Calls Try.prog 56 #[.agg #[.int .i64 f0, .string s, .int .i64 n, .int .i64 d, .slice A l.length c, .int .i64 q], .func (.func 57) #[] #[.pointer (some ⟨b1, 0, none⟩), .pointer (some ⟨b2, 0, none⟩)]] w fun e w' => e = .returned (.int .i64 n) ∧ Below w.heap.size w w' := by
  go_enter Try.func56, Try.ntmps56
  go_wp2_with ((with_reducible refine gate_dst (N := 2) rfl ?_); refine box_event ?hg (N := 2) ?hd (cs := #[.int .i64 f0, .string s, .int .i64 n, .int .i64 d, .slice A l.length c, .int .i64 q]) (t := 59) ?hr ?_; (case hd => rfl); (case hg => rfl); (case hr => first | (go_simp; done) | (go_simp; rfl)); intro gb hg w2 hbox hb; obtain ⟨x0, x1, x2, x3, x4, x5⟩ := six hbox; have HB := Aside0.mk hb; have HBX := Aside0.mk hbox; clear hb hbox hg)
  go_ret
  exact ⟨rfl, HB.out⟩
set_option maxHeartbeats 4000000 in
set_option maxRecDepth 100000 in
theorem eval_odd_a (b1 b2 : Nat) (ps : List ByteArray) (vs : List Int) (s : ByteArray) (n d : Int) (A : Option Addr) (c : Nat) (l : List S59) (q : Int) (w : World) (hs : (s.toList == ([63] : List UInt8)) = true) (h3 : ((l.length : Int) == 3) = false) (h2 : ((l.length : Int) == 2) = false) :
    Calls Try.prog 56 #[.agg #[.int .i64 13, .string s, .int .i64 n, .int .i64 d, .slice A l.length c, .int .i64 q], .func (.func 57) #[] #[.pointer (some ⟨b1, 0, none⟩), .pointer (some ⟨b2, 0, none⟩)]] w fun e w' => e = .returned (.int .i64 n) ∧ Below w.heap.size w w' := by
  go_enter Try.func56, Try.ntmps56
  go_wp2_with ((with_reducible refine gate_dst (N := 2) rfl ?_); refine box_event ?hg (N := 2) ?hd (cs := #[.int .i64 13, .string s, .int .i64 n, .int .i64 d, .slice A l.length c, .int .i64 q]) (t := 59) ?hr ?_; (case hd => rfl); (case hg => rfl); (case hr => first | (go_simp; done) | (go_simp; rfl)); intro gb hg w2 hbox hb; obtain ⟨x0, x1, x2, x3, x4, x5⟩ := six hbox; have HB := Aside0.mk hb; have HBX := Aside0.mk hbox; clear hb hbox hg)
  go_ret
  exact ⟨rfl, HB.out⟩
set_option maxHeartbeats 4000000 in
set_option maxRecDepth 100000 in
theorem eval_odd_b (b1 b2 : Nat) (ps : List ByteArray) (vs : List Int) (s : ByteArray) (n d : Int) (A : Option Addr) (c : Nat) (l : List S59) (q : Int) (w : World) (hs : (s.toList == ([63] : List UInt8)) = false) (h2 : ((l.length : Int) == 2) = false) :
    Calls Try.prog 56 #[.agg #[.int .i64 13, .string s, .int .i64 n, .int .i64 d, .slice A l.length c, .int .i64 q], .func (.func 57) #[] #[.pointer (some ⟨b1, 0, none⟩), .pointer (some ⟨b2, 0, none⟩)]] w fun e w' => e = .returned (.int .i64 n) ∧ Below w.heap.size w w' := by
  go_enter Try.func56, Try.ntmps56
  go_wp2_with ((with_reducible refine gate_dst (N := 2) rfl ?_); refine box_event ?hg (N := 2) ?hd (cs := #[.int .i64 13, .string s, .int .i64 n, .int .i64 d, .slice A l.length c, .int .i64 q]) (t := 59) ?hr ?_; (case hd => rfl); (case hg => rfl); (case hr => first | (go_simp; done) | (go_simp; rfl)); intro gb hg w2 hbox hb; obtain ⟨x0, x1, x2, x3, x4, x5⟩ := six hbox; have HB := Aside0.mk hb; have HBX := Aside0.mk hbox; clear hb hbox hg)
  go_ret
  exact ⟨rfl, HB.out⟩
set_option maxHeartbeats 4000000 in
set_option maxRecDepth 100000 in
theorem eval_two (b1 b2 : Nat) (ps : List ByteArray) (vs : List Int) (s : ByteArray) (n d : Int) (A : Option Addr) (c : Nat) (l : List S59) (q : Int) (w : World) (k : Nat) (ih : EvalC b1 b2 ps vs k) (hE : Env w b1 b2 ps vs) (hC : Kd.C k59 w A l.length l) (h2 : l.length = 2) (t0 t1 r : Int) (e0 : evalF (lookS ps vs) k (rd_T59 l 0) = some t0) (e1 : evalF (lookS ps vs) k (rd_T59 l 1) = some t1) (er : body_Op.f s t0 t1 = some r) :
    Calls Try.prog 56 #[.agg #[.int .i64 13, .string s, .int .i64 n, .int .i64 d, .slice A 2 c, .int .i64 q], .func (.func 57) #[] #[.pointer (some ⟨b1, 0, none⟩), .pointer (some ⟨b2, 0, none⟩)]] w fun e w' => e = .returned (.int .i64 r) ∧ Below w.heap.size w w' := by
  obtain ⟨ad, hA⟩ : ∃ ad, A = some ad := (hC.2.2 (by omega)).imp fun _ h => h.1
  subst hA
  have H2 := Aside0.mk h2
  have E0 := Aside0.mk e0
  have E1 := Aside0.mk e1
  have ER := Aside0.mk er
  clear h2 e0 e1 er
  obtain ⟨A0, c0, y0, y1, y2, y3, y4, y5, hl0, hC0⟩ := elem hC 0 (by have := H2.out; omega)
  obtain ⟨A1, c1, z0, z1, z2, z3, z4, z5, hl1, hC1⟩ := elem hC 1 (by have := H2.out; omega)
  simp only [Nat.zero_mul, Addr.add_zero'] at y0 y1 y2 y3 y4 y5
  simp only [Nat.one_mul, Addr.add_six] at z0 z1 z2 z3 z4 z5
  obtain ⟨hs, hsb⟩ : ∃ b, (s.toList == ([63] : List UInt8)) = b := ⟨_, rfl⟩
  cases hs
  all_goals
    go_enter Try.func56, Try.ntmps56
    go_wp2_with fail
    go_region_held3 (fun w' => (w'.cell? ⟨w.heap.size, 1, none⟩ = some (.string s)) ∧ (w'.cell? ⟨w.heap.size, 4, none⟩ = some (.slice (some ad) 2 c)) ∧ (w'.cell? (ad) = some (.int .i64 (rd_T59 l 0).f0)) ∧ (w'.cell? ⟨(ad).block, (ad).off + 1, none⟩ = some (.string (rd_T59 l 0).f1)) ∧ (w'.cell? ⟨(ad).block, (ad).off + 2, none⟩ = some (.int .i64 (rd_T59 l 0).f2)) ∧ (w'.cell? ⟨(ad).block, (ad).off + 3, none⟩ = some (.int .i64 (rd_T59 l 0).f3)) ∧ (w'.cell? ⟨(ad).block, (ad).off + 4, none⟩ = some (.slice A0 (rd_T59 l 0).f4.length c0)) ∧ (w'.cell? ⟨(ad).block, (ad).off + 5, none⟩ = some (.int .i64 (rd_T59 l 0).f5)) ∧ (w'.cell? ⟨ad.block, ad.off + 6, none⟩ = some (.int .i64 (rd_T59 l 1).f0)) ∧ (w'.cell? ⟨ad.block, ad.off + 6 + 1, none⟩ = some (.string (rd_T59 l 1).f1)) ∧ (w'.cell? ⟨ad.block, ad.off + 6 + 2, none⟩ = some (.int .i64 (rd_T59 l 1).f2)) ∧ (w'.cell? ⟨ad.block, ad.off + 6 + 3, none⟩ = some (.int .i64 (rd_T59 l 1).f3)) ∧ (w'.cell? ⟨ad.block, ad.off + 6 + 4, none⟩ = some (.slice A1 (rd_T59 l 1).f4.length c1)) ∧ (w'.cell? ⟨ad.block, ad.off + 6 + 5, none⟩ = some (.int .i64 (rd_T59 l 1).f5)) ∧ (Env w' b1 b2 ps vs) ∧ (Kd.C k59 w' A0 (rd_T59 l 0).f4.length (rd_T59 l 0).f4) ∧ (Kd.C k59 w' A1 (rd_T59 l 1).f4.length (rd_T59 l 1).f4) ∧ (Below w.heap.size w w')) (first | (go_split_ands; refine ⟨?_, ?_, ?_, ?_, ?_, ?_, ?_, ?_, ?_, ?_, ?_, ?_, ?_, ?_, ?_, ?_, ?_, ?_⟩ <;> first | assumption | exact env_new hE _ | exact below_new w _ | exact Kd.C_below (by assumption) (below_new w _) | exact cell_later (below_new w _) (by assumption) | (simp [*]; done) | exact cell_later hbx (by assumption) | exact Env.below (by assumption) hbx | exact Kd.C_below (by assumption) hbx | exact Below.trans (by assumption) (hbx.mono (Below.size (by assumption))))) (first | (go_at_call_of 56 (Value.agg #[.int .i64 (rd_T59 l 0).f0, .string (rd_T59 l 0).f1, .int .i64 (rd_T59 l 0).f2, .int .i64 (rd_T59 l 0).f3, .slice A0 (rd_T59 l 0).f4.length c0, .int .i64 (rd_T59 l 0).f5]); go_split_ands; refine (ih (rd_T59 l 0) A0 c0 t0 _ (by assumption) (by assumption) hl0 E0.out).mono ?_; rintro e w' ⟨rfl, hbx⟩) | (go_at_call_of 56 (Value.agg #[.int .i64 (rd_T59 l 1).f0, .string (rd_T59 l 1).f1, .int .i64 (rd_T59 l 1).f2, .int .i64 (rd_T59 l 1).f3, .slice A1 (rd_T59 l 1).f4.length c1, .int .i64 (rd_T59 l 1).f5]); go_split_ands; refine (ih (rd_T59 l 1) A1 c1 t1 _ (by assumption) (by assumption) hl1 E1.out).mono ?_; rintro e w' ⟨rfl, hbx⟩) | (go_at_call 17; refine (body_Op.calls s t0 t1 r _ ER.out).mono ?_; rintro e w' ⟨rfl, hdx⟩; have hbx := hdx.below))
    all_goals
      go_wp2_with fail
      go_split_ands
      go_ret
      exact ⟨rfl, by assumption⟩

theorem env_alloc {w : World} {b1 b2 : Nat} {ps : List ByteArray} {vs : List Int} (h : Env w b1 b2 ps vs) (o : Obj) : Env (w.alloc o) b1 b2 ps vs := h.below (below_alloc (Below.refl _ _) o)
set_option maxHeartbeats 4000000 in
set_option maxRecDepth 100000 in
theorem eval_then (b1 b2 : Nat) (ps : List ByteArray) (vs : List Int) (s : ByteArray) (n d : Int) (A : Option Addr) (c : Nat) (l : List S59) (q : Int) (w : World) (k : Nat) (ih : EvalC b1 b2 ps vs k) (hE : Env w b1 b2 ps vs) (hC : Kd.C k59 w A l.length l) (h3 : l.length = 3) (hs : (s.toList == ([63] : List UInt8)) = true) (t0 r : Int) (e0 : evalF (lookS ps vs) k (rd_T59 l 0) = some t0) (h0 : t0 ≠ 0) (e1 : evalF (lookS ps vs) k (rd_T59 l 1) = some r) :
    Calls Try.prog 56 #[.agg #[.int .i64 13, .string s, .int .i64 n, .int .i64 d, .slice A 3 c, .int .i64 q], .func (.func 57) #[] #[.pointer (some ⟨b1, 0, none⟩), .pointer (some ⟨b2, 0, none⟩)]] w fun e w' => e = .returned (.int .i64 r) ∧ Below w.heap.size w w' := by
  obtain ⟨ad, hA⟩ : ∃ ad, A = some ad := (hC.2.2 (by omega)).imp fun _ h => h.1
  subst hA
  have q0 : (t0 != 0) = true := by simp [h0]
  have q1 : (t0 == 0) = false := by simp [h0]
  obtain ⟨A0, c0, y0, y1, y2, y3, y4, y5, hl0, hC0⟩ := elem hC 0 (by omega)
  obtain ⟨A1, c1, z0, z1, z2, z3, z4, z5, hl1, hC1⟩ := elem hC 1 (by omega)
  simp only [Nat.zero_mul, Addr.add_zero'] at y0 y1 y2 y3 y4 y5
  simp only [Nat.one_mul, Addr.add_six] at z0 z1 z2 z3 z4 z5
  have E0 := Aside0.mk e0
  have E1 := Aside0.mk e1
  clear e0 e1 h3 h0
  have hb00 := below_alloc (Below.refl w.heap.size w) (.cells #[.int .i64 13, .string s, .int .i64 n, .int .i64 d, .slice (some ad) 3 c, .int .i64 q] 59)
  replace y0 := cell_later hb00 y0
  replace y1 := cell_later hb00 y1
  replace y2 := cell_later hb00 y2
  replace y3 := cell_later hb00 y3
  replace y4 := cell_later hb00 y4
  replace y5 := cell_later hb00 y5
  clear hb00
  go_enter Try.func56, Try.ntmps56
  go_wp2_with fail
  refine (ih (rd_T59 l 0) A0 c0 t0 _ (by exact env_alloc hE _) (by exact Kd.C_below hC0 (below_alloc (Below.refl _ _) _)) hl0 E0.out).mono ?_
  rintro e w3 ⟨rfl, hb3⟩
  have hb0 := below_alloc (Below.refl w.heap.size w) (.cells #[.int .i64 13, .string s, .int .i64 n, .int .i64 d, .slice (some ad) 3 c, .int .i64 q] 59)
  have x4 := cell_later hb3 ((blk_cell (blk_new w (.cells #[.int .i64 13, .string s, .int .i64 n, .int .i64 d, .slice (some ad) 3 c, .int .i64 q] 59)) 4).trans rfl)
  have hb := hb0.trans (hb3.mono hb0.size)
  replace z0 := cell_later hb z0
  replace z1 := cell_later hb z1
  replace z2 := cell_later hb z2
  replace z3 := cell_later hb z3
  replace z4 := cell_later hb z4
  replace z5 := cell_later hb z5
  have HB := Aside0.mk hb
  clear hb3 hb hb0
  go_wp2_with fail
  refine (ih (rd_T59 l 1) A1 c1 r _ (by exact hE.below HB.out) (by exact Kd.C_below hC1 HB.out) hl1 E1.out).mono ?_
  rintro e w4 ⟨rfl, hb4⟩
  have HB4 := Aside0.mk hb4
  clear hb4
  go_wp2_with fail
  go_ret
  exact ⟨rfl, HB.out.trans (HB4.out.mono HB.out.size)⟩
set_option maxHeartbeats 4000000 in
set_option maxRecDepth 100000 in
theorem eval_else (b1 b2 : Nat) (ps : List ByteArray) (vs : List Int) (s : ByteArray) (n d : Int) (A : Option Addr) (c : Nat) (l : List S59) (q : Int) (w : World) (k : Nat) (ih : EvalC b1 b2 ps vs k) (hE : Env w b1 b2 ps vs) (hC : Kd.C k59 w A l.length l) (h3 : l.length = 3) (hs : (s.toList == ([63] : List UInt8)) = true) (t0 r : Int) (e0 : evalF (lookS ps vs) k (rd_T59 l 0) = some t0) (h0 : t0 = 0) (e1 : evalF (lookS ps vs) k (rd_T59 l 2) = some r) :
    Calls Try.prog 56 #[.agg #[.int .i64 13, .string s, .int .i64 n, .int .i64 d, .slice A 3 c, .int .i64 q], .func (.func 57) #[] #[.pointer (some ⟨b1, 0, none⟩), .pointer (some ⟨b2, 0, none⟩)]] w fun e w' => e = .returned (.int .i64 r) ∧ Below w.heap.size w w' := by
  obtain ⟨ad, hA⟩ : ∃ ad, A = some ad := (hC.2.2 (by omega)).imp fun _ h => h.1
  subst hA
  have q0 : (t0 != 0) = false := by simp [h0]
  have q1 : (t0 == 0) = true := by simp [h0]
  obtain ⟨A0, c0, y0, y1, y2, y3, y4, y5, hl0, hC0⟩ := elem hC 0 (by omega)
  obtain ⟨A1, c1, z0, z1, z2, z3, z4, z5, hl1, hC1⟩ := elem hC 2 (by omega)
  simp only [Nat.zero_mul, Addr.add_zero'] at y0 y1 y2 y3 y4 y5
  simp only [Nat.reduceMul, Addr.add_twelve] at z0 z1 z2 z3 z4 z5
  have E0 := Aside0.mk e0
  have E1 := Aside0.mk e1
  clear e0 e1 h3 h0
  have hb00 := below_alloc (Below.refl w.heap.size w) (.cells #[.int .i64 13, .string s, .int .i64 n, .int .i64 d, .slice (some ad) 3 c, .int .i64 q] 59)
  replace y0 := cell_later hb00 y0
  replace y1 := cell_later hb00 y1
  replace y2 := cell_later hb00 y2
  replace y3 := cell_later hb00 y3
  replace y4 := cell_later hb00 y4
  replace y5 := cell_later hb00 y5
  clear hb00
  go_enter Try.func56, Try.ntmps56
  go_wp2_with fail
  refine (ih (rd_T59 l 0) A0 c0 t0 _ (by exact env_alloc hE _) (by exact Kd.C_below hC0 (below_alloc (Below.refl _ _) _)) hl0 E0.out).mono ?_
  rintro e w3 ⟨rfl, hb3⟩
  have hb0 := below_alloc (Below.refl w.heap.size w) (.cells #[.int .i64 13, .string s, .int .i64 n, .int .i64 d, .slice (some ad) 3 c, .int .i64 q] 59)
  have x4 := cell_later hb3 ((blk_cell (blk_new w (.cells #[.int .i64 13, .string s, .int .i64 n, .int .i64 d, .slice (some ad) 3 c, .int .i64 q] 59)) 4).trans rfl)
  have hb := hb0.trans (hb3.mono hb0.size)
  replace z0 := cell_later hb z0
  replace z1 := cell_later hb z1
  replace z2 := cell_later hb z2
  replace z3 := cell_later hb z3
  replace z4 := cell_later hb z4
  replace z5 := cell_later hb z5
  have HB := Aside0.mk hb
  clear hb3 hb hb0
  go_wp2_with fail
  refine (ih (rd_T59 l 2) A1 c1 r _ (by exact hE.below HB.out) (by exact Kd.C_below hC1 HB.out) hl1 E1.out).mono ?_
  rintro e w4 ⟨rfl, hb4⟩
  have HB4 := Aside0.mk hb4
  clear hb4
  go_wp2_with fail
  go_ret
  exact ⟨rfl, HB.out.trans (HB4.out.mono HB.out.size)⟩

/-- **body.eval, by so many steps.** -/
theorem eval_calls (b1 b2 : Nat) (ps : List ByteArray) (vs : List Int) : ∀ k, EvalC b1 b2 ps vs k
  | 0 => fun e A c r w _ _ _ h => by simp [evalF] at h
  | k + 1 => by
    have ih := eval_calls b1 b2 ps vs k
    intro e A c r w hE hC hc h
    obtain ⟨f0, f1, f2, f3, f4, f5⟩ := e
    unfold evalF at h
    dsimp only at h hC hc ⊢
    by_cases h11 : f0 = 11
    · subst h11
      rw [if_pos rfl] at h
      rw [← Option.some.inj h]
      exact eval_param b1 b2 ps vs f1 f2 f3 A c f4 f5 w hE
    · rw [if_neg h11] at h
      by_cases h13 : f0 = 13
      · subst h13
        by_cases hs : f1.toList = ([63] : List UInt8)
        · by_cases h3 : f4.length = 3
          · rw [if_pos ⟨rfl, hs, h3⟩] at h
            obtain ⟨t0, e0, h⟩ := Option.bind_eq_some_iff.1 h
            rw [h3]
            by_cases ht : t0 = 0
            · rw [if_pos ht] at h
              exact eval_else b1 b2 ps vs f1 f2 f3 A c f4 f5 w k ih hE hC h3 (beq_iff_eq.2 hs) t0 r e0 ht h
            · rw [if_neg ht] at h
              exact eval_then b1 b2 ps vs f1 f2 f3 A c f4 f5 w k ih hE hC h3 (beq_iff_eq.2 hs) t0 r e0 ht h
          · rw [if_neg (fun hh => h3 hh.2.2)] at h
            by_cases h2 : f4.length = 2
            · rw [if_pos ⟨rfl, h2⟩] at h
              obtain ⟨t0, e0, h⟩ := Option.bind_eq_some_iff.1 h
              obtain ⟨t1, e1, h⟩ := Option.bind_eq_some_iff.1 h
              have := eval_two b1 b2 ps vs f1 f2 f3 A c f4 f5 w k ih hE hC h2 t0 t1 r e0 e1 h
              rw [h2]
              exact this
            · rw [if_neg (fun hh => h2 hh.2)] at h
              rw [← Option.some.inj h]
              exact eval_odd_a b1 b2 ps vs f1 f2 f3 A c f4 f5 w (beq_iff_eq.2 hs) (beq_eq_false_iff_ne.2 (by omega)) (beq_eq_false_iff_ne.2 (by omega))
        · rw [if_neg (fun hh => hs hh.2.1)] at h
          by_cases h2 : f4.length = 2
          · rw [if_pos ⟨rfl, h2⟩] at h
            obtain ⟨t0, e0, h⟩ := Option.bind_eq_some_iff.1 h
            obtain ⟨t1, e1, h⟩ := Option.bind_eq_some_iff.1 h
            have := eval_two b1 b2 ps vs f1 f2 f3 A c f4 f5 w k ih hE hC h2 t0 t1 r e0 e1 h
            rw [h2]
            exact this
          · rw [if_neg (fun hh => h2 hh.2)] at h
            rw [← Option.some.inj h]
            exact eval_odd_b b1 b2 ps vs f1 f2 f3 A c f4 f5 w (beq_eq_false_iff_ne.2 hs) (beq_eq_false_iff_ne.2 (by omega))
      · rw [if_neg (fun hh => h13 hh.1), if_neg (fun hh => h13 hh.1)] at h
        rw [← Option.some.inj h]
        exact eval_num b1 b2 ps vs f1 f2 f3 A c f4 f5 w f0 (beq_eq_false_iff_ne.2 h11) (beq_eq_false_iff_ne.2 h13)

def body_Eval.f (k : Nat) (_ : ByteArray) (l1 : List ByteArray) (_ : Int) (a3 : Int) (a4 : ByteArray) (a5 a6 : Int) (l7 : List S59) (a8 _ : Int) (vs : List Int) : Option Int := evalF (lookS l1 vs) k ⟨a3, a4, a5, a6, l7, a8⟩
theorem body_Eval.mono : ∀ a0 l1 a2 a3 a4 a5 a6 l7 a8 a9 vs k, LeO (body_Eval.f k a0 l1 a2 a3 a4 a5 a6 l7 a8 a9 vs) (body_Eval.f (k + 1) a0 l1 a2 a3 a4 a5 a6 l7 a8 a9 vs) := fun _ _ _ _ _ _ _ _ _ _ _ _ => evalF_mono _ _ _
set_option maxHeartbeats 4000000 in
set_option maxRecDepth 100000 in
/-- **body.Eval.** -/
theorem body_Eval.calls (k : Nat) (a0 : ByteArray) (A1 : Option Addr) (c1 : Nat) (l1 : List ByteArray) (a2 a3 : Int) (a4 : ByteArray) (a5 a6 : Int) (A7 : Option Addr) (c7 : Nat) (l7 : List S59) (a8 a9 : Int) (A2 : Option Addr) (c2 : Nat) (vs : List Int) (r : Int) (w : World)
    (hr1 : Kd.C Kd.string w A1 l1.length l1) (hc1 : l1.length ≤ c1) (hr7 : Kd.C k59 w A7 l7.length l7) (hc7 : l7.length ≤ c7) (hr2 : Kd.C (Kd.int .i64) w A2 vs.length vs) (hc2 : vs.length ≤ c2) (h : body_Eval.f k a0 l1 a2 a3 a4 a5 a6 l7 a8 a9 vs = some r) :
    Calls Try.prog 41 #[.agg #[.string a0, .slice A1 l1.length c1, .int .i64 a2, .int .i64 a3, .string a4, .int .i64 a5, .int .i64 a6, .slice A7 l7.length c7, .int .i64 a8, .int .i64 a9], .slice A2 vs.length c2] w fun e w' => e = .returned (.int .i64 r) ∧ Below w.heap.size w w' := by
  have H := Aside0.mk h
  clear h
  have hb1 := below_alloc (Below.refl w.heap.size w) (.cells #[.string a0, .slice A1 l1.length c1, .int .i64 a2, .int .i64 a3, .string a4, .int .i64 a5, .int .i64 a6, .slice A7 l7.length c7, .int .i64 a8, .int .i64 a9] 66)
  have hb2 := below_alloc hb1 (.cells #[.slice A2 vs.length c2] 28)
  have hE : Env ((w.alloc (.cells #[.string a0, .slice A1 l1.length c1, .int .i64 a2, .int .i64 a3, .string a4, .int .i64 a5, .int .i64 a6, .slice A7 l7.length c7, .int .i64 a8, .int .i64 a9] 66)).alloc (.cells #[.slice A2 vs.length c2] 28)) w.heap.size (w.heap.size + 1) l1 vs := by
    refine ⟨⟨A1, c1, cell_later (below_alloc (Below.refl _ _) _) ((blk_cell (blk_new w _) 1).trans rfl), hc1, Kd.C_below hr1 hb2⟩, ⟨A2, c2, ?_, hc2, Kd.C_below hr2 hb2⟩⟩
    simp
  have HE := Aside0.mk hE
  have HB := Aside0.mk hb2
  clear hE hb1 hb2
  go_enter Try.func41, Try.ntmps41
  go_wp2_with fail
  refine (eval_calls w.heap.size (w.heap.size + 1) l1 vs k ⟨a3, a4, a5, a6, l7, a8⟩ A7 c7 r _ HE.out (by exact Kd.C_below hr7 HB.out) hc7 H.out).mono ?_
  rintro e w3 ⟨rfl, hb3⟩
  have HB3 := Aside0.mk hb3
  clear hb3
  go_wp2_with fail
  go_ret
  exact ⟨rfl, HB.out.trans (HB3.out.mono HB.out.size)⟩
end Go.Proofs.Ytkiaglpkijhbmaa.PBodyValues
