import Derived.ChangeArms
import Derived.DataReads
import Derived.WideShapes
import Derived.Deep.Slices
import Derived.Test.YtkiaglpkijhbmaaWMore
/-! What a datum's reading says in the printed words: a value that reads as data is of its kind (Kd), and its numbers are in range. -/
namespace Go.Proofs.Ytkiaglpkijhbmaa.OpenKd
open Go.RowKit Go.Proofs.YtkiaglpkijhbmaaW.PrintWords Go.Proofs.YtkiaglpkijhbmaaW.PrintMore

/-- Whatever reads by at most n steps as a datum of type t is of kind d, and G holds of it. -/
def OpN {α : Type} (P : Program) (t : TypeId) (d : Kd α) (G : α → Prop) (n : Nat) : Prop :=
  ∀ (H : Type) (enc : TypeId × Value → H) (w : World) (base : Nat) (spare : Nat → Bool) (held : Bool) (m : Nat), m ≤ n → ∀ (cs : List Value) (r : DataW H × List MemPlace),
    DataW.trod enc P w base spare held m t cs = some r → ∃ x, d.K w x cs ∧ G x

theorem OpN.imp {α : Type} {P : Program} {t : TypeId} {d : Kd α} {G G' : α → Prop} {n : Nat} (h : OpN P t d G n) (hG : ∀ x, G x → G' x) : OpN P t d G' n := by
  intro H enc w base spare held m hm cs r hr
  obtain ⟨x, hx, hg⟩ := h H enc w base spare held m hm cs r hr
  exact ⟨x, hx, hG x hg⟩
theorem OpN.down {α : Type} {P : Program} {t : TypeId} {d : Kd α} {G : α → Prop} {n k : Nat} (h : OpN P t d G n) (hk : k ≤ n) : OpN P t d G k :=
  fun H enc w base spare held m hm cs r hr => h H enc w base spare held m (Nat.le_trans hm hk) cs r hr
theorem op_zero {α : Type} (P : Program) (t : TypeId) (d : Kd α) (G : α → Prop) : OpN P t d G 0 := by
  intro H enc w base spare held m hm cs r hr
  obtain rfl : m = 0 := by omega
  simp [DataW.trod] at hr
theorem op_int {P : Program} {t : TypeId} {k : IntKind} (ht : P.underlying t = some (.int k)) (n : Nat) : OpN P t (Kd.int k) (fun x => (Lit.int k x).wf = true) n := by
  intro H enc w base spare held m _ cs r hr
  obtain ⟨x, rfl, _, hw⟩ := DataW.trod_int ht hr
  exact ⟨x, rfl, hw⟩
theorem op_bool {P : Program} {t : TypeId} (ht : P.underlying t = some .bool) (n : Nat) : OpN P t Kd.bool (fun _ => True) n := by
  intro H enc w base spare held m _ cs r hr
  obtain ⟨x, rfl, _⟩ := DataW.trod_bool ht hr
  exact ⟨x, rfl, trivial⟩
theorem op_string {P : Program} {t : TypeId} (ht : P.underlying t = some .string) (n : Nat) : OpN P t Kd.string (fun x => x.size ≤ maxLen) n := by
  intro H enc w base spare held m _ cs r hr
  obtain ⟨x, rfl, _, hw⟩ := DataW.trod_string ht hr
  exact ⟨x, rfl, hw⟩

theorem list_of {α : Type} {n : Nat} {Q : Nat → α → Prop} (h : ∀ i, i < n → ∃ x, Q i x) : ∃ l : List α, l.length = n ∧ ∀ i x, l[i]? = some x → Q i x := by
  induction n with
  | zero => exact ⟨[], rfl, fun i x hi => by simp at hi⟩
  | succ n ih =>
    obtain ⟨l, hl, hq⟩ := ih fun i hi => h i (by omega)
    obtain ⟨x, hx⟩ := h n (by omega)
    refine ⟨l ++ [x], by simp [hl], fun i y hi => ?_⟩
    by_cases hlt : i < l.length
    · rw [List.getElem?_append_left hlt] at hi
      exact hq i y hi
    · rw [List.getElem?_append_right (by omega)] at hi
      have h0 : i - l.length = 0 := by
        rcases Nat.eq_zero_or_pos (i - l.length) with h | h
        · exact h
        · rw [List.getElem?_eq_none (by simp; omega)] at hi
          cases hi
      rw [h0] at hi
      simp only [List.getElem?_cons_zero, Option.some.injEq] at hi
      rw [← hi, show i = n by omega]
      exact hx

theorem op_slice {α : Type} {P : Program} {t e q : TypeId} {d : Kd α} {G : α → Prop} {n : Nat} (ht : P.underlying t = some (.slice e)) (hsz : P.cellsOf e = d.sz) (h : OpN P e d G n) :
    OpN P t (Kd.slice q d) (fun xs => xs.length ≤ maxLen ∧ ∀ x ∈ xs, G x) (n + 1) := by
  intro H enc w base spare held m hm cs r hr
  rcases DataW.trod_slice ht hr with ⟨rfl, _⟩ | ⟨a, len, cap, elems, rest, k, rfl, rfl, _, _, hl, hc, hlen, hel, _⟩
  · exact ⟨[], ⟨none, 0, rfl, Nat.le_refl _, rfl, by simp, fun h0 => by simp at h0⟩, by simp, by simp⟩
  · have hk : ∀ i, i < len → ∃ x : α, (∃ c, c.length = d.sz ∧ d.K w x c ∧ ∀ j u, c[j]? = some u → w.cell? (a.add (i * d.sz + j)) = some u) ∧ G x := by
      intro i hi
      have h1 := hel i hi
      rw [List.getElem?_eq_getElem (by omega)] at h1
      obtain ⟨c, h2, h3⟩ := Option.bind_eq_some_iff.1 h1
      obtain ⟨x, hx, hg⟩ := h H enc w base spare held k (by omega) c _ h3
      obtain ⟨_, hcl, hcc⟩ := World.cells?_some h2
      refine ⟨x, ⟨c, by rw [hcl, hsz], hx, fun j u hu => ?_⟩, hg⟩
      have hj : j < c.length := (List.getElem?_eq_some_iff.1 hu).1
      rw [← Go.Deep.add_add, ← hsz, hcc j (by omega)]
      exact hu
    obtain ⟨l, hll, hq⟩ := list_of hk
    refine ⟨l, ⟨some a, cap, by rw [hll], by omega, rfl, ?_, fun _ => ⟨a, rfl, fun j p hj => (hq j p hj).1⟩⟩, ?_, ?_⟩
    · unfold maxLen at hc; omega
    · omega
    · intro x hx
      obtain ⟨i, hi⟩ := List.getElem?_of_mem hx
      exact (hq i x hi).2

/-- The fields from the cell o on, cells long. -/
def FsN {β : Type} (P : Program) (fs : List Field) (o cells : Nat) (d : Kd β) (G : β → Prop) (n : Nat) : Prop :=
  ∀ (H : Type) (enc : TypeId × Value → H) (w : World) (base : Nat) (spare : Nat → Bool) (held : Bool) (m : Nat), m ≤ n → ∀ (cs : List Value), cs.length = cells →
    (∀ f ∈ fs, ∃ r, DataW.trod enc P w base spare held m f.type ((cs.drop f.offset).take (P.cellsOf f.type)) = some r) → ∃ x, d.K w x (cs.drop o) ∧ G x
theorem fs_last {α : Type} {P : Program} {f : Field} {o cells : Nat} {d : Kd α} {G : α → Prop} {n : Nat} (ho : f.offset = o) (hs : o + P.cellsOf f.type = cells) (h : OpN P f.type d G n) : FsN P [f] o cells d G n := by
  intro H enc w base spare held m hm cs hl hf
  obtain ⟨r, hr⟩ := hf f (by simp)
  rw [ho, List.take_of_length_le (by rw [List.length_drop]; omega)] at hr
  exact h H enc w base spare held m hm _ r hr
theorem fs_cons {α β : Type} {P : Program} {f : Field} {fs : List Field} {o o' cells : Nat} {d : Kd α} {d' : Kd β} {G : α → Prop} {G' : β → Prop} {n : Nat} (ho : f.offset = o) (hs : o + P.cellsOf f.type = o') (h : OpN P f.type d G n) (h' : FsN P fs o' cells d' G' n) :
    FsN P (f :: fs) o cells (Kd.pair d d') (fun x => G x.1 ∧ G' x.2) n := by
  intro H enc w base spare held m hm cs hl hf
  obtain ⟨r, hr⟩ := hf f (by simp)
  obtain ⟨x, hx, hg⟩ := h H enc w base spare held m hm _ r hr
  obtain ⟨y, hy, hg'⟩ := h' H enc w base spare held m hm cs hl fun g hg => hf g (by simp [hg])
  refine ⟨(x, y), ⟨_, _, ?_, hx, hy⟩, hg, hg'⟩
  rw [ho, ← hs, ← List.drop_drop, List.take_append_drop]
theorem op_struct {β γ : Type} {P : Program} {t : TypeId} {fs : Array Field} {d : Kd β} {G : β → Prop} {n : Nat} {f : γ → β} {g : β → γ} (hfg : ∀ y, f (g y) = y) (ht : P.underlying t = some (.struct fs)) (h : FsN P fs.toList 0 (P.cellsOf t) d G n) :
    OpN P t (Kd.iso d f) (fun x => G (f x)) (n + 1) := by
  intro H enc w base spare held m hm cs r hr
  obtain ⟨ys, k, rfl, _, hl, hz, hx⟩ := DataW.trod_struct ht hr
  obtain ⟨y, hy, hg⟩ := h H enc w base spare held k (by omega) cs hl (fun fd hfd => by
    obtain ⟨i, hi, he⟩ := List.getElem_of_mem hfd
    have h1 := hx i fd (by rw [← he]; simp)
    have hi' : i < ys.length := by rw [hz]; simpa using hi
    exact ⟨ys[i], by rw [h1, List.getElem?_eq_getElem hi']⟩)
  exact ⟨g y, by show d.K w (f (g y)) cs; rw [hfg]; simpa using hy, by show G (f (g y)); rw [hfg]; exact hg⟩

/-- A type nested in itself. -/
theorem op_fix {α : Type} {P : Program} {t : TypeId} {F : Kd α → Kd α} {sz : Nat} {E : List Nat} {hs : ∀ n, (Kd.upto F sz E n).sz = sz} {hE : ∀ n q, q ∈ (Kd.upto F sz E n).E → q ∈ E} {G : Nat → α → Prop}
    (h0 : ∀ n, OpN P t (Kd.upto F sz E n) (G n) n → OpN P t (Kd.upto F sz E (n + 1)) (G (n + 1)) (n + 1)) (n : Nat) : OpN P t (Kd.fix F sz E hs hE) (fun x => ∃ n, G n x) n := by
  have key : ∀ n, OpN P t (Kd.upto F sz E n) (G n) n := by
    intro n
    induction n with
    | zero =>
      intro H enc w base spare held m hm cs r hr
      obtain rfl : m = 0 := by omega
      simp [DataW.trod] at hr
    | succ n ih => exact h0 n ih
  intro H enc w base spare held m hm cs r hr
  obtain ⟨x, hx, hg⟩ := key n H enc w base spare held m hm cs r hr
  exact ⟨x, ⟨n, hx⟩, n, hg⟩

/-! ### Arguments -/
theorem arg_slice {α : Type} {P : Program} {t e q : TypeId} {d : Kd α} {G : α → Prop} {H : Type} {enc : TypeId × Value → H} {w : World} {base : Nat} {spare : Nat → Bool} {held : Bool} {v : Value} {D : DataW H} {p : List MemPlace} {a : Option Addr} {len cap : Nat}
    (hv : v = .slice a len cap) (ht : P.underlying t = some (.slice e)) (hsz : P.cellsOf e = d.sz) (h : ∀ n, OpN P e d G n) (hr : DataW.Trod enc P w base spare held t v D p) (q0 : q = e) :
    ∃ xs : List α, len = xs.length ∧ xs.length ≤ cap ∧ Kd.C d w a xs.length xs ∧ xs.length ≤ maxLen ∧ ∀ x ∈ xs, G x := by
  subst hv q0
  obtain ⟨n, hn⟩ := hr
  obtain ⟨xs, ⟨A, c, he, hl, hC⟩, hm, hg⟩ := op_slice (q := q) ht hsz (h n) H enc w base spare held n (by omega) _ _ hn
  simp only [Value.cells, List.cons.injEq, and_true, Value.slice.injEq] at he
  obtain ⟨rfl, rfl, rfl⟩ := he
  exact ⟨xs, rfl, hl, hC, hm, hg⟩
theorem arg_agg {α : Type} {P : Program} {t : TypeId} {fs : Array Field} {d : Kd α} {G : α → Prop} {H : Type} {enc : TypeId × Value → H} {w : World} {base b0 : Nat} {r : Reach} {spare : Nat → Bool} {held : Bool} {v : Value} {D : DataW H} {p : List MemPlace}
    (ht : P.underlying t = some (.struct fs)) (hv : Value.okWide P w r b0 t v) (h : ∀ n, OpN P t d G n) (hr : DataW.Trod enc P w base spare held t v D p) :
    ∃ (x : α) (cs : List Value), v = .agg cs.toArray ∧ d.K w x cs ∧ G x := by
  obtain ⟨cs, rfl, _⟩ := Go.WideShapes.okWide_struct ht hv
  obtain ⟨n, hn⟩ := hr
  obtain ⟨x, hx, hg⟩ := h n H enc w base spare held n (Nat.le_refl _) _ _ hn
  exact ⟨x, cs.toList, by simp, by simpa [Value.cells] using hx, hg⟩
end Go.Proofs.Ytkiaglpkijhbmaa.OpenKd
