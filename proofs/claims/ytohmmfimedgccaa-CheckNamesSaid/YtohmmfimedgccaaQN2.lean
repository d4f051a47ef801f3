import Derived.ChangeArms
import Derived.DataReads
import Derived.WideShapes
import Derived.Deep.Slices
import Derived.SizedLaws
import Derived.Below
import Derived.Test.YtohmmfimedgccaaQN1
/- CheckNames returns true at every input. PART 3 OF 8: EN ER TY SG OK PL G86 G87 G88 G122 G38 G39 G40 G41 G42 -/
section
namespace Go.Proofs.Ytohmmfimedgccaa.E
set_option linter.unusedVariables false
set_option linter.unusedSimpArgs false
def mpF {V : Type} (f : V → PV) (g : ByteArray → Option V) : Value → Option PV := fun x => match x with | .string s => (g s).map f | _ => none
theorem mpF_str {V : Type} (f : V → PV) (g : ByteArray → Option V) (s : ByteArray) : mpF f g (.string s) = (g s).map f := rfl
inductive WkL : List PV → List PV → Prop
  | nil : WkL [] []
  | cons {p q : PV} {ps qs : List PV} : Wk p q → WkL ps qs → WkL (p :: ps) (q :: qs)
theorem Wk.of_eq {p q : PV} (h : p = q) : Wk p q := h ▸ .refl p
theorem WkL.len {ps qs : List PV} (h : WkL ps qs) : ps.length = qs.length := by
  induction h with
  | nil => rfl
  | cons h1 h2 ih => simp [ih]
theorem WkL.get {ps qs : List PV} (h : WkL ps qs) : ∀ (i : Nat) p q, ps[i]? = some p → qs[i]? = some q → Wk p q := by
  induction h with
  | nil => intro i p q h1; simp at h1
  | cons h1 h2 ih =>
    intro i p q h3 h4
    cases i with
    | zero => simp at h3 h4; subst h3 h4; exact h1
    | succ i => exact ih i p q (by simpa using h3) (by simpa using h4)
theorem WkL.refl : ∀ (ps : List PV), WkL ps ps
  | [] => .nil
  | p :: ps => .cons (.refl p) (WkL.refl ps)
theorem Wk.agl {ps qs : List PV} (h : WkL ps qs) : Wk (.ag ps) (.ag qs) := .ag h.len h.get
inductive WkLL : List (List PV) → List (List PV) → Prop
  | nil : WkLL [] []
  | cons {r q : List PV} {rs qs : List (List PV)} : WkL r q → WkLL rs qs → WkLL (r :: rs) (q :: qs)
theorem WkLL.len {ps qs : List (List PV)} (h : WkLL ps qs) : ps.length = qs.length := by
  induction h with
  | nil => rfl
  | cons h1 h2 ih => simp [ih]
theorem WkLL.get {ps qs : List (List PV)} (h : WkLL ps qs) : ∀ (i : Nat) p q, ps[i]? = some p → qs[i]? = some q → WkL p q := by
  induction h with
  | nil => intro i p q h1; simp at h1
  | cons h1 h2 ih =>
    intro i p q h3 h4
    cases i with
    | zero => simp at h3 h4; subst h3 h4; exact h1
    | succ i => exact ih i p q (by simpa using h3) (by simpa using h4)
theorem Wk.sll {ps qs : List (List PV)} (h : WkLL ps qs) : Wk (.sl ps) (.sl qs) := .sl h.len (fun i r r' h1 h2 => (h.get i r r' h1 h2).len) fun i j r r' p q h1 h2 h3 h4 => (h.get i r r' h1 h2).get j p q h3 h4
theorem Wk.owr {t : Nat} {rows : List (List PV)} : Wk (.ow t rows) (.sl rows) := .ow (.refl _)
theorem WkE.upd {e e' : Env} {t : Tmp} {p q : PV} (h : WkE e e') (he : e t = p) (hw : Wk p q) : WkE e (upd e' (some t) q) := fun x => by
  rw [upd_some]
  split
  · rename_i hx
    rw [hx, he]
    exact hw
  · exact h x
section
variable {P : Program} {T : TypeId → Option TI} {σ σ' s s' : Store} {e : Env} {Q : X → Env → Store → Prop}
theorem EC.wka {f : FuncId} {args args' : List PV} {K : PV → Store → Prop} (hw : WkL args args') (h : EC P f args' σ K) : EC P f args σ K :=
  ⟨h.1, fun F hF μ w vs hs hvs => h.2 F hF μ w vs hs ⟨by rw [hvs.1, hw.len], fun i x q hx hq => (hvs.2 i x _ hx (List.getElem?_eq_getElem (by have := (List.getElem?_eq_some_iff.1 hq).1; have := hw.len; omega))).wk (hw.get i _ q (List.getElem?_eq_getElem (by have := (List.getElem?_eq_some_iff.1 hq).1; have := hw.len; omega)) hq)⟩⟩
theorem CT.mono {f : FuncId} {vs : Array Value} {w : World} {Q Q' : Value → World → Prop} (hQ : ∀ x w, Q x w → Q' x w) (h : CT P f vs w Q) : CT P f vs w Q' := by
  rcases h with ⟨a, b⟩ | ⟨x, w', a, b⟩
  · exact .inl ⟨a, b.mono fun e w' ⟨x, hx, hp⟩ => ⟨x, hx, hQ x w' hp⟩⟩
  · exact .inr ⟨x, w', a, hQ x w' b⟩
theorem EC.wkr {f : FuncId} {args : List PV} {K : PV → Store → Prop} (h : EC P f args σ fun r s => ∃ r', Wk r r' ∧ K r' s) : EC P f args σ K := by
  refine ⟨?_, fun F hF μ w vs hs hvs => (h.2 F hF μ w vs hs hvs).mono fun x w' hx => ?_⟩
  · obtain ⟨r, s, h1, r', _, h2⟩ := h.1
    exact ⟨r', s, h1, h2⟩
  · obtain ⟨r, σ', μ', k1, k2, k3, s0, k4, k5, r', k6, k7⟩ := hx
    exact ⟨r', σ', μ', k1, k2, k3.wk k6, s0, k4, k5, k7⟩
def Cw (I : Env → Store → Prop) (K : X → Env → Store → Prop) (x : X) (e : Env) (s : Store) : Prop := match x with | .nrm => ∃ e2, WkE e e2 ∧ I e2 s | x => K x e s
theorem w_sa {a b : Code} (I : Env → Store → Prop) (h : Ev P T a e s (Cw I Q)) (rest : ∀ e s, I e s → Ev P T b e s Q) : Ev P T (.seq a b) e s Q :=
  .of (ev_mono a (fun x e s hx => by
    cases x with
    | nrm => obtain ⟨e2, hw, hi⟩ := hx; exact ⟨e2, hw, (rest e2 s hi).to⟩
    | ext i => exact hx
    | ret => exact hx) e s h.to)
def Iq {V W : Type} (I : V → Env → Store → Prop) (x : V ⊕ W) (r : W) (Q : X → Env → Store → Prop) (y : X) (e : Env) (s : Store) : Prop := match y with
  | .nrm => ∃ v', x = .inl v' ∧ ∃ e2, WkE e e2 ∧ I v' e2 s
  | y => ∃ r', x = .inr r' ∧ (r' = r → Q y e s)
theorem w_iter {V W : Type} {c : Code} {f : V → Option (V ⊕ W)} {v : V} {r : W} (h : iterO f v = some r) (I : V → Env → Store → Prop) (hI : ∃ e2, WkE e e2 ∧ I v e2 s)
    (step : ∀ v x e s, f v = some x → I v e s → Ev P T c e s (Iq I x r Q)) : Ev P T (.loop c) e s Q := by
  have main : ∀ v r', iterO f v = some r' → r' = r → ∀ e s, (∃ e2, WkE e e2 ∧ I v e2 s) → LpV P T c e s Q := by
    refine iterO_some (fun v v' r' hf ih hr e s hi => ?_) (fun v r' hf hr e s hi => ?_)
    · obtain ⟨e2, hw, hi⟩ := hi
      refine .of (Lp.round hw (ev_mono c (fun y e s hy => ?_) e2 s (step v _ e2 s hf hi).to))
      cases y with
      | nrm =>
        obtain ⟨v1, h1, h2⟩ := hy
        obtain rfl := Sum.inl.inj h1
        exact (ih hr e s h2).to
      | ext i => obtain ⟨_, h1, _⟩ := hy; cases h1
      | ret => obtain ⟨_, h1, _⟩ := hy; cases h1
    · obtain ⟨e2, hw, hi⟩ := hi
      refine .of (Lp.round hw (ev_mono c (fun y e s hy => ?_) e2 s (step v _ e2 s hf hi).to))
      cases y with
      | nrm => obtain ⟨_, h1, _⟩ := hy; cases h1
      | ext i => obtain ⟨r1, h1, h2⟩ := hy; exact h2 ((Sum.inr.inj h1).symm.trans hr)
      | ret => obtain ⟨r1, h1, h2⟩ := hy; exact h2 ((Sum.inr.inj h1).symm.trans hr)
  exact w_loop (main v r h rfl e s hI)
theorem sub_self (s : Store) : sub s s = True := eq_true fun _ _ h => h
theorem sub_apps (s l : Store) : sub s (s ++ l) = True := eq_true fun i o h => ⟨by rw [List.getElem?_append_left (List.getElem?_eq_some_iff.1 h.1).1]; exact h.1, h.2⟩
def Pre (σ s : Store) : Prop := ∃ ex, s = σ ++ ex
theorem Pre.refl (σ : Store) : Pre σ σ := ⟨[], by simp⟩
theorem Pre.app (h : Pre σ s) (x : Store) : Pre σ (s ++ x) := by
  obtain ⟨ex, rfl⟩ := h
  exact ⟨_, List.append_assoc _ _ _⟩
theorem Pre.set (h : Pre σ s) {i : Nat} (hi : σ.length ≤ i) (o : Option AObj) : Pre σ (s.set i o) := by
  obtain ⟨ex, rfl⟩ := h
  exact ⟨ex.set (i - σ.length) o, by rw [List.set_append_right _ _ hi]⟩
theorem Pre.le (h : Pre σ s) : σ.length ≤ s.length := by
  obtain ⟨ex, rfl⟩ := h
  simp
structure Bx (σ s : Store) (i : Nat) (t : TypeId) (c : List PV) : Prop where
  le : σ.length ≤ i
  get : s[i]? = some (some (.box t c))
variable {i j : Nat} {t : TypeId} {c c' : List PV}
theorem Bx.new (h : Pre σ s) (t : TypeId) (c : List PV) : Bx σ (s ++ [some (.box t c)]) s.length t c := ⟨h.le, by simp⟩
theorem Bx.app (h : Bx σ s i t c) (x : Store) : Bx σ (s ++ x) i t c := ⟨h.le, by rw [List.getElem?_append_left (List.getElem?_eq_some_iff.1 h.get).1]; exact h.get⟩
theorem Bx.any (h : Bx σ s i t c) : ∀ x, (s ++ x)[i]? = some (some (.box t c)) := fun x => (h.app x).get
theorem Bx.any2 (h : Bx σ s i t c) : ∀ x y, (s ++ x ++ y)[i]? = some (some (.box t c)) := fun x y => ((h.app x).app y).get
theorem Bx.lt (h : Bx σ s i t c) : i < s.length := (List.getElem?_eq_some_iff.1 h.get).1
theorem Bx.same (h : Bx σ s i t c) (t' : TypeId) (c' : List PV) : Bx σ (s.set i (some (.box t' c'))) i t' c' := ⟨h.le, by rw [List.getElem?_set_self h.lt]⟩
theorem Bx.ne (h : Bx σ s i t c) (hne : j ≠ i) (o : Option AObj) : Bx σ (s.set j o) i t c := ⟨h.le, by rw [List.getElem?_set_ne hne]; exact h.get⟩
theorem appn2 (s : Store) (a b : Option AObj) : (s ++ [a] ++ [b])[s.length]? = some a := by simp
theorem appn3 (s : Store) (a b c : Option AObj) : (s ++ [a] ++ [b] ++ [c])[s.length]? = some a := by simp
def Acc (σ s : Store) (p : PV) (e : TypeId) (sz : Nat) (rows : List (List PV)) : Prop :=
  (rows = [] ∧ (p = .v (.slice none 0 0) ∨ p = .e0)) ∨ ∃ t, p = .ow t rows ∧ σ.length ≤ t ∧ s[t]? = some (some (.tok e sz rows.length))
def Keep (p : PV) (s s' : Store) : Prop := (∀ i o, s[i]? = some (some o) → (∀ r, p ≠ .ow i r) → s'[i]? = some (some o)) ∧ s.length ≤ s'.length
variable {p q : PV} {ty : TypeId} {sz : Nat} {rows ns : List (List PV)}
theorem Acc.nil (σ s : Store) (ty : TypeId) (sz : Nat) : Acc σ s (.v (.slice none 0 0)) ty sz [] := .inl ⟨rfl, .inl rfl⟩
theorem Acc.e0 (σ s : Store) (ty : TypeId) (sz : Nat) : Acc σ s .e0 ty sz [] := .inl ⟨rfl, .inr rfl⟩
theorem Acc.wk (h : Acc σ s p ty sz rows) : Wk p (.sl rows) := by
  rcases h with ⟨rfl, rfl | rfl⟩ | ⟨t, rfl, _⟩
  · exact .nil
  · exact .e0
  · exact .owr
theorem Acc.rowsOf (h : Acc σ s p ty sz rows) : rowsOf p = some rows := by
  rcases h with ⟨rfl, rfl | rfl⟩ | ⟨t, rfl, _⟩ <;> rfl
theorem Acc.keep (h : Acc σ s p ty sz rows) (k : Keep q s s') (ha : ∀ t r r', p = .ow t r → q ≠ .ow t r') : Acc σ s' p ty sz rows := by
  rcases h with h | ⟨t, h1, h2, h3⟩
  · exact .inl h
  · exact .inr ⟨t, h1, h2, k.1 t _ h3 fun r => ha t _ r h1⟩
theorem Acc.app (h : Acc σ s p ty sz rows) (x : Store) : Acc σ (s ++ x) p ty sz rows := by
  rcases h with h | ⟨t, h1, h2, h3⟩
  · exact .inl h
  · exact .inr ⟨t, h1, h2, by rw [List.getElem?_append_left (List.getElem?_eq_some_iff.1 h3).1]; exact h3⟩
theorem Acc.set (h : Acc σ s p ty sz rows) (hb : Bx σ s i t c) (o : Option AObj) : Acc σ (s.set i o) p ty sz rows := by
  rcases h with h | ⟨k, h1, h2, h3⟩
  · exact .inl h
  · refine .inr ⟨k, h1, h2, ?_⟩
    rw [List.getElem?_set_ne]
    · exact h3
    · rintro rfl
      have := hb.get.symm.trans h3
      injection this with this
      injection this with this
      cases this
theorem Bx.keep (h : Bx σ s i t c) (ha : Acc σ s q ty sz rows) (k : Keep q s s') : Bx σ s' i t c := by
  refine ⟨h.le, k.1 i _ h.get fun r hr => ?_⟩
  rcases ha with ⟨_, rfl | rfl⟩ | ⟨k, rfl, h2, h3⟩
  · cases hr
  · cases hr
  · injection hr with h4 h5
    subst h4
    have := h.get.symm.trans h3
    injection this with this
    injection this with this
    cases this
theorem Acc.push {tl : TypeId} {ti : TI} {a b : Nat} {g m : Bool} {z : List Z} (hT : T tl = some ⟨a, b, g, m, z, .slc ty⟩) (hE : T ty = some ti) (h : Acc σ s p ty ti.sz rows) (hp : Pre σ s) (hr : ∀ r ∈ rows, r.length = ti.sz) (hn : ∀ r ∈ ns, r.length = ti.sz) (hne : ns ≠ []) (h0 : 0 < ti.sz)
    (hb : (rows.length + ns.length) * ti.bytes ≤ 140737488355328 ∧ rows.length + ns.length ≤ 140737488355328) : ∃ p' s', (∀ x, E.rowsOf x = some ns → appendA T tl p x s = .eff p' s') ∧ Acc σ s' p' ty ti.sz (rows ++ ns) ∧ Pre σ s' ∧ Keep p s s' ∧ (∀ q : PV, (∀ t r r', q = .ow t r → p ≠ .ow t r' ∧ t < s.length) → ∀ t r r', q = .ow t r → p' ≠ .ow t r') ∧ (∀ H, sub H s → (∀ t r, p = .ow t r → H.length ≤ t) → sub H s') ∧ (∀ n, n ≤ s.length → (∀ t r, p = .ow t r → n ≤ t) → ∀ t r, p' = .ow t r → n ≤ t) := by
  have hc : (∀ r ∈ ns, r.length = ti.sz) ∧ 0 < ti.sz := ⟨hn, h0⟩
  rcases h with ⟨rfl, rfl | rfl⟩ | ⟨k, rfl, h2, h3⟩
  · refine ⟨.ow s.length ns, s ++ [some (.tok ty ti.sz ns.length)], fun x hx => ?_, .inr ⟨_, rfl, hp.le, by simp⟩, hp.app _, ⟨fun i o hi _ => by rw [List.getElem?_append_left (List.getElem?_eq_some_iff.1 hi).1]; exact hi, by simp⟩, fun q hq t r r' h1 h2 => ?_, fun H hH _ i o hl => ?_, fun n hn _ t r h1 => ?_⟩
    · simp only [appendA, hT, hE, hx, hne, if_false]
      rw [if_pos hc, if_pos (by simpa using hb)]
    · injection h2 with h2
      have := (hq t r [] h1).2
      omega
    · exact of_eq_true (sub_apps _ _) i o (hH i o hl)
    · injection h1 with h1
      omega
  · refine ⟨.ow s.length ns, s ++ [some (.tok ty ti.sz ns.length)], fun x hx => ?_, .inr ⟨_, rfl, hp.le, by simp⟩, hp.app _, ⟨fun i o hi _ => by rw [List.getElem?_append_left (List.getElem?_eq_some_iff.1 hi).1]; exact hi, by simp⟩, fun q hq t r r' h1 h2 => ?_, fun H hH _ i o hl => ?_, fun n hn _ t r h1 => ?_⟩
    · simp only [appendA, hT, hE, hx, hne, if_false]
      rw [if_pos hc, if_pos (by simpa using hb)]
    · injection h2 with h2
      have := (hq t r [] h1).2
      omega
    · exact of_eq_true (sub_apps _ _) i o (hH i o hl)
    · injection h1 with h1
      omega
  · refine ⟨.ow k (rows ++ ns), s.set k (some (.tok ty ti.sz (rows.length + ns.length))), fun x hx => ?_, .inr ⟨k, rfl, h2, by rw [List.getElem?_set_self (List.getElem?_eq_some_iff.1 h3).1, List.length_append]⟩, hp.set h2 _, ⟨fun i o hi hne => by rw [List.getElem?_set_ne (by rintro rfl; exact hne _ rfl)]; exact hi, by simp⟩, fun q hq t r r' h1 h4 => ?_, fun H hH hk i o hl => ?_, fun n hn hk t r h1 => ?_⟩
    · simp only [appendA, hT, hE, hx, hne, if_false]
      rw [if_pos hc]
      simp only [h3]
      rw [if_pos ⟨trivial, trivial, trivial, hr, hb⟩]
    · injection h4 with h4
      subst h4
      exact (hq k r rows h1).1 rfl
    · have h5 := hH i o hl
      have h6 := hk k rows rfl
      have h7 := (List.getElem?_eq_some_iff.1 hl.1).1
      exact ⟨by rw [List.getElem?_set_ne (by omega)]; exact h5.1, h5.2⟩
    · injection h1 with h1
      subst h1
      exact hk k rows rfl
theorem Acc.push0 {tl : TypeId} {ti : TI} {a b : Nat} {g m : Bool} {z : List Z} (hT : T tl = some ⟨a, b, g, m, z, .slc ty⟩) (hE : T ty = some ti) (h : Acc σ s p ty sz rows) : ∀ x, E.rowsOf x = some [] → appendA T tl p x s = .val p := fun x hx => by
  simp only [appendA, hT, hE, hx, if_true, h.rowsOf]
theorem Acc.lenX {tl : TypeId} {a b : Nat} {g m : Bool} {z : List Z} (hT : T tl = some ⟨a, b, g, m, z, .slc ty⟩) (h : Acc σ s p ty sz rows) : E.lenX T tl p s = .val (.v (.int .i64 rows.length)) := by
  rcases h with ⟨rfl, rfl | rfl⟩ | ⟨t, rfl, _⟩ <;> simp [E.lenX, hT, E.rowsOf]
theorem Acc.cast {r r' : List (List PV)} (hr : r = r') (h : Acc σ s p ty sz r) : Acc σ s p ty sz r' := hr ▸ h
theorem Acc.lt (h : Acc σ s p ty sz rows) : ∀ t r, p = .ow t r → t < s.length := by
  rcases h with ⟨_, rfl | rfl⟩ | ⟨k, rfl, h2, h3⟩
  · intro t r hh; cases hh
  · intro t r hh; cases hh
  · intro t r hh
    injection hh with hh
    subst hh
    exact (List.getElem?_eq_some_iff.1 h3).1
inductive Cn : PV → Prop
  | v (x : Value) : Cn (.v x)
  | e0 : Cn .e0
  | sl {rows : List (List PV)} : (∀ r ∈ rows, ∀ p ∈ r, Cn p) → Cn (.sl rows)
  | ag {ps : List PV} : (∀ p ∈ ps, Cn p) → Cn (.ag ps)
  | tu {ps : List PV} : (∀ p ∈ ps, Cn p) → Cn (.tu ps)
theorem Cn.cl {p : PV} (h : Cn p) (n : Nat) : Cl n p := by
  induction h with
  | v x => exact .v x
  | e0 => exact .e0
  | sl h ih => exact .sl ih
  | ag h ih => exact .ag ih
  | tu h ih => exact .tu ih
def Pw (σ : Store) (K : PV → Store → Prop) (r : PV) (s : Store) : Prop := Pre σ s ∧ ∃ r', Wk r r' ∧ Cn r' ∧ K r' σ
end
theorem w_fp {σ : Store} {f : FuncId} {fn : Func} {c : Code} {args : List PV} {K : PV → Store → Prop} (hf : Try.prog.funcs[f]? = some fn) (hname : (fn.name == "runtime.NumGoroutine") = false) (hb : fn.body = some c) (hc : (codeOK fn.ntmps c && decide (args.length ≤ fn.ntmps)) = true)
    (h : Ev Try.prog E.T c (argE args) σ (Bd E.T fn (Pw σ K))) : EC Try.prog f args σ K :=
  EC.pure (EC.wkr ((w_fn hf hname hb hc h).mono fun r s ⟨h1, r', h2, h3, h4⟩ => ⟨r', h2, h1, h3.cl _, h4⟩))
theorem cj2 {a0 a1 : Prop} (h0 : a0) (h1 : a1) : a0 ∧ a1 := ⟨h0, h1⟩
theorem cj3 {a0 a1 a2 : Prop} (h0 : a0) (h1 : a1) (h2 : a2) : a0 ∧ a1 ∧ a2 := ⟨h0, h1, h2⟩
theorem cj4 {a0 a1 a2 a3 : Prop} (h0 : a0) (h1 : a1) (h2 : a2) (h3 : a3) : a0 ∧ a1 ∧ a2 ∧ a3 := ⟨h0, h1, h2, h3⟩
theorem cj5 {a0 a1 a2 a3 a4 : Prop} (h0 : a0) (h1 : a1) (h2 : a2) (h3 : a3) (h4 : a4) : a0 ∧ a1 ∧ a2 ∧ a3 ∧ a4 := ⟨h0, h1, h2, h3, h4⟩
theorem cj6 {a0 a1 a2 a3 a4 a5 : Prop} (h0 : a0) (h1 : a1) (h2 : a2) (h3 : a3) (h4 : a4) (h5 : a5) : a0 ∧ a1 ∧ a2 ∧ a3 ∧ a4 ∧ a5 := ⟨h0, h1, h2, h3, h4, h5⟩
theorem cj7 {a0 a1 a2 a3 a4 a5 a6 : Prop} (h0 : a0) (h1 : a1) (h2 : a2) (h3 : a3) (h4 : a4) (h5 : a5) (h6 : a6) : a0 ∧ a1 ∧ a2 ∧ a3 ∧ a4 ∧ a5 ∧ a6 := ⟨h0, h1, h2, h3, h4, h5, h6⟩
theorem cj8 {a0 a1 a2 a3 a4 a5 a6 a7 : Prop} (h0 : a0) (h1 : a1) (h2 : a2) (h3 : a3) (h4 : a4) (h5 : a5) (h6 : a6) (h7 : a7) : a0 ∧ a1 ∧ a2 ∧ a3 ∧ a4 ∧ a5 ∧ a6 ∧ a7 := ⟨h0, h1, h2, h3, h4, h5, h6, h7⟩
theorem cj9 {a0 a1 a2 a3 a4 a5 a6 a7 a8 : Prop} (h0 : a0) (h1 : a1) (h2 : a2) (h3 : a3) (h4 : a4) (h5 : a5) (h6 : a6) (h7 : a7) (h8 : a8) : a0 ∧ a1 ∧ a2 ∧ a3 ∧ a4 ∧ a5 ∧ a6 ∧ a7 ∧ a8 := ⟨h0, h1, h2, h3, h4, h5, h6, h7, h8⟩
theorem cj10 {a0 a1 a2 a3 a4 a5 a6 a7 a8 a9 : Prop} (h0 : a0) (h1 : a1) (h2 : a2) (h3 : a3) (h4 : a4) (h5 : a5) (h6 : a6) (h7 : a7) (h8 : a8) (h9 : a9) : a0 ∧ a1 ∧ a2 ∧ a3 ∧ a4 ∧ a5 ∧ a6 ∧ a7 ∧ a8 ∧ a9 := ⟨h0, h1, h2, h3, h4, h5, h6, h7, h8, h9⟩
theorem cj11 {a0 a1 a2 a3 a4 a5 a6 a7 a8 a9 a10 : Prop} (h0 : a0) (h1 : a1) (h2 : a2) (h3 : a3) (h4 : a4) (h5 : a5) (h6 : a6) (h7 : a7) (h8 : a8) (h9 : a9) (h10 : a10) : a0 ∧ a1 ∧ a2 ∧ a3 ∧ a4 ∧ a5 ∧ a6 ∧ a7 ∧ a8 ∧ a9 ∧ a10 := ⟨h0, h1, h2, h3, h4, h5, h6, h7, h8, h9, h10⟩
theorem cj12 {a0 a1 a2 a3 a4 a5 a6 a7 a8 a9 a10 a11 : Prop} (h0 : a0) (h1 : a1) (h2 : a2) (h3 : a3) (h4 : a4) (h5 : a5) (h6 : a6) (h7 : a7) (h8 : a8) (h9 : a9) (h10 : a10) (h11 : a11) : a0 ∧ a1 ∧ a2 ∧ a3 ∧ a4 ∧ a5 ∧ a6 ∧ a7 ∧ a8 ∧ a9 ∧ a10 ∧ a11 := ⟨h0, h1, h2, h3, h4, h5, h6, h7, h8, h9, h10, h11⟩
theorem cj13 {a0 a1 a2 a3 a4 a5 a6 a7 a8 a9 a10 a11 a12 : Prop} (h0 : a0) (h1 : a1) (h2 : a2) (h3 : a3) (h4 : a4) (h5 : a5) (h6 : a6) (h7 : a7) (h8 : a8) (h9 : a9) (h10 : a10) (h11 : a11) (h12 : a12) : a0 ∧ a1 ∧ a2 ∧ a3 ∧ a4 ∧ a5 ∧ a6 ∧ a7 ∧ a8 ∧ a9 ∧ a10 ∧ a11 ∧ a12 := ⟨h0, h1, h2, h3, h4, h5, h6, h7, h8, h9, h10, h11, h12⟩
theorem cj14 {a0 a1 a2 a3 a4 a5 a6 a7 a8 a9 a10 a11 a12 a13 : Prop} (h0 : a0) (h1 : a1) (h2 : a2) (h3 : a3) (h4 : a4) (h5 : a5) (h6 : a6) (h7 : a7) (h8 : a8) (h9 : a9) (h10 : a10) (h11 : a11) (h12 : a12) (h13 : a13) : a0 ∧ a1 ∧ a2 ∧ a3 ∧ a4 ∧ a5 ∧ a6 ∧ a7 ∧ a8 ∧ a9 ∧ a10 ∧ a11 ∧ a12 ∧ a13 := ⟨h0, h1, h2, h3, h4, h5, h6, h7, h8, h9, h10, h11, h12, h13⟩
theorem cj15 {a0 a1 a2 a3 a4 a5 a6 a7 a8 a9 a10 a11 a12 a13 a14 : Prop} (h0 : a0) (h1 : a1) (h2 : a2) (h3 : a3) (h4 : a4) (h5 : a5) (h6 : a6) (h7 : a7) (h8 : a8) (h9 : a9) (h10 : a10) (h11 : a11) (h12 : a12) (h13 : a13) (h14 : a14) : a0 ∧ a1 ∧ a2 ∧ a3 ∧ a4 ∧ a5 ∧ a6 ∧ a7 ∧ a8 ∧ a9 ∧ a10 ∧ a11 ∧ a12 ∧ a13 ∧ a14 := ⟨h0, h1, h2, h3, h4, h5, h6, h7, h8, h9, h10, h11, h12, h13, h14⟩
theorem cj16 {a0 a1 a2 a3 a4 a5 a6 a7 a8 a9 a10 a11 a12 a13 a14 a15 : Prop} (h0 : a0) (h1 : a1) (h2 : a2) (h3 : a3) (h4 : a4) (h5 : a5) (h6 : a6) (h7 : a7) (h8 : a8) (h9 : a9) (h10 : a10) (h11 : a11) (h12 : a12) (h13 : a13) (h14 : a14) (h15 : a15) : a0 ∧ a1 ∧ a2 ∧ a3 ∧ a4 ∧ a5 ∧ a6 ∧ a7 ∧ a8 ∧ a9 ∧ a10 ∧ a11 ∧ a12 ∧ a13 ∧ a14 ∧ a15 := ⟨h0, h1, h2, h3, h4, h5, h6, h7, h8, h9, h10, h11, h12, h13, h14, h15⟩
theorem cj17 {a0 a1 a2 a3 a4 a5 a6 a7 a8 a9 a10 a11 a12 a13 a14 a15 a16 : Prop} (h0 : a0) (h1 : a1) (h2 : a2) (h3 : a3) (h4 : a4) (h5 : a5) (h6 : a6) (h7 : a7) (h8 : a8) (h9 : a9) (h10 : a10) (h11 : a11) (h12 : a12) (h13 : a13) (h14 : a14) (h15 : a15) (h16 : a16) : a0 ∧ a1 ∧ a2 ∧ a3 ∧ a4 ∧ a5 ∧ a6 ∧ a7 ∧ a8 ∧ a9 ∧ a10 ∧ a11 ∧ a12 ∧ a13 ∧ a14 ∧ a15 ∧ a16 := ⟨h0, h1, h2, h3, h4, h5, h6, h7, h8, h9, h10, h11, h12, h13, h14, h15, h16⟩
theorem cj18 {a0 a1 a2 a3 a4 a5 a6 a7 a8 a9 a10 a11 a12 a13 a14 a15 a16 a17 : Prop} (h0 : a0) (h1 : a1) (h2 : a2) (h3 : a3) (h4 : a4) (h5 : a5) (h6 : a6) (h7 : a7) (h8 : a8) (h9 : a9) (h10 : a10) (h11 : a11) (h12 : a12) (h13 : a13) (h14 : a14) (h15 : a15) (h16 : a16) (h17 : a17) : a0 ∧ a1 ∧ a2 ∧ a3 ∧ a4 ∧ a5 ∧ a6 ∧ a7 ∧ a8 ∧ a9 ∧ a10 ∧ a11 ∧ a12 ∧ a13 ∧ a14 ∧ a15 ∧ a16 ∧ a17 := ⟨h0, h1, h2, h3, h4, h5, h6, h7, h8, h9, h10, h11, h12, h13, h14, h15, h16, h17⟩
theorem cj19 {a0 a1 a2 a3 a4 a5 a6 a7 a8 a9 a10 a11 a12 a13 a14 a15 a16 a17 a18 : Prop} (h0 : a0) (h1 : a1) (h2 : a2) (h3 : a3) (h4 : a4) (h5 : a5) (h6 : a6) (h7 : a7) (h8 : a8) (h9 : a9) (h10 : a10) (h11 : a11) (h12 : a12) (h13 : a13) (h14 : a14) (h15 : a15) (h16 : a16) (h17 : a17) (h18 : a18) : a0 ∧ a1 ∧ a2 ∧ a3 ∧ a4 ∧ a5 ∧ a6 ∧ a7 ∧ a8 ∧ a9 ∧ a10 ∧ a11 ∧ a12 ∧ a13 ∧ a14 ∧ a15 ∧ a16 ∧ a17 ∧ a18 := ⟨h0, h1, h2, h3, h4, h5, h6, h7, h8, h9, h10, h11, h12, h13, h14, h15, h16, h17, h18⟩
theorem cj20 {a0 a1 a2 a3 a4 a5 a6 a7 a8 a9 a10 a11 a12 a13 a14 a15 a16 a17 a18 a19 : Prop} (h0 : a0) (h1 : a1) (h2 : a2) (h3 : a3) (h4 : a4) (h5 : a5) (h6 : a6) (h7 : a7) (h8 : a8) (h9 : a9) (h10 : a10) (h11 : a11) (h12 : a12) (h13 : a13) (h14 : a14) (h15 : a15) (h16 : a16) (h17 : a17) (h18 : a18) (h19 : a19) : a0 ∧ a1 ∧ a2 ∧ a3 ∧ a4 ∧ a5 ∧ a6 ∧ a7 ∧ a8 ∧ a9 ∧ a10 ∧ a11 ∧ a12 ∧ a13 ∧ a14 ∧ a15 ∧ a16 ∧ a17 ∧ a18 ∧ a19 := ⟨h0, h1, h2, h3, h4, h5, h6, h7, h8, h9, h10, h11, h12, h13, h14, h15, h16, h17, h18, h19⟩
theorem w_x {φ : Prop} {id : Nat} {ops : Array Oper} {e : Env} {s : Store} {Q : X → Env → Store → Prop} {B : (Env → Store → Prop) → Prop} (f : φ) (h : φ → ∀ K, evH Try.prog T ops ops.toList e s K = B K := by (intro hf K; simp (maxSteps := 1000000) -implicitDefEqProofs only [hf, evH_nil, evH_cons, wantedA, List.getElem?_toArray, stepA, upd_some, upd_none, val, argE_at, Nat.reduceLT, reduceIte, List.getD_cons_zero, List.getD_cons_succ, List.getElem?_cons_succ, List.getElem?_cons_zero, getCells, abin, abinI, abinS, aun, Nat.reduceEqDiff, Nat.reduceAdd, ofV, Option.map_some, Option.bind_some, Bool.false_eq_true, splice, PV.flat, PV.one, Value.oneCell', List.all_cons, List.all_nil, Bool.and_true, Bool.true_and, List.length_cons, List.length_nil, List.length_map, List.take_succ_cons, List.take_zero, List.drop_succ_cons, List.drop_zero, List.cons_append, List.nil_append, Nat.reduceLeDiff, and_self, and_true, true_and, beq_self_eq_true, Bool.not_true, Bool.not_false, callA, lenX, rowsOf, intOf?, List.getElem?_concat_length, if_true, ite_true, ite_false, reduceBEq, List.map_cons, List.map_nil, List.toList_toArray, beq_true, beq_false, List.append_nil, set_concat, decide_true, decide_false, eq_self, Int.reduceEq, Int.reduceLT, Int.reduceLE, Int.reduceNeg, zrow, zpv, Z.val, buildRows, List.replicate_succ, List.replicate_zero, List.set_cons_zero, List.set_cons_succ, Nat.reduceMul, Nat.zero_lt_one, Array.size, appn2, appn3, Option.some.injEq, ne_eq, not_false_eq_true, not_true_eq_false, false_and, and_false, List.cons.injEq, reduceCtorEq, Option.map_none, Option.isSome_some, Option.isSome_none, Option.getD_some, Option.getD_none, List.headD_cons, Option.isSome_map, mpF_str, keyA, kkOf, eqFs, eqC, reduceCtorEq]; rfl))
    (k : B fun e s => Q .nrm e s) : Ev Try.prog T (.region id ops false) e s Q := .of (by
  show evOps Try.prog T ops ops.toList e s (fun e s => Q .nrm e s)
  rw [← evG_eq, ← evH_eq, h f]
  exact k)
theorem w_y {φ : Prop} {ops : Array Oper} {l : List Oper} {d : Option Tmp} {r : PV} {e : Env} {s : Store} {K : Env → Store → Prop} {B : (Env → Store → Prop) → Prop} (f : φ) (h : φ → ∀ K, evH Try.prog T ops l (upd e d r) s K = B K := by (intro hf K; simp (maxSteps := 1000000) -implicitDefEqProofs only [hf, evH_nil, evH_cons, wantedA, List.getElem?_toArray, stepA, upd_some, upd_none, val, argE_at, Nat.reduceLT, reduceIte, List.getD_cons_zero, List.getD_cons_succ, List.getElem?_cons_succ, List.getElem?_cons_zero, getCells, abin, abinI, abinS, aun, Nat.reduceEqDiff, Nat.reduceAdd, ofV, Option.map_some, Option.bind_some, Bool.false_eq_true, splice, PV.flat, PV.one, Value.oneCell', List.all_cons, List.all_nil, Bool.and_true, Bool.true_and, List.length_cons, List.length_nil, List.length_map, List.take_succ_cons, List.take_zero, List.drop_succ_cons, List.drop_zero, List.cons_append, List.nil_append, Nat.reduceLeDiff, and_self, and_true, true_and, beq_self_eq_true, Bool.not_true, Bool.not_false, callA, lenX, rowsOf, intOf?, List.getElem?_concat_length, if_true, ite_true, ite_false, reduceBEq, List.map_cons, List.map_nil, List.toList_toArray, beq_true, beq_false, List.append_nil, set_concat, decide_true, decide_false, eq_self, Int.reduceEq, Int.reduceLT, Int.reduceLE, Int.reduceNeg, zrow, zpv, Z.val, buildRows, List.replicate_succ, List.replicate_zero, List.set_cons_zero, List.set_cons_succ, Nat.reduceMul, Nat.zero_lt_one, Array.size, appn2, appn3, Option.some.injEq, ne_eq, not_false_eq_true, not_true_eq_false, false_and, and_false, List.cons.injEq, reduceCtorEq, Option.map_none, Option.isSome_some, Option.isSome_none, Option.getD_some, Option.getD_none, List.headD_cons, Option.isSome_map, mpF_str, keyA, kkOf, eqFs, eqC, reduceCtorEq]; rfl))
    (k : B K) : Rest Try.prog T ops l e d K r s := by
  unfold Rest
  rw [← evG_eq, ← evH_eq, h f]
  exact k
theorem w_xp {φ : Prop} {id : Nat} {ops : Array Oper} {e : Env} {s : Store} {Q : X → Env → Store → Prop} {B : (Env → Store → Prop) → Prop} (f : φ) (hp : (pureD ops && chkB ops ops.size) = true := by kernel_rfl) (h : φ → ∀ K, evH Try.prog T ops ops.toList e s K = B K := by (intro hf K; simp (maxSteps := 1000000) -implicitDefEqProofs only [hf, evH_nil, evH_cons, wantedA, List.getElem?_toArray, stepA, upd_some, upd_none, val, argE_at, Nat.reduceLT, reduceIte, List.getD_cons_zero, List.getD_cons_succ, List.getElem?_cons_succ, List.getElem?_cons_zero, getCells, abin, abinI, abinS, aun, Nat.reduceEqDiff, Nat.reduceAdd, ofV, Option.map_some, Option.bind_some, Bool.false_eq_true, splice, PV.flat, PV.one, Value.oneCell', List.all_cons, List.all_nil, Bool.and_true, Bool.true_and, List.length_cons, List.length_nil, List.length_map, List.take_succ_cons, List.take_zero, List.drop_succ_cons, List.drop_zero, List.cons_append, List.nil_append, Nat.reduceLeDiff, and_self, and_true, true_and, beq_self_eq_true, Bool.not_true, Bool.not_false, callA, lenX, rowsOf, intOf?, List.getElem?_concat_length, if_true, ite_true, ite_false, reduceBEq, List.map_cons, List.map_nil, List.toList_toArray, beq_true, beq_false, List.append_nil, set_concat, decide_true, decide_false, eq_self, Int.reduceEq, Int.reduceLT, Int.reduceLE, Int.reduceNeg, zrow, zpv, Z.val, buildRows, List.replicate_succ, List.replicate_zero, List.set_cons_zero, List.set_cons_succ, Nat.reduceMul, Nat.zero_lt_one, Array.size, appn2, appn3, Option.some.injEq, ne_eq, not_false_eq_true, not_true_eq_false, false_and, and_false, List.cons.injEq, reduceCtorEq, Option.map_none, Option.isSome_some, Option.isSome_none, Option.getD_some, Option.getD_none, List.headD_cons, Option.isSome_map, mpF_str, keyA, kkOf, eqFs, eqC, reduceCtorEq]; rfl))
    (k : B fun e s => Q .nrm e s) : Ev Try.prog T (.region id ops true) e s Q := .of (by
  refine evDraw_pure (by kernel_rfl) hp ?_
  rw [← evG_eq, ← evH_eq, h f]
  exact k)
theorem xv {φ : Prop} {a b : PV} (f : φ) (h : φ → a = b := by (intro hf; simp (maxSteps := 1000000) -implicitDefEqProofs only [hf, evH_nil, evH_cons, wantedA, List.getElem?_toArray, stepA, upd_some, upd_none, val, argE_at, Nat.reduceLT, reduceIte, List.getD_cons_zero, List.getD_cons_succ, List.getElem?_cons_succ, List.getElem?_cons_zero, getCells, abin, abinI, abinS, aun, Nat.reduceEqDiff, Nat.reduceAdd, ofV, Option.map_some, Option.bind_some, Bool.false_eq_true, splice, PV.flat, PV.one, Value.oneCell', List.all_cons, List.all_nil, Bool.and_true, Bool.true_and, List.length_cons, List.length_nil, List.length_map, List.take_succ_cons, List.take_zero, List.drop_succ_cons, List.drop_zero, List.cons_append, List.nil_append, Nat.reduceLeDiff, and_self, and_true, true_and, beq_self_eq_true, Bool.not_true, Bool.not_false, callA, lenX, rowsOf, intOf?, List.getElem?_concat_length, if_true, ite_true, ite_false, reduceBEq, List.map_cons, List.map_nil, List.toList_toArray, beq_true, beq_false, List.append_nil, set_concat, decide_true, decide_false, eq_self, Int.reduceEq, Int.reduceLT, Int.reduceLE, Int.reduceNeg, zrow, zpv, Z.val, buildRows, List.replicate_succ, List.replicate_zero, List.set_cons_zero, List.set_cons_succ, Nat.reduceMul, Nat.zero_lt_one, Array.size, appn2, appn3, Option.some.injEq, ne_eq, not_false_eq_true, not_true_eq_false, false_and, and_false, List.cons.injEq, reduceCtorEq, Option.map_none, Option.isSome_some, Option.isSome_none, Option.getD_some, Option.getD_none, List.headD_cons, Option.isSome_map, mpF_str, keyA, kkOf, eqFs, eqC, reduceCtorEq]; try rfl)) : a = b := h f
theorem xr {φ : Prop} {rs : Array ResultVar} {e : Env} {s : Store} {r : PV} (f : φ) (h : φ → resA T rs e s = some r := by (intro hf; simp (maxSteps := 1000000) -implicitDefEqProofs only [hf, resA, List.mapM_cons, List.mapM_nil, Option.bind_eq_bind, Option.pure_def, evH_nil, evH_cons, wantedA, List.getElem?_toArray, stepA, upd_some, upd_none, val, argE_at, Nat.reduceLT, reduceIte, List.getD_cons_zero, List.getD_cons_succ, List.getElem?_cons_succ, List.getElem?_cons_zero, getCells, abin, abinI, abinS, aun, Nat.reduceEqDiff, Nat.reduceAdd, ofV, Option.map_some, Option.bind_some, Bool.false_eq_true, splice, PV.flat, PV.one, Value.oneCell', List.all_cons, List.all_nil, Bool.and_true, Bool.true_and, List.length_cons, List.length_nil, List.length_map, List.take_succ_cons, List.take_zero, List.drop_succ_cons, List.drop_zero, List.cons_append, List.nil_append, Nat.reduceLeDiff, and_self, and_true, true_and, beq_self_eq_true, Bool.not_true, Bool.not_false, callA, lenX, rowsOf, intOf?, List.getElem?_concat_length, if_true, ite_true, ite_false, reduceBEq, List.map_cons, List.map_nil, List.toList_toArray, beq_true, beq_false, List.append_nil, set_concat, decide_true, decide_false, eq_self, Int.reduceEq, Int.reduceLT, Int.reduceLE, Int.reduceNeg, zrow, zpv, Z.val, buildRows, List.replicate_succ, List.replicate_zero, List.set_cons_zero, List.set_cons_succ, Nat.reduceMul, Nat.zero_lt_one, Array.size, appn2, appn3, Option.some.injEq, ne_eq, not_false_eq_true, not_true_eq_false, false_and, and_false, List.cons.injEq, reduceCtorEq, Option.map_none, Option.isSome_some, Option.isSome_none, Option.getD_some, Option.getD_none, List.headD_cons, Option.isSome_map, mpF_str, keyA, kkOf, eqFs, eqC, reduceCtorEq]; try rfl)) : resA T rs e s = some r := h f
theorem xt {φ : Prop} {c : Operand} {a b : Code} {e : Env} {s : Store} {Q : X → Env → Store → Prop} (f : φ) (h1 : Ev Try.prog T a e s Q) (hc : φ → val e c = .v (.bool true) := by (intro hf; simp (maxSteps := 1000000) -implicitDefEqProofs only [hf, evH_nil, evH_cons, wantedA, List.getElem?_toArray, stepA, upd_some, upd_none, val, argE_at, Nat.reduceLT, reduceIte, List.getD_cons_zero, List.getD_cons_succ, List.getElem?_cons_succ, List.getElem?_cons_zero, getCells, abin, abinI, abinS, aun, Nat.reduceEqDiff, Nat.reduceAdd, ofV, Option.map_some, Option.bind_some, Bool.false_eq_true, splice, PV.flat, PV.one, Value.oneCell', List.all_cons, List.all_nil, Bool.and_true, Bool.true_and, List.length_cons, List.length_nil, List.length_map, List.take_succ_cons, List.take_zero, List.drop_succ_cons, List.drop_zero, List.cons_append, List.nil_append, Nat.reduceLeDiff, and_self, and_true, true_and, beq_self_eq_true, Bool.not_true, Bool.not_false, callA, lenX, rowsOf, intOf?, List.getElem?_concat_length, if_true, ite_true, ite_false, reduceBEq, List.map_cons, List.map_nil, List.toList_toArray, beq_true, beq_false, List.append_nil, set_concat, decide_true, decide_false, eq_self, Int.reduceEq, Int.reduceLT, Int.reduceLE, Int.reduceNeg, zrow, zpv, Z.val, buildRows, List.replicate_succ, List.replicate_zero, List.set_cons_zero, List.set_cons_succ, Nat.reduceMul, Nat.zero_lt_one, Array.size, appn2, appn3, Option.some.injEq, ne_eq, not_false_eq_true, not_true_eq_false, false_and, and_false, List.cons.injEq, reduceCtorEq, Option.map_none, Option.isSome_some, Option.isSome_none, Option.getD_some, Option.getD_none, List.headD_cons, Option.isSome_map, mpF_str, keyA, kkOf, eqFs, eqC, reduceCtorEq]; try rfl)) : Ev Try.prog T (.cond c a b) e s Q := w_ct (hc f) h1
theorem xf {φ : Prop} {c : Operand} {a b : Code} {e : Env} {s : Store} {Q : X → Env → Store → Prop} (f : φ) (h1 : Ev Try.prog T b e s Q) (hc : φ → val e c = .v (.bool false) := by (intro hf; simp (maxSteps := 1000000) -implicitDefEqProofs only [hf, evH_nil, evH_cons, wantedA, List.getElem?_toArray, stepA, upd_some, upd_none, val, argE_at, Nat.reduceLT, reduceIte, List.getD_cons_zero, List.getD_cons_succ, List.getElem?_cons_succ, List.getElem?_cons_zero, getCells, abin, abinI, abinS, aun, Nat.reduceEqDiff, Nat.reduceAdd, ofV, Option.map_some, Option.bind_some, Bool.false_eq_true, splice, PV.flat, PV.one, Value.oneCell', List.all_cons, List.all_nil, Bool.and_true, Bool.true_and, List.length_cons, List.length_nil, List.length_map, List.take_succ_cons, List.take_zero, List.drop_succ_cons, List.drop_zero, List.cons_append, List.nil_append, Nat.reduceLeDiff, and_self, and_true, true_and, beq_self_eq_true, Bool.not_true, Bool.not_false, callA, lenX, rowsOf, intOf?, List.getElem?_concat_length, if_true, ite_true, ite_false, reduceBEq, List.map_cons, List.map_nil, List.toList_toArray, beq_true, beq_false, List.append_nil, set_concat, decide_true, decide_false, eq_self, Int.reduceEq, Int.reduceLT, Int.reduceLE, Int.reduceNeg, zrow, zpv, Z.val, buildRows, List.replicate_succ, List.replicate_zero, List.set_cons_zero, List.set_cons_succ, Nat.reduceMul, Nat.zero_lt_one, Array.size, appn2, appn3, Option.some.injEq, ne_eq, not_false_eq_true, not_true_eq_false, false_and, and_false, List.cons.injEq, reduceCtorEq, Option.map_none, Option.isSome_some, Option.isSome_none, Option.getD_some, Option.getD_none, List.headD_cons, Option.isSome_map, mpF_str, keyA, kkOf, eqFs, eqC, reduceCtorEq]; try rfl)) : Ev Try.prog T (.cond c a b) e s Q := w_cf (hc f) h1
theorem w_assoc {P : Program} {T : TypeId → Option TI} {s : Store} {e : Env} {Q : X → Env → Store → Prop} {a b c : Code} (h : Ev P T (.seq a (.seq b c)) e s Q) : Ev P T (.seq (.seq a b) c) e s Q :=
  .of (ev_mono a (fun x e s hx => by
    cases x with
    | nrm =>
      obtain ⟨e2, hw, hx⟩ := hx
      refine ⟨e2, hw, ev_mono b (fun y e s hy => ?_) e2 s hx⟩
      cases y <;> exact hy
    | ext i => exact hx
    | ret => exact hx) e s h.to)
theorem cw_n {I : Env → Store → Prop} {K : X → Env → Store → Prop} {e : Env} {s : Store} (h : ∃ e2, WkE e e2 ∧ I e2 s) : Cw I K .nrm e s := h
theorem cw_x {I : Env → Store → Prop} {K : X → Env → Store → Prop} {e : Env} {s : Store} {i : Nat} (h : K (.ext i) e s) : Cw I K (.ext i) e s := h
theorem cw_r {I : Env → Store → Prop} {K : X → Env → Store → Prop} {e : Env} {s : Store} (h : K .ret e s) : Cw I K .ret e s := h
theorem iq_n {V W : Type} {I : V → Env → Store → Prop} {x : V ⊕ W} {r : W} {Q : X → Env → Store → Prop} {e : Env} {s : Store} {v' : V} (hx : x = .inl v') (h : ∃ e2, WkE e e2 ∧ I v' e2 s) : Iq I x r Q .nrm e s := ⟨v', hx, h⟩
theorem iq_x {V W : Type} {I : V → Env → Store → Prop} {x : V ⊕ W} {r r' : W} {Q : X → Env → Store → Prop} {e : Env} {s : Store} {i : Nat} (hx : x = .inr r') (h : r' = r → Q (.ext i) e s) : Iq I x r Q (.ext i) e s := ⟨r', hx, h⟩
theorem iq_r {V W : Type} {I : V → Env → Store → Prop} {x : V ⊕ W} {r r' : W} {Q : X → Env → Store → Prop} {e : Env} {s : Store} (hx : x = .inr r') (h : r' = r → Q .ret e s) : Iq I x r Q .ret e s := ⟨r', hx, h⟩
theorem w_an {P : Program} {T : TypeId → Option TI} {s : Store} {e : Env} {Q : X → Env → Store → Prop} {c : Code} (I : Env → Store → Prop) (h : Ev P T c e s (Ct I Q)) (k : ∀ e s, I e s → Q .nrm e s) : Ev P T c e s Q :=
  h.mono fun x e s hx => by cases x <;> first | exact k e s hx | exact hx
theorem ct_n {I : Env → Store → Prop} {K : X → Env → Store → Prop} {e : Env} {s : Store} (h : I e s) : Ct I K .nrm e s := h
theorem ct_r {I : Env → Store → Prop} {K : X → Env → Store → Prop} {e : Env} {s : Store} (h : K .ret e s) : Ct I K .ret e s := h
theorem w_fin {fn : Func} {K : PV → Store → Prop} {x : X} {r r' : PV} {σ s : Store} {e : Env} (hx : x ≠ .nrm → x = .ret) (h1 : resA T fn.results e s = some r) (hp : Pre σ s) (hw : Wk r r') (hc : Cn r') (hk : K r' σ) : Bd T fn (Pw σ K) x e s := w_end hx h1 ⟨hp, r', hw, hc, hk⟩
def CnL (l : List PV) : Prop := ∀ p ∈ l, Cn p
theorem CnL.nil : CnL [] := fun p hp => by simp at hp
theorem CnL.cons {p : PV} {l : List PV} (h : Cn p) (hl : CnL l) : CnL (p :: l) := fun q hq => by
  rcases List.mem_cons.1 hq with rfl | hq
  · exact h
  · exact hl q hq
theorem Cn.rows {α : Type} {f : α → List PV} (h : ∀ x, CnL (f x)) (l : List α) : Cn (.sl (l.map f)) := .sl fun r hr p hp => by
  obtain ⟨x, _, rfl⟩ := List.mem_map.1 hr
  exact h x p hp
theorem map_get {α β : Type} {f : α → β} {l : List α} {i : Nat} {x : α} (h : l[i]? = some x) : (l.map f)[i]? = some (f x) := by rw [List.getElem?_map, h]; rfl
theorem map_len {α : Type} {f : α → List PV} {n : Nat} (h : ∀ x, (f x).length = n) (l : List α) : ∀ r ∈ l.map f, r.length = n := fun r hr => by
  obtain ⟨x, _, rfl⟩ := List.mem_map.1 hr
  exact h x
theorem ite_t {α : Type} {c : Bool} {a b : Option α} {r : α} (hc : c = true) (h : (if c then a else b) = some r) : a = some r := by rw [hc] at h; exact h
theorem ite_f {α : Type} {c : Bool} {a b : Option α} {r : α} (hc : c = false) (h : (if c then a else b) = some r) : b = some r := by rw [hc] at h; exact h
noncomputable def evDc (P : Program) (T : TypeId → Option TI) (ops : Array Oper) (H : Store) (base : Nat) : List Oper → Nat → Env → Store → (Env → Store → Prop) → Prop
  | [], _, e, s, K => K e s
  | o :: rest, j, e, s, K => match wantedA ops o e with
    | some true => if isEff o.op then (match stepA T o.op e s with
        | .val p => evDc P T ops H base rest j (upd e o.dst p) s K
        | .eff p s' => sub H s' ∧ evDc P T ops H base rest j (upd e o.dst p) s' K
        | .call f args => EC P f args s (fun r s' => sub H s' ∧ evDc P T ops H base rest j (upd e o.dst r) s' K)
        | _ => False)
      else (match stepA T o.op e H with
        | .val p => evDc P T ops H base rest (if isNew o.op then j + 1 else j) (upd e o.dst p) s K
        | .new ob mk => evDc P T ops H base rest (j + 1) (upd e o.dst (mk (base + j))) (s.set (base + j) (some ob)) K
        | _ => False)
    | some false => evDc P T ops H base rest (if isNew o.op then j + 1 else j) (upd e o.dst (.tu [])) s K
    | none => False
theorem newIdx_next {ops : Array Oper} {i : Nat} {o : Oper} (h : ops.toList[i]? = some o) : newIdx ops (i + 1) = if isNew o.op then newIdx ops i + 1 else newIdx ops i := by
  unfold newIdx
  rw [List.take_add_one, h]
  simp only [Option.toList_some, List.filter_append, List.length_append, List.filter_cons, List.filter_nil]
  split <;> simp
theorem eff_not_new {o : Op} (h : isEff o = true) : isNew o = false := by
  cases o <;> simp [isEff, isNew] at h ⊢
theorem evDc_evDl {P : Program} {T : TypeId → Option TI} {ops : Array Oper} {H : Store} {base : Nat} {K : Env → Store → Prop} : ∀ (l : List Oper) (i : Nat) (e : Env) (s : Store), ops.toList.drop i = l → evDc P T ops H base l (newIdx ops i) e s K → evDl P T ops H base l i e s K
  | [], i, e, s, _, h => h
  | o :: l, i, e, s, hl, h => by
    have hi : ops.toList[i]? = some o := by
      have := congrArg (fun x => x[0]?) hl
      simpa using this
    have hl' : ops.toList.drop (i + 1) = l := by
      have := congrArg List.tail hl
      simpa using this
    have hn := newIdx_next hi
    have go := fun e s => evDc_evDl (P := P) (T := T) (H := H) (base := base) (K := K) l (i + 1) e s hl'
    rw [hn] at go
    unfold evDl evD1
    unfold evDc at h
    split at h
    · rename_i hw
      rw [hw]
      simp only
      unfold stepD
      split at h
      · rename_i hE
        rw [if_pos hE]
        rw [eff_not_new hE] at go
        simp only [Bool.false_eq_true, if_false] at go
        split at h
        · rename_i p hr
          rw [hr]
          exact go _ _ h
        · rename_i p s' hr
          rw [hr]
          exact ⟨h.1, go _ _ h.2⟩
        · rename_i f args hr
          rw [hr]
          exact h.mono fun r s' hk => ⟨hk.1, go _ _ hk.2⟩
        · exact h.elim
      · rename_i hE
        rw [if_neg hE]
        split at h
        · rename_i p hr
          rw [hr]
          exact go _ _ h
        · rename_i ob mk hr
          rw [(new_isNew hr).1] at go
          simp only [if_true] at go
          rw [hr]
          exact go _ _ h
        · exact h.elim
    · rename_i hw
      rw [hw]
      exact go _ _ h
    · exact h.elim
def RestD (P : Program) (T : TypeId → Option TI) (ops : Array Oper) (H : Store) (base : Nat) (rest : List Oper) (j : Nat) (e : Env) (d : Option Tmp) (K : Env → Store → Prop) (r : PV) (s : Store) : Prop := sub H s ∧ evDc P T ops H base rest j (upd e d r) s K
noncomputable def evDC : (P : Program) → (T : TypeId → Option TI) → (ops : Array Oper) → (H : Store) → (base : Nat) → List Oper → Nat → Env → Store → (Env → Store → Prop) → Prop := Classical.choose (⟨@evDc, rfl⟩ : ∃ f, f = @evDc)
theorem evDC_eq : @evDC = @evDc := Classical.choose_spec (⟨@evDc, rfl⟩ : ∃ f, f = @evDc)
theorem evDC_nil {P : Program} {T : TypeId → Option TI} {ops : Array Oper} {H : Store} {base j : Nat} {K : Env → Store → Prop} (e : Env) (s : Store) : evDC P T ops H base [] j e s K = K e s := by rw [evDC_eq]; rfl
theorem evDC_cons {P : Program} {T : TypeId → Option TI} {ops : Array Oper} {H : Store} {base j : Nat} {K : Env → Store → Prop} (o : Oper) (rest : List Oper) (e : Env) (s : Store) : evDC P T ops H base (o :: rest) j e s K = match wantedA ops o e with
    | some true => if isEff o.op then (match stepA T o.op e s with
        | .val p => evDC P T ops H base rest j (upd e o.dst p) s K
        | .eff p s' => sub H s' ∧ evDC P T ops H base rest j (upd e o.dst p) s' K
        | .call f args => EC P f args s (RestD P T ops H base rest j e o.dst K)
        | _ => False)
      else (match stepA T o.op e H with
        | .val p => evDC P T ops H base rest (if isNew o.op then j + 1 else j) (upd e o.dst p) s K
        | .new ob mk => evDC P T ops H base rest (j + 1) (upd e o.dst (mk (base + j))) (s.set (base + j) (some ob)) K
        | _ => False)
    | some false => evDC P T ops H base rest (if isNew o.op then j + 1 else j) (upd e o.dst (.tu [])) s K
    | none => False := by rw [evDC_eq]; rfl
theorem set_app0 (s l : Store) (a b : Option AObj) : (s ++ a :: l).set s.length b = s ++ b :: l := by simp
theorem set_app1 (s l : Store) (a b c : Option AObj) : (s ++ a :: b :: l).set (s.length + 1) c = s ++ a :: c :: l := by simp
theorem set_app2 (s l : Store) (a b c d : Option AObj) : (s ++ a :: b :: c :: l).set (s.length + 2) d = s ++ a :: b :: d :: l := by simp
theorem get_app0 (s l : Store) (a : Option AObj) : (s ++ a :: l)[s.length]? = some a := by simp
theorem get_app1 (s l : Store) (a b : Option AObj) : (s ++ a :: b :: l)[s.length + 1]? = some b := by simp
theorem get_app2 (s l : Store) (a b c : Option AObj) : (s ++ a :: b :: c :: l)[s.length + 2]? = some c := by simp
theorem Bx.at {σ s : Store} (h : Pre σ s) {l : Store} {j : Nat} {t : TypeId} {c : List PV} (hl : l[j]? = some (some (.box t c))) : Bx σ (s ++ l) (s.length + j) t c := ⟨by have := h.le; omega, by rw [List.getElem?_append_right (by omega), Nat.add_sub_cancel_left]; exact hl⟩
theorem w_xd {φ : Prop} {id : Nat} {ops : Array Oper} {e : Env} {s : Store} {Q : X → Env → Store → Prop} {B : (Env → Store → Prop) → Prop} (k : Nat) (n : Nat) (f : φ) (hc : (chkB ops k && chkD (opsTo ops k) && newAll (opsTo ops k) == n) = true := by kernel_rfl)
    (h : φ → ∀ K, evDC Try.prog T (opsTo ops k) s s.length (opsTo ops k).toList 0 e (s ++ List.replicate n (some .res)) K = B K := by (simp only [opsTo, List.take_succ_cons, List.take_zero, List.take_nil]; (intro hf K; simp (maxSteps := 1000000) -implicitDefEqProofs only [hf, evDC_nil, evDC_cons, isEff, isNew, sub_self, sub_apps, Nat.add_zero, Nat.zero_add, set_app0, set_app1, set_app2, get_app0, get_app1, get_app2, wantedA, List.getElem?_toArray, stepA, upd_some, upd_none, val, argE_at, Nat.reduceLT, reduceIte, List.getD_cons_zero, List.getD_cons_succ, List.getElem?_cons_succ, List.getElem?_cons_zero, getCells, abin, abinI, abinS, aun, Nat.reduceEqDiff, Nat.reduceAdd, ofV, Option.map_some, Option.bind_some, Bool.false_eq_true, splice, PV.flat, PV.one, Value.oneCell', List.all_cons, List.all_nil, Bool.and_true, Bool.true_and, List.length_cons, List.length_nil, List.length_map, List.take_succ_cons, List.take_zero, List.drop_succ_cons, List.drop_zero, List.cons_append, List.nil_append, Nat.reduceLeDiff, and_self, and_true, true_and, beq_self_eq_true, Bool.not_true, Bool.not_false, callA, lenX, rowsOf, intOf?, List.getElem?_concat_length, if_true, ite_true, ite_false, reduceBEq, List.map_cons, List.map_nil, List.toList_toArray, beq_true, beq_false, List.append_nil, set_concat, decide_true, decide_false, eq_self, Int.reduceEq, Int.reduceLT, Int.reduceLE, Int.reduceNeg, zrow, zpv, Z.val, buildRows, List.replicate_succ, List.replicate_zero, List.set_cons_zero, List.set_cons_succ, Nat.reduceMul, Nat.zero_lt_one, Array.size, appn2, appn3, Option.some.injEq, ne_eq, not_false_eq_true, not_true_eq_false, false_and, and_false, List.cons.injEq, reduceCtorEq, Option.map_none, Option.isSome_some, Option.isSome_none, Option.getD_some, Option.getD_none, List.headD_cons, Option.isSome_map, mpF_str, keyA, kkOf, eqFs, eqC, reduceCtorEq]; rfl)))
    (hk : B fun e s => evH Try.prog T ops (ops.toList.drop k) e s fun e s => Q .nrm e s) : Ev Try.prog T (.region id ops true) e s Q := .of (by
  simp only [Bool.and_eq_true, beq_iff_eq] at hc
  obtain ⟨⟨h0, h1⟩, h2⟩ := hc
  refine ⟨by kernel_rfl, k, h0, h1, s, ?_, ?_⟩
  · rw [sub_apps]; trivial
  · rw [h2]
    refine evDc_evDl (opsTo ops k).toList 0 e _ (by simp) ?_
    have h0 : newIdx (opsTo ops k) 0 = 0 := by simp [newIdx]
    rw [h0, ← evDC_eq, h f]
    rw [evH_eq] at hk
    simpa only [evG_eq] using hk)
theorem w_xs {φ : Prop} {ops : Array Oper} {l : List Oper} {e : Env} {s : Store} {K : Env → Store → Prop} {B : (Env → Store → Prop) → Prop} (f : φ) (h : φ → ∀ K, evH Try.prog T ops l e s K = B K := by (intro hf K; simp (maxSteps := 1000000) -implicitDefEqProofs only [hf, evH_nil, evH_cons, wantedA, List.getElem?_toArray, stepA, upd_some, upd_none, val, argE_at, Nat.reduceLT, reduceIte, List.getD_cons_zero, List.getD_cons_succ, List.getElem?_cons_succ, List.getElem?_cons_zero, getCells, abin, abinI, abinS, aun, Nat.reduceEqDiff, Nat.reduceAdd, ofV, Option.map_some, Option.bind_some, Bool.false_eq_true, splice, PV.flat, PV.one, Value.oneCell', List.all_cons, List.all_nil, Bool.and_true, Bool.true_and, List.length_cons, List.length_nil, List.length_map, List.take_succ_cons, List.take_zero, List.drop_succ_cons, List.drop_zero, List.cons_append, List.nil_append, Nat.reduceLeDiff, and_self, and_true, true_and, beq_self_eq_true, Bool.not_true, Bool.not_false, callA, lenX, rowsOf, intOf?, List.getElem?_concat_length, if_true, ite_true, ite_false, reduceBEq, List.map_cons, List.map_nil, List.toList_toArray, beq_true, beq_false, List.append_nil, set_concat, decide_true, decide_false, eq_self, Int.reduceEq, Int.reduceLT, Int.reduceLE, Int.reduceNeg, zrow, zpv, Z.val, buildRows, List.replicate_succ, List.replicate_zero, List.set_cons_zero, List.set_cons_succ, Nat.reduceMul, Nat.zero_lt_one, Array.size, appn2, appn3, Option.some.injEq, ne_eq, not_false_eq_true, not_true_eq_false, false_and, and_false, List.cons.injEq, reduceCtorEq, Option.map_none, Option.isSome_some, Option.isSome_none, Option.getD_some, Option.getD_none, List.headD_cons, Option.isSome_map, mpF_str, keyA, kkOf, eqFs, eqC, reduceCtorEq]; rfl)) (k : B K) : evH Try.prog T ops l e s K := by
  rw [h f]
  exact k
theorem w_yd {φ : Prop} {ops : Array Oper} {H : Store} {base j : Nat} {l : List Oper} {d : Option Tmp} {r : PV} {e : Env} {s : Store} {K : Env → Store → Prop} {B : (Env → Store → Prop) → Prop} (f : φ) (hs : sub H s := by (first | exact fun _ _ h => h | exact of_eq_true (sub_apps _ _)))
    (h : φ → ∀ K, evDC Try.prog T ops H base l j (upd e d r) s K = B K := by (intro hf K; simp (maxSteps := 1000000) -implicitDefEqProofs only [hf, evDC_nil, evDC_cons, isEff, isNew, sub_self, sub_apps, Nat.add_zero, Nat.zero_add, set_app0, set_app1, set_app2, get_app0, get_app1, get_app2, wantedA, List.getElem?_toArray, stepA, upd_some, upd_none, val, argE_at, Nat.reduceLT, reduceIte, List.getD_cons_zero, List.getD_cons_succ, List.getElem?_cons_succ, List.getElem?_cons_zero, getCells, abin, abinI, abinS, aun, Nat.reduceEqDiff, Nat.reduceAdd, ofV, Option.map_some, Option.bind_some, Bool.false_eq_true, splice, PV.flat, PV.one, Value.oneCell', List.all_cons, List.all_nil, Bool.and_true, Bool.true_and, List.length_cons, List.length_nil, List.length_map, List.take_succ_cons, List.take_zero, List.drop_succ_cons, List.drop_zero, List.cons_append, List.nil_append, Nat.reduceLeDiff, and_self, and_true, true_and, beq_self_eq_true, Bool.not_true, Bool.not_false, callA, lenX, rowsOf, intOf?, List.getElem?_concat_length, if_true, ite_true, ite_false, reduceBEq, List.map_cons, List.map_nil, List.toList_toArray, beq_true, beq_false, List.append_nil, set_concat, decide_true, decide_false, eq_self, Int.reduceEq, Int.reduceLT, Int.reduceLE, Int.reduceNeg, zrow, zpv, Z.val, buildRows, List.replicate_succ, List.replicate_zero, List.set_cons_zero, List.set_cons_succ, Nat.reduceMul, Nat.zero_lt_one, Array.size, appn2, appn3, Option.some.injEq, ne_eq, not_false_eq_true, not_true_eq_false, false_and, and_false, List.cons.injEq, reduceCtorEq, Option.map_none, Option.isSome_some, Option.isSome_none, Option.getD_some, Option.getD_none, List.headD_cons, Option.isSome_map, mpF_str, keyA, kkOf, eqFs, eqC, reduceCtorEq]; rfl))
    (k : B K) : RestD Try.prog T ops H base l j e d K r s := by
  refine ⟨hs, ?_⟩
  rw [← evDC_eq, h f]
  exact k
theorem mpF_put {V : Type} {f : V → PV} {m r : Mp V} {k : ByteArray} {v : V} (h : putO m k v = some r) : AObj.map .s (upm (mpF f m.get) (.string k) (f v)) (m.n + 1) = .map .s (mpF f r.get) r.n := by
  obtain ⟨_, rfl⟩ := putO_some h
  have : upm (mpF f m.get) (.string k) (f v) = mpF f (m.put k v).get := by
    funext x
    unfold upm mpF Mp.put
    by_cases hx : x = .string k
    · subst hx
      simp
    · rw [if_neg hx]
      cases x with
      | string s =>
        have : s ≠ k := fun he => hx (by rw [he])
        simp [this]
      | _ => rfl
  rw [this]
  rfl
theorem mpF_emp {V : Type} (f : V → PV) : AObj.map .s (fun _ => none) 0 = .map .s (mpF f (Mp.emp : Mp V).get) (Mp.emp : Mp V).n := by
  have : mpF f (Mp.emp : Mp V).get = fun _ => none := by
    funext x
    cases x <;> rfl
  rw [this]
  rfl
structure Gx (s : Store) (i : Nat) (o : AObj) : Prop where
  get : s[i]? = some (some o)
section
variable {σ τ s s' : Store} {i j : Nat} {o o' : AObj}
theorem Gx.lt (h : Gx s i o) : i < s.length := (List.getElem?_eq_some_iff.1 h.get).1
theorem Gx.app (h : Gx s i o) (x : Store) : Gx (s ++ x) i o := ⟨by rw [List.getElem?_append_left h.lt]; exact h.get⟩
theorem Gx.any (h : Gx s i o) : ∀ x, (s ++ x)[i]? = some (some o) := fun x => (h.app x).get
theorem Gx.any2 (h : Gx s i o) : ∀ x y, (s ++ x ++ y)[i]? = some (some o) := fun x y => ((h.app x).app y).get
theorem Gx.same (h : Gx s i o) (o' : AObj) : Gx (s.set i (some o')) i o' := ⟨by rw [List.getElem?_set_self h.lt]⟩
theorem Gx.ne (h : Gx s i o) (hne : j ≠ i) (x : Option AObj) : Gx (s.set j x) i o := ⟨by rw [List.getElem?_set_ne hne]; exact h.get⟩
theorem Gx.new (s : Store) (o : AObj) : Gx (s ++ [some o]) s.length o := ⟨by simp⟩
theorem Gx.at (s : Store) {l : Store} {j : Nat} {o : AObj} (hl : l[j]? = some (some o)) : Gx (s ++ l) (s.length + j) o := ⟨by rw [List.getElem?_append_right (by omega), Nat.add_sub_cancel_left]; exact hl⟩
theorem Gx.cast (h : Gx s i o) (he : o = o') : Gx s i o' := he ▸ h
theorem Gx.apart (h : Gx s i o) (h' : Gx s j o') (hne : o ≠ o') : i ≠ j := fun e => hne (by subst e; have := h.get.symm.trans h'.get; injection this with this; injection this)
theorem Bx.gx {t : TypeId} {c : List PV} (h : Bx σ s i t c) : Gx s i (.box t c) := ⟨h.get⟩
theorem Gx.keep {q : PV} {ty : TypeId} {sz : Nat} {rows : List (List PV)} (h : Gx s i o) (ho : ∀ a b c, o ≠ .tok a b c) (ha : Acc σ s q ty sz rows) (k : Keep q s s') : Gx s' i o := by
  refine ⟨k.1 i _ h.get fun r hr => ?_⟩
  rcases ha with ⟨_, rfl | rfl⟩ | ⟨k, rfl, h2, h3⟩
  · cases hr
  · cases hr
  · injection hr with h4 h5
    subst h4
    have := h.get.symm.trans h3
    injection this with this
    injection this with this
    exact ho _ _ _ this
theorem Acc.setg {p : PV} {ty : TypeId} {sz : Nat} {rows : List (List PV)} (h : Acc σ s p ty sz rows) (hb : Gx s i o) (ho : ∀ a b c, o ≠ .tok a b c) (x : Option AObj) : Acc σ (s.set i x) p ty sz rows := by
  rcases h with h | ⟨k, h1, h2, h3⟩
  · exact .inl h
  · refine .inr ⟨k, h1, h2, ?_⟩
    rw [List.getElem?_set_ne]
    · exact h3
    · rintro rfl
      have := hb.get.symm.trans h3
      injection this with this
      injection this with this
      exact ho _ _ _ this
theorem Pre.setp (h : Pre τ s) {i : Nat} (hi : i < τ.length) (o : Option AObj) : Pre (τ.set i o) (s.set i o) := by
  obtain ⟨ex, rfl⟩ := h
  exact ⟨ex, by rw [List.set_append_left _ _ hi]⟩
theorem Pre.trans {ρ : Store} (h : Pre τ s) (h' : Pre s ρ) : Pre τ ρ := by
  obtain ⟨ex, rfl⟩ := h
  obtain ⟨ey, rfl⟩ := h'
  exact ⟨ex ++ ey, by rw [List.append_assoc]⟩
def Fr (σ τ : Store) (S : List Nat) : Prop := τ.length = σ.length ∧ ∀ j, j ∉ S → τ[j]? = σ[j]?
theorem Fr.refl (σ : Store) (S : List Nat) : Fr σ σ S := ⟨rfl, fun _ _ => rfl⟩
theorem Fr.set {S : List Nat} (h : Fr σ τ S) {i : Nat} (hi : i ∈ S) (o : Option AObj) : Fr σ (τ.set i o) S := ⟨by simp [h.1], fun j hj => by rw [List.getElem?_set_ne (by rintro rfl; exact hj hi)]; exact h.2 j hj⟩
theorem Fr.ge {S : List Nat} (h : Fr σ τ S) {i : Nat} (hi : σ.length ≤ i) : τ.length ≤ i := by rw [h.1]; exact hi
theorem Fr.lt {S : List Nat} (h : Fr σ τ S) {i : Nat} (hi : i < σ.length) : i < τ.length := by rw [h.1]; exact hi
theorem Bx.newf {S : List Nat} (hf : Fr σ τ S) (h : Pre τ s) (t : TypeId) (c : List PV) : Bx σ (s ++ [some (.box t c)]) s.length t c := ⟨by rw [← hf.1]; exact h.le, by simp⟩
theorem Bx.atf {S : List Nat} (hf : Fr σ τ S) (h : Pre τ s) {l : Store} {j : Nat} {t : TypeId} {c : List PV} (hl : l[j]? = some (some (.box t c))) : Bx σ (s ++ l) (s.length + j) t c := ⟨by rw [← hf.1]; have := h.le; omega, by rw [List.getElem?_append_right (by omega), Nat.add_sub_cancel_left]; exact hl⟩
def setAll (σ : Store) : List (Nat × AObj) → Store
  | [] => σ
  | (i, o) :: l => setAll (σ.set i (some o)) l
theorem setAll_len : ∀ (l : List (Nat × AObj)) (σ : Store), (setAll σ l).length = σ.length
  | [], σ => rfl
  | (i, o) :: l, σ => by rw [setAll, setAll_len l]; simp
theorem setAll_out : ∀ (l : List (Nat × AObj)) (σ : Store) (j : Nat), j ∉ l.map (·.1) → (setAll σ l)[j]? = σ[j]?
  | [], σ, j, _ => rfl
  | (i, o) :: l, σ, j, h => by
    simp only [List.map_cons, List.mem_cons, not_or] at h
    rw [setAll, setAll_out l _ j h.2, List.getElem?_set_ne (fun e => h.1 e.symm)]
theorem setAll_in : ∀ (l : List (Nat × AObj)) (σ : Store) (i : Nat) (o : AObj), (l.map (·.1)).Nodup → (i, o) ∈ l → i < σ.length → (setAll σ l)[i]? = some (some o)
  | [], σ, i, o, _, h, _ => by cases h
  | (k, o') :: l, σ, i, o, hn, h, hi => by
    simp only [List.map_cons, List.nodup_cons] at hn
    rw [setAll]
    rcases List.mem_cons.1 h with h | h
    · injection h with h1 h2
      subst h1 h2
      rw [setAll_out l _ i hn.1, List.getElem?_set_self hi]
    · exact setAll_in l _ i o hn.2 h (by simpa using hi)
theorem Fr.eq {l : List (Nat × AObj)} (h : Fr σ τ (l.map (·.1))) (hn : (l.map (·.1)).Nodup) (hl : ∀ x ∈ l, x.1 < σ.length ∧ τ[x.1]? = some (some x.2)) : τ = setAll σ l := by
  apply List.ext_getElem?
  intro j
  by_cases hj : j ∈ l.map (·.1)
  · obtain ⟨⟨i, o⟩, hx, rfl⟩ := List.mem_map.1 hj
    obtain ⟨h1, h2⟩ := hl _ hx
    rw [h2, setAll_in l σ i o hn hx h1]
  · rw [h.2 j hj, setAll_out l σ j hj]
theorem Pre.get (h : Pre τ s) {i : Nat} (hi : i < τ.length) : s[i]? = τ[i]? := by
  obtain ⟨ex, rfl⟩ := h
  rw [List.getElem?_append_left hi]
theorem Gx.back (h : Gx s i o) (hp : Pre τ s) (hi : i < τ.length) : τ[i]? = some (some o) := by rw [← hp.get hi]; exact h.get
inductive CnO : AObj → Prop
  | box {t : TypeId} {c : List PV} : (∀ p ∈ c, Cn p) → CnO (.box t c)
  | map {kk : KK} {m : Value → Option PV} {n : Nat} : (∀ k p, m k = some p → Cn p) → CnO (.map kk m n)
theorem CnO.cl {o : AObj} (h : CnO o) (n : Nat) : ClO n o := by
  cases h with
  | box h => exact fun c hc => (h c hc).cl n
  | map h => exact fun k p hk => (h k p hk).cl n
theorem CnO.mp {V : Type} {f : V → PV} (h : ∀ v, Cn (f v)) (g : ByteArray → Option V) (n : Nat) : CnO (.map .s (mpF f g) n) := .map fun k p hk => by
  unfold mpF at hk
  split at hk
  · obtain ⟨v, _, rfl⟩ := Option.map_eq_some_iff.1 hk
    exact h v
  · cases hk
def ClL (n : Nat) (l : List PV) : Prop := ∀ p ∈ l, Cl n p
theorem ClL.nil {n : Nat} : ClL n [] := fun p hp => by simp at hp
theorem ClL.cons {n : Nat} {p : PV} {l : List PV} (h : Cl n p) (hl : ClL n l) : ClL n (p :: l) := fun q hq => by
  rcases List.mem_cons.1 hq with rfl | hq
  · exact h
  · exact hl q hq
theorem ClO.bx {n : Nat} {t : TypeId} {c : List PV} (h : ClL n c) : ClO n (.box t c) := h
def Pq (σ : Store) (l : List (Nat × AObj)) (K : PV → Store → Prop) (r : PV) (s : Store) : Prop := Pre (setAll σ l) s ∧ ∃ r', Wk r r' ∧ Cn r' ∧ K r' (setAll σ l)
end
theorem w_fq {σ : Store} {f : FuncId} {fn : Func} {c : Code} {args : List PV} {K : PV → Store → Prop} {Q : PV → Store → Prop} (hf : Try.prog.funcs[f]? = some fn) (hname : (fn.name == "runtime.NumGoroutine") = false) (hb : fn.body = some c) (hc : (codeOK fn.ntmps c && decide (args.length ≤ fn.ntmps)) = true)
    (hQ : ∀ r s, Q r s → ∃ l : List (Nat × AObj), (l.map (·.1)).Nodup ∧ (∀ x ∈ l, x.1 < σ.length ∧ ClO σ.length x.2) ∧ Pq σ l K r s)
    (h : Ev Try.prog E.T c (argE args) σ (Bd E.T fn Q)) : EC Try.prog f args σ K :=
  EC.drop (EC.wkr ((w_fn hf hname hb hc h).mono fun r s hq => by
    obtain ⟨l, hn, hl, ⟨ex, he⟩, r', h2, h3, h4⟩ := hQ r s hq
    refine ⟨r', h2, setAll σ l, ex, he, setAll_len _ _, fun i ob hi => ?_, h3.cl _, h4⟩
    by_cases hj : i ∈ l.map (·.1)
    · obtain ⟨⟨i', o⟩, hx, rfl⟩ := List.mem_map.1 hj
      have h5 := setAll_in l σ i' o hn hx (hl _ hx).1
      have := hi.1.symm.trans h5
      injection this with this
      injection this with this
      subst this
      exact .inr (hl _ hx).2
    · exact .inl ⟨by rw [← setAll_out l σ i hj]; exact hi.1, hi.2⟩))
end Go.Proofs.Ytohmmfimedgccaa.E
end
section
namespace Go.Proofs.Ytohmmfimedgccaa.E
set_option linter.unusedVariables false
def RC (w : World) (cs : List Value) (ps : List PV) : Prop := cs.length = ps.length ∧ ∀ (i : Nat) v p, cs[i]? = some v → ps[i]? = some p → v.oneCell' = true ∧ R [] (fun _ => 0) w v p
theorem RC.one {w : World} {v : Value} {p : PV} (h1 : v.oneCell' = true) (h : R [] (fun _ => 0) w v p) : RC w [v] [p] := ⟨rfl, fun i x q hx hq => by
  match i with
  | 0 => simp at hx hq; subst hx hq; exact ⟨h1, h⟩
  | n + 1 => simp at hx⟩
theorem RC.app {w : World} {cs ds : List Value} {ps qs : List PV} (h : RC w cs ps) (h' : RC w ds qs) : RC w (cs ++ ds) (ps ++ qs) := ⟨by simp [h.1, h'.1], fun i v p hv hp => by
  by_cases hi : i < cs.length
  · rw [List.getElem?_append_left hi] at hv
    rw [List.getElem?_append_left (by have := h.1; omega)] at hp
    exact h.2 i v p hv hp
  · rw [List.getElem?_append_right (by omega)] at hv
    rw [List.getElem?_append_right (by have := h.1; omega), ← h.1] at hp
    exact h'.2 _ v p hv hp⟩
def RO {α : Type} (P : Program) (t : TypeId) (f : α → List PV) (G : α → Prop) (n : Nat) : Prop :=
  ∀ (H : Type) (enc : TypeId × Value → H) (w : World) (base : Nat) (spare : Nat → Bool) (held : Bool) (m : Nat), m ≤ n → ∀ (cs : List Value) (r : DataW H × List MemPlace),
    DataW.trod enc P w base spare held m t cs = some r → (∀ x ∈ DataW.weights P t r.1, x ≤ reachBytes) → ∃ x, RC w cs (f x) ∧ G x
theorem RO.down {α : Type} {P : Program} {t : TypeId} {f : α → List PV} {G : α → Prop} {n k : Nat} (h : RO P t f G n) (hk : k ≤ n) : RO P t f G k :=
  fun H enc w base spare held m hm cs r hr hw => h H enc w base spare held m (Nat.le_trans hm hk) cs r hr hw
theorem RO.imp {α : Type} {P : Program} {t : TypeId} {f : α → List PV} {G G' : α → Prop} {n : Nat} (h : RO P t f G n) (hg : ∀ x, G x → G' x) : RO P t f G' n :=
  fun H enc w base spare held m hm cs r hr hw => let ⟨x, h1, h2⟩ := h H enc w base spare held m hm cs r hr hw; ⟨x, h1, hg x h2⟩
theorem ro_int {P : Program} {t : TypeId} {k : IntKind} (ht : P.underlying t = some (.int k)) (n : Nat) : RO P t (fun x : Int => [.v (.int k x)]) (fun x => (Lit.int k x).wf = true) n := by
  intro H enc w base spare held m _ cs r hr _
  obtain ⟨x, rfl, _, hw⟩ := DataW.trod_int ht hr
  exact ⟨x, .one rfl (.v _ rfl), hw⟩
theorem ro_string {P : Program} {t : TypeId} (ht : P.underlying t = some .string) (n : Nat) : RO P t (fun x : ByteArray => [.v (.string x)]) (fun x => x.size ≤ reachBytes) n := by
  intro H enc w base spare held m _ cs r hr hw
  obtain ⟨x, rfl, rfl, _⟩ := DataW.trod_string ht hr
  refine ⟨x, .one rfl (.v _ rfl), ?_⟩
  have := hw x.data.toList.length (by simp [DataW.weights])
  rwa [Array.length_toList] at this
theorem list_of {α : Type} {n : Nat} {Q : Nat → α → Prop} (h : ∀ i, i < n → ∃ x, Q i x) : ∃ l : List α, l.length = n ∧ ∀ i x, l[i]? = some x → Q i x := by
  induction n with
  | zero => exact ⟨[], rfl, fun i x hi => by simp at hi⟩
  | succ n ih =>
    obtain ⟨l, hl, hq⟩ := ih fun i hi => h i (by omega)
    obtain ⟨x, hx⟩ := h n (by omega)
    refine ⟨l ++ [x], by simp [hl], fun i y hi => ?_⟩
    by_cases hlt : i < l.length
    · rw [List.getElem?_append_left hlt] at hi
      exact hq i y hi
    · rw [List.getElem?_append_right (by omega)] at hi
      have h0 : i - l.length = 0 := by
        rcases Nat.eq_zero_or_pos (i - l.length) with h | h
        · exact h
        · rw [List.getElem?_eq_none (by simp; omega)] at hi
          cases hi
      rw [h0] at hi
      simp only [List.getElem?_cons_zero, Option.some.injEq] at hi
      rw [← hi, show i = n by omega]
      exact hx
theorem weightsAll_mem {H : Type} {P : Program} {e : TypeId} : ∀ {l : List (DataW H)} {i : Nat} {d : DataW H} {x : Nat}, l[i]? = some d → x ∈ DataW.weights P e d → x ∈ DataW.weightsAll P e l
  | [], i, d, x, h, _ => by simp at h
  | y :: l, 0, d, x, h, hx => by
    simp at h
    subst h
    unfold DataW.weightsAll
    exact List.mem_append_left _ hx
  | y :: l, i + 1, d, x, h, hx => by
    unfold DataW.weightsAll
    exact List.mem_append_right _ (weightsAll_mem (by simpa using h) hx)
theorem ro_slice {α : Type} {P : Program} {t e : TypeId} {f : α → List PV} {G : α → Prop} {n sz : Nat} (ht : P.underlying t = some (.slice e)) (hsz : P.cellsOf e = sz) (hf : ∀ x, (f x).length = sz) (h : RO P e f G n) :
    RO P t (fun xs : List α => [.sl (xs.map f)]) (fun xs => xs.length * P.bytesOf e ≤ reachBytes ∧ ∀ x ∈ xs, G x) (n + 1) := by
  intro H enc w base spare held m hm cs r hr hwt
  rcases DataW.trod_slice ht hr with ⟨rfl, rfl⟩ | ⟨a, len, cap, elems, rest, k, rfl, rfl, rfl, _, hl, hc, hlen, hel, _⟩
  · exact ⟨[], .one rfl (.sl0 _ _), by simp, by simp⟩
  · have hW : ∀ x ∈ DataW.weights P t (DataW.slice (elems.map (·.1)) (rest.map (·.1))), x ≤ reachBytes := hwt
    have hW1 := hW (((elems.map (·.1)).length + (rest.map (·.1)).length) * P.bytesOf e) (by simp [DataW.weights, ht])
    have hk : ∀ i, i < len → ∃ x : α, (∃ c, c.length = sz ∧ RC w c (f x) ∧ ∀ j u, c[j]? = some u → w.cell? (a.add (i * sz + j)) = some u) ∧ G x := by
      intro i hi
      have h1 := hel i hi
      rw [List.getElem?_eq_getElem (by omega)] at h1
      obtain ⟨c, h2, h3⟩ := Option.bind_eq_some_iff.1 h1
      obtain ⟨x, hx, hg⟩ := h H enc w base spare held k (by omega) c _ h3 (fun q hq => hW q (by
        simp only [DataW.weights, ht, List.mem_cons, List.mem_append]
        exact .inr (.inl (weightsAll_mem (i := i) (by rw [List.getElem?_map, List.getElem?_eq_getElem (by omega)]; rfl) hq))))
      obtain ⟨_, hcl, hcc⟩ := World.cells?_some h2
      refine ⟨x, ⟨c, by rw [hcl, hsz], hx, fun j u hu => ?_⟩, hg⟩
      have hj : j < c.length := (List.getElem?_eq_some_iff.1 hu).1
      rw [← Go.Deep.add_add, ← hsz, hcc j (by omega)]
      exact hu
    obtain ⟨l, hll, hq⟩ := list_of hk
    refine ⟨l, .one rfl ?_, ?_, ?_⟩
    · have hlm : (l.map f).length = len := by simp [hll]
      have hsome : ∀ i, i < len → ∃ x, l[i]? = some x := fun i hi => ⟨_, List.getElem?_eq_getElem (by omega)⟩
      have := R.sl (σ := []) (μ := fun _ => 0) (w := w) a cap sz (l.map f) (fun i j => (w.cell? (a.add (i * sz + j))).getD (.bool false)) (by rw [hlm]; exact hl) (fun r hr => by obtain ⟨x, _, rfl⟩ := List.mem_map.1 hr; exact hf x)
        (fun i j hi hj => by
          rw [hlm] at hi
          obtain ⟨x, hx⟩ := hsome i hi
          obtain ⟨⟨c, h1, h2, h3⟩, _⟩ := hq i x hx
          have h4 := h3 j _ (List.getElem?_eq_getElem (by omega : j < c.length))
          refine ⟨by rw [h4]; rfl, ?_⟩
          rintro ⟨id, o, hl, _⟩
          have := hl.1
          simp at this)
        (fun i j hi hj => by
          rw [hlm] at hi
          obtain ⟨x, hx⟩ := hsome i hi
          obtain ⟨⟨c, h1, h2, h3⟩, _⟩ := hq i x hx
          have h4 := h3 j _ (List.getElem?_eq_getElem (by omega : j < c.length))
          rw [h4]
          exact (h2.2 j _ _ (List.getElem?_eq_getElem (by omega)) (List.getElem?_eq_getElem (by rw [hf]; omega))).1)
        (fun i j r p hr hp => by
          rw [List.getElem?_map] at hr
          obtain ⟨x, hx, rfl⟩ := Option.map_eq_some_iff.1 hr
          obtain ⟨⟨c, h1, h2, h3⟩, _⟩ := hq i x hx
          have hj := (List.getElem?_eq_some_iff.1 hp).1
          rw [hf] at hj
          have h4 := h3 j _ (List.getElem?_eq_getElem (by omega : j < c.length))
          rw [h4]
          exact (h2.2 j _ _ (List.getElem?_eq_getElem (by omega)) hp).2)
      rw [hlm] at this
      exact this
    · rw [List.length_map, List.length_map] at hW1
      rw [hll, ← hlen]
      exact Nat.le_trans (Nat.mul_le_mul_right _ (Nat.le_add_right _ _)) hW1
    · intro x hx
      obtain ⟨i, hi⟩ := List.getElem?_of_mem hx
      exact (hq i x hi).2
def RF {β : Type} (P : Program) (fs : List Field) (o cells : Nat) (f : β → List PV) (G : β → Prop) (n : Nat) : Prop :=
  ∀ (H : Type) (enc : TypeId × Value → H) (w : World) (base : Nat) (spare : Nat → Bool) (held : Bool) (m : Nat), m ≤ n → ∀ (cs : List Value), cs.length = cells →
    (∀ fd ∈ fs, ∃ r, DataW.trod enc P w base spare held m fd.type ((cs.drop fd.offset).take (P.cellsOf fd.type)) = some r ∧ ∀ x ∈ DataW.weights P fd.type r.1, x ≤ reachBytes) → ∃ x, RC w (cs.drop o) (f x) ∧ G x
theorem rf_last {α : Type} {P : Program} {fd : Field} {o cells : Nat} {f : α → List PV} {G : α → Prop} {n : Nat} (ho : fd.offset = o) (hs : o + P.cellsOf fd.type = cells) (h : RO P fd.type f G n) : RF P [fd] o cells f G n := by
  intro H enc w base spare held m hm cs hl hf
  obtain ⟨r, hr, hw⟩ := hf fd (by simp)
  rw [ho, List.take_of_length_le (by rw [List.length_drop]; omega)] at hr
  exact h H enc w base spare held m hm _ r hr hw
theorem rf_cons {α β : Type} {P : Program} {fd : Field} {fs : List Field} {o o' cells : Nat} {f : α → List PV} {f' : β → List PV} {G : α → Prop} {G' : β → Prop} {n : Nat} (ho : fd.offset = o) (hs : o + P.cellsOf fd.type = o') (h : RO P fd.type f G n) (h' : RF P fs o' cells f' G' n) :
    RF P (fd :: fs) o cells (fun x : α × β => f x.1 ++ f' x.2) (fun x => G x.1 ∧ G' x.2) n := by
  intro H enc w base spare held m hm cs hl hf
  obtain ⟨r, hr, hw⟩ := hf fd (by simp)
  obtain ⟨x, hx, hg⟩ := h H enc w base spare held m hm _ r hr hw
  obtain ⟨y, hy, hg'⟩ := h' H enc w base spare held m hm cs hl fun g hg => hf g (by simp [hg])
  refine ⟨(x, y), ?_, hg, hg'⟩
  have := hx.app hy
  rw [ho, ← hs, ← List.drop_drop, List.take_append_drop] at this
  exact this
theorem ro_struct {β γ : Type} {P : Program} {t : TypeId} {fs : Array Field} {f : β → List PV} {G : β → Prop} {n : Nat} (g : β → γ) {c : γ → List PV} (hfg : ∀ y, c (g y) = f y) (ht : P.underlying t = some (.struct fs)) (h : RF P fs.toList 0 (P.cellsOf t) f G n) :
    RO P t c (fun x => ∃ y, g y = x ∧ G y) (n + 1) := by
  intro H enc w base spare held m hm cs r hr hwt
  obtain ⟨ys, k, rfl, rfl, hl, hz, hx⟩ := DataW.trod_struct ht hr
  obtain ⟨y, hy, hg⟩ := h H enc w base spare held k (by omega) cs hl (fun fd hfd => by
    obtain ⟨i, hi, he⟩ := List.getElem_of_mem hfd
    have h1 := hx i fd (by rw [← he]; simp)
    have hi' : i < ys.length := by rw [hz]; simpa using hi
    refine ⟨ys[i], by rw [h1, List.getElem?_eq_getElem hi'], fun x hxw => hwt x ?_⟩
    show x ∈ DataW.weights P t (DataW.agg (ys.map (·.1)))
    simp only [DataW.weights, ht]
    exact DataW.weights_mem_each (j := i) (by rw [List.getElem?_map, List.getElem?_eq_getElem hi, Option.map_some, he]) (by rw [List.getElem?_map, List.getElem?_eq_getElem hi']; rfl) x hxw)
  exact ⟨g y, by rw [hfg]; simpa using hy, y, rfl, hg⟩
theorem arg_agg {α : Type} {P : Program} {t : TypeId} {fs : Array Field} {f : α → List PV} {G : α → Prop} {H : Type} {enc : TypeId × Value → H} {w : World} {base b0 : Nat} {r : Reach} {spare : Nat → Bool} {held : Bool} {v : Value} {D : DataW H} {p : List MemPlace}
    (ht : P.underlying t = some (.struct fs)) (hv : Value.okWide P w r b0 t v) (h : ∀ n, RO P t f G n) (hr : DataW.Trod enc P w base spare held t v D p) (hw : ∀ x ∈ DataW.weights P t D, x ≤ reachBytes) :
    ∃ (x : α), R [] (fun _ => 0) w v (.ag (f x)) ∧ G x := by
  obtain ⟨cs, rfl, _⟩ := Go.WideShapes.okWide_struct ht hv
  obtain ⟨n, hn⟩ := hr
  obtain ⟨x, hx, hg⟩ := h n H enc w base spare held n (Nat.le_refl _) _ _ hn hw
  have hx' : RC w cs.toList (f x) := by simpa [Value.cells] using hx
  exact ⟨x, .ag _ _ (by simpa using hx'.1) (fun i y hy => by
    have hi := (Array.getElem?_eq_some_iff.1 hy).1
    exact (hx'.2 i y _ (by simpa using hy) (List.getElem?_eq_getElem (by have := hx'.1; simp at this; omega))).1) (fun i y q hy hq => (hx'.2 i y q (by simpa using hy) hq).2), hg⟩
theorem law_calls {f : FuncId} {fn : Func} {c : Code} {args : List PV} {vs : Array Value} {w : World} (hf : Try.prog.funcs[f]? = some fn) (hname : (fn.name == "runtime.NumGoroutine") = false) (hb : fn.body = some c)
    (h : ∀ K : PV → Store → Prop, K (.v (.bool true)) [] → EC Try.prog f args [] K) (hv : RL [] (fun _ => 0) w vs args) :
    Calls Try.prog f vs w fun e w' => e = .returned (.bool true) ∧ Go.RowKit.Below w.heap.size w w' := by
  have h1 := (h (fun r s => r = .v (.bool true)) rfl).here (fun _ => 0) w vs ⟨fun i j o o' hi => by have := hi.1; simp at this, fun i o hi => by have := hi.1; simp at this⟩ hv
  rcases h1 with ⟨_, h2⟩ | ⟨x, w', h2, _⟩
  · refine h2.mono fun e w' ⟨x, hx, r, σ', μ', k1, k2, k3, k4⟩ => ?_
    subst hx k4
    cases k3
    exact ⟨rfl, k1.os, k1.tape, k1.output, k1.size, fun k hk => k1.keep k hk fun id o hl => by have := hl.1; simp at this⟩
  · rw [enters_ hf hname hb vs w] at h2
    cases h2
end Go.Proofs.Ytohmmfimedgccaa.E
end
section
namespace Go.Proofs.Ytohmmfimedgccaa.E
set_option linter.unusedVariables false
abbrev C_s (s : ByteArray) : List PV := [.v (.string s)]
structure runtime_boundsError where
  x : Int
  y : Int
  signed : Bool
  code : Int
  deriving DecidableEq
instance : Inhabited runtime_boundsError := ⟨(runtime_boundsError.mk (0 : Int) (0 : Int) false (0 : Int))⟩
def runtime_boundsError.cl (x : runtime_boundsError) : List PV := [(.v (.int .i64 x.x)), (.v (.int .i64 x.y)), (.v (.bool x.signed)), (.v (.int .u8 x.code))]
theorem runtime_boundsError.cn (x : runtime_boundsError) : CnL (runtime_boundsError.cl x) := (CnL.cons (.v _) (CnL.cons (.v _) (CnL.cons (.v _) (CnL.cons (.v _) CnL.nil))))
structure Expr where
  kind : Int
  name : ByteArray
  n : Int
  d : Int
  args : (List Expr)
  at_ : Int
instance : Inhabited Expr := ⟨(Expr.mk (0 : Int) (⟨#[]⟩ : ByteArray) (0 : Int) (0 : Int) ([] : (List Expr)) (0 : Int))⟩
mutual
def Expr.cl0 : Expr → List PV
  | ⟨k, s, n, d, xs, a⟩ => [.v (.int .i64 k), .v (.string s), .v (.int .i64 n), .v (.int .i64 d), .sl (Expr.rows xs), .v (.int .i64 a)]
def Expr.rows : List Expr → List (List PV)
  | [] => []
  | e :: l => Expr.cl0 e :: Expr.rows l
end
def Expr.cl (x : Expr) : List PV := [.v (.int .i64 x.kind), .v (.string x.name), .v (.int .i64 x.n), .v (.int .i64 x.d), .sl (Expr.rows x.args), .v (.int .i64 x.at_)]
theorem Expr.cl0_eq (x : Expr) : Expr.cl0 x = Expr.cl x := by cases x; simp [Expr.cl0, Expr.cl]
theorem Expr.rows_eq : ∀ l : List Expr, Expr.rows l = l.map Expr.cl
  | [] => by simp [Expr.rows]
  | e :: l => by simp [Expr.rows, Expr.rows_eq l, Expr.cl0_eq]
theorem Expr.rlen (l : List Expr) : (Expr.rows l).length = l.length := by rw [Expr.rows_eq, List.length_map]
theorem Expr.rget {l : List Expr} {i : Nat} {x : Expr} (h : l[i]? = some x) : (Expr.rows l)[i]? = some (Expr.cl x) := by rw [Expr.rows_eq]; exact map_get h
theorem Expr.ind {p : Expr → Prop} (h : ∀ k s n d xs a, (∀ e ∈ xs, p e) → p ⟨k, s, n, d, xs, a⟩) (e : Expr) : p e :=
  Expr.rec (motive_1 := p) (motive_2 := fun l => ∀ e ∈ l, p e) (fun k s n d xs a ih => h k s n d xs a ih) (by simp) (fun e l h1 h2 => by
    intro x hx
    rcases List.mem_cons.1 hx with rfl | hx
    · exact h1
    · exact h2 x hx) e
theorem Expr.cn (x : Expr) : CnL (Expr.cl x) := by
  induction x using Expr.ind with
  | h k s n d xs a ih =>
    refine CnL.cons (.v _) (CnL.cons (.v _) (CnL.cons (.v _) (CnL.cons (.v _) (CnL.cons ?_ (CnL.cons (.v _) CnL.nil)))))
    show Cn (.sl (Expr.rows xs))
    rw [Expr.rows_eq]
    refine .sl fun r hr p hp => ?_
    obtain ⟨x, hx, rfl⟩ := List.mem_map.1 hr
    exact ih x hx p hp
theorem Expr.cnr (l : List Expr) : Cn (.sl (Expr.rows l)) := by rw [Expr.rows_eq]; exact Cn.rows Expr.cn l
theorem Expr.rall (l : List Expr) : ∀ r ∈ Expr.rows l, r.length = 6 := by rw [Expr.rows_eq]; exact map_len (f := Expr.cl) (n := 6) (fun _ => rfl) l
theorem Expr.rows_app (a b : List Expr) : Expr.rows (a ++ b) = Expr.rows a ++ Expr.rows b := by rw [Expr.rows_eq, Expr.rows_eq, Expr.rows_eq, List.map_append]
structure Node where
  name : ByteArray
  params : (List ByteArray)
  budget : Int
  body : Expr
  at_ : Int
instance : Inhabited Node := ⟨(Node.mk (⟨#[]⟩ : ByteArray) ([] : (List ByteArray)) (0 : Int) (Expr.mk (0 : Int) (⟨#[]⟩ : ByteArray) (0 : Int) (0 : Int) ([] : (List Expr)) (0 : Int)) (0 : Int))⟩
def Node.cl (x : Node) : List PV := [(.v (.string x.name)), (.sl (List.map C_s x.params)), (.v (.int .i64 x.budget)), (.v (.int .i64 x.body.kind)), (.v (.string x.body.name)), (.v (.int .i64 x.body.n)), (.v (.int .i64 x.body.d)), (.sl (Expr.rows x.body.args)), (.v (.int .i64 x.body.at_)), (.v (.int .i64 x.at_))]
theorem Node.cn (x : Node) : CnL (Node.cl x) := (CnL.cons (.v _) (CnL.cons (Cn.rows (fun _ => CnL.cons (.v _) CnL.nil) _) (CnL.cons (.v _) (CnL.cons (.v _) (CnL.cons (.v _) (CnL.cons (.v _) (CnL.cons (.v _) (CnL.cons (Expr.cnr _) (CnL.cons (.v _) (CnL.cons (.v _) CnL.nil))))))))))
structure Flow where
  name : ByteArray
  e : Expr
  at_ : Int
instance : Inhabited Flow := ⟨(Flow.mk (⟨#[]⟩ : ByteArray) (Expr.mk (0 : Int) (⟨#[]⟩ : ByteArray) (0 : Int) (0 : Int) ([] : (List Expr)) (0 : Int)) (0 : Int))⟩
def Flow.cl (x : Flow) : List PV := [(.v (.string x.name)), (.v (.int .i64 x.e.kind)), (.v (.string x.e.name)), (.v (.int .i64 x.e.n)), (.v (.int .i64 x.e.d)), (.sl (Expr.rows x.e.args)), (.v (.int .i64 x.e.at_)), (.v (.int .i64 x.at_))]
theorem Flow.cn (x : Flow) : CnL (Flow.cl x) := (CnL.cons (.v _) (CnL.cons (.v _) (CnL.cons (.v _) (CnL.cons (.v _) (CnL.cons (.v _) (CnL.cons (Expr.cnr _) (CnL.cons (.v _) (CnL.cons (.v _) CnL.nil))))))))
structure Input where
  name : ByteArray
  period : Int
  phase : Int
  at_ : Int
  deriving DecidableEq
instance : Inhabited Input := ⟨(Input.mk (⟨#[]⟩ : ByteArray) (0 : Int) (0 : Int) (0 : Int))⟩
def Input.cl (x : Input) : List PV := [(.v (.string x.name)), (.v (.int .i64 x.period)), (.v (.int .i64 x.phase)), (.v (.int .i64 x.at_))]
theorem Input.cn (x : Input) : CnL (Input.cl x) := (CnL.cons (.v _) (CnL.cons (.v _) (CnL.cons (.v _) (CnL.cons (.v _) CnL.nil))))
structure Output where
  name : ByteArray
  flow : ByteArray
  deadline : Int
  at_ : Int
  deriving DecidableEq
instance : Inhabited Output := ⟨(Output.mk (⟨#[]⟩ : ByteArray) (⟨#[]⟩ : ByteArray) (0 : Int) (0 : Int))⟩
def Output.cl (x : Output) : List PV := [(.v (.string x.name)), (.v (.string x.flow)), (.v (.int .i64 x.deadline)), (.v (.int .i64 x.at_))]
theorem Output.cn (x : Output) : CnL (Output.cl x) := (CnL.cons (.v _) (CnL.cons (.v _) (CnL.cons (.v _) (CnL.cons (.v _) CnL.nil))))
structure Program where
  nodes : (List Node)
  inputs : (List Input)
  flows : (List Flow)
  outputs : (List Output)
instance : Inhabited Program := ⟨(Program.mk ([] : (List Node)) ([] : (List Input)) ([] : (List Flow)) ([] : (List Output)))⟩
def Program.cl (x : Program) : List PV := [(.sl (List.map Node.cl x.nodes)), (.sl (List.map Input.cl x.inputs)), (.sl (List.map Flow.cl x.flows)), (.sl (List.map Output.cl x.outputs))]
theorem Program.cn (x : Program) : CnL (Program.cl x) := (CnL.cons (Cn.rows Node.cn _) (CnL.cons (Cn.rows Input.cn _) (CnL.cons (Cn.rows Flow.cn _) (CnL.cons (Cn.rows Output.cn _) CnL.nil))))
structure Clock where
  period : Int
  phase : Int
  deriving DecidableEq
instance : Inhabited Clock := ⟨(Clock.mk (0 : Int) (0 : Int))⟩
def Clock.cl (x : Clock) : List PV := [(.v (.int .i64 x.period)), (.v (.int .i64 x.phase))]
theorem Clock.cn (x : Clock) : CnL (Clock.cl x) := (CnL.cons (.v _) (CnL.cons (.v _) CnL.nil))
structure Op where
  kind : Int
  n : Int
  d : Int
  deriving DecidableEq
instance : Inhabited Op := ⟨(Op.mk (0 : Int) (0 : Int) (0 : Int))⟩
def Op.cl (x : Op) : List PV := [(.v (.int .i64 x.kind)), (.v (.int .i64 x.n)), (.v (.int .i64 x.d))]
theorem Op.cn (x : Op) : CnL (Op.cl x) := (CnL.cons (.v _) (CnL.cons (.v _) (CnL.cons (.v _) CnL.nil)))
structure Arg where
  src : Int
  ops : (List Op)
  deriving DecidableEq
instance : Inhabited Arg := ⟨(Arg.mk (0 : Int) ([] : (List Op)))⟩
def Arg.cl (x : Arg) : List PV := [(.v (.int .i64 x.src)), (.sl (List.map Op.cl x.ops))]
theorem Arg.cn (x : Arg) : CnL (Arg.cl x) := (CnL.cons (.v _) (CnL.cons (Cn.rows Op.cn _) CnL.nil))
structure Task where
  node : Int
  clock : Clock
  args : (List Arg)
  deriving DecidableEq
instance : Inhabited Task := ⟨(Task.mk (0 : Int) (Clock.mk (0 : Int) (0 : Int)) ([] : (List Arg)))⟩
def Task.cl (x : Task) : List PV := [(.v (.int .i64 x.node)), (.v (.int .i64 x.clock.period)), (.v (.int .i64 x.clock.phase)), (.sl (List.map Arg.cl x.args))]
theorem Task.cn (x : Task) : CnL (Task.cl x) := (CnL.cons (.v _) (CnL.cons (.v _) (CnL.cons (.v _) (CnL.cons (Cn.rows Arg.cn _) CnL.nil))))
structure Tell where
  clock : Clock
  arg : Arg
  deadline : Int
  deriving DecidableEq
instance : Inhabited Tell := ⟨(Tell.mk (Clock.mk (0 : Int) (0 : Int)) (Arg.mk (0 : Int) ([] : (List Op))) (0 : Int))⟩
def Tell.cl (x : Tell) : List PV := [(.v (.int .i64 x.clock.period)), (.v (.int .i64 x.clock.phase)), (.v (.int .i64 x.arg.src)), (.sl (List.map Op.cl x.arg.ops)), (.v (.int .i64 x.deadline))]
theorem Tell.cn (x : Tell) : CnL (Tell.cl x) := (CnL.cons (.v _) (CnL.cons (.v _) (CnL.cons (.v _) (CnL.cons (Cn.rows Op.cn _) (CnL.cons (.v _) CnL.nil)))))
structure Flat where
  inputs : (List Clock)
  nodes : (List Node)
  tasks : (List Task)
  tells : (List Tell)
instance : Inhabited Flat := ⟨(Flat.mk ([] : (List Clock)) ([] : (List Node)) ([] : (List Task)) ([] : (List Tell)))⟩
def Flat.cl (x : Flat) : List PV := [(.sl (List.map Clock.cl x.inputs)), (.sl (List.map Node.cl x.nodes)), (.sl (List.map Task.cl x.tasks)), (.sl (List.map Tell.cl x.tells))]
theorem Flat.cn (x : Flat) : CnL (Flat.cl x) := (CnL.cons (Cn.rows Clock.cn _) (CnL.cons (Cn.rows Node.cn _) (CnL.cons (Cn.rows Task.cn _) (CnL.cons (Cn.rows Tell.cn _) CnL.nil))))
structure ref08_Place where
  flow : Int
  at_ : Int
  deriving DecidableEq
instance : Inhabited ref08_Place := ⟨(ref08_Place.mk (0 : Int) (0 : Int))⟩
def ref08_Place.cl (x : ref08_Place) : List PV := [(.v (.int .i64 x.flow)), (.v (.int .i64 x.at_))]
theorem ref08_Place.cn (x : ref08_Place) : CnL (ref08_Place.cl x) := (CnL.cons (.v _) (CnL.cons (.v _) CnL.nil))
structure lex_Token where
  kind : Int
  text : ByteArray
  n : Int
  at_ : Int
  deriving DecidableEq
instance : Inhabited lex_Token := ⟨(lex_Token.mk (0 : Int) (⟨#[]⟩ : ByteArray) (0 : Int) (0 : Int))⟩
def lex_Token.cl (x : lex_Token) : List PV := [(.v (.int .i64 x.kind)), (.v (.string x.text)), (.v (.int .i64 x.n)), (.v (.int .i64 x.at_))]
theorem lex_Token.cn (x : lex_Token) : CnL (lex_Token.cl x) := (CnL.cons (.v _) (CnL.cons (.v _) (CnL.cons (.v _) (CnL.cons (.v _) CnL.nil))))
structure check_finder where
  at_ : Int
  e : Int
  deriving DecidableEq
instance : Inhabited check_finder := ⟨(check_finder.mk (0 : Int) (0 : Int))⟩
def check_finder.cl (x : check_finder) : List PV := [(.v (.int .i64 x.at_)), (.v (.int .i64 x.e))]
theorem check_finder.cn (x : check_finder) : CnL (check_finder.cl x) := (CnL.cons (.v _) (CnL.cons (.v _) CnL.nil))
structure check_solver where
  finder : check_finder
  known : (Mp Clock)
instance : Inhabited check_solver := ⟨(check_solver.mk (check_finder.mk (0 : Int) (0 : Int)) (Mp.emp : (Mp Clock)))⟩
structure flat_call where
  node : Int
  args : (List Expr)
  ways : (List ByteArray)
instance : Inhabited flat_call := ⟨(flat_call.mk (0 : Int) ([] : (List Expr)) ([] : (List ByteArray)))⟩
def flat_call.cl (x : flat_call) : List PV := [(.v (.int .i64 x.node)), (.sl (Expr.rows x.args)), (.sl (List.map C_s x.ways))]
theorem flat_call.cn (x : flat_call) : CnL (flat_call.cl x) := (CnL.cons (.v _) (CnL.cons (Expr.cnr _) (CnL.cons (Cn.rows (fun _ => CnL.cons (.v _) CnL.nil) _) CnL.nil)))
structure flat_maker where
  p : Program
  flows : (Mp Int)
  calls : (List flat_call)
  at_ : (Mp Int)
  error : Int
  e : Int
instance : Inhabited flat_maker := ⟨(flat_maker.mk (Program.mk ([] : (List Node)) ([] : (List Input)) ([] : (List Flow)) ([] : (List Output))) (Mp.emp : (Mp Int)) ([] : (List flat_call)) (Mp.emp : (Mp Int)) (0 : Int) (0 : Int))⟩
structure syntax_reader where
  l : (List lex_Token)
  end_ : Int
  pos : Int
  at_ : Int
  e : Int
  p : Program
instance : Inhabited syntax_reader := ⟨(syntax_reader.mk ([] : (List lex_Token)) (0 : Int) (0 : Int) (0 : Int) (0 : Int) (Program.mk ([] : (List Node)) ([] : (List Input)) ([] : (List Flow)) ([] : (List Output))))⟩
def syntax_reader.cl (x : syntax_reader) : List PV := [(.sl (List.map lex_Token.cl x.l)), (.v (.int .i64 x.end_)), (.v (.int .i64 x.pos)), (.v (.int .i64 x.at_)), (.v (.int .i64 x.e)), (.sl (List.map Node.cl x.p.nodes)), (.sl (List.map Input.cl x.p.inputs)), (.sl (List.map Flow.cl x.p.flows)), (.sl (List.map Output.cl x.p.outputs))]
theorem syntax_reader.cn (x : syntax_reader) : CnL (syntax_reader.cl x) := (CnL.cons (Cn.rows lex_Token.cn _) (CnL.cons (.v _) (CnL.cons (.v _) (CnL.cons (.v _) (CnL.cons (.v _) (CnL.cons (Cn.rows Node.cn _) (CnL.cons (Cn.rows Input.cn _) (CnL.cons (Cn.rows Flow.cn _) (CnL.cons (Cn.rows Output.cn _) CnL.nil)))))))))
theorem T_2 : T 2 = some ⟨1, 8, false, false, [(.i .i64)], .int .i64⟩ := rfl
theorem T_3 : T 3 = some ⟨1, 8, false, false, [(.i .i64)], .int .i64⟩ := rfl
theorem T_5 : T 5 = some ⟨1, 1, false, false, [(.i .u8)], .int .u8⟩ := rfl
theorem T_9 : T 9 = some ⟨1, 16, false, false, [.s], .str⟩ := rfl
theorem T_22 : T 22 = some ⟨1, 24, false, false, [.sl], .slc 99⟩ := rfl
theorem T_23 : T 23 = some ⟨1, 24, false, false, [.sl], .slc 96⟩ := rfl
theorem T_24 : T 24 = some ⟨1, 24, false, false, [.sl], .slc 41⟩ := rfl
theorem T_25 : T 25 = some ⟨1, 24, false, false, [.sl], .slc 65⟩ := rfl
theorem T_27 : T 27 = some ⟨4, 96, true, false, [.sl, .sl, .sl, .sl], .st [(0, 22), (1, 23), (2, 24), (3, 25)]⟩ := rfl
theorem T_30 : T 30 = some ⟨1, 8, false, false, [(.i .i64)], .int .i64⟩ := rfl
theorem T_33 : T 33 = some ⟨1, 24, false, false, [.sl], .slc 43⟩ := rfl
theorem T_37 : T 37 = some ⟨1, 24, false, false, [.sl], .slc 39⟩ := rfl
theorem T_39 : T 39 = some ⟨6, 72, true, false, [(.i .i64), .s, (.i .i64), (.i .i64), .sl, (.i .i64)], .st [(0, 3), (1, 9), (2, 2), (3, 2), (4, 37), (5, 3)]⟩ := rfl
theorem T_41 : T 41 = some ⟨8, 96, true, false, [.s, (.i .i64), .s, (.i .i64), (.i .i64), .sl, (.i .i64), (.i .i64)], .st [(0, 9), (1, 39), (7, 3)]⟩ := rfl
theorem T_43 : T 43 = some ⟨2, 16, true, true, [(.i .i64), (.i .i64)], .st [(0, 2), (1, 2)]⟩ := rfl
theorem T_65 : T 65 = some ⟨4, 48, true, true, [.s, .s, (.i .i64), (.i .i64)], .st [(0, 9), (1, 9), (2, 2), (3, 3)]⟩ := rfl
theorem T_96 : T 96 = some ⟨4, 40, true, true, [.s, (.i .i64), (.i .i64), (.i .i64)], .st [(0, 9), (1, 2), (2, 2), (3, 3)]⟩ := rfl
theorem T_97 : T 97 = some ⟨1, 24, false, false, [.sl], .slc 9⟩ := rfl
theorem T_99 : T 99 = some ⟨10, 128, true, false, [.s, .sl, (.i .i64), (.i .i64), .s, (.i .i64), (.i .i64), .sl, (.i .i64), (.i .i64)], .st [(0, 9), (1, 97), (2, 2), (3, 39), (9, 3)]⟩ := rfl
theorem T_104 : T 104 = some ⟨1, 8, false, false, [.p], .other⟩ := rfl
theorem T_106 : T 106 = some ⟨2, 16, true, true, [(.i .i64), (.i .i64)], .st [(0, 3), (1, 30)]⟩ := rfl
theorem T_107 : T 107 = some ⟨1, 8, false, false, [.m], .map 9 3⟩ := rfl
theorem T_112 : T 112 = some ⟨1, 8, false, false, [.f], .other⟩ := rfl
theorem T_119 : T 119 = some ⟨3, 24, true, true, [(.i .i64), (.i .i64), (.i .i64)], .st [(0, 3), (1, 2), (2, 2)]⟩ := rfl
theorem T_120 : T 120 = some ⟨1, 8, false, false, [.p], .other⟩ := rfl
theorem T_121 : T 121 = some ⟨1, 8, false, false, [.m], .map 9 43⟩ := rfl
theorem T_123 : T 123 = some ⟨3, 24, true, false, [(.i .i64), (.i .i64), .m], .st [(0, 106), (2, 121)]⟩ := rfl
end Go.Proofs.Ytohmmfimedgccaa.E
end
section
namespace Go.Proofs.Ytohmmfimedgccaa.E
set_option linter.unusedVariables false
def Sp_law06_CheckNames (a0 : Program) (r : Bool) : Prop := ∀ (σ : Store) (K : PV → Store → Prop), K (.v (.bool r)) σ → EC Try.prog 3 [(.ag [(.sl (List.map Node.cl a0.nodes)), (.sl (List.map Input.cl a0.inputs)), (.sl (List.map Flow.cl a0.flows)), (.sl (List.map Output.cl a0.outputs))])] σ K
def Sat_law06_CheckNames (F : Program → Option Bool) : Prop := ∀ (a0 : Program) (r : Bool), F a0 = some r → Sp_law06_CheckNames a0 r
def Sp_law06_awake  (r : Bool) : Prop := ∀ (σ : Store) (K : PV → Store → Prop), K (.v (.bool r)) σ → EC Try.prog 9 [] σ K
def Sat_law06_awake (F : Option Bool) : Prop := ∀ (r : Bool), F = some r → Sp_law06_awake r
def Sp_ref04_Right (a0 : Program) (r : Bool) : Prop := ∀ (σ : Store) (K : PV → Store → Prop), K (.v (.bool r)) σ → EC Try.prog 10 [(.ag [(.sl (List.map Node.cl a0.nodes)), (.sl (List.map Input.cl a0.inputs)), (.sl (List.map Flow.cl a0.flows)), (.sl (List.map Output.cl a0.outputs))])] σ K
def Sat_ref04_Right (F : Program → Option Bool) : Prop := ∀ (a0 : Program) (r : Bool), F a0 = some r → Sp_ref04_Right a0 r
def Sp_check_Names (a0 : Program) (r : (Int × Int)) : Prop := ∀ (σ : Store) (K : PV → Store → Prop), K (.tu [(.v (.int .i64 r.1)), (.v (.int .i64 r.2))]) σ → EC Try.prog 11 [(.ag [(.sl (List.map Node.cl a0.nodes)), (.sl (List.map Input.cl a0.inputs)), (.sl (List.map Flow.cl a0.flows)), (.sl (List.map Output.cl a0.outputs))])] σ K
def Sat_check_Names (F : Program → Option (Int × Int)) : Prop := ∀ (a0 : Program) (r : (Int × Int)), F a0 = some r → Sp_check_Names a0 r
def Sp_check_Check (a0 : Program) (r : ((List Clock) × Int × Int)) : Prop := ∀ (σ : Store) (K : PV → Store → Prop), K (.tu [(.sl (List.map Clock.cl r.1)), (.v (.int .i64 r.2.1)), (.v (.int .i64 r.2.2))]) σ → EC Try.prog 12 [(.ag [(.sl (List.map Node.cl a0.nodes)), (.sl (List.map Input.cl a0.inputs)), (.sl (List.map Flow.cl a0.flows)), (.sl (List.map Output.cl a0.outputs))])] σ K
def Sat_check_Check (F : Program → Option ((List Clock) × Int × Int)) : Prop := ∀ (a0 : Program) (r : ((List Clock) × Int × Int)), F a0 = some r → Sp_check_Check a0 r
def Sp_ref06_Names (a0 : Program) (r : Bool) : Prop := ∀ (σ : Store) (K : PV → Store → Prop), K (.v (.bool r)) σ → EC Try.prog 13 [(.ag [(.sl (List.map Node.cl a0.nodes)), (.sl (List.map Input.cl a0.inputs)), (.sl (List.map Flow.cl a0.flows)), (.sl (List.map Output.cl a0.outputs))])] σ K
def Sat_ref06_Names (F : Program → Option Bool) : Prop := ∀ (a0 : Program) (r : Bool), F a0 = some r → Sp_ref06_Names a0 r
def Sp_check_Clocks (a0 : Program) (r : ((List Clock) × Int × Int)) : Prop := ∀ (σ : Store) (K : PV → Store → Prop), K (.tu [(.sl (List.map Clock.cl r.1)), (.v (.int .i64 r.2.1)), (.v (.int .i64 r.2.2))]) σ → EC Try.prog 16 [(.ag [(.sl (List.map Node.cl a0.nodes)), (.sl (List.map Input.cl a0.inputs)), (.sl (List.map Flow.cl a0.flows)), (.sl (List.map Output.cl a0.outputs))])] σ K
def Sat_check_Clocks (F : Program → Option ((List Clock) × Int × Int)) : Prop := ∀ (a0 : Program) (r : ((List Clock) × Int × Int)), F a0 = some r → Sp_check_Clocks a0 r
def Sp_ref06_Node (a0 : Program) (a1 : ByteArray) (r : Int) : Prop := ∀ (σ : Store) (K : PV → Store → Prop), K (.v (.int .i64 r)) σ → EC Try.prog 23 [(.ag [(.sl (List.map Node.cl a0.nodes)), (.sl (List.map Input.cl a0.inputs)), (.sl (List.map Flow.cl a0.flows)), (.sl (List.map Output.cl a0.outputs))]), (.v (.string a1))] σ K
def Sat_ref06_Node (F : Program → ByteArray → Option Int) : Prop := ∀ (a0 : Program) (a1 : ByteArray) (r : Int), F a0 a1 = some r → Sp_ref06_Node a0 a1 r
def Sp_ref06_Flow (a0 : Program) (a1 : ByteArray) (r : Int) : Prop := ∀ (σ : Store) (K : PV → Store → Prop), K (.v (.int .i64 r)) σ → EC Try.prog 25 [(.ag [(.sl (List.map Node.cl a0.nodes)), (.sl (List.map Input.cl a0.inputs)), (.sl (List.map Flow.cl a0.flows)), (.sl (List.map Output.cl a0.outputs))]), (.v (.string a1))] σ K
def Sat_ref06_Flow (F : Program → ByteArray → Option Int) : Prop := ∀ (a0 : Program) (a1 : ByteArray) (r : Int), F a0 a1 = some r → Sp_ref06_Flow a0 a1 r
def Sp_ref03_Right (a0 : ByteArray) (r : Bool) : Prop := ∀ (σ : Store) (K : PV → Store → Prop), K (.v (.bool r)) σ → EC Try.prog 38 [(.v (.string a0))] σ K
def Sat_ref03_Right (F : ByteArray → Option Bool) : Prop := ∀ (a0 : ByteArray) (r : Bool), F a0 = some r → Sp_ref03_Right a0 r
def Sp_ref04_number (a0 : Int) (a1 : Int) (a2 : Int) (r : Bool) : Prop := ∀ (σ : Store) (K : PV → Store → Prop), K (.v (.bool r)) σ → EC Try.prog 39 [(.v (.int .i64 a0)), (.v (.int .i64 a1)), (.v (.int .i64 a2))] σ K
def Sat_ref04_number (F : Int → Int → Int → Option Bool) : Prop := ∀ (a0 : Int) (a1 : Int) (a2 : Int) (r : Bool), F a0 a1 a2 = some r → Sp_ref04_number a0 a1 a2 r
def Sp_ref04_Size (a0 : Expr) (a1 : Int) (r : Int) : Prop := ∀ (σ : Store) (K : PV → Store → Prop), K (.v (.int .i64 r)) σ → EC Try.prog 40 [(.ag [(.v (.int .i64 a0.kind)), (.v (.string a0.name)), (.v (.int .i64 a0.n)), (.v (.int .i64 a0.d)), (.sl (Expr.rows a0.args)), (.v (.int .i64 a0.at_))]), (.v (.int .i64 a1))] σ K
def Sat_ref04_Size (F : Expr → Int → Option Int) : Prop := ∀ (a0 : Expr) (a1 : Int) (r : Int), F a0 a1 = some r → Sp_ref04_Size a0 a1 r
def Sp_ref04_Depth (a0 : Expr) (a1 : Int) (r : Int) : Prop := ∀ (σ : Store) (K : PV → Store → Prop), K (.v (.int .i64 r)) σ → EC Try.prog 41 [(.ag [(.v (.int .i64 a0.kind)), (.v (.string a0.name)), (.v (.int .i64 a0.n)), (.v (.int .i64 a0.d)), (.sl (Expr.rows a0.args)), (.v (.int .i64 a0.at_))]), (.v (.int .i64 a1))] σ K
def Sat_ref04_Depth (F : Expr → Int → Option Int) : Prop := ∀ (a0 : Expr) (a1 : Int) (r : Int), F a0 a1 = some r → Sp_ref04_Depth a0 a1 r
def Sp_ref04_Body (a0 : Expr) (r : Bool) : Prop := ∀ (σ : Store) (K : PV → Store → Prop), K (.v (.bool r)) σ → EC Try.prog 42 [(.ag [(.v (.int .i64 a0.kind)), (.v (.string a0.name)), (.v (.int .i64 a0.n)), (.v (.int .i64 a0.d)), (.sl (Expr.rows a0.args)), (.v (.int .i64 a0.at_))])] σ K
def Sat_ref04_Body (F : Expr → Option Bool) : Prop := ∀ (a0 : Expr) (r : Bool), F a0 = some r → Sp_ref04_Body a0 r
def Sp_ref04_Expr (a0 : Expr) (r : Bool) : Prop := ∀ (σ : Store) (K : PV → Store → Prop), K (.v (.bool r)) σ → EC Try.prog 43 [(.ag [(.v (.int .i64 a0.kind)), (.v (.string a0.name)), (.v (.int .i64 a0.n)), (.v (.int .i64 a0.d)), (.sl (Expr.rows a0.args)), (.v (.int .i64 a0.at_))])] σ K
def Sat_ref04_Expr (F : Expr → Option Bool) : Prop := ∀ (a0 : Expr) (r : Bool), F a0 = some r → Sp_ref04_Expr a0 r
def Sp_check_finder_fresh (a0 : check_finder) (a1 : (Mp Int)) (a2 : ByteArray) (a3 : Int) (r : (Unit × check_finder × (Mp Int))) : Prop := ∀ (σ : Store) (K : PV → Store → Prop) (j0 : Nat) (j1 : Nat), Gx σ j0 (AObj.box 106 [(.v (.int .i64 a0.at_)), (.v (.int .i64 a0.e))]) → Gx σ j1 (AObj.map .s (mpF (fun v : Int => (PV.v (.int .i64 v))) (Mp.get a1)) (Mp.n a1)) → K (.tu []) (List.set (List.set σ j0 (some (AObj.box 106 [(.v (.int .i64 r.2.1.at_)), (.v (.int .i64 r.2.1.e))]))) j1 (some (AObj.map .s (mpF (fun v : Int => (PV.v (.int .i64 v))) (Mp.get r.2.2)) (Mp.n r.2.2)))) → EC Try.prog 44 [(.pt j0 0), (.mp j1), (.v (.string a2)), (.v (.int .i64 a3))] σ K
def Sat_check_finder_fresh (F : check_finder → (Mp Int) → ByteArray → Int → Option (Unit × check_finder × (Mp Int))) : Prop := ∀ (a0 : check_finder) (a1 : (Mp Int)) (a2 : ByteArray) (a3 : Int) (r : (Unit × check_finder × (Mp Int))), F a0 a1 a2 a3 = some r → Sp_check_finder_fresh a0 a1 a2 a3 r
def Sp_check_finder_node (a0 : check_finder) (a1 : Node) (r : (Unit × check_finder)) : Prop := ∀ (σ : Store) (K : PV → Store → Prop) (j0 : Nat), Gx σ j0 (AObj.box 106 [(.v (.int .i64 a0.at_)), (.v (.int .i64 a0.e))]) → K (.tu []) (List.set σ j0 (some (AObj.box 106 [(.v (.int .i64 r.2.at_)), (.v (.int .i64 r.2.e))]))) → EC Try.prog 45 [(.pt j0 0), (.ag [(.v (.string a1.name)), (.sl (List.map C_s a1.params)), (.v (.int .i64 a1.budget)), (.v (.int .i64 a1.body.kind)), (.v (.string a1.body.name)), (.v (.int .i64 a1.body.n)), (.v (.int .i64 a1.body.d)), (.sl (Expr.rows a1.body.args)), (.v (.int .i64 a1.body.at_)), (.v (.int .i64 a1.at_))])] σ K
def Sat_check_finder_node (F : check_finder → Node → Option (Unit × check_finder)) : Prop := ∀ (a0 : check_finder) (a1 : Node) (r : (Unit × check_finder)), F a0 a1 = some r → Sp_check_finder_node a0 a1 r
def Sp_check_finder_expr (a0 : check_finder) (a1 : Expr) (a2 : (Mp Int)) (a3 : (Mp Int)) (r : (Unit × check_finder)) : Prop := ∀ (σ : Store) (K : PV → Store → Prop) (j0 : Nat) (j2 : Nat) (j3 : Nat), Gx σ j0 (AObj.box 106 [(.v (.int .i64 a0.at_)), (.v (.int .i64 a0.e))]) → Gx σ j2 (AObj.map .s (mpF (fun v : Int => (PV.v (.int .i64 v))) (Mp.get a2)) (Mp.n a2)) → Gx σ j3 (AObj.map .s (mpF (fun v : Int => (PV.v (.int .i64 v))) (Mp.get a3)) (Mp.n a3)) → K (.tu []) (List.set σ j0 (some (AObj.box 106 [(.v (.int .i64 r.2.at_)), (.v (.int .i64 r.2.e))]))) → EC Try.prog 46 [(.pt j0 0), (.ag [(.v (.int .i64 a1.kind)), (.v (.string a1.name)), (.v (.int .i64 a1.n)), (.v (.int .i64 a1.d)), (.sl (Expr.rows a1.args)), (.v (.int .i64 a1.at_))]), (.mp j2), (.mp j3)] σ K
def Sat_check_finder_expr (F : check_finder → Expr → (Mp Int) → (Mp Int) → Option (Unit × check_finder)) : Prop := ∀ (a0 : check_finder) (a1 : Expr) (a2 : (Mp Int)) (a3 : (Mp Int)) (r : (Unit × check_finder)), F a0 a1 a2 a3 = some r → Sp_check_finder_expr a0 a1 a2 a3 r
def Sp_slices_ContainsFunc_Flow (a0 : (List Flow)) (a1 : (Flow → Option Bool)) (r : Bool) : Prop := ∀ (σ : Store) (K : PV → Store → Prop) (fid1 : FuncId) (caps1 : List PV), (∀ (x0 : Flow) (b : Bool), a1 x0 = some b → ∀ (s : Store) (K : PV → Store → Prop), Pre σ s → K (.v (.bool b)) s → EC Try.prog fid1 ((.ag [(.v (.string x0.name)), (.v (.int .i64 x0.e.kind)), (.v (.string x0.e.name)), (.v (.int .i64 x0.e.n)), (.v (.int .i64 x0.e.d)), (.sl (Expr.rows x0.e.args)), (.v (.int .i64 x0.e.at_)), (.v (.int .i64 x0.at_))]) :: caps1) s K) → K (.v (.bool r)) σ → EC Try.prog 47 [(.sl (List.map Flow.cl a0)), (.fn fid1 [] caps1)] σ K
def Sat_slices_ContainsFunc_Flow (F : (List Flow) → (Flow → Option Bool) → Option Bool) : Prop := ∀ (a0 : (List Flow)) (a1 : (Flow → Option Bool)) (r : Bool), F a0 a1 = some r → Sp_slices_ContainsFunc_Flow a0 a1 r
def Sp_check_Names_c1 (a0 : Flow) (a1 : Output) (r : Bool) : Prop := ∀ (σ : Store) (K : PV → Store → Prop) (j1 : Nat), Gx σ j1 (AObj.box 65 [(.v (.string a1.name)), (.v (.string a1.flow)), (.v (.int .i64 a1.deadline)), (.v (.int .i64 a1.at_))]) → K (.v (.bool r)) σ → EC Try.prog 48 [(.ag [(.v (.string a0.name)), (.v (.int .i64 a0.e.kind)), (.v (.string a0.e.name)), (.v (.int .i64 a0.e.n)), (.v (.int .i64 a0.e.d)), (.sl (Expr.rows a0.e.args)), (.v (.int .i64 a0.e.at_)), (.v (.int .i64 a0.at_))]), (.pt j1 0)] σ K
def Sat_check_Names_c1 (F : Flow → Output → Option Bool) : Prop := ∀ (a0 : Flow) (a1 : Output) (r : Bool), F a0 a1 = some r → Sp_check_Names_c1 a0 a1 r
def Sp_check_finder_fail (a0 : check_finder) (a1 : Int) (a2 : Int) (r : (Unit × check_finder)) : Prop := ∀ (σ : Store) (K : PV → Store → Prop) (j0 : Nat), Gx σ j0 (AObj.box 106 [(.v (.int .i64 a0.at_)), (.v (.int .i64 a0.e))]) → K (.tu []) (List.set σ j0 (some (AObj.box 106 [(.v (.int .i64 r.2.at_)), (.v (.int .i64 r.2.e))]))) → EC Try.prog 49 [(.pt j0 0), (.v (.int .i64 a1)), (.v (.int .i64 a2))] σ K
def Sat_check_finder_fail (F : check_finder → Int → Int → Option (Unit × check_finder)) : Prop := ∀ (a0 : check_finder) (a1 : Int) (a2 : Int) (r : (Unit × check_finder)), F a0 a1 a2 = some r → Sp_check_finder_fail a0 a1 a2 r
def Sp_ref06_body (a0 : Node) (a1 : Expr) (r : Bool) : Prop := ∀ (σ : Store) (K : PV → Store → Prop), K (.v (.bool r)) σ → EC Try.prog 50 [(.ag [(.v (.string a0.name)), (.sl (List.map C_s a0.params)), (.v (.int .i64 a0.budget)), (.v (.int .i64 a0.body.kind)), (.v (.string a0.body.name)), (.v (.int .i64 a0.body.n)), (.v (.int .i64 a0.body.d)), (.sl (Expr.rows a0.body.args)), (.v (.int .i64 a0.body.at_)), (.v (.int .i64 a0.at_))]), (.ag [(.v (.int .i64 a1.kind)), (.v (.string a1.name)), (.v (.int .i64 a1.n)), (.v (.int .i64 a1.d)), (.sl (Expr.rows a1.args)), (.v (.int .i64 a1.at_))])] σ K
def Sat_ref06_body (F : Node → Expr → Option Bool) : Prop := ∀ (a0 : Node) (a1 : Expr) (r : Bool), F a0 a1 = some r → Sp_ref06_body a0 a1 r
def Sp_ref06_expr (a0 : Program) (a1 : Expr) (r : Bool) : Prop := ∀ (σ : Store) (K : PV → Store → Prop), K (.v (.bool r)) σ → EC Try.prog 51 [(.ag [(.sl (List.map Node.cl a0.nodes)), (.sl (List.map Input.cl a0.inputs)), (.sl (List.map Flow.cl a0.flows)), (.sl (List.map Output.cl a0.outputs))]), (.ag [(.v (.int .i64 a1.kind)), (.v (.string a1.name)), (.v (.int .i64 a1.n)), (.v (.int .i64 a1.d)), (.sl (Expr.rows a1.args)), (.v (.int .i64 a1.at_))])] σ K
def Sat_ref06_expr (F : Program → Expr → Option Bool) : Prop := ∀ (a0 : Program) (a1 : Expr) (r : Bool), F a0 a1 = some r → Sp_ref06_expr a0 a1 r
def Sp_check_solver_round (a0 : check_solver) (a1 : (List Flow)) (r : (Bool × check_solver)) : Prop := ∀ (σ : Store) (K : PV → Store → Prop) (j0 : Nat) (j0_2 : Nat), Gx σ j0 (AObj.box 123 [(.v (.int .i64 a0.finder.at_)), (.v (.int .i64 a0.finder.e)), (.mp j0_2)]) → Gx σ j0_2 (AObj.map .s (mpF (fun v : Clock => (PV.ag [(.v (.int .i64 v.period)), (.v (.int .i64 v.phase))])) (Mp.get a0.known)) (Mp.n a0.known)) → K (.v (.bool r.1)) (List.set (List.set σ j0 (some (AObj.box 123 [(.v (.int .i64 r.2.finder.at_)), (.v (.int .i64 r.2.finder.e)), (.mp j0_2)]))) j0_2 (some (AObj.map .s (mpF (fun v : Clock => (PV.ag [(.v (.int .i64 v.period)), (.v (.int .i64 v.phase))])) (Mp.get r.2.known)) (Mp.n r.2.known)))) → EC Try.prog 53 [(.pt j0 0), (.sl (List.map Flow.cl a1))] σ K
def Sat_check_solver_round (F : check_solver → (List Flow) → Option (Bool × check_solver)) : Prop := ∀ (a0 : check_solver) (a1 : (List Flow)) (r : (Bool × check_solver)), F a0 a1 = some r → Sp_check_solver_round a0 a1 r
def Sp_check_solver_calls (a0 : check_solver) (a1 : Expr) (r : (Unit × check_solver)) : Prop := ∀ (σ : Store) (K : PV → Store → Prop) (j0 : Nat) (j0_2 : Nat), Gx σ j0 (AObj.box 123 [(.v (.int .i64 a0.finder.at_)), (.v (.int .i64 a0.finder.e)), (.mp j0_2)]) → Gx σ j0_2 (AObj.map .s (mpF (fun v : Clock => (PV.ag [(.v (.int .i64 v.period)), (.v (.int .i64 v.phase))])) (Mp.get a0.known)) (Mp.n a0.known)) → K (.tu []) (List.set (List.set σ j0 (some (AObj.box 123 [(.v (.int .i64 r.2.finder.at_)), (.v (.int .i64 r.2.finder.e)), (.mp j0_2)]))) j0_2 (some (AObj.map .s (mpF (fun v : Clock => (PV.ag [(.v (.int .i64 v.period)), (.v (.int .i64 v.phase))])) (Mp.get r.2.known)) (Mp.n r.2.known)))) → EC Try.prog 54 [(.pt j0 0), (.ag [(.v (.int .i64 a1.kind)), (.v (.string a1.name)), (.v (.int .i64 a1.n)), (.v (.int .i64 a1.d)), (.sl (Expr.rows a1.args)), (.v (.int .i64 a1.at_))])] σ K
def Sat_check_solver_calls (F : check_solver → Expr → Option (Unit × check_solver)) : Prop := ∀ (a0 : check_solver) (a1 : Expr) (r : (Unit × check_solver)), F a0 a1 = some r → Sp_check_solver_calls a0 a1 r
def Sp_check_solver_of (a0 : check_solver) (a1 : Expr) (r : ((Clock × Bool) × check_solver)) : Prop := ∀ (σ : Store) (K : PV → Store → Prop) (j0 : Nat) (j0_2 : Nat), Gx σ j0 (AObj.box 123 [(.v (.int .i64 a0.finder.at_)), (.v (.int .i64 a0.finder.e)), (.mp j0_2)]) → Gx σ j0_2 (AObj.map .s (mpF (fun v : Clock => (PV.ag [(.v (.int .i64 v.period)), (.v (.int .i64 v.phase))])) (Mp.get a0.known)) (Mp.n a0.known)) → K (.tu [(.ag [(.v (.int .i64 r.1.1.period)), (.v (.int .i64 r.1.1.phase))]), (.v (.bool r.1.2))]) (List.set (List.set σ j0 (some (AObj.box 123 [(.v (.int .i64 r.2.finder.at_)), (.v (.int .i64 r.2.finder.e)), (.mp j0_2)]))) j0_2 (some (AObj.map .s (mpF (fun v : Clock => (PV.ag [(.v (.int .i64 v.period)), (.v (.int .i64 v.phase))])) (Mp.get r.2.known)) (Mp.n r.2.known)))) → EC Try.prog 55 [(.pt j0 0), (.ag [(.v (.int .i64 a1.kind)), (.v (.string a1.name)), (.v (.int .i64 a1.n)), (.v (.int .i64 a1.d)), (.sl (Expr.rows a1.args)), (.v (.int .i64 a1.at_))])] σ K
def Sat_check_solver_of (F : check_solver → Expr → Option ((Clock × Bool) × check_solver)) : Prop := ∀ (a0 : check_solver) (a1 : Expr) (r : ((Clock × Bool) × check_solver)), F a0 a1 = some r → Sp_check_solver_of a0 a1 r
def Sp_clock_Right (a0 : Clock) (r : Bool) : Prop := ∀ (σ : Store) (K : PV → Store → Prop), K (.v (.bool r)) σ → EC Try.prog 65 [(.ag [(.v (.int .i64 a0.period)), (.v (.int .i64 a0.phase))])] σ K
def Sat_clock_Right (F : Clock → Option Bool) : Prop := ∀ (a0 : Clock) (r : Bool), F a0 = some r → Sp_clock_Right a0 r
def Sp_ref03_small (a0 : Int) (r : Bool) : Prop := ∀ (σ : Store) (K : PV → Store → Prop), K (.v (.bool r)) σ → EC Try.prog 86 [(.v (.int .u8 a0))] σ K
def Sat_ref03_small (F : Int → Option Bool) : Prop := ∀ (a0 : Int) (r : Bool), F a0 = some r → Sp_ref03_small a0 r
def Sp_ref03_digit (a0 : Int) (r : Bool) : Prop := ∀ (σ : Store) (K : PV → Store → Prop), K (.v (.bool r)) σ → EC Try.prog 87 [(.v (.int .u8 a0))] σ K
def Sat_ref03_digit (F : Int → Option Bool) : Prop := ∀ (a0 : Int) (r : Bool), F a0 = some r → Sp_ref03_digit a0 r
def Sp_ref03_Word (a0 : ByteArray) (r : Bool) : Prop := ∀ (σ : Store) (K : PV → Store → Prop), K (.v (.bool r)) σ → EC Try.prog 88 [(.v (.string a0))] σ K
def Sat_ref03_Word (F : ByteArray → Option Bool) : Prop := ∀ (a0 : ByteArray) (r : Bool), F a0 = some r → Sp_ref03_Word a0 r
def Sp_body_Names (a0 : Expr) (r : (List Expr)) : Prop := ∀ (σ : Store) (K : PV → Store → Prop), K (.sl (Expr.rows r)) σ → EC Try.prog 89 [(.ag [(.v (.int .i64 a0.kind)), (.v (.string a0.name)), (.v (.int .i64 a0.n)), (.v (.int .i64 a0.d)), (.sl (Expr.rows a0.args)), (.v (.int .i64 a0.at_))])] σ K
def Sat_body_Names (F : Expr → Option (List Expr)) : Prop := ∀ (a0 : Expr) (r : (List Expr)), F a0 = some r → Sp_body_Names a0 r
def Sp_slices_IndexFunc_Flow (a0 : (List Flow)) (a1 : (Flow → Option Bool)) (r : Int) : Prop := ∀ (σ : Store) (K : PV → Store → Prop) (fid1 : FuncId) (caps1 : List PV), (∀ (x0 : Flow) (b : Bool), a1 x0 = some b → ∀ (s : Store) (K : PV → Store → Prop), Pre σ s → K (.v (.bool b)) s → EC Try.prog fid1 ((.ag [(.v (.string x0.name)), (.v (.int .i64 x0.e.kind)), (.v (.string x0.e.name)), (.v (.int .i64 x0.e.n)), (.v (.int .i64 x0.e.d)), (.sl (Expr.rows x0.e.args)), (.v (.int .i64 x0.e.at_)), (.v (.int .i64 x0.at_))]) :: caps1) s K) → K (.v (.int .i64 r)) σ → EC Try.prog 90 [(.sl (List.map Flow.cl a0)), (.fn fid1 [] caps1)] σ K
def Sat_slices_IndexFunc_Flow (F : (List Flow) → (Flow → Option Bool) → Option Int) : Prop := ∀ (a0 : (List Flow)) (a1 : (Flow → Option Bool)) (r : Int), F a0 a1 = some r → Sp_slices_IndexFunc_Flow a0 a1 r
def Sp_ref06_param (a0 : Node) (a1 : ByteArray) (r : Bool) : Prop := ∀ (σ : Store) (K : PV → Store → Prop), K (.v (.bool r)) σ → EC Try.prog 91 [(.ag [(.v (.string a0.name)), (.sl (List.map C_s a0.params)), (.v (.int .i64 a0.budget)), (.v (.int .i64 a0.body.kind)), (.v (.string a0.body.name)), (.v (.int .i64 a0.body.n)), (.v (.int .i64 a0.body.d)), (.sl (Expr.rows a0.body.args)), (.v (.int .i64 a0.body.at_)), (.v (.int .i64 a0.at_))]), (.v (.string a1))] σ K
def Sat_ref06_param (F : Node → ByteArray → Option Bool) : Prop := ∀ (a0 : Node) (a1 : ByteArray) (r : Bool), F a0 a1 = some r → Sp_ref06_param a0 a1 r
def Sp_clock_Apply (a0 : Clock) (a1 : Op) (r : (Clock × Int)) : Prop := ∀ (σ : Store) (K : PV → Store → Prop), K (.tu [(.ag [(.v (.int .i64 r.1.period)), (.v (.int .i64 r.1.phase))]), (.v (.int .i64 r.2))]) σ → EC Try.prog 92 [(.ag [(.v (.int .i64 a0.period)), (.v (.int .i64 a0.phase))]), (.ag [(.v (.int .i64 a1.kind)), (.v (.int .i64 a1.n)), (.v (.int .i64 a1.d))])] σ K
def Sat_clock_Apply (F : Clock → Op → Option (Clock × Int)) : Prop := ∀ (a0 : Clock) (a1 : Op) (r : (Clock × Int)), F a0 a1 = some r → Sp_clock_Apply a0 a1 r
def Sp_lex_Words  (r : (List ByteArray)) : Prop := ∀ (σ : Store) (K : PV → Store → Prop), K (.sl (List.map C_s r)) σ → EC Try.prog 122 [] σ K
def Sat_lex_Words (F : Option (List ByteArray)) : Prop := ∀ (r : (List ByteArray)), F = some r → Sp_lex_Words r
def Sp_clock_factor (a0 : Op) (r : Int) : Prop := ∀ (σ : Store) (K : PV → Store → Prop), K (.v (.int .i64 r)) σ → EC Try.prog 123 [(.ag [(.v (.int .i64 a0.kind)), (.v (.int .i64 a0.n)), (.v (.int .i64 a0.d))])] σ K
def Sat_clock_factor (F : Op → Option Int) : Prop := ∀ (a0 : Op) (r : Int), F a0 = some r → Sp_clock_factor a0 r
def Sp_check_finder_fail_in_check_solver (a0 : check_solver) (a1 : Int) (a2 : Int) (r : (Unit × check_solver)) : Prop := ∀ (σ : Store) (K : PV → Store → Prop) (j0 : Nat) (j0_2 : Nat), Gx σ j0 (AObj.box 123 [(.v (.int .i64 a0.finder.at_)), (.v (.int .i64 a0.finder.e)), (.mp j0_2)]) → Gx σ j0_2 (AObj.map .s (mpF (fun v : Clock => (PV.ag [(.v (.int .i64 v.period)), (.v (.int .i64 v.phase))])) (Mp.get a0.known)) (Mp.n a0.known)) → K (.tu []) (List.set (List.set σ j0 (some (AObj.box 123 [(.v (.int .i64 r.2.finder.at_)), (.v (.int .i64 r.2.finder.e)), (.mp j0_2)]))) j0_2 (some (AObj.map .s (mpF (fun v : Clock => (PV.ag [(.v (.int .i64 v.period)), (.v (.int .i64 v.phase))])) (Mp.get r.2.known)) (Mp.n r.2.known)))) → EC Try.prog 49 [(.pt j0 0), (.v (.int .i64 a1)), (.v (.int .i64 a2))] σ K
def Sat_check_finder_fail_in_check_solver (F : check_solver → Int → Int → Option (Unit × check_solver)) : Prop := ∀ (a0 : check_solver) (a1 : Int) (a2 : Int) (r : (Unit × check_solver)), F a0 a1 a2 = some r → Sp_check_finder_fail_in_check_solver a0 a1 a2 r
end Go.Proofs.Ytohmmfimedgccaa.E
end
section
namespace Go.Proofs.Ytohmmfimedgccaa.E
set_option linter.unusedVariables false
def I64 (n : Int) : Prop := -9223372036854775808 ≤ n ∧ n < 9223372036854775808
inductive Expr.ok : Expr → Prop
  | mk {e : Expr} : I64 e.kind → ByteArray.size e.name ≤ 140737488351232 → I64 e.n → I64 e.d → List.length e.args * 72 ≤ 140737488351232 → (∀ y ∈ e.args, Expr.ok y) → I64 e.at_ → Expr.ok e
theorem Expr.ok.kind {e : Expr} (h : e.ok) : I64 e.kind := by cases h; first | assumption | (constructor <;> assumption)
theorem Expr.ok.name {e : Expr} (h : e.ok) : ByteArray.size e.name ≤ 140737488351232 := by cases h; first | assumption | (constructor <;> assumption)
theorem Expr.ok.n {e : Expr} (h : e.ok) : I64 e.n := by cases h; first | assumption | (constructor <;> assumption)
theorem Expr.ok.d {e : Expr} (h : e.ok) : I64 e.d := by cases h; first | assumption | (constructor <;> assumption)
theorem Expr.ok.args {e : Expr} (h : e.ok) : List.length e.args * 72 ≤ 140737488351232 ∧ ∀ y ∈ e.args, Expr.ok y := by cases h; first | assumption | (constructor <;> assumption)
theorem Expr.ok.at_ {e : Expr} (h : e.ok) : I64 e.at_ := by cases h; first | assumption | (constructor <;> assumption)
structure Node.ok (x : Node) : Prop where
  name : ByteArray.size x.name ≤ 140737488351232
  params : List.length x.params * 16 ≤ 140737488351232 ∧ ∀ y ∈ x.params, ByteArray.size y ≤ 140737488351232
  budget : I64 x.budget
  body : Expr.ok x.body
  at_ : I64 x.at_
structure Input.ok (x : Input) : Prop where
  name : ByteArray.size x.name ≤ 140737488351232
  period : I64 x.period
  phase : I64 x.phase
  at_ : I64 x.at_
structure Flow.ok (x : Flow) : Prop where
  name : ByteArray.size x.name ≤ 140737488351232
  e : Expr.ok x.e
  at_ : I64 x.at_
structure Output.ok (x : Output) : Prop where
  name : ByteArray.size x.name ≤ 140737488351232
  flow : ByteArray.size x.flow ≤ 140737488351232
  deadline : I64 x.deadline
  at_ : I64 x.at_
structure Program.ok (x : Program) : Prop where
  nodes : List.length x.nodes * 128 ≤ 140737488351232 ∧ ∀ y ∈ x.nodes, Node.ok y
  inputs : List.length x.inputs * 40 ≤ 140737488351232 ∧ ∀ y ∈ x.inputs, Input.ok y
  flows : List.length x.flows * 96 ≤ 140737488351232 ∧ ∀ y ∈ x.flows, Flow.ok y
  outputs : List.length x.outputs * 48 ≤ 140737488351232 ∧ ∀ y ∈ x.outputs, Output.ok y
end Go.Proofs.Ytohmmfimedgccaa.E
end
section
namespace Go.Proofs.Ytohmmfimedgccaa.E
set_option linter.unusedVariables false
theorem maxLen_lt : maxLen < 9223372036854775808 := by unfold maxLen; decide
theorem iter_idx {V W : Type} {f : V → Option (V ⊕ W)} (st : Nat → V → Prop) (n : Nat) (Z : W → Prop) (step : ∀ i v, i < n → st i v → (∃ v', f v = some (.inl v') ∧ st (i + 1) v') ∨ ∃ r, f v = some (.inr r) ∧ Z r)
    (fin : ∀ v, st n v → ∃ r, f v = some (.inr r) ∧ Z r) {v0 : V} (h0 : st 0 v0) : ∃ r, iterO f v0 = some r ∧ Z r := by
  have main : ∀ k i v, i + k = n → st i v → ∃ r, iterO f v = some r ∧ Z r := by
    intro k
    induction k with
    | zero =>
      intro i v hi h
      obtain rfl : i = n := by omega
      obtain ⟨r, h1, h2⟩ := fin v h
      exact ⟨r, iterO_end h1, h2⟩
    | succ k ih =>
      intro i v hi h
      rcases step i v (by omega) h with ⟨v', h1, h2⟩ | ⟨r, h1, h2⟩
      · rw [iterO_next h1]
        exact ih (i + 1) v' (by omega) h2
      · exact ⟨r, iterO_end h1, h2⟩
  exact main n 0 v0 (by omega) h0
theorem getI_at {α : Type} {xs : List α} {i : Nat} (h : i < xs.length) : getI xs (i : Int) = some xs[i] := by
  unfold getI
  rw [if_pos (by omega), Int.toNat_natCast, List.getElem?_eq_getElem h]
theorem dlt {i n : Nat} (h : i < n) : decide ((i : Int) < (n : Int)) = true := decide_eq_true (by omega)
theorem dge (n : Nat) : decide ((n : Int) < (n : Int)) = false := decide_eq_false (by omega)
theorem winc {i n : Nat} (h : i < n) (hn : n ≤ maxLen) : IntKind.i64.wrap ((i : Int) + 1) = ((i + 1 : Nat) : Int) := wrap_inc h (Nat.lt_of_le_of_lt hn maxLen_lt)
section
variable {α β : Type} {P : α → β → Prop} {a : α} {b : β}
open Classical in
noncomputable def pick (P : α → β → Prop) (a : α) : Option β := if h : ∃ b, P a b then some (Classical.choose h) else none
theorem pick_spec (h : pick P a = some b) : P a b := by
  unfold pick at h
  split at h
  · rename_i hx
    obtain rfl := Option.some.inj h
    exact Classical.choose_spec hx
  · cases h
theorem pick_ex (h : ∃ b, P a b) : ∃ b, pick P a = some b ∧ P a b := ⟨_, by unfold pick; rw [dif_pos h], Classical.choose_spec h⟩
end
theorem bytes_size (s : ByteArray) : s.data.toList.length = s.size := by rw [Array.length_toList]; rfl
theorem getB_at {s : ByteArray} {i : Nat} (h : i < s.size) : ∃ b : UInt8, getB s (i : Int) = some (b.toNat : Int) := by
  unfold getB
  rw [if_pos (by omega), Int.toNat_natCast, List.getElem?_eq_getElem (by rw [bytes_size]; exact h)]
  exact ⟨_, rfl⟩
theorem wrap_i {n : Int} (h1 : -9223372036854775808 ≤ n) (h2 : n < 9223372036854775808) : IntKind.i64.wrap n = n := wrap_id h1 h2
theorem ml {n : Nat} (h : n ≤ 140737488351232) : n ≤ maxLen := by unfold maxLen; omega
theorem mlB {n B : Nat} (h : n * B ≤ 140737488351232) (hB : 0 < B) : n ≤ maxLen := ml (Nat.le_trans (Nat.le_mul_of_pos_right n hB) h)
theorem Expr.ok.nm {e : Expr} (h : e.ok) : e.name.size ≤ maxLen := ml h.name
theorem Expr.ok.len {e : Expr} (h : e.ok) : e.args.length ≤ maxLen := mlB h.args.1 (by omega)
theorem Expr.ok.arg {e : Expr} (h : e.ok) : ∀ x ∈ e.args, x.ok := h.args.2
theorem Expr.induct {p : Expr → Prop} (h : ∀ e, (∀ x ∈ e.args, p x) → p e) (e : Expr) : p e := Expr.ind (fun k s n d xs a ih => h ⟨k, s, n, d, xs, a⟩ ih) e
end Go.Proofs.Ytohmmfimedgccaa.E
end
section
namespace Go.Proofs.Ytohmmfimedgccaa.E
set_option maxRecDepth 100000
set_option maxHeartbeats 4000000
set_option linter.unusedVariables false
set_option linter.unusedSimpArgs false
noncomputable def B_ref03_small (a0 : Int) : Option Bool :=
 some ((decide ((97 : Int) ≤ a0)) && (decide (a0 ≤ (122 : Int))))
theorem W_ref03_small : Sat_ref03_small (B_ref03_small) := by
 intro a0 r h σ K hK
 refine w_fp Try.func86 rfl rfl (by kernel_rfl) ?_
 unfold B_ref03_small at h
 have hP := Pre.refl σ
 have E0 : argE [(.v (.int .u8 a0))] 0 = (.v (.int .u8 a0)) := rfl
 have TT := cj2 Expr.rlen T_5
 refine w_sa (fun e s => e 0 = (.v (.int .u8 a0)) ∧ Pre σ s) ?_ fun e s hI => ?_
 ·refine w_x (cj2 E0 TT) (k := ?_)
  exact cw_n ⟨_, WkE.refl _, (xv (cj2 E0 TT)), hP⟩
 obtain ⟨E0, hP⟩ := hI
 refine w_sa (fun e s => e 2 = (.v (.bool ((decide ((97 : Int) ≤ a0)) && (decide (a0 ≤ (122 : Int)))))) ∧ Pre σ s) ?_ fun e s hI => ?_
 ·cases hb1 : (decide ((97 : Int) ≤ a0))
  ·refine w_x (cj3 E0 hb1 TT) (k := ?_)
   exact cw_n ⟨_, WkE.refl _, (xv (cj3 E0 hb1 TT)), hP⟩
  ·refine w_x (cj3 E0 hb1 TT) (k := ?_)
   exact cw_n ⟨_, WkE.refl _, (xv (cj3 E0 hb1 TT)), hP⟩
 obtain ⟨E2, hP⟩ := hI
 refine w_ret ?_
 obtain rfl := some_inj h
 exact w_fin (fun _ => rfl) (xr (rs := #[.tmp 2]) E2) hP (r' := (.v (.bool ((decide ((97 : Int) ≤ a0)) && (decide (a0 ≤ (122 : Int))))))) (.refl _) (.v _) hK
end Go.Proofs.Ytohmmfimedgccaa.E
end
section
namespace Go.Proofs.Ytohmmfimedgccaa.E
set_option maxRecDepth 100000
set_option maxHeartbeats 4000000
set_option linter.unusedVariables false
set_option linter.unusedSimpArgs false
noncomputable def B_ref03_digit (a0 : Int) : Option Bool :=
 some ((decide ((48 : Int) ≤ a0)) && (decide (a0 ≤ (57 : Int))))
theorem W_ref03_digit : Sat_ref03_digit (B_ref03_digit) := by
 intro a0 r h σ K hK
 refine w_fp Try.func87 rfl rfl (by kernel_rfl) ?_
 unfold B_ref03_digit at h
 have hP := Pre.refl σ
 have E0 : argE [(.v (.int .u8 a0))] 0 = (.v (.int .u8 a0)) := rfl
 have TT := cj2 Expr.rlen T_5
 refine w_sa (fun e s => e 0 = (.v (.int .u8 a0)) ∧ Pre σ s) ?_ fun e s hI => ?_
 ·refine w_x (cj2 E0 TT) (k := ?_)
  exact cw_n ⟨_, WkE.refl _, (xv (cj2 E0 TT)), hP⟩
 obtain ⟨E0, hP⟩ := hI
 refine w_sa (fun e s => e 2 = (.v (.bool ((decide ((48 : Int) ≤ a0)) && (decide (a0 ≤ (57 : Int)))))) ∧ Pre σ s) ?_ fun e s hI => ?_
 ·cases hb1 : (decide ((48 : Int) ≤ a0))
  ·refine w_x (cj3 E0 hb1 TT) (k := ?_)
   exact cw_n ⟨_, WkE.refl _, (xv (cj3 E0 hb1 TT)), hP⟩
  ·refine w_x (cj3 E0 hb1 TT) (k := ?_)
   exact cw_n ⟨_, WkE.refl _, (xv (cj3 E0 hb1 TT)), hP⟩
 obtain ⟨E2, hP⟩ := hI
 refine w_ret ?_
 obtain rfl := some_inj h
 exact w_fin (fun _ => rfl) (xr (rs := #[.tmp 2]) E2) hP (r' := (.v (.bool ((decide ((48 : Int) ≤ a0)) && (decide (a0 ≤ (57 : Int))))))) (.refl _) (.v _) hK
end Go.Proofs.Ytohmmfimedgccaa.E
end
section
namespace Go.Proofs.Ytohmmfimedgccaa.E
set_option maxRecDepth 100000
set_option maxHeartbeats 4000000
set_option linter.unusedVariables false
set_option linter.unusedSimpArgs false
noncomputable def ref03_Word_L0 (y1 : (List ByteArray)) (a0 : ByteArray) : Int → Option (Int ⊕ (Bool ⊕ Unit))
 | vi_5 =>
  if (decide (vi_5 < ((List.length y1 : Nat) : Int))) then
   ((getI y1 vi_5).bind fun y11 =>
   if (decide (y11 = a0)) then
    some (.inl true)
   else
    some (.inr ()) : Option (Bool ⊕ Unit)).bind fun x => match x with
   | .inl r => some (.inr (.inl r))
   | .inr _ =>
    some (.inl (IntKind.i64.wrap (vi_5 + (1 : Int))))
  else
   some (.inr (.inr ()))
noncomputable def B_ref03_Word (f_lex_Words : Option (List ByteArray)) (a0 : ByteArray) : Option Bool :=
 (f_lex_Words).bind fun y1 =>
 (iterO (ref03_Word_L0 y1 a0) (0 : Int) : Option (Bool ⊕ Unit)).bind fun x => match x with
 | .inl r => some r
 | .inr _ =>
  some false
theorem W_ref03_Word (f_lex_Words : Option (List ByteArray)) (S_lex_Words : Sat_lex_Words f_lex_Words) : Sat_ref03_Word (B_ref03_Word f_lex_Words) := by
 intro a0 r h σ K hK
 refine w_fp Try.func88 rfl rfl (by kernel_rfl) ?_
 unfold B_ref03_Word at h
 have hP := Pre.refl σ
 have E0 : argE [(.v (.string a0))] 0 = (.v (.string a0)) := rfl
 have TT := cj4 Expr.rlen T_3 T_9 T_97
 refine w_sa (fun e s => e 0 = (.v (.string a0)) ∧ Pre σ s) ?_ fun e s hI => ?_
 ·refine w_x (cj2 E0 TT) (k := ?_)
  exact cw_n ⟨_, WkE.refl _, (xv (cj2 E0 TT)), hP⟩
 obtain ⟨E0, hP⟩ := hI
 obtain ⟨y1, h2, h⟩ := bnd_some h
 refine w_sa (fun e s => e 0 = (.v (.string a0)) ∧ e 3 = (.sl (List.map C_s y1)) ∧ Pre σ s) ?_ fun e s hI => ?_
 ·refine w_x (cj2 E0 TT) (k := ?_)
  refine EC.wka .nil (S_lex_Words _ h2 _ _  ?_)
  refine w_y (cj2 E0 TT) (k := ?_)
  exact cw_n ⟨_, WkE.refl _, (xv (cj2 E0 TT)), (xv (cj2 E0 TT)), hP⟩
 obtain ⟨E0, E3, hP⟩ := hI
 refine w_assoc ?_
 refine w_sa (fun e s => e 0 = (.v (.string a0)) ∧ e 3 = (.sl (List.map C_s y1)) ∧ e 4 = (.v (.int .i64 (0 : Int))) ∧ Pre σ s) ?_ fun e s hI => ?_
 ·refine w_x (cj3 E0 E3 TT) (k := ?_)
  exact cw_n ⟨_, WkE.refl _, (xv (cj3 E0 E3 TT)), (xv (cj3 E0 E3 TT)), (xv (cj3 E0 E3 TT)), hP⟩
 obtain ⟨E0, E3, E4, hP⟩ := hI
 obtain ⟨x3, h4, h⟩ := bnd_some h
 refine w_sa (fun e s => .inr () = x3 ∧ Pre σ s) ?_ fun e s hI => ?_
 ·refine w_block ?_
  refine w_iter h4 (fun v e s => ∃ vi_5 : Int, vi_5 = v ∧ e 0 = (.v (.string a0)) ∧ e 3 = (.sl (List.map C_s y1)) ∧ e 4 = (.v (.int .i64 vi_5)) ∧ Pre σ s) ⟨_, WkE.refl _, _, rfl, (xv (cj3 E0 E3 E4)), (xv (cj3 E0 E3 E4)), (xv (cj3 E0 E3 E4)), hP⟩ fun v x6 e s hf7 hI => ?_
  obtain ⟨vi_5, rfl, E0, E3, E4, hP⟩ := hI
  unfold ref03_Word_L0 at hf7
  try dsimp only at hf7
  refine w_assoc ?_
  refine w_sa (fun e s => e 0 = (.v (.string a0)) ∧ e 3 = (.sl (List.map C_s y1)) ∧ e 4 = (.v (.int .i64 vi_5)) ∧ e 9 = (.v (.bool (decide (vi_5 < ((List.length y1 : Nat) : Int))))) ∧ Pre σ s) ?_ fun e s hI => ?_
  ·refine w_x (cj4 E0 E3 E4 TT) (k := ?_)
   have q1 := cj4 E0 E3 E4 TT
   exact cw_n ⟨_, WkE.refl _, (xv q1), (xv q1), (xv q1), (xv q1), hP⟩
  obtain ⟨E0, E3, E4, E9, hP⟩ := hI
  refine w_seq ?_
  rcases ite_some hf7 with ⟨hb8, hf7⟩ | ⟨hb8, hf7⟩
  ·refine xt (cj5 E0 E3 E4 E9 hb8) ?_
   refine w_skip ?_
   refine w_sq ?_
   obtain ⟨x9, h10, hf7⟩ := bnd_some hf7
   refine w_sa (fun e s => .inr () = x9 ∧ e 0 = (.v (.string a0)) ∧ e 3 = (.sl (List.map C_s y1)) ∧ e 4 = (.v (.int .i64 vi_5)) ∧ Pre σ s) ?_ fun e s hI => ?_
   ·refine w_block ?_
    obtain ⟨y11, h12, h10⟩ := bnd_some h10
    refine w_sa (fun e s => e 0 = (.v (.string a0)) ∧ e 3 = (.sl (List.map C_s y1)) ∧ e 4 = (.v (.int .i64 vi_5)) ∧ e 17 = (.v (.bool (decide (y11 = a0)))) ∧ Pre σ s) ?_ fun e s hI => ?_
    ·have R13 : (List.map C_s y1)[(vi_5).toNat]? = some [(.v (.string y11))] := map_get (getI_some h12).2
     refine w_x (cj7 E0 E3 E4 E9 R13 (getI_some h12).1 TT) (k := ?_)
     have q2 := cj7 E0 E3 E4 E9 R13 (getI_some h12).1 TT
     exact cw_n ⟨_, WkE.refl _, (xv q2), (xv q2), (xv q2), (xv q2), hP⟩
    obtain ⟨E0, E3, E4, E17, hP⟩ := hI
    rcases ite_some h10 with ⟨hb14, h10⟩ | ⟨hb14, h10⟩
    ·refine xt (cj5 E0 E3 E4 E17 hb14) ?_
     refine w_sa (fun e s => e 2 = (.v (.bool true)) ∧ Pre σ s) ?_ fun e s hI => ?_
     ·refine w_x (cj5 E0 E3 E4 E17 TT) (k := ?_)
      exact cw_n ⟨_, WkE.refl _, (xv (cj5 E0 E3 E4 E17 TT)), hP⟩
     obtain ⟨E2, hP⟩ := hI
     refine w_ret ?_
     refine w_bkr ?_
     obtain rfl := some_inj h10
     refine cw_r ?_
     try dsimp only at hf7
     obtain rfl := some_inj hf7
     refine iq_r rfl fun hr15 => ?_
     obtain rfl := hr15
     refine w_bkr ?_
     refine cw_r ?_
     try dsimp only at h
     obtain rfl := some_inj h
     exact w_fin (fun _ => rfl) (xr (rs := #[.tmp 2]) E2) hP (r' := (.v (.bool true))) (.refl _) (.v _) hK
    ·refine xf (cj5 E0 E3 E4 E17 hb14) ?_
     refine w_skip ?_
     refine w_bk ?_
     obtain rfl := some_inj h10
     have q3 := cj4 E0 E3 E4 E17
     exact cw_n ⟨_, WkE.refl _, rfl, (xv q3), (xv q3), (xv q3), hP⟩
   obtain ⟨rfl, E0, E3, E4, hP⟩ := hI
   try dsimp only at hf7
   refine w_x (cj4 E0 E3 E4 TT) (k := ?_)
   obtain rfl := some_inj hf7
   have q4 := cj4 E0 E3 E4 TT
   exact iq_n rfl ⟨_, WkE.refl _, _, rfl, (xv q4), (xv q4), (xv q4), hP⟩
  ·refine xf (cj5 E0 E3 E4 E9 hb8) ?_
   refine w_exit ?_
   refine w_sqx ?_
   obtain rfl := some_inj hf7
   refine iq_x rfl fun hr16 => ?_
   obtain rfl := hr16
   refine w_bkx ?_
   exact cw_n ⟨_, WkE.refl _, rfl, hP⟩
 obtain ⟨rfl, hP⟩ := hI
 try dsimp only at h
 refine w_sa (fun e s => e 2 = (.v (.bool false)) ∧ Pre σ s) ?_ fun e s hI => ?_
 ·refine w_x Expr.rlen (k := ?_)
  exact cw_n ⟨_, WkE.refl _, (xv Expr.rlen), hP⟩
 obtain ⟨E2, hP⟩ := hI
 refine w_ret ?_
 obtain rfl := some_inj h
 exact w_fin (fun _ => rfl) (xr (rs := #[.tmp 2]) E2) hP (r' := (.v (.bool false))) (.refl _) (.v _) hK
end Go.Proofs.Ytohmmfimedgccaa.E
end
section
namespace Go.Proofs.Ytohmmfimedgccaa.E
set_option maxRecDepth 100000
set_option maxHeartbeats 4000000
set_option linter.unusedVariables false
set_option linter.unusedSimpArgs false
def lex_Words_K0 : (List ByteArray) := [(⟨#[110, 111, 100, 101]⟩ : ByteArray), (⟨#[98, 117, 100, 103, 101, 116]⟩ : ByteArray), (⟨#[105, 110, 112, 117, 116]⟩ : ByteArray), (⟨#[112, 101, 114, 105, 111, 100]⟩ : ByteArray), (⟨#[112, 104, 97, 115, 101]⟩ : ByteArray), (⟨#[102, 108, 111, 119]⟩ : ByteArray), (⟨#[102, 98, 121]⟩ : ByteArray), (⟨#[116, 97, 105, 108]⟩ : ByteArray), (⟨#[111, 117, 116, 112, 117, 116]⟩ : ByteArray), (⟨#[100, 101, 97, 100, 108, 105, 110, 101]⟩ : ByteArray)]
noncomputable def B_lex_Words : Option (List ByteArray) :=
 some lex_Words_K0
theorem W_lex_Words : Sat_lex_Words (B_lex_Words) := by
 intro r h σ K hK
 refine w_fp Try.func122 rfl rfl (by kernel_rfl) ?_
 unfold B_lex_Words at h
 have hP := Pre.refl σ
 have TT := cj3 Expr.rlen T_9 T_97
 refine w_sa (fun e s => Pre σ s) ?_ fun e s hI => ?_
 ·refine w_x Expr.rlen (k := ?_)
  exact cw_n ⟨_, WkE.refl _, hP⟩
 have hP := hI
 refine w_sa (fun e s => e 0 = (.sl (List.map C_s lex_Words_K0)) ∧ Pre σ s) ?_ fun e s hI => ?_
 ·refine w_x TT (k := ?_)
  exact cw_n ⟨_, WkE.upd (WkE.refl _) (t := 0) (p := (.sl [[(.v (.string (⟨#[110, 111, 100, 101]⟩ : ByteArray)))], [(.v (.string (⟨#[98, 117, 100, 103, 101, 116]⟩ : ByteArray)))], [(.v (.string (⟨#[105, 110, 112, 117, 116]⟩ : ByteArray)))], [(.v (.string (⟨#[112, 101, 114, 105, 111, 100]⟩ : ByteArray)))], [(.v (.string (⟨#[112, 104, 97, 115, 101]⟩ : ByteArray)))], [(.v (.string (⟨#[102, 108, 111, 119]⟩ : ByteArray)))], [(.v (.string (⟨#[102, 98, 121]⟩ : ByteArray)))], [(.v (.string (⟨#[116, 97, 105, 108]⟩ : ByteArray)))], [(.v (.string (⟨#[111, 117, 116, 112, 117, 116]⟩ : ByteArray)))], [(.v (.string (⟨#[100, 101, 97, 100, 108, 105, 110, 101]⟩ : ByteArray)))]])) (q := (.sl (List.map C_s lex_Words_K0))) (xv TT) (Wk.of_eq rfl), (xv TT), hP⟩
 obtain ⟨E0, hP⟩ := hI
 refine w_ret ?_
 obtain rfl := some_inj h
 exact w_fin (fun _ => rfl) (xr (rs := #[.tmp 0]) E0) hP (r' := (.sl (List.map C_s lex_Words_K0))) (.refl _) (Cn.rows (fun _ => CnL.cons (.v _) CnL.nil) _) hK
end Go.Proofs.Ytohmmfimedgccaa.E
end
section
namespace Go.Proofs.Ytohmmfimedgccaa.E
set_option maxRecDepth 100000
set_option maxHeartbeats 4000000
set_option linter.unusedVariables false
set_option linter.unusedSimpArgs false
noncomputable def ref03_Right_L0 (a0 : ByteArray) (f_ref03_digit : Int → Option Bool) (f_ref03_small : Int → Option Bool) : Int → Option (Int ⊕ (Bool ⊕ Unit))
 | vi_3 =>
  if (decide (vi_3 < ((ByteArray.size a0 : Nat) : Int))) then
   ((getB a0 vi_3).bind fun y9 =>
   (f_ref03_small y9).bind fun y11 =>
   (if (!y11) then
    (if (decide (vi_3 = (0 : Int))) then
     some false
    else
     (f_ref03_digit y9).bind fun y13 =>
     some ((!y13) && (!decide (y9 = (95 : Int))))).bind fun w15 =>
    some ((decide (vi_3 = (0 : Int))) || w15)
   else
    some false).bind fun w17 =>
   if ((!y11) && w17) then
    some (.inl false)
   else
    some (.inr ()) : Option (Bool ⊕ Unit)).bind fun x => match x with
   | .inl r => some (.inr (.inl r))
   | .inr _ =>
    some (.inl (IntKind.i64.wrap (vi_3 + (1 : Int))))
  else
   some (.inr (.inr ()))
noncomputable def B_ref03_Right (f_ref03_small : Int → Option Bool) (f_ref03_digit : Int → Option Bool) (f_ref03_Word : ByteArray → Option Bool) (a0 : ByteArray) : Option Bool :=
 (iterO (ref03_Right_L0 a0 f_ref03_digit f_ref03_small) (0 : Int) : Option (Bool ⊕ Unit)).bind fun x => match x with
 | .inl r => some r
 | .inr _ =>
  (if ((!decide (a0 = (⟨#[]⟩ : ByteArray))) && (decide (((ByteArray.size a0 : Nat) : Int) ≤ (100 : Int)))) then
   (f_ref03_Word a0).bind fun y26 =>
   some (!y26)
  else
   some false).bind fun w28 =>
  some (((!decide (a0 = (⟨#[]⟩ : ByteArray))) && (decide (((ByteArray.size a0 : Nat) : Int) ≤ (100 : Int)))) && w28)
theorem W_ref03_Right (f_ref03_small : Int → Option Bool) (f_ref03_digit : Int → Option Bool) (f_ref03_Word : ByteArray → Option Bool) (S_ref03_small : Sat_ref03_small f_ref03_small) (S_ref03_digit : Sat_ref03_digit f_ref03_digit) (S_ref03_Word : Sat_ref03_Word f_ref03_Word) : Sat_ref03_Right (B_ref03_Right f_ref03_small f_ref03_digit f_ref03_Word) := by
 intro a0 r h σ K hK
 refine w_fp Try.func38 rfl rfl (by kernel_rfl) ?_
 unfold B_ref03_Right at h
 have hP := Pre.refl σ
 have E0 : argE [(.v (.string a0))] 0 = (.v (.string a0)) := rfl
 have TT := cj4 Expr.rlen T_3 T_5 T_9
 refine w_sa (fun e s => e 0 = (.v (.string a0)) ∧ Pre σ s) ?_ fun e s hI => ?_
 ·refine w_x (cj2 E0 TT) (k := ?_)
  exact cw_n ⟨_, WkE.refl _, (xv (cj2 E0 TT)), hP⟩
 obtain ⟨E0, hP⟩ := hI
 refine w_assoc ?_
 refine w_sa (fun e s => e 0 = (.v (.string a0)) ∧ e 3 = (.v (.int .i64 (0 : Int))) ∧ Pre σ s) ?_ fun e s hI => ?_
 ·refine w_x (cj2 E0 TT) (k := ?_)
  exact cw_n ⟨_, WkE.refl _, (xv (cj2 E0 TT)), (xv (cj2 E0 TT)), hP⟩
 obtain ⟨E0, E3, hP⟩ := hI
 obtain ⟨x1, h2, h⟩ := bnd_some h
 refine w_sa (fun e s => .inr () = x1 ∧ e 0 = (.v (.string a0)) ∧ Pre σ s) ?_ fun e s hI => ?_
 ·refine w_block ?_
  refine w_iter h2 (fun v e s => ∃ vi_3 : Int, vi_3 = v ∧ e 0 = (.v (.string a0)) ∧ e 3 = (.v (.int .i64 vi_3)) ∧ Pre σ s) ⟨_, WkE.refl _, _, rfl, (xv (cj2 E0 E3)), (xv (cj2 E0 E3)), hP⟩ fun v x4 e s hf5 hI => ?_
  obtain ⟨vi_3, rfl, E0, E3, hP⟩ := hI
  unfold ref03_Right_L0 at hf5
  try dsimp only at hf5
  refine w_assoc ?_
  refine w_sa (fun e s => e 0 = (.v (.string a0)) ∧ e 3 = (.v (.int .i64 vi_3)) ∧ e 7 = (.v (.bool (decide (vi_3 < ((ByteArray.size a0 : Nat) : Int))))) ∧ Pre σ s) ?_ fun e s hI => ?_
  ·refine w_x (cj3 E0 E3 TT) (k := ?_)
   exact cw_n ⟨_, WkE.refl _, (xv (cj3 E0 E3 TT)), (xv (cj3 E0 E3 TT)), (xv (cj3 E0 E3 TT)), hP⟩
  obtain ⟨E0, E3, E7, hP⟩ := hI
  refine w_seq ?_
  rcases ite_some hf5 with ⟨hb6, hf5⟩ | ⟨hb6, hf5⟩
  ·refine xt (cj4 E0 E3 E7 hb6) ?_
   refine w_skip ?_
   refine w_sq ?_
   obtain ⟨x7, h8, hf5⟩ := bnd_some hf5
   refine w_sa (fun e s => .inr () = x7 ∧ e 0 = (.v (.string a0)) ∧ e 3 = (.v (.int .i64 vi_3)) ∧ Pre σ s) ?_ fun e s hI => ?_
   ·refine w_block ?_
    obtain ⟨y9, h10, h8⟩ := bnd_some h8
    obtain ⟨y11, h12, h8⟩ := bnd_some h8
    obtain ⟨w17, h18, h8⟩ := bnd_some h8
    refine w_sa (fun e s => e 0 = (.v (.string a0)) ∧ e 3 = (.v (.int .i64 vi_3)) ∧ e 31 = (.v (.bool ((!y11) && w17))) ∧ Pre σ s) ?_ fun e s hI => ?_
    ·obtain ⟨k19a, k19b, k19c, k19d⟩ := getB_some h10
     cases hb20 : (!y11)
     ·replace h18 := ite_f (by simp only [hb20, Bool.or_true, Bool.true_or, Bool.or_false, Bool.false_or, Bool.and_true, Bool.true_and, Bool.and_false, Bool.false_and, Bool.not_true, Bool.not_false, cond_true, cond_false]) h18
      obtain rfl := some_inj h18
      refine w_x (cj8 E0 E3 E7 k19a k19c k19d hb20 TT) (k := ?_)
      refine EC.wka (.cons (.refl _) .nil) (S_ref03_small _ _ h12 _ _  ?_)
      refine w_y (cj8 E0 E3 E7 k19a k19c k19d hb20 TT) (k := ?_)
      have q1 := cj8 E0 E3 E7 k19a k19c k19d hb20 TT
      exact cw_n ⟨_, WkE.refl _, (xv q1), (xv q1), (xv q1), hP⟩
     ·replace h18 := ite_t (by simp only [hb20, Bool.or_true, Bool.true_or, Bool.or_false, Bool.false_or, Bool.and_true, Bool.true_and, Bool.and_false, Bool.false_and, Bool.not_true, Bool.not_false, cond_true, cond_false]) h18
      obtain ⟨w15, h16, h18⟩ := bnd_some h18
      obtain rfl := some_inj h18
      cases hb21 : (decide (vi_3 = (0 : Int)))
      ·replace h16 := ite_f (by simp only [hb20, hb21, Bool.or_true, Bool.true_or, Bool.or_false, Bool.false_or, Bool.and_true, Bool.true_and, Bool.and_false, Bool.false_and, Bool.not_true, Bool.not_false, cond_true, cond_false]) h16
       obtain ⟨y13, h14, h16⟩ := bnd_some h16
       obtain rfl := some_inj h16
       cases hb22 : (!y13)
       ·refine w_x (cj10 E0 E3 E7 k19a k19c k19d hb20 hb21 hb22 TT) (k := ?_)
        refine EC.wka (.cons (.refl _) .nil) (S_ref03_small _ _ h12 _ _  ?_)
        refine w_y (cj10 E0 E3 E7 k19a k19c k19d hb20 hb21 hb22 TT) (k := ?_)
        refine EC.wka (.cons (.refl _) .nil) (S_ref03_digit _ _ h14 _ _  ?_)
        refine w_y (cj10 E0 E3 E7 k19a k19c k19d hb20 hb21 hb22 TT) (k := ?_)
        have q2 := cj10 E0 E3 E7 k19a k19c k19d hb20 hb21 hb22 TT
        exact cw_n ⟨_, WkE.refl _, (xv q2), (xv q2), (xv q2), hP⟩
       ·refine w_x (cj10 E0 E3 E7 k19a k19c k19d hb20 hb21 hb22 TT) (k := ?_)
        refine EC.wka (.cons (.refl _) .nil) (S_ref03_small _ _ h12 _ _  ?_)
        refine w_y (cj10 E0 E3 E7 k19a k19c k19d hb20 hb21 hb22 TT) (k := ?_)
        refine EC.wka (.cons (.refl _) .nil) (S_ref03_digit _ _ h14 _ _  ?_)
        refine w_y (cj10 E0 E3 E7 k19a k19c k19d hb20 hb21 hb22 TT) (k := ?_)
        have q3 := cj10 E0 E3 E7 k19a k19c k19d hb20 hb21 hb22 TT
        exact cw_n ⟨_, WkE.refl _, (xv q3), (xv q3), (xv q3), hP⟩
      ·replace h16 := ite_t (by simp only [hb20, hb21, Bool.or_true, Bool.true_or, Bool.or_false, Bool.false_or, Bool.and_true, Bool.true_and, Bool.and_false, Bool.false_and, Bool.not_true, Bool.not_false, cond_true, cond_false]) h16
       obtain rfl := some_inj h16
       refine w_x (cj9 E0 E3 E7 k19a k19c k19d hb20 hb21 TT) (k := ?_)
       refine EC.wka (.cons (.refl _) .nil) (S_ref03_small _ _ h12 _ _  ?_)
       refine w_y (cj9 E0 E3 E7 k19a k19c k19d hb20 hb21 TT) (k := ?_)
       have q4 := cj9 E0 E3 E7 k19a k19c k19d hb20 hb21 TT
       exact cw_n ⟨_, WkE.refl _, (xv q4), (xv q4), (xv q4), hP⟩
    obtain ⟨E0, E3, E31, hP⟩ := hI
    rcases ite_some h8 with ⟨hb23, h8⟩ | ⟨hb23, h8⟩
    ·refine xt (cj4 E0 E3 E31 hb23) ?_
     refine w_sa (fun e s => e 2 = (.v (.bool false)) ∧ Pre σ s) ?_ fun e s hI => ?_
     ·refine w_x (cj4 E0 E3 E31 TT) (k := ?_)
      exact cw_n ⟨_, WkE.refl _, (xv (cj4 E0 E3 E31 TT)), hP⟩
     obtain ⟨E2, hP⟩ := hI
     refine w_ret ?_
     refine w_bkr ?_
     obtain rfl := some_inj h8
     refine cw_r ?_
     try dsimp only at hf5
     obtain rfl := some_inj hf5
     refine iq_r rfl fun hr24 => ?_
     obtain rfl := hr24
     refine w_bkr ?_
     refine cw_r ?_
     try dsimp only at h
     obtain rfl := some_inj h
     exact w_fin (fun _ => rfl) (xr (rs := #[.tmp 2]) E2) hP (r' := (.v (.bool false))) (.refl _) (.v _) hK
    ·refine xf (cj4 E0 E3 E31 hb23) ?_
     refine w_skip ?_
     refine w_bk ?_
     obtain rfl := some_inj h8
     exact cw_n ⟨_, WkE.refl _, rfl, (xv (cj3 E0 E3 E31)), (xv (cj3 E0 E3 E31)), hP⟩
   obtain ⟨rfl, E0, E3, hP⟩ := hI
   try dsimp only at hf5
   refine w_x (cj3 E0 E3 TT) (k := ?_)
   obtain rfl := some_inj hf5
   exact iq_n rfl ⟨_, WkE.refl _, _, rfl, (xv (cj3 E0 E3 TT)), (xv (cj3 E0 E3 TT)), hP⟩
  ·refine xf (cj4 E0 E3 E7 hb6) ?_
   refine w_exit ?_
   refine w_sqx ?_
   obtain rfl := some_inj hf5
   refine iq_x rfl fun hr25 => ?_
   obtain rfl := hr25
   refine w_bkx ?_
   exact cw_n ⟨_, WkE.refl _, rfl, (xv (cj3 E0 E3 E7)), hP⟩
 obtain ⟨rfl, E0, hP⟩ := hI
 try dsimp only at h
 obtain ⟨w28, h29, h⟩ := bnd_some h
 refine w_sa (fun e s => e 2 = (.v (.bool (((!decide (a0 = (⟨#[]⟩ : ByteArray))) && (decide (((ByteArray.size a0 : Nat) : Int) ≤ (100 : Int)))) && w28))) ∧ Pre σ s) ?_ fun e s hI => ?_
 ·cases hb30 : (!decide (a0 = (⟨#[]⟩ : ByteArray)))
  ·replace h29 := ite_f (by simp only [hb30, Bool.or_true, Bool.true_or, Bool.or_false, Bool.false_or, Bool.and_true, Bool.true_and, Bool.and_false, Bool.false_and, Bool.not_true, Bool.not_false, cond_true, cond_false]) h29
   obtain rfl := some_inj h29
   refine w_x (cj3 E0 hb30 TT) (k := ?_)
   exact cw_n ⟨_, WkE.refl _, (xv (cj3 E0 hb30 TT)), hP⟩
  ·cases hb31 : (decide (((ByteArray.size a0 : Nat) : Int) ≤ (100 : Int)))
   ·replace h29 := ite_f (by simp only [hb30, hb31, Bool.or_true, Bool.true_or, Bool.or_false, Bool.false_or, Bool.and_true, Bool.true_and, Bool.and_false, Bool.false_and, Bool.not_true, Bool.not_false, cond_true, cond_false]) h29
    obtain rfl := some_inj h29
    refine w_x (cj4 E0 hb30 hb31 TT) (k := ?_)
    exact cw_n ⟨_, WkE.refl _, (xv (cj4 E0 hb30 hb31 TT)), hP⟩
   ·replace h29 := ite_t (by simp only [hb30, hb31, Bool.or_true, Bool.true_or, Bool.or_false, Bool.false_or, Bool.and_true, Bool.true_and, Bool.and_false, Bool.false_and, Bool.not_true, Bool.not_false, cond_true, cond_false]) h29
    obtain ⟨y26, h27, h29⟩ := bnd_some h29
    obtain rfl := some_inj h29
    refine w_x (cj4 E0 hb30 hb31 TT) (k := ?_)
    refine EC.wka (.cons (.refl _) .nil) (S_ref03_Word _ _ h27 _ _  ?_)
    refine w_y (cj4 E0 hb30 hb31 TT) (k := ?_)
    exact cw_n ⟨_, WkE.refl _, (xv (cj4 E0 hb30 hb31 TT)), hP⟩
 obtain ⟨E2, hP⟩ := hI
 refine w_ret ?_
 obtain rfl := some_inj h
 exact w_fin (fun _ => rfl) (xr (rs := #[.tmp 2]) E2) hP (r' := (.v (.bool (((!decide (a0 = (⟨#[]⟩ : ByteArray))) && (decide (((ByteArray.size a0 : Nat) : Int) ≤ (100 : Int)))) && w28)))) (.refl _) (.v _) hK
end Go.Proofs.Ytohmmfimedgccaa.E
end
section
namespace Go.Proofs.Ytohmmfimedgccaa.E
set_option maxRecDepth 100000
set_option maxHeartbeats 4000000
set_option linter.unusedVariables false
set_option linter.unusedSimpArgs false
noncomputable def B_ref04_number (a0 : Int) (a1 : Int) (a2 : Int) : Option Bool :=
 some ((decide (a1 ≤ a0)) && (decide (a0 ≤ a2)))
theorem W_ref04_number : Sat_ref04_number (B_ref04_number) := by
 intro a0 a1 a2 r h σ K hK
 refine w_fp Try.func39 rfl rfl (by kernel_rfl) ?_
 unfold B_ref04_number at h
 have hP := Pre.refl σ
 have E0 : argE [(.v (.int .i64 a0)), (.v (.int .i64 a1)), (.v (.int .i64 a2))] 0 = (.v (.int .i64 a0)) := rfl
 have E1 : argE [(.v (.int .i64 a0)), (.v (.int .i64 a1)), (.v (.int .i64 a2))] 1 = (.v (.int .i64 a1)) := rfl
 have E2 : argE [(.v (.int .i64 a0)), (.v (.int .i64 a1)), (.v (.int .i64 a2))] 2 = (.v (.int .i64 a2)) := rfl
 have TT := cj2 Expr.rlen T_2
 refine w_sa (fun e s => e 0 = (.v (.int .i64 a0)) ∧ e 1 = (.v (.int .i64 a1)) ∧ e 2 = (.v (.int .i64 a2)) ∧ Pre σ s) ?_ fun e s hI => ?_
 ·refine w_x (cj4 E0 E1 E2 TT) (k := ?_)
  have q1 := cj4 E0 E1 E2 TT
  exact cw_n ⟨_, WkE.refl _, (xv q1), (xv q1), (xv q1), hP⟩
 obtain ⟨E0, E1, E2, hP⟩ := hI
 refine w_sa (fun e s => e 6 = (.v (.bool ((decide (a1 ≤ a0)) && (decide (a0 ≤ a2))))) ∧ Pre σ s) ?_ fun e s hI => ?_
 ·cases hb1 : (decide (a1 ≤ a0))
  ·refine w_x (cj5 E0 E1 E2 hb1 TT) (k := ?_)
   exact cw_n ⟨_, WkE.refl _, (xv (cj5 E0 E1 E2 hb1 TT)), hP⟩
  ·refine w_x (cj5 E0 E1 E2 hb1 TT) (k := ?_)
   exact cw_n ⟨_, WkE.refl _, (xv (cj5 E0 E1 E2 hb1 TT)), hP⟩
 obtain ⟨E6, hP⟩ := hI
 refine w_ret ?_
 obtain rfl := some_inj h
 exact w_fin (fun _ => rfl) (xr (rs := #[.tmp 6]) E6) hP (r' := (.v (.bool ((decide (a1 ≤ a0)) && (decide (a0 ≤ a2)))))) (.refl _) (.v _) hK
end Go.Proofs.Ytohmmfimedgccaa.E
end
section
namespace Go.Proofs.Ytohmmfimedgccaa.E
set_option maxRecDepth 100000
set_option maxHeartbeats 4000000
set_option linter.unusedVariables false
set_option linter.unusedSimpArgs false
noncomputable def ref04_Size_L0 (a0 : Expr) (a1 : Int) (f_ref04_Size : Expr → Int → Option Int) : (Int × Int) → Option ((Int × Int) ⊕ Int)
 | (vn_4, vi_5) =>
  if ((decide (vi_5 < ((List.length a0.args : Nat) : Int))) && (decide (vn_4 ≤ a1))) then
   ((getI a0.args vi_5).bind fun y13 =>
   (f_ref04_Size y13 (IntKind.i64.wrap (a1 - vn_4))).bind fun y15 =>
   some (IntKind.i64.wrap (vn_4 + y15)) : Option Int).bind fun vn_12 =>
   some (.inl (vn_12, (IntKind.i64.wrap (vi_5 + (1 : Int)))))
  else
   some (.inr vn_4)
noncomputable def B_ref04_Size (f_ref04_Size : Expr → Int → Option Int) (a0 : Expr) (a1 : Int) : Option Int :=
 (iterO (ref04_Size_L0 a0 a1 f_ref04_Size) ((1 : Int), (0 : Int)) : Option Int).bind fun vn_3 =>
 some vn_3
abbrev ref04_Size_A0 (a0 : Expr) : List PV := [(.v (.int .i64 a0.kind)), (.v (.string a0.name)), (.v (.int .i64 a0.n)), (.v (.int .i64 a0.d)), (.sl (Expr.rows a0.args)), (.v (.int .i64 a0.at_))]
theorem W_ref04_Size (f_ref04_Size : Expr → Int → Option Int) (S_ref04_Size : Sat_ref04_Size f_ref04_Size) : Sat_ref04_Size (B_ref04_Size f_ref04_Size) := by
 intro a0 a1 r h σ K hK
 refine w_fp Try.func40 rfl rfl (by kernel_rfl) ?_
 unfold B_ref04_Size at h
 have hP := Pre.refl σ
 have E0 : argE [(.ag (ref04_Size_A0 a0)), (.v (.int .i64 a1))] 0 = (.ag (ref04_Size_A0 a0)) := rfl
 have E1 : argE [(.ag (ref04_Size_A0 a0)), (.v (.int .i64 a1))] 1 = (.v (.int .i64 a1)) := rfl
 have TT := cj6 Expr.rlen T_2 T_3 T_37 T_39 T_9
 refine w_sa (fun e s => ∃ i2 : Nat, Bx σ s i2 39 (ref04_Size_A0 a0) ∧ e 1 = (.v (.int .i64 a1)) ∧ e 2 = (.pt i2 0) ∧ Pre σ s) ?_ fun e s hI => ?_
 ·refine w_x (cj3 E0 E1 TT) (k := ?_)
  exact cw_n ⟨_, WkE.refl _, σ.length, (Bx.new hP 39 (ref04_Size_A0 a0)), (xv (cj3 E0 E1 TT)), (xv (cj3 E0 E1 TT)), (hP.app _)⟩
 obtain ⟨i2, X2, E1, E2, hP⟩ := hI
 refine w_sa (fun e s => Bx σ s i2 39 (ref04_Size_A0 a0) ∧ e 1 = (.v (.int .i64 a1)) ∧ e 2 = (.pt i2 0) ∧ e 5 = (.v (.int .i64 (1 : Int))) ∧ Pre σ s) ?_ fun e s hI => ?_
 ·refine w_x (cj4 E1 E2 X2.get TT) (k := ?_)
  have q1 := cj4 E1 E2 X2.get TT
  exact cw_n ⟨_, WkE.refl _, X2, (xv q1), (xv q1), (xv q1), hP⟩
 obtain ⟨X2, E1, E2, E5, hP⟩ := hI
 refine w_assoc ?_
 refine w_sa (fun e s => Bx σ s i2 39 (ref04_Size_A0 a0) ∧ e 1 = (.v (.int .i64 a1)) ∧ e 2 = (.pt i2 0) ∧ e 5 = (.v (.int .i64 (1 : Int))) ∧ e 6 = (.v (.int .i64 (0 : Int))) ∧ Pre σ s) ?_ fun e s hI => ?_
 ·refine w_x (cj5 E1 E2 E5 X2.get TT) (k := ?_)
  have q2 := cj5 E1 E2 E5 X2.get TT
  exact cw_n ⟨_, WkE.refl _, X2, (xv q2), (xv q2), (xv q2), (xv q2), hP⟩
 obtain ⟨X2, E1, E2, E5, E6, hP⟩ := hI
 obtain ⟨x1, h2, h⟩ := bnd_some h
 refine w_sa (fun e s => ∃ vn_3 : Int, vn_3 = x1 ∧ e 5 = (.v (.int .i64 vn_3)) ∧ Pre σ s) ?_ fun e s hI => ?_
 ·refine w_block ?_
  have q3 := cj4 E1 E2 E5 E6
  refine w_iter h2 (fun v e s => ∃ vn_4 : Int, ∃ vi_5 : Int, (vn_4, vi_5) = v ∧ Bx σ s i2 39 (ref04_Size_A0 a0) ∧ e 1 = (.v (.int .i64 a1)) ∧ e 2 = (.pt i2 0) ∧ e 5 = (.v (.int .i64 vn_4)) ∧ e 6 = (.v (.int .i64 vi_5)) ∧ Pre σ s) ⟨_, WkE.refl _, _, _, rfl, X2, (xv q3), (xv q3), (xv q3), (xv q3), hP⟩ fun v x6 e s hf7 hI => ?_
  obtain ⟨vn_4, vi_5, rfl, X2, E1, E2, E5, E6, hP⟩ := hI
  unfold ref04_Size_L0 at hf7
  try dsimp only at hf7
  refine w_assoc ?_
  refine w_sa (fun e s => Bx σ s i2 39 (ref04_Size_A0 a0) ∧ e 1 = (.v (.int .i64 a1)) ∧ e 2 = (.pt i2 0) ∧ e 5 = (.v (.int .i64 vn_4)) ∧ e 6 = (.v (.int .i64 vi_5)) ∧ e 16 = (.v (.bool ((decide (vi_5 < ((List.length a0.args : Nat) : Int))) && (decide (vn_4 ≤ a1))))) ∧ Pre σ s) ?_ fun e s hI => ?_
  ·cases hb8 : (decide (vi_5 < ((List.length a0.args : Nat) : Int)))
   ·refine w_x (cj7 E1 E2 E5 E6 X2.get hb8 TT) (k := ?_)
    have q4 := cj7 E1 E2 E5 E6 X2.get hb8 TT
    exact cw_n ⟨_, WkE.refl _, X2, (xv q4), (xv q4), (xv q4), (xv q4), (xv q4), hP⟩
   ·refine w_x (cj7 E1 E2 E5 E6 X2.get hb8 TT) (k := ?_)
    have q5 := cj7 E1 E2 E5 E6 X2.get hb8 TT
    exact cw_n ⟨_, WkE.refl _, X2, (xv q5), (xv q5), (xv q5), (xv q5), (xv q5), hP⟩
  obtain ⟨X2, E1, E2, E5, E6, E16, hP⟩ := hI
  refine w_seq ?_
  rcases ite_some hf7 with ⟨hb9, hf7⟩ | ⟨hb9, hf7⟩
  ·refine xt (cj6 E1 E2 E5 E6 E16 hb9) ?_
   refine w_skip ?_
   refine w_sq ?_
   obtain ⟨x10, h11, hf7⟩ := bnd_some hf7
   refine w_sa (fun e s => ∃ vn_12 : Int, vn_12 = x10 ∧ Bx σ s i2 39 (ref04_Size_A0 a0) ∧ e 1 = (.v (.int .i64 a1)) ∧ e 2 = (.pt i2 0) ∧ e 5 = (.v (.int .i64 vn_12)) ∧ e 6 = (.v (.int .i64 vi_5)) ∧ Pre σ s) ?_ fun e s hI => ?_
   ·refine w_block ?_
    obtain ⟨y13, h14, h11⟩ := bnd_some h11
    obtain ⟨y15, h16, h11⟩ := bnd_some h11
    have R17 : (Expr.rows a0.args)[(vi_5).toNat]? = some [(.v (.int .i64 y13.kind)), (.v (.string y13.name)), (.v (.int .i64 y13.n)), (.v (.int .i64 y13.d)), (.sl (Expr.rows y13.args)), (.v (.int .i64 y13.at_))] := Expr.rget (getI_some h14).2
    refine w_x (cj9 E1 E2 E5 E6 E16 X2.get R17 (getI_some h14).1 TT) (k := ?_)
    refine EC.wka (.cons (.refl _) (.cons (.refl _) .nil)) (S_ref04_Size _ _ _ h16 _ _  ?_)
    refine w_y (cj9 E1 E2 E5 E6 E16 X2.get R17 (getI_some h14).1 TT) (k := ?_)
    refine w_bk ?_
    obtain rfl := some_inj h11
    have q6 := cj9 E1 E2 E5 E6 E16 X2.get R17 (getI_some h14).1 TT
    exact cw_n ⟨_, WkE.refl _, _, rfl, X2, (xv q6), (xv q6), (xv q6), (xv q6), hP⟩
   obtain ⟨vn_12, rfl, X2, E1, E2, E5, E6, hP⟩ := hI
   try dsimp only at hf7
   refine w_x (cj6 E1 E2 E5 E6 X2.get TT) (k := ?_)
   obtain rfl := some_inj hf7
   have q7 := cj6 E1 E2 E5 E6 X2.get TT
   exact iq_n rfl ⟨_, WkE.refl _, _, _, rfl, X2, (xv q7), (xv q7), (xv q7), (xv q7), hP⟩
  ·refine xf (cj6 E1 E2 E5 E6 E16 hb9) ?_
   refine w_exit ?_
   refine w_sqx ?_
   obtain rfl := some_inj hf7
   refine iq_x rfl fun hr18 => ?_
   obtain rfl := hr18
   refine w_bkx ?_
   exact cw_n ⟨_, WkE.refl _, _, rfl, (xv (cj5 E1 E2 E5 E6 E16)), hP⟩
 obtain ⟨vn_3, rfl, E5, hP⟩ := hI
 try dsimp only at h
 refine w_sa (fun e s => e 4 = (.v (.int .i64 vn_3)) ∧ Pre σ s) ?_ fun e s hI => ?_
 ·refine w_x (cj2 E5 TT) (k := ?_)
  exact cw_n ⟨_, WkE.refl _, (xv (cj2 E5 TT)), hP⟩
 obtain ⟨E4, hP⟩ := hI
 refine w_ret ?_
 obtain rfl := some_inj h
 exact w_fin (fun _ => rfl) (xr (rs := #[.tmp 4]) E4) hP (r' := (.v (.int .i64 vn_3))) (.refl _) (.v _) hK
end Go.Proofs.Ytohmmfimedgccaa.E
end
section
namespace Go.Proofs.Ytohmmfimedgccaa.E
set_option maxRecDepth 100000
set_option maxHeartbeats 4000000
set_option linter.unusedVariables false
set_option linter.unusedSimpArgs false
noncomputable def ref04_Depth_L0 (a0 : Expr) (a1 : Int) (f_ref04_Depth : Expr → Int → Option Int) : (Int × Int) → Option ((Int × Int) ⊕ Int)
 | (vd_5, vi_6) =>
  if (decide (vi_6 < ((List.length a0.args : Nat) : Int))) then
   ((getI a0.args vi_6).bind fun y13 =>
   (f_ref04_Depth y13 (IntKind.i64.wrap (a1 - (1 : Int)))).bind fun y15 =>
   some (if vd_5 < y15 then y15 else vd_5) : Option Int).bind fun vd_12 =>
   some (.inl (vd_12, (IntKind.i64.wrap (vi_6 + (1 : Int)))))
  else
   some (.inr vd_5)
noncomputable def B_ref04_Depth (f_ref04_Depth : Expr → Int → Option Int) (a0 : Expr) (a1 : Int) : Option Int :=
 if (decide (a1 = (0 : Int))) then
  some (0 : Int)
 else
  (iterO (ref04_Depth_L0 a0 a1 f_ref04_Depth) ((0 : Int), (0 : Int)) : Option Int).bind fun vd_4 =>
  some (IntKind.i64.wrap (vd_4 + (1 : Int)))
abbrev ref04_Depth_A0 (a0 : Expr) : List PV := [(.v (.int .i64 a0.kind)), (.v (.string a0.name)), (.v (.int .i64 a0.n)), (.v (.int .i64 a0.d)), (.sl (Expr.rows a0.args)), (.v (.int .i64 a0.at_))]
theorem W_ref04_Depth (f_ref04_Depth : Expr → Int → Option Int) (S_ref04_Depth : Sat_ref04_Depth f_ref04_Depth) : Sat_ref04_Depth (B_ref04_Depth f_ref04_Depth) := by
 intro a0 a1 r h σ K hK
 refine w_fp Try.func41 rfl rfl (by kernel_rfl) ?_
 unfold B_ref04_Depth at h
 have hP := Pre.refl σ
 have E0 : argE [(.ag (ref04_Depth_A0 a0)), (.v (.int .i64 a1))] 0 = (.ag (ref04_Depth_A0 a0)) := rfl
 have E1 : argE [(.ag (ref04_Depth_A0 a0)), (.v (.int .i64 a1))] 1 = (.v (.int .i64 a1)) := rfl
 have TT := cj6 Expr.rlen T_2 T_3 T_37 T_39 T_9
 refine w_sa (fun e s => ∃ i2 : Nat, Bx σ s i2 39 (ref04_Depth_A0 a0) ∧ e 1 = (.v (.int .i64 a1)) ∧ e 2 = (.pt i2 0) ∧ Pre σ s) ?_ fun e s hI => ?_
 ·refine w_x (cj3 E0 E1 TT) (k := ?_)
  exact cw_n ⟨_, WkE.refl _, σ.length, (Bx.new hP 39 (ref04_Depth_A0 a0)), (xv (cj3 E0 E1 TT)), (xv (cj3 E0 E1 TT)), (hP.app _)⟩
 obtain ⟨i2, X2, E1, E2, hP⟩ := hI
 refine w_assoc ?_
 refine w_sa (fun e s => Bx σ s i2 39 (ref04_Depth_A0 a0) ∧ e 1 = (.v (.int .i64 a1)) ∧ e 2 = (.pt i2 0) ∧ e 8 = (.v (.bool (decide (a1 = (0 : Int))))) ∧ Pre σ s) ?_ fun e s hI => ?_
 ·refine w_x (cj4 E1 E2 X2.get TT) (k := ?_)
  have q1 := cj4 E1 E2 X2.get TT
  exact cw_n ⟨_, WkE.refl _, X2, (xv q1), (xv q1), (xv q1), hP⟩
 obtain ⟨X2, E1, E2, E8, hP⟩ := hI
 refine w_seq ?_
 rcases ite_some h with ⟨hb1, h⟩ | ⟨hb1, h⟩
 ·refine xt (cj4 E1 E2 E8 hb1) ?_
  refine w_sa (fun e s => e 4 = (.v (.int .i64 (0 : Int))) ∧ Pre σ s) ?_ fun e s hI => ?_
  ·refine w_x (cj5 E1 E2 E8 X2.get TT) (k := ?_)
   exact cw_n ⟨_, WkE.refl _, (xv (cj5 E1 E2 E8 X2.get TT)), hP⟩
  obtain ⟨E4, hP⟩ := hI
  refine w_ret ?_
  refine w_sqr ?_
  obtain rfl := some_inj h
  exact w_fin (fun _ => rfl) (xr (rs := #[.tmp 4]) E4) hP (r' := (.v (.int .i64 (0 : Int)))) (.refl _) (.v _) hK
 ·refine xf (cj4 E1 E2 E8 hb1) ?_
  refine w_skip ?_
  refine w_sq ?_
  refine w_sa (fun e s => Bx σ s i2 39 (ref04_Depth_A0 a0) ∧ e 1 = (.v (.int .i64 a1)) ∧ e 2 = (.pt i2 0) ∧ e 5 = (.v (.int .i64 (0 : Int))) ∧ Pre σ s) ?_ fun e s hI => ?_
  ·refine w_x (cj5 E1 E2 E8 X2.get TT) (k := ?_)
   have q2 := cj5 E1 E2 E8 X2.get TT
   exact cw_n ⟨_, WkE.refl _, X2, (xv q2), (xv q2), (xv q2), hP⟩
  obtain ⟨X2, E1, E2, E5, hP⟩ := hI
  refine w_assoc ?_
  refine w_sa (fun e s => Bx σ s i2 39 (ref04_Depth_A0 a0) ∧ e 1 = (.v (.int .i64 a1)) ∧ e 2 = (.pt i2 0) ∧ e 5 = (.v (.int .i64 (0 : Int))) ∧ e 6 = (.v (.int .i64 (0 : Int))) ∧ Pre σ s) ?_ fun e s hI => ?_
  ·refine w_x (cj5 E1 E2 E5 X2.get TT) (k := ?_)
   have q3 := cj5 E1 E2 E5 X2.get TT
   exact cw_n ⟨_, WkE.refl _, X2, (xv q3), (xv q3), (xv q3), (xv q3), hP⟩
  obtain ⟨X2, E1, E2, E5, E6, hP⟩ := hI
  obtain ⟨x2, h3, h⟩ := bnd_some h
  refine w_sa (fun e s => ∃ vd_4 : Int, vd_4 = x2 ∧ e 5 = (.v (.int .i64 vd_4)) ∧ Pre σ s) ?_ fun e s hI => ?_
  ·refine w_block ?_
   have q4 := cj4 E1 E2 E5 E6
   refine w_iter h3 (fun v e s => ∃ vd_5 : Int, ∃ vi_6 : Int, (vd_5, vi_6) = v ∧ Bx σ s i2 39 (ref04_Depth_A0 a0) ∧ e 1 = (.v (.int .i64 a1)) ∧ e 2 = (.pt i2 0) ∧ e 5 = (.v (.int .i64 vd_5)) ∧ e 6 = (.v (.int .i64 vi_6)) ∧ Pre σ s) ⟨_, WkE.refl _, _, _, rfl, X2, (xv q4), (xv q4), (xv q4), (xv q4), hP⟩ fun v x7 e s hf8 hI => ?_
   obtain ⟨vd_5, vi_6, rfl, X2, E1, E2, E5, E6, hP⟩ := hI
   unfold ref04_Depth_L0 at hf8
   try dsimp only at hf8
   refine w_assoc ?_
   refine w_sa (fun e s => Bx σ s i2 39 (ref04_Depth_A0 a0) ∧ e 1 = (.v (.int .i64 a1)) ∧ e 2 = (.pt i2 0) ∧ e 5 = (.v (.int .i64 vd_5)) ∧ e 6 = (.v (.int .i64 vi_6)) ∧ e 13 = (.v (.bool (decide (vi_6 < ((List.length a0.args : Nat) : Int))))) ∧ Pre σ s) ?_ fun e s hI => ?_
   ·refine w_x (cj6 E1 E2 E5 E6 X2.get TT) (k := ?_)
    have q5 := cj6 E1 E2 E5 E6 X2.get TT
    exact cw_n ⟨_, WkE.refl _, X2, (xv q5), (xv q5), (xv q5), (xv q5), (xv q5), hP⟩
   obtain ⟨X2, E1, E2, E5, E6, E13, hP⟩ := hI
   refine w_seq ?_
   rcases ite_some hf8 with ⟨hb9, hf8⟩ | ⟨hb9, hf8⟩
   ·refine xt (cj6 E1 E2 E5 E6 E13 hb9) ?_
    refine w_skip ?_
    refine w_sq ?_
    obtain ⟨x10, h11, hf8⟩ := bnd_some hf8
    refine w_sa (fun e s => ∃ vd_12 : Int, vd_12 = x10 ∧ Bx σ s i2 39 (ref04_Depth_A0 a0) ∧ e 1 = (.v (.int .i64 a1)) ∧ e 2 = (.pt i2 0) ∧ e 5 = (.v (.int .i64 vd_12)) ∧ e 6 = (.v (.int .i64 vi_6)) ∧ Pre σ s) ?_ fun e s hI => ?_
    ·refine w_block ?_
     obtain ⟨y13, h14, h11⟩ := bnd_some h11
     obtain ⟨y15, h16, h11⟩ := bnd_some h11
     have R17 : (Expr.rows a0.args)[(vi_6).toNat]? = some [(.v (.int .i64 y13.kind)), (.v (.string y13.name)), (.v (.int .i64 y13.n)), (.v (.int .i64 y13.d)), (.sl (Expr.rows y13.args)), (.v (.int .i64 y13.at_))] := Expr.rget (getI_some h14).2
     refine w_x (cj9 E1 E2 E5 E6 E13 X2.get R17 (getI_some h14).1 TT) (k := ?_)
     refine EC.wka (.cons (.refl _) (.cons (.refl _) .nil)) (S_ref04_Depth _ _ _ h16 _ _  ?_)
     refine w_y (cj9 E1 E2 E5 E6 E13 X2.get R17 (getI_some h14).1 TT) (k := ?_)
     refine w_bk ?_
     obtain rfl := some_inj h11
     have q6 := cj9 E1 E2 E5 E6 E13 X2.get R17 (getI_some h14).1 TT
     exact cw_n ⟨_, WkE.refl _, _, rfl, X2, (xv q6), (xv q6), (xv q6), (xv q6), hP⟩
    obtain ⟨vd_12, rfl, X2, E1, E2, E5, E6, hP⟩ := hI
    try dsimp only at hf8
    refine w_x (cj6 E1 E2 E5 E6 X2.get TT) (k := ?_)
    obtain rfl := some_inj hf8
    have q7 := cj6 E1 E2 E5 E6 X2.get TT
    exact iq_n rfl ⟨_, WkE.refl _, _, _, rfl, X2, (xv q7), (xv q7), (xv q7), (xv q7), hP⟩
   ·refine xf (cj6 E1 E2 E5 E6 E13 hb9) ?_
    refine w_exit ?_
    refine w_sqx ?_
    obtain rfl := some_inj hf8
    refine iq_x rfl fun hr18 => ?_
    obtain rfl := hr18
    refine w_bkx ?_
    exact cw_n ⟨_, WkE.refl _, _, rfl, (xv (cj5 E1 E2 E5 E6 E13)), hP⟩
  obtain ⟨vd_4, rfl, E5, hP⟩ := hI
  try dsimp only at h
  refine w_sa (fun e s => e 4 = (.v (.int .i64 (IntKind.i64.wrap (vd_4 + (1 : Int))))) ∧ Pre σ s) ?_ fun e s hI => ?_
  ·refine w_x (cj2 E5 TT) (k := ?_)
   exact cw_n ⟨_, WkE.refl _, (xv (cj2 E5 TT)), hP⟩
  obtain ⟨E4, hP⟩ := hI
  refine w_ret ?_
  obtain rfl := some_inj h
  exact w_fin (fun _ => rfl) (xr (rs := #[.tmp 4]) E4) hP (r' := (.v (.int .i64 (IntKind.i64.wrap (vd_4 + (1 : Int)))))) (.refl _) (.v _) hK
end Go.Proofs.Ytohmmfimedgccaa.E
end
section
namespace Go.Proofs.Ytohmmfimedgccaa.E
set_option maxRecDepth 100000
set_option maxHeartbeats 4000000
set_option linter.unusedVariables false
set_option linter.unusedSimpArgs false
def ref04_Body_K0 : (List ByteArray) := [(⟨#[43]⟩ : ByteArray), (⟨#[45]⟩ : ByteArray), (⟨#[42]⟩ : ByteArray), (⟨#[47]⟩ : ByteArray), (⟨#[37]⟩ : ByteArray), (⟨#[60]⟩ : ByteArray), (⟨#[61, 61]⟩ : ByteArray)]
noncomputable def ref04_Body_L1 (a0 : Expr) : Int → Option (Int ⊕ (Bool ⊕ Unit))
 | v5_37 =>
  if (decide (v5_37 < ((List.length ref04_Body_K0 : Nat) : Int))) then
   ((getI ref04_Body_K0 v5_37).bind fun y43 =>
   if (decide (y43 = a0.name)) then
    some (.inl (decide (((List.length a0.args : Nat) : Int) = (2 : Int))))
   else
    some (.inr ()) : Option (Bool ⊕ Unit)).bind fun x => match x with
   | .inl r => some (.inr (.inl r))
   | .inr _ =>
    some (.inl (IntKind.i64.wrap (v5_37 + (1 : Int))))
  else
   some (.inr (.inr ()))
noncomputable def ref04_Body_L0 (a0 : Expr) (f_ref04_Body : Expr → Option Bool) : Int → Option (Int ⊕ (Bool ⊕ Unit))
 | v3_3 =>
  if (decide (v3_3 < ((List.length a0.args : Nat) : Int))) then
   ((getI a0.args v3_3).bind fun y9 =>
   (f_ref04_Body y9).bind fun y11 =>
   if (!y11) then
    some (.inl false)
   else
    some (.inr ()) : Option (Bool ⊕ Unit)).bind fun x => match x with
   | .inl r => some (.inr (.inl r))
   | .inr _ =>
    some (.inl (IntKind.i64.wrap (v3_3 + (1 : Int))))
  else
   some (.inr (.inr ()))
noncomputable def B_ref04_Body (f_ref03_Right : ByteArray → Option Bool) (f_ref04_number : Int → Int → Int → Option Bool) (f_ref04_Body : Expr → Option Bool) (a0 : Expr) : Option Bool :=
 (iterO (ref04_Body_L0 a0 f_ref04_Body) (0 : Int) : Option (Bool ⊕ Unit)).bind fun x => match x with
 | .inl r => some r
 | .inr _ =>
  if (!decide (a0.d = (0 : Int))) then
   some false
  else
   (if (decide (a0.kind = (11 : Int))) then
    (f_ref03_Right a0.name).bind fun y21 =>
    some (.inl ((y21 && (decide (((List.length a0.args : Nat) : Int) = (0 : Int)))) && (decide (a0.n = (0 : Int)))))
   else
    if (decide (a0.kind = (12 : Int))) then
     (if ((decide (a0.name = (⟨#[]⟩ : ByteArray))) && (decide (((List.length a0.args : Nat) : Int) = (0 : Int)))) then
      (f_ref04_number a0.n (0 : Int) (1000000000 : Int)).bind fun y26 =>
      some y26
     else
      some false).bind fun w28 =>
     some (.inl (((decide (a0.name = (⟨#[]⟩ : ByteArray))) && (decide (((List.length a0.args : Nat) : Int) = (0 : Int)))) && w28))
    else
     some (.inr ()) : Option (Bool ⊕ Unit)).bind fun x => match x with
   | .inl r => some r
   | .inr _ =>
    if ((!decide (a0.kind = (13 : Int))) || (!decide (a0.n = (0 : Int)))) then
     some false
    else
     if (decide (a0.name = (⟨#[63]⟩ : ByteArray))) then
      some (decide (((List.length a0.args : Nat) : Int) = (3 : Int)))
     else
      (iterO (ref04_Body_L1 a0) (0 : Int) : Option (Bool ⊕ Unit)).bind fun x => match x with
      | .inl r => some r
      | .inr _ =>
       some false
abbrev ref04_Body_A0 (a0 : Expr) : List PV := [(.v (.int .i64 a0.kind)), (.v (.string a0.name)), (.v (.int .i64 a0.n)), (.v (.int .i64 a0.d)), (.sl (Expr.rows a0.args)), (.v (.int .i64 a0.at_))]
theorem W_ref04_Body (f_ref03_Right : ByteArray → Option Bool) (f_ref04_number : Int → Int → Int → Option Bool) (f_ref04_Body : Expr → Option Bool) (S_ref03_Right : Sat_ref03_Right f_ref03_Right) (S_ref04_number : Sat_ref04_number f_ref04_number) (S_ref04_Body : Sat_ref04_Body f_ref04_Body) : Sat_ref04_Body (B_ref04_Body f_ref03_Right f_ref04_number f_ref04_Body) := by
 intro a0 r h σ K hK
 refine w_fp Try.func42 rfl rfl (by kernel_rfl) ?_
 unfold B_ref04_Body at h
 have hP := Pre.refl σ
 have E0 : argE [(.ag (ref04_Body_A0 a0))] 0 = (.ag (ref04_Body_A0 a0)) := rfl
 have TT := cj7 Expr.rlen T_2 T_3 T_37 T_39 T_9 T_97
 refine w_sa (fun e s => ∃ i1 : Nat, Bx σ s i1 39 (ref04_Body_A0 a0) ∧ e 1 = (.pt i1 0) ∧ Pre σ s) ?_ fun e s hI => ?_
 ·refine w_x (cj2 E0 TT) (k := ?_)
  exact cw_n ⟨_, WkE.refl _, σ.length, (Bx.new hP 39 (ref04_Body_A0 a0)), (xv (cj2 E0 TT)), (hP.app _)⟩
 obtain ⟨i1, X1, E1, hP⟩ := hI
 refine w_assoc ?_
 refine w_sa (fun e s => Bx σ s i1 39 (ref04_Body_A0 a0) ∧ e 1 = (.pt i1 0) ∧ e 3 = (.v (.int .i64 (0 : Int))) ∧ Pre σ s) ?_ fun e s hI => ?_
 ·refine w_x (cj3 E1 X1.get TT) (k := ?_)
  exact cw_n ⟨_, WkE.refl _, X1, (xv (cj3 E1 X1.get TT)), (xv (cj3 E1 X1.get TT)), hP⟩
 obtain ⟨X1, E1, E3, hP⟩ := hI
 obtain ⟨x1, h2, h⟩ := bnd_some h
 refine w_sa (fun e s => .inr () = x1 ∧ Bx σ s i1 39 (ref04_Body_A0 a0) ∧ e 1 = (.pt i1 0) ∧ Pre σ s) ?_ fun e s hI => ?_
 ·refine w_block ?_
  refine w_iter h2 (fun v e s => ∃ v3_3 : Int, v3_3 = v ∧ Bx σ s i1 39 (ref04_Body_A0 a0) ∧ e 1 = (.pt i1 0) ∧ e 3 = (.v (.int .i64 v3_3)) ∧ Pre σ s) ⟨_, WkE.refl _, _, rfl, X1, (xv (cj2 E1 E3)), (xv (cj2 E1 E3)), hP⟩ fun v x4 e s hf5 hI => ?_
  obtain ⟨v3_3, rfl, X1, E1, E3, hP⟩ := hI
  unfold ref04_Body_L0 at hf5
  try dsimp only at hf5
  refine w_assoc ?_
  refine w_sa (fun e s => Bx σ s i1 39 (ref04_Body_A0 a0) ∧ e 1 = (.pt i1 0) ∧ e 3 = (.v (.int .i64 v3_3)) ∧ e 10 = (.v (.bool (decide (v3_3 < ((List.length a0.args : Nat) : Int))))) ∧ Pre σ s) ?_ fun e s hI => ?_
  ·refine w_x (cj4 E1 E3 X1.get TT) (k := ?_)
   have q1 := cj4 E1 E3 X1.get TT
   exact cw_n ⟨_, WkE.refl _, X1, (xv q1), (xv q1), (xv q1), hP⟩
  obtain ⟨X1, E1, E3, E10, hP⟩ := hI
  refine w_seq ?_
  rcases ite_some hf5 with ⟨hb6, hf5⟩ | ⟨hb6, hf5⟩
  ·refine xt (cj4 E1 E3 E10 hb6) ?_
   refine w_skip ?_
   refine w_sq ?_
   obtain ⟨x7, h8, hf5⟩ := bnd_some hf5
   refine w_sa (fun e s => .inr () = x7 ∧ Bx σ s i1 39 (ref04_Body_A0 a0) ∧ e 1 = (.pt i1 0) ∧ e 3 = (.v (.int .i64 v3_3)) ∧ Pre σ s) ?_ fun e s hI => ?_
   ·refine w_block ?_
    obtain ⟨y9, h10, h8⟩ := bnd_some h8
    obtain ⟨y11, h12, h8⟩ := bnd_some h8
    refine w_sa (fun e s => Bx σ s i1 39 (ref04_Body_A0 a0) ∧ e 1 = (.pt i1 0) ∧ e 3 = (.v (.int .i64 v3_3)) ∧ e 19 = (.v (.bool (!y11))) ∧ Pre σ s) ?_ fun e s hI => ?_
    ·have R13 : (Expr.rows a0.args)[(v3_3).toNat]? = some [(.v (.int .i64 y9.kind)), (.v (.string y9.name)), (.v (.int .i64 y9.n)), (.v (.int .i64 y9.d)), (.sl (Expr.rows y9.args)), (.v (.int .i64 y9.at_))] := Expr.rget (getI_some h10).2
     refine w_x (cj7 E1 E3 E10 X1.get R13 (getI_some h10).1 TT) (k := ?_)
     refine EC.wka (.cons (.refl _) .nil) (S_ref04_Body _ _ h12 _ _  ?_)
     refine w_y (cj7 E1 E3 E10 X1.get R13 (getI_some h10).1 TT) (k := ?_)
     have q2 := cj7 E1 E3 E10 X1.get R13 (getI_some h10).1 TT
     exact cw_n ⟨_, WkE.refl _, X1, (xv q2), (xv q2), (xv q2), hP⟩
    obtain ⟨X1, E1, E3, E19, hP⟩ := hI
    rcases ite_some h8 with ⟨hb14, h8⟩ | ⟨hb14, h8⟩
    ·refine xt (cj4 E1 E3 E19 hb14) ?_
     refine w_sa (fun e s => e 2 = (.v (.bool false)) ∧ Pre σ s) ?_ fun e s hI => ?_
     ·refine w_x (cj5 E1 E3 E19 X1.get TT) (k := ?_)
      exact cw_n ⟨_, WkE.refl _, (xv (cj5 E1 E3 E19 X1.get TT)), hP⟩
     obtain ⟨E2, hP⟩ := hI
     refine w_ret ?_
     refine w_bkr ?_
     obtain rfl := some_inj h8
     refine cw_r ?_
     try dsimp only at hf5
     obtain rfl := some_inj hf5
     refine iq_r rfl fun hr15 => ?_
     obtain rfl := hr15
     refine w_bkr ?_
     refine cw_r ?_
     try dsimp only at h
     obtain rfl := some_inj h
     exact w_fin (fun _ => rfl) (xr (rs := #[.tmp 2]) E2) hP (r' := (.v (.bool false))) (.refl _) (.v _) hK
    ·refine xf (cj4 E1 E3 E19 hb14) ?_
     refine w_skip ?_
     refine w_bk ?_
     obtain rfl := some_inj h8
     exact cw_n ⟨_, WkE.refl _, rfl, X1, (xv (cj3 E1 E3 E19)), (xv (cj3 E1 E3 E19)), hP⟩
   obtain ⟨rfl, X1, E1, E3, hP⟩ := hI
   try dsimp only at hf5
   refine w_x (cj4 E1 E3 X1.get TT) (k := ?_)
   obtain rfl := some_inj hf5
   exact iq_n rfl ⟨_, WkE.refl _, _, rfl, X1, (xv (cj4 E1 E3 X1.get TT)), (xv (cj4 E1 E3 X1.get TT)), hP⟩
  ·refine xf (cj4 E1 E3 E10 hb6) ?_
   refine w_exit ?_
   refine w_sqx ?_
   obtain rfl := some_inj hf5
   refine iq_x rfl fun hr16 => ?_
   obtain rfl := hr16
   refine w_bkx ?_
   exact cw_n ⟨_, WkE.refl _, rfl, X1, (xv (cj3 E1 E3 E10)), hP⟩
 obtain ⟨rfl, X1, E1, hP⟩ := hI
 try dsimp only at h
 refine w_assoc ?_
 refine w_sa (fun e s => Bx σ s i1 39 (ref04_Body_A0 a0) ∧ e 1 = (.pt i1 0) ∧ e 22 = (.v (.bool (!decide (a0.d = (0 : Int))))) ∧ Pre σ s) ?_ fun e s hI => ?_
 ·refine w_x (cj3 E1 X1.get TT) (k := ?_)
  exact cw_n ⟨_, WkE.refl _, X1, (xv (cj3 E1 X1.get TT)), (xv (cj3 E1 X1.get TT)), hP⟩
 obtain ⟨X1, E1, E22, hP⟩ := hI
 refine w_seq ?_
 rcases ite_some h with ⟨hb17, h⟩ | ⟨hb17, h⟩
 ·refine xt (cj3 E1 E22 hb17) ?_
  refine w_sa (fun e s => e 2 = (.v (.bool false)) ∧ Pre σ s) ?_ fun e s hI => ?_
  ·refine w_x (cj4 E1 E22 X1.get TT) (k := ?_)
   exact cw_n ⟨_, WkE.refl _, (xv (cj4 E1 E22 X1.get TT)), hP⟩
  obtain ⟨E2, hP⟩ := hI
  refine w_ret ?_
  refine w_sqr ?_
  obtain rfl := some_inj h
  exact w_fin (fun _ => rfl) (xr (rs := #[.tmp 2]) E2) hP (r' := (.v (.bool false))) (.refl _) (.v _) hK
 ·refine xf (cj3 E1 E22 hb17) ?_
  refine w_skip ?_
  refine w_sq ?_
  refine w_assoc ?_
  refine w_sa (fun e s => Bx σ s i1 39 (ref04_Body_A0 a0) ∧ e 1 = (.pt i1 0) ∧ e 24 = (.v (.int .i64 a0.kind)) ∧ Pre σ s) ?_ fun e s hI => ?_
  ·refine w_x (cj4 E1 E22 X1.get TT) (k := ?_)
   exact cw_n ⟨_, WkE.refl _, X1, (xv (cj4 E1 E22 X1.get TT)), (xv (cj4 E1 E22 X1.get TT)), hP⟩
  obtain ⟨X1, E1, E24, hP⟩ := hI
  obtain ⟨x18, h19, h⟩ := bnd_some h
  refine w_sa (fun e s => .inr () = x18 ∧ Bx σ s i1 39 (ref04_Body_A0 a0) ∧ e 1 = (.pt i1 0) ∧ Pre σ s) ?_ fun e s hI => ?_
  ·refine w_block ?_
   refine w_sa (fun e s => Bx σ s i1 39 (ref04_Body_A0 a0) ∧ e 1 = (.pt i1 0) ∧ e 24 = (.v (.int .i64 a0.kind)) ∧ e 25 = (.v (.bool (decide (a0.kind = (11 : Int))))) ∧ Pre σ s) ?_ fun e s hI => ?_
   ·refine w_x (cj4 E1 E24 X1.get TT) (k := ?_)
    have q3 := cj4 E1 E24 X1.get TT
    exact cw_n ⟨_, WkE.refl _, X1, (xv q3), (xv q3), (xv q3), hP⟩
   obtain ⟨X1, E1, E24, E25, hP⟩ := hI
   rcases ite_some h19 with ⟨hb20, h19⟩ | ⟨hb20, h19⟩
   ·refine xt (cj4 E1 E24 E25 hb20) ?_
    obtain ⟨y21, h22, h19⟩ := bnd_some h19
    refine w_sa (fun e s => e 2 = (.v (.bool ((y21 && (decide (((List.length a0.args : Nat) : Int) = (0 : Int)))) && (decide (a0.n = (0 : Int)))))) ∧ Pre σ s) ?_ fun e s hI => ?_
    ·cases hb23 : y21
     ·refine w_x (cj6 E1 E24 E25 X1.get hb23 TT) (k := ?_)
      refine EC.wka (.cons (.refl _) .nil) (S_ref03_Right _ _ h22 _ _  ?_)
      refine w_y (cj6 E1 E24 E25 X1.get hb23 TT) (k := ?_)
      exact cw_n ⟨_, WkE.refl _, (xv (cj6 E1 E24 E25 X1.get hb23 TT)), hP⟩
     ·cases hb24 : (decide (((List.length a0.args : Nat) : Int) = (0 : Int)))
      ·refine w_x (cj7 E1 E24 E25 X1.get hb23 hb24 TT) (k := ?_)
       refine EC.wka (.cons (.refl _) .nil) (S_ref03_Right _ _ h22 _ _  ?_)
       refine w_y (cj7 E1 E24 E25 X1.get hb23 hb24 TT) (k := ?_)
       exact cw_n ⟨_, WkE.refl _, (xv (cj7 E1 E24 E25 X1.get hb23 hb24 TT)), hP⟩
      ·refine w_x (cj7 E1 E24 E25 X1.get hb23 hb24 TT) (k := ?_)
       refine EC.wka (.cons (.refl _) .nil) (S_ref03_Right _ _ h22 _ _  ?_)
       refine w_y (cj7 E1 E24 E25 X1.get hb23 hb24 TT) (k := ?_)
       exact cw_n ⟨_, WkE.refl _, (xv (cj7 E1 E24 E25 X1.get hb23 hb24 TT)), hP⟩
    obtain ⟨E2, hP⟩ := hI
    refine w_ret ?_
    refine w_bkr ?_
    obtain rfl := some_inj h19
    refine cw_r ?_
    try dsimp only at h
    obtain rfl := some_inj h
    exact w_fin (fun _ => rfl) (xr (rs := #[.tmp 2]) E2) hP (r' := (.v (.bool ((y21 && (decide (((List.length a0.args : Nat) : Int) = (0 : Int)))) && (decide (a0.n = (0 : Int))))))) (.refl _) (.v _) hK
   ·refine xf (cj4 E1 E24 E25 hb20) ?_
    refine w_sa (fun e s => Bx σ s i1 39 (ref04_Body_A0 a0) ∧ e 1 = (.pt i1 0) ∧ e 41 = (.v (.bool (decide (a0.kind = (12 : Int))))) ∧ Pre σ s) ?_ fun e s hI => ?_
    ·refine w_x (cj5 E1 E24 E25 X1.get TT) (k := ?_)
     exact cw_n ⟨_, WkE.refl _, X1, (xv (cj5 E1 E24 E25 X1.get TT)), (xv (cj5 E1 E24 E25 X1.get TT)), hP⟩
    obtain ⟨X1, E1, E41, hP⟩ := hI
    rcases ite_some h19 with ⟨hb25, h19⟩ | ⟨hb25, h19⟩
    ·refine xt (cj3 E1 E41 hb25) ?_
     obtain ⟨w28, h29, h19⟩ := bnd_some h19
     refine w_sa (fun e s => e 2 = (.v (.bool (((decide (a0.name = (⟨#[]⟩ : ByteArray))) && (decide (((List.length a0.args : Nat) : Int) = (0 : Int)))) && w28))) ∧ Pre σ s) ?_ fun e s hI => ?_
     ·cases hb30 : (decide (a0.name = (⟨#[]⟩ : ByteArray)))
      ·replace h29 := ite_f (by simp only [hb30, Bool.or_true, Bool.true_or, Bool.or_false, Bool.false_or, Bool.and_true, Bool.true_and, Bool.and_false, Bool.false_and, Bool.not_true, Bool.not_false, cond_true, cond_false]) h29
       obtain rfl := some_inj h29
       refine w_x (cj5 E1 E41 X1.get hb30 TT) (k := ?_)
       exact cw_n ⟨_, WkE.refl _, (xv (cj5 E1 E41 X1.get hb30 TT)), hP⟩
      ·cases hb31 : (decide (((List.length a0.args : Nat) : Int) = (0 : Int)))
       ·replace h29 := ite_f (by simp only [hb30, hb31, Bool.or_true, Bool.true_or, Bool.or_false, Bool.false_or, Bool.and_true, Bool.true_and, Bool.and_false, Bool.false_and, Bool.not_true, Bool.not_false, cond_true, cond_false]) h29
        obtain rfl := some_inj h29
        refine w_x (cj6 E1 E41 X1.get hb30 hb31 TT) (k := ?_)
        exact cw_n ⟨_, WkE.refl _, (xv (cj6 E1 E41 X1.get hb30 hb31 TT)), hP⟩
       ·replace h29 := ite_t (by simp only [hb30, hb31, Bool.or_true, Bool.true_or, Bool.or_false, Bool.false_or, Bool.and_true, Bool.true_and, Bool.and_false, Bool.false_and, Bool.not_true, Bool.not_false, cond_true, cond_false]) h29
        obtain ⟨y26, h27, h29⟩ := bnd_some h29
        obtain rfl := some_inj h29
        refine w_x (cj6 E1 E41 X1.get hb30 hb31 TT) (k := ?_)
        refine EC.wka (.cons (.refl _) (.cons (.refl _) (.cons (.refl _) .nil))) (S_ref04_number _ _ _ _ h27 _ _  ?_)
        refine w_y (cj6 E1 E41 X1.get hb30 hb31 TT) (k := ?_)
        exact cw_n ⟨_, WkE.refl _, (xv (cj6 E1 E41 X1.get hb30 hb31 TT)), hP⟩
     obtain ⟨E2, hP⟩ := hI
     refine w_ret ?_
     refine w_bkr ?_
     obtain rfl := some_inj h19
     refine cw_r ?_
     try dsimp only at h
     obtain rfl := some_inj h
     exact w_fin (fun _ => rfl) (xr (rs := #[.tmp 2]) E2) hP (r' := (.v (.bool (((decide (a0.name = (⟨#[]⟩ : ByteArray))) && (decide (((List.length a0.args : Nat) : Int) = (0 : Int)))) && w28)))) (.refl _) (.v _) hK
    ·refine xf (cj3 E1 E41 hb25) ?_
     refine w_skip ?_
     refine w_bk ?_
     obtain rfl := some_inj h19
     exact cw_n ⟨_, WkE.refl _, rfl, X1, (xv (cj2 E1 E41)), hP⟩
  obtain ⟨rfl, X1, E1, hP⟩ := hI
  try dsimp only at h
  refine w_assoc ?_
  refine w_sa (fun e s => Bx σ s i1 39 (ref04_Body_A0 a0) ∧ e 1 = (.pt i1 0) ∧ e 64 = (.v (.bool ((!decide (a0.kind = (13 : Int))) || (!decide (a0.n = (0 : Int)))))) ∧ Pre σ s) ?_ fun e s hI => ?_
  ·cases hb32 : (!decide (a0.kind = (13 : Int)))
   ·refine w_x (cj4 E1 X1.get hb32 TT) (k := ?_)
    exact cw_n ⟨_, WkE.refl _, X1, (xv (cj4 E1 X1.get hb32 TT)), (xv (cj4 E1 X1.get hb32 TT)), hP⟩
   ·refine w_x (cj4 E1 X1.get hb32 TT) (k := ?_)
    exact cw_n ⟨_, WkE.refl _, X1, (xv (cj4 E1 X1.get hb32 TT)), (xv (cj4 E1 X1.get hb32 TT)), hP⟩
  obtain ⟨X1, E1, E64, hP⟩ := hI
  refine w_seq ?_
  rcases ite_some h with ⟨hb33, h⟩ | ⟨hb33, h⟩
  ·refine xt (cj3 E1 E64 hb33) ?_
   refine w_sa (fun e s => e 2 = (.v (.bool false)) ∧ Pre σ s) ?_ fun e s hI => ?_
   ·refine w_x (cj4 E1 E64 X1.get TT) (k := ?_)
    exact cw_n ⟨_, WkE.refl _, (xv (cj4 E1 E64 X1.get TT)), hP⟩
   obtain ⟨E2, hP⟩ := hI
   refine w_ret ?_
   refine w_sqr ?_
   obtain rfl := some_inj h
   exact w_fin (fun _ => rfl) (xr (rs := #[.tmp 2]) E2) hP (r' := (.v (.bool false))) (.refl _) (.v _) hK
  ·refine xf (cj3 E1 E64 hb33) ?_
   refine w_skip ?_
   refine w_sq ?_
   refine w_assoc ?_
   refine w_sa (fun e s => Bx σ s i1 39 (ref04_Body_A0 a0) ∧ e 1 = (.pt i1 0) ∧ e 67 = (.v (.bool (decide (a0.name = (⟨#[63]⟩ : ByteArray))))) ∧ Pre σ s) ?_ fun e s hI => ?_
   ·refine w_x (cj4 E1 E64 X1.get TT) (k := ?_)
    exact cw_n ⟨_, WkE.refl _, X1, (xv (cj4 E1 E64 X1.get TT)), (xv (cj4 E1 E64 X1.get TT)), hP⟩
   obtain ⟨X1, E1, E67, hP⟩ := hI
   refine w_seq ?_
   rcases ite_some h with ⟨hb34, h⟩ | ⟨hb34, h⟩
   ·refine xt (cj3 E1 E67 hb34) ?_
    refine w_sa (fun e s => e 2 = (.v (.bool (decide (((List.length a0.args : Nat) : Int) = (3 : Int))))) ∧ Pre σ s) ?_ fun e s hI => ?_
    ·refine w_x (cj4 E1 E67 X1.get TT) (k := ?_)
     exact cw_n ⟨_, WkE.refl _, (xv (cj4 E1 E67 X1.get TT)), hP⟩
    obtain ⟨E2, hP⟩ := hI
    refine w_ret ?_
    refine w_sqr ?_
    obtain rfl := some_inj h
    exact w_fin (fun _ => rfl) (xr (rs := #[.tmp 2]) E2) hP (r' := (.v (.bool (decide (((List.length a0.args : Nat) : Int) = (3 : Int)))))) (.refl _) (.v _) hK
   ·refine xf (cj3 E1 E67 hb34) ?_
    refine w_skip ?_
    refine w_sq ?_
    refine w_sa (fun e s => Bx σ s i1 39 (ref04_Body_A0 a0) ∧ e 1 = (.pt i1 0) ∧ e 4 = (.sl (List.map C_s ref04_Body_K0)) ∧ Pre σ s) ?_ fun e s hI => ?_
    ·refine w_x (cj4 E1 E67 X1.get TT) (k := ?_)
     have q4 := cj4 E1 E67 X1.get TT
     exact cw_n ⟨_, WkE.upd (WkE.refl _) (t := 4) (p := (.sl [[(.v (.string (⟨#[43]⟩ : ByteArray)))], [(.v (.string (⟨#[45]⟩ : ByteArray)))], [(.v (.string (⟨#[42]⟩ : ByteArray)))], [(.v (.string (⟨#[47]⟩ : ByteArray)))], [(.v (.string (⟨#[37]⟩ : ByteArray)))], [(.v (.string (⟨#[60]⟩ : ByteArray)))], [(.v (.string (⟨#[61, 61]⟩ : ByteArray)))]])) (q := (.sl (List.map C_s ref04_Body_K0))) (xv q4) (Wk.of_eq rfl), X1, (xv q4), (xv q4), hP⟩
    obtain ⟨X1, E1, E4, hP⟩ := hI
    refine w_assoc ?_
    refine w_sa (fun e s => Bx σ s i1 39 (ref04_Body_A0 a0) ∧ e 1 = (.pt i1 0) ∧ e 4 = (.sl (List.map C_s ref04_Body_K0)) ∧ e 5 = (.v (.int .i64 (0 : Int))) ∧ Pre σ s) ?_ fun e s hI => ?_
    ·refine w_x (cj4 E1 E4 X1.get TT) (k := ?_)
     have q5 := cj4 E1 E4 X1.get TT
     exact cw_n ⟨_, WkE.refl _, X1, (xv q5), (xv q5), (xv q5), hP⟩
    obtain ⟨X1, E1, E4, E5, hP⟩ := hI
    obtain ⟨x35, h36, h⟩ := bnd_some h
    refine w_sa (fun e s => .inr () = x35 ∧ Pre σ s) ?_ fun e s hI => ?_
    ·refine w_block ?_
     refine w_iter h36 (fun v e s => ∃ v5_37 : Int, v5_37 = v ∧ Bx σ s i1 39 (ref04_Body_A0 a0) ∧ e 1 = (.pt i1 0) ∧ e 4 = (.sl (List.map C_s ref04_Body_K0)) ∧ e 5 = (.v (.int .i64 v5_37)) ∧ Pre σ s) ⟨_, WkE.refl _, _, rfl, X1, (xv (cj3 E1 E4 E5)), (xv (cj3 E1 E4 E5)), (xv (cj3 E1 E4 E5)), hP⟩ fun v x38 e s hf39 hI => ?_
     obtain ⟨v5_37, rfl, X1, E1, E4, E5, hP⟩ := hI
     unfold ref04_Body_L1 at hf39
     try dsimp only at hf39
     refine w_assoc ?_
     refine w_sa (fun e s => Bx σ s i1 39 (ref04_Body_A0 a0) ∧ e 1 = (.pt i1 0) ∧ e 4 = (.sl (List.map C_s ref04_Body_K0)) ∧ e 5 = (.v (.int .i64 v5_37)) ∧ e 76 = (.v (.bool (decide (v5_37 < ((List.length ref04_Body_K0 : Nat) : Int))))) ∧ Pre σ s) ?_ fun e s hI => ?_
     ·refine w_x (cj5 E1 E4 E5 X1.get TT) (k := ?_)
      have q6 := cj5 E1 E4 E5 X1.get TT
      exact cw_n ⟨_, WkE.refl _, X1, (xv q6), (xv q6), (xv q6), (xv q6), hP⟩
     obtain ⟨X1, E1, E4, E5, E76, hP⟩ := hI
     refine w_seq ?_
     rcases ite_some hf39 with ⟨hb40, hf39⟩ | ⟨hb40, hf39⟩
     ·refine xt (cj5 E1 E4 E5 E76 hb40) ?_
      refine w_skip ?_
      refine w_sq ?_
      obtain ⟨x41, h42, hf39⟩ := bnd_some hf39
      refine w_sa (fun e s => .inr () = x41 ∧ Bx σ s i1 39 (ref04_Body_A0 a0) ∧ e 1 = (.pt i1 0) ∧ e 4 = (.sl (List.map C_s ref04_Body_K0)) ∧ e 5 = (.v (.int .i64 v5_37)) ∧ Pre σ s) ?_ fun e s hI => ?_
      ·refine w_block ?_
       obtain ⟨y43, h44, h42⟩ := bnd_some h42
       refine w_sa (fun e s => Bx σ s i1 39 (ref04_Body_A0 a0) ∧ e 1 = (.pt i1 0) ∧ e 4 = (.sl (List.map C_s ref04_Body_K0)) ∧ e 5 = (.v (.int .i64 v5_37)) ∧ e 85 = (.v (.bool (decide (y43 = a0.name)))) ∧ Pre σ s) ?_ fun e s hI => ?_
       ·have R45 : (List.map C_s ref04_Body_K0)[(v5_37).toNat]? = some [(.v (.string y43))] := map_get (getI_some h44).2
        refine w_xp (cj8 E1 E4 E5 E76 X1.get R45 (getI_some h44).1 TT) (k := ?_)
        have q7 := cj8 E1 E4 E5 E76 X1.get R45 (getI_some h44).1 TT
        exact cw_n ⟨_, WkE.refl _, X1, (xv q7), (xv q7), (xv q7), (xv q7), hP⟩
       obtain ⟨X1, E1, E4, E5, E85, hP⟩ := hI
       rcases ite_some h42 with ⟨hb46, h42⟩ | ⟨hb46, h42⟩
       ·refine xt (cj5 E1 E4 E5 E85 hb46) ?_
        refine w_sa (fun e s => e 2 = (.v (.bool (decide (((List.length a0.args : Nat) : Int) = (2 : Int))))) ∧ Pre σ s) ?_ fun e s hI => ?_
        ·refine w_x (cj6 E1 E4 E5 E85 X1.get TT) (k := ?_)
         exact cw_n ⟨_, WkE.refl _, (xv (cj6 E1 E4 E5 E85 X1.get TT)), hP⟩
        obtain ⟨E2, hP⟩ := hI
        refine w_ret ?_
        refine w_bkr ?_
        obtain rfl := some_inj h42
        refine cw_r ?_
        try dsimp only at hf39
        obtain rfl := some_inj hf39
        refine iq_r rfl fun hr47 => ?_
        obtain rfl := hr47
        refine w_bkr ?_
        refine cw_r ?_
        try dsimp only at h
        obtain rfl := some_inj h
        exact w_fin (fun _ => rfl) (xr (rs := #[.tmp 2]) E2) hP (r' := (.v (.bool (decide (((List.length a0.args : Nat) : Int) = (2 : Int)))))) (.refl _) (.v _) hK
       ·refine xf (cj5 E1 E4 E5 E85 hb46) ?_
        refine w_skip ?_
        refine w_bk ?_
        obtain rfl := some_inj h42
        have q8 := cj4 E1 E4 E5 E85
        exact cw_n ⟨_, WkE.refl _, rfl, X1, (xv q8), (xv q8), (xv q8), hP⟩
      obtain ⟨rfl, X1, E1, E4, E5, hP⟩ := hI
      try dsimp only at hf39
      refine w_x (cj5 E1 E4 E5 X1.get TT) (k := ?_)
      obtain rfl := some_inj hf39
      have q9 := cj5 E1 E4 E5 X1.get TT
      exact iq_n rfl ⟨_, WkE.refl _, _, rfl, X1, (xv q9), (xv q9), (xv q9), hP⟩
     ·refine xf (cj5 E1 E4 E5 E76 hb40) ?_
      refine w_exit ?_
      refine w_sqx ?_
      obtain rfl := some_inj hf39
      refine iq_x rfl fun hr48 => ?_
      obtain rfl := hr48
      refine w_bkx ?_
      exact cw_n ⟨_, WkE.refl _, rfl, hP⟩
    obtain ⟨rfl, hP⟩ := hI
    try dsimp only at h
    refine w_sa (fun e s => e 2 = (.v (.bool false)) ∧ Pre σ s) ?_ fun e s hI => ?_
    ·refine w_x Expr.rlen (k := ?_)
     exact cw_n ⟨_, WkE.refl _, (xv Expr.rlen), hP⟩
    obtain ⟨E2, hP⟩ := hI
    refine w_ret ?_
    obtain rfl := some_inj h
    exact w_fin (fun _ => rfl) (xr (rs := #[.tmp 2]) E2) hP (r' := (.v (.bool false))) (.refl _) (.v _) hK
end Go.Proofs.Ytohmmfimedgccaa.E
end
