import Derived.ChangeArms
import Derived.DataReads
import Derived.WideShapes
import Derived.Deep.Slices
import Derived.SizedLaws
import Derived.Below
import Derived.OpenShut
import Derived.Test.YtohmmfimedgccaaQR1
/- FlatRight: what is right of a flat program is told alike by the program and its reference, its model's walk and the plain law behind it. PART 3 OF 8: EN EO ER TY SG OK PL G86 G87 G88 G122 G38 G39 G40 G41 G42 -/
section
namespace Go.Proofs.Ytohmmfimedgccaa.E
set_option linter.unusedVariables false
set_option linter.unusedSimpArgs false
def mpF {V : Type} (f : V → PV) (g : ByteArray → Option V) : Value → Option PV := fun x => match x with | .string s => (g s).map f | _ => none
theorem mpF_str {V : Type} (f : V → PV) (g : ByteArray → Option V) (s : ByteArray) : mpF f g (.string s) = (g s).map f := rfl
inductive WkL : List PV → List PV → Prop
 | nil : WkL [] []
 | cons {p q : PV} {ps qs : List PV} : Wk p q → WkL ps qs → WkL (p :: ps) (q :: qs)
theorem Wk.of_eq {p q : PV} (h : p = q) : Wk p q := h ▸ .refl p
theorem WkL.len {ps qs : List PV} (h : WkL ps qs) : ps.length = qs.length := by
 induction h with
 | nil => rfl
 | cons h1 h2 ih => simp [ih]
theorem WkL.get {ps qs : List PV} (h : WkL ps qs) : ∀ (i : Nat) p q, ps[i]? = some p → qs[i]? = some q → Wk p q := by
 induction h with
 | nil => intro i p q h1; simp at h1
 | cons h1 h2 ih =>
  intro i p q h3 h4;cases i with
  | zero => simp at h3 h4; subst h3 h4; exact h1
  | succ i => exact ih i p q (by simpa using h3) (by simpa using h4)
theorem WkL.refl : ∀ (ps : List PV), WkL ps ps
 | [] => .nil
 | p :: ps => .cons (.refl p) (WkL.refl ps)
theorem Wk.agl {ps qs : List PV} (h : WkL ps qs) : Wk (.ag ps) (.ag qs) := .ag h.len h.get
theorem Wk.tul {ps qs : List PV} (h : WkL ps qs) : Wk (.tu ps) (.tu qs) := .tu h.len h.get
inductive WkLL : List (List PV) → List (List PV) → Prop
 | nil : WkLL [] []
 | cons {r q : List PV} {rs qs : List (List PV)} : WkL r q → WkLL rs qs → WkLL (r :: rs) (q :: qs)
theorem WkLL.len {ps qs : List (List PV)} (h : WkLL ps qs) : ps.length = qs.length := by
 induction h with
 | nil => rfl
 | cons h1 h2 ih => simp [ih]
theorem WkLL.get {ps qs : List (List PV)} (h : WkLL ps qs) : ∀ (i : Nat) p q, ps[i]? = some p → qs[i]? = some q → WkL p q := by
 induction h with
 | nil => intro i p q h1; simp at h1
 | cons h1 h2 ih =>
  intro i p q h3 h4;cases i with
  | zero => simp at h3 h4; subst h3 h4; exact h1
  | succ i => exact ih i p q (by simpa using h3) (by simpa using h4)
theorem Wk.owr {t : Nat} {rows : List (List PV)} : Wk (.ow t rows) (.sl rows) := .ow (.refl _)
theorem WkE.upd {e e' : Env} {t : Tmp} {p q : PV} (h : WkE e e') (he : e t = p) (hw : Wk p q) : WkE e (upd e' (some t) q) := fun x => by
 rw [Zy];split
 ·rename_i hx;rw [hx, he];exact hw
 ·exact h x
section
variable {P : Program} {T : TypeId → Option TI} {σ σ' s s' : Store} {e : Env} {Q : X → Env → Store → Prop}
theorem EC.wka {f : FuncId} {args args' : List PV} {K : PV → Store → Prop} (hw : WkL args args') (h : EC P f args' σ K) : EC P f args σ K :=
 ⟨h.1, fun F hF μ w vs hs hvs => h.2 F hF μ w vs hs ⟨by rw [hvs.1, hw.len], fun i x q hx hq => (hvs.2 i x _ hx (List.getElem?_eq_getElem (by have := (List.getElem?_eq_some_iff.1 hq).1; have := hw.len; omega))).wk (hw.get i _ q (List.getElem?_eq_getElem (by have := (List.getElem?_eq_some_iff.1 hq).1; have := hw.len; omega)) hq)⟩⟩
theorem CT.mono {f : FuncId} {vs : Array Value} {w : World} {Q Q' : Value → World → Prop} (hQ : ∀ x w, Q x w → Q' x w) (h : CT P f vs w Q) : CT P f vs w Q' := by
 rcases h with ⟨a, b⟩ | ⟨x, w', a, b⟩
 ·exact .inl ⟨a, b.mono fun e w' ⟨x, hx, hp⟩ => ⟨x, hx, hQ x w' hp⟩⟩
 ·exact .inr ⟨x, w', a, hQ x w' b⟩
theorem EC.wkr {f : FuncId} {args : List PV} {K : PV → Store → Prop} (h : EC P f args σ fun r s => ∃ r', Wk r r' ∧ K r' s) : EC P f args σ K := by
 refine ⟨?_, fun F hF μ w vs hs hvs => (h.2 F hF μ w vs hs hvs).mono fun x w' hx => ?_⟩
 ·obtain ⟨r, s, h1, r', _, h2⟩ := h.1;exact ⟨r', s, h1, h2⟩
 ·obtain ⟨r, σ', μ', k1, k2, k3, s0, k4, k5, r', k6, k7⟩ := hx;exact ⟨r', σ', μ', k1, k2, k3.wk k6, s0, k4, k5, k7⟩
def Cw (I : Env → Store → Prop) (K : X → Env → Store → Prop) (x : X) (e : Env) (s : Store) : Prop := match x with | .nrm => ∃ e2 s2, Gh e s e2 s2 ∧ I e2 s2 | x => K x e s
theorem qk {a b : Code} (I : Env → Store → Prop) (h : Ev P T a e s (Cw I Q)) (rest : ∀ e s, I e s → Ev P T b e s Q) : Ev P T (.seq a b) e s Q :=
 .of (Qu a (fun x e s hx => by
  cases x with
  | nrm => obtain ⟨e2, s2, hw, hi⟩ := hx; exact ⟨e2, s2, hw, (rest e2 s2 hi).to⟩
  | ext i => exact hx
  | ret => exact hx) e s h.to)
def Iq {V W : Type} (I : V → Env → Store → Prop) (x : V ⊕ W) (r : W) (Q : X → Env → Store → Prop) (y : X) (e : Env) (s : Store) : Prop := match y with
 | .nrm => ∃ v', x = .inl v' ∧ ∃ e2 s2, Gh e s e2 s2 ∧ I v' e2 s2
 | y => ∃ r', x = .inr r' ∧ (r' = r → Q y e s)
theorem w_iterg {V W : Type} {c : Code} {f : V → Option (V ⊕ W)} {v : V} {r : W} (h : qy f v = some r) (I : V → Env → Store → Prop) (hI : ∃ e2 s2, Gh e s e2 s2 ∧ I v e2 s2)
  (step : ∀ v x e s, f v = some x → I v e s → Ev P T c e s (Iq I x r Q)) : Ev P T (.loop c) e s Q := by
 have main : ∀ v r', qy f v = some r' → r' = r → ∀ e s, (∃ e2 s2, Gh e s e2 s2 ∧ I v e2 s2) → LpV P T c e s Q := by
  refine iterO_some (fun v v' r' hf ih hr e s hi => ?_) (fun v r' hf hr e s hi => ?_)
  ·obtain ⟨e2, s2, hw, hi⟩ := hi;refine .of (Lp.round hw (Qu c (fun y e s hy => ?_) e2 s2 (step v _ e2 s2 hf hi).to));cases y with
   | nrm =>
    obtain ⟨v1, h1, h2⟩ := hy;obtain rfl := Sum.inl.inj h1;exact (ih hr e s h2).to
   | ext i => obtain ⟨_, h1, _⟩ := hy; cases h1
   | ret => obtain ⟨_, h1, _⟩ := hy; cases h1
  ·obtain ⟨e2, s2, hw, hi⟩ := hi;refine .of (Lp.round hw (Qu c (fun y e s hy => ?_) e2 s2 (step v _ e2 s2 hf hi).to));cases y with
   | nrm => obtain ⟨_, h1, _⟩ := hy; cases h1
   | ext i => obtain ⟨r1, h1, h2⟩ := hy; exact h2 ((Sum.inr.inj h1).symm.trans hr)
   | ret => obtain ⟨r1, h1, h2⟩ := hy; exact h2 ((Sum.inr.inj h1).symm.trans hr)
 exact w_loop (main v r h rfl e s hI)
theorem qH {V W : Type} {c : Code} {f : V → Option (V ⊕ W)} {v : V} {r : W} (h : qy f v = some r) (I : V → Env → Store → Prop) (hI : ∃ e2, WkE e e2 ∧ I v e2 s)
  (step : ∀ v x e s, f v = some x → I v e s → Ev P T c e s (Iq I x r Q)) : Ev P T (.loop c) e s Q :=
 let ⟨e2, hw, hi⟩ := hI
 w_iterg h I ⟨e2, s, .wk hw, hi⟩ step
theorem sub_self (s : Store) : sub s s = True := eq_true fun _ _ h => h
theorem JY (s l : Store) : sub s (s ++ l) = True := eq_true fun i o h => ⟨by rw [List.getElem?_append_left (List.getElem?_eq_some_iff.1 h.1).1]; exact h.1, h.2⟩
def Pre (σ s : Store) : Prop := ∃ ex, s = σ ++ ex
theorem Pre.refl (σ : Store) : Pre σ σ := ⟨[], by simp⟩
theorem Pre.app (h : Pre σ s) (x : Store) : Pre σ (s ++ x) := by
 obtain ⟨ex, rfl⟩ := h;exact ⟨_, List.append_assoc _ _ _⟩
theorem Pre.set (h : Pre σ s) {i : Nat} (hi : σ.length ≤ i) (o : Option AObj) : Pre σ (s.set i o) := by
 obtain ⟨ex, rfl⟩ := h;exact ⟨ex.set (i - σ.length) o, by rw [List.set_append_right _ _ hi]⟩
theorem Pre.le (h : Pre σ s) : σ.length ≤ s.length := by
 obtain ⟨ex, rfl⟩ := h;simp
structure Bx (σ s : Store) (i : Nat) (t : TypeId) (c : List PV) : Prop where
 le : σ.length ≤ i
 get : s[i]? = some (some (.box t c))
variable {i j : Nat} {t : TypeId} {c c' : List PV}
theorem Bx.new (h : Pre σ s) (t : TypeId) (c : List PV) : Bx σ (s ++ [some (.box t c)]) s.length t c := ⟨h.le, by simp⟩
theorem Bx.app (h : Bx σ s i t c) (x : Store) : Bx σ (s ++ x) i t c := ⟨h.le, by rw [List.getElem?_append_left (List.getElem?_eq_some_iff.1 h.get).1]; exact h.get⟩
theorem Bx.any (h : Bx σ s i t c) : ∀ x, (s ++ x)[i]? = some (some (.box t c)) := fun x => (h.app x).get
theorem Bx.any2 (h : Bx σ s i t c) : ∀ x y, (s ++ x ++ y)[i]? = some (some (.box t c)) := fun x y => ((h.app x).app y).get
theorem Bx.g3 (h : Bx σ s i t c) : s[i]? = some (some (.box t c)) ∧ (∀ x, (s ++ x)[i]? = some (some (.box t c))) ∧ ∀ x y, (s ++ x ++ y)[i]? = some (some (.box t c)) := ⟨h.get, h.any, h.any2⟩
theorem Bx.lt (h : Bx σ s i t c) : i < s.length := (List.getElem?_eq_some_iff.1 h.get).1
theorem Bx.same (h : Bx σ s i t c) (t' : TypeId) (c' : List PV) : Bx σ (s.set i (some (.box t' c'))) i t' c' := ⟨h.le, by rw [List.getElem?_set_self h.lt]⟩
theorem Bx.ne (h : Bx σ s i t c) (hne : j ≠ i) (o : Option AObj) : Bx σ (s.set j o) i t c := ⟨h.le, by rw [List.getElem?_set_ne hne]; exact h.get⟩
theorem Bx.nea (h : Bx σ s i t c) (hne : j ≠ i) : ∀ o, (s.set j o)[i]? = some (some (.box t c)) := fun o => (h.ne hne o).get
theorem Bx.samea (h : Bx σ s i t c) : ∀ o : AObj, (s.set i (some o))[i]? = some (some o) := fun o => List.getElem?_set_self h.lt
theorem appn2 (s : Store) (a b : Option AObj) : (s ++ [a] ++ [b])[s.length]? = some a := by simp
theorem appn3 (s : Store) (a b c : Option AObj) : (s ++ [a] ++ [b] ++ [c])[s.length]? = some a := by simp
def Acc (σ s : Store) (p : PV) (e : TypeId) (sz : Nat) (rows : List (List PV)) : Prop :=
 (rows = [] ∧ (p = .v (.slice none 0 0) ∨ p = .e0)) ∨ ∃ t, p = .ow t rows ∧ σ.length ≤ t ∧ s[t]? = some (some (.tok e sz rows.length))
def Keep (p : PV) (s s' : Store) : Prop := (∀ i o, s[i]? = some (some o) → (∀ r, p ≠ .ow i r) → s'[i]? = some (some o)) ∧ s.length ≤ s'.length
variable {p q : PV} {ty : TypeId} {sz : Nat} {rows ns : List (List PV)}
theorem Acc.nil (σ s : Store) (ty : TypeId) (sz : Nat) : Acc σ s (.v (.slice none 0 0)) ty sz [] := .inl ⟨rfl, .inl rfl⟩
theorem Acc.e0 (σ s : Store) (ty : TypeId) (sz : Nat) : Acc σ s .e0 ty sz [] := .inl ⟨rfl, .inr rfl⟩
theorem Acc.wk (h : Acc σ s p ty sz rows) : Wk p (.sl rows) := by
 rcases h with ⟨rfl, rfl | rfl⟩ | ⟨t, rfl, _⟩
 ·exact .nil
 ·exact .e0
 ·exact .owr
theorem Acc.rowsOf (h : Acc σ s p ty sz rows) : rowsOf p = some rows := by
 rcases h with ⟨rfl, rfl | rfl⟩ | ⟨t, rfl, _⟩ <;> rfl
theorem Acc.keep (h : Acc σ s p ty sz rows) (k : Keep q s s') (ha : ∀ t r r', p = .ow t r → q ≠ .ow t r') : Acc σ s' p ty sz rows := by
 rcases h with h | ⟨t, h1, h2, h3⟩
 ·exact .inl h
 ·exact .inr ⟨t, h1, h2, k.1 t _ h3 fun r => ha t _ r h1⟩
theorem Acc.app (h : Acc σ s p ty sz rows) (x : Store) : Acc σ (s ++ x) p ty sz rows := by
 rcases h with h | ⟨t, h1, h2, h3⟩
 ·exact .inl h
 ·exact .inr ⟨t, h1, h2, by rw [List.getElem?_append_left (List.getElem?_eq_some_iff.1 h3).1]; exact h3⟩
theorem Acc.set (h : Acc σ s p ty sz rows) (hb : Bx σ s i t c) (o : Option AObj) : Acc σ (s.set i o) p ty sz rows := by
 rcases h with h | ⟨k, h1, h2, h3⟩
 ·exact .inl h
 ·refine .inr ⟨k, h1, h2, ?_⟩;rw [List.getElem?_set_ne]
  ·exact h3
  ·rintro rfl
   have := hb.get.symm.trans h3;injection this with this;injection this with this;cases this
theorem Bx.keep (h : Bx σ s i t c) (ha : Acc σ s q ty sz rows) (k : Keep q s s') : Bx σ s' i t c := by
 refine ⟨h.le, k.1 i _ h.get fun r hr => ?_⟩;rcases ha with ⟨_, rfl | rfl⟩ | ⟨k, rfl, h2, h3⟩
 ·cases hr
 ·cases hr
 ·injection hr with h4 h5;subst h4;have := h.get.symm.trans h3;injection this with this;injection this with this;cases this
theorem Acc.push {tl : TypeId} {ti : TI} {a b : Nat} {g m : Bool} {z : List Z} (hT : T tl = some ⟨a, b, g, m, z, .slc ty⟩) (hE : T ty = some ti) (h : Acc σ s p ty ti.sz rows) (hp : Pre σ s) (hr : ∀ r ∈ rows, r.length = ti.sz) (hn : ∀ r ∈ ns, r.length = ti.sz) (hne : ns ≠ []) (h0 : 0 < ti.sz)
  (hb : (rows.length + ns.length) * ti.bytes ≤ 140737488355328 ∧ rows.length + ns.length ≤ 140737488355328) : ∃ p' s', (∀ x, E.rowsOf x = some ns → qL T tl p x s = .eff p' s') ∧ Acc σ s' p' ty ti.sz (rows ++ ns) ∧ Pre σ s' ∧ Keep p s s' ∧ (∀ q : PV, (∀ t r r', q = .ow t r → p ≠ .ow t r' ∧ t < s.length) → ∀ t r r', q = .ow t r → p' ≠ .ow t r') ∧ (∀ H, sub H s → (∀ t r, p = .ow t r → H.length ≤ t) → sub H s') ∧ (∀ n, n ≤ s.length → (∀ t r, p = .ow t r → n ≤ t) → ∀ t r, p' = .ow t r → n ≤ t) := by
 have hc : (∀ r ∈ ns, r.length = ti.sz) ∧ 0 < ti.sz := ⟨hn, h0⟩;rcases h with ⟨rfl, rfl | rfl⟩ | ⟨k, rfl, h2, h3⟩
 ·refine ⟨.ow s.length ns, s ++ [some (.tok ty ti.sz ns.length)], fun x hx => ?_, .inr ⟨_, rfl, hp.le, by simp⟩, hp.app _, ⟨fun i o hi _ => by rw [List.getElem?_append_left (List.getElem?_eq_some_iff.1 hi).1]; exact hi, by simp⟩, fun q hq t r r' h1 h2 => ?_, fun H hH _ i o hl => ?_, fun n hn _ t r h1 => ?_⟩
  ·simp only [qL, hT, hE, hx, hne, if_false];rw [if_pos hc, if_pos (by simpa using hb)]
  ·injection h2 with h2;have := (hq t r [] h1).2;omega
  ·exact of_eq_true (JY _ _) i o (hH i o hl)
  ·injection h1 with h1;omega
 ·refine ⟨.ow s.length ns, s ++ [some (.tok ty ti.sz ns.length)], fun x hx => ?_, .inr ⟨_, rfl, hp.le, by simp⟩, hp.app _, ⟨fun i o hi _ => by rw [List.getElem?_append_left (List.getElem?_eq_some_iff.1 hi).1]; exact hi, by simp⟩, fun q hq t r r' h1 h2 => ?_, fun H hH _ i o hl => ?_, fun n hn _ t r h1 => ?_⟩
  ·simp only [qL, hT, hE, hx, hne, if_false];rw [if_pos hc, if_pos (by simpa using hb)]
  ·injection h2 with h2;have := (hq t r [] h1).2;omega
  ·exact of_eq_true (JY _ _) i o (hH i o hl)
  ·injection h1 with h1;omega
 ·refine ⟨.ow k (rows ++ ns), s.set k (some (.tok ty ti.sz (rows.length + ns.length))), fun x hx => ?_, .inr ⟨k, rfl, h2, by rw [List.getElem?_set_self (List.getElem?_eq_some_iff.1 h3).1, List.length_append]⟩, hp.set h2 _, ⟨fun i o hi hne => by rw [List.getElem?_set_ne (by rintro rfl; exact hne _ rfl)]; exact hi, by simp⟩, fun q hq t r r' h1 h4 => ?_, fun H hH hk i o hl => ?_, fun n hn hk t r h1 => ?_⟩
  ·simp only [qL, hT, hE, hx, hne, if_false];rw [if_pos hc];simp only [h3];rw [if_pos ⟨trivial, trivial, trivial, hr, hb⟩]
  ·injection h4 with h4;subst h4;exact (hq k r rows h1).1 rfl
  ·have h5 := hH i o hl;have h6 := hk k rows rfl;have h7 := (List.getElem?_eq_some_iff.1 hl.1).1;exact ⟨by rw [List.getElem?_set_ne (by omega)]; exact h5.1, h5.2⟩
  ·injection h1 with h1;subst h1;exact hk k rows rfl
theorem Acc.lenX {tl : TypeId} {a b : Nat} {g m : Bool} {z : List Z} (hT : T tl = some ⟨a, b, g, m, z, .slc ty⟩) (h : Acc σ s p ty sz rows) : E.lenX T tl p s = .val (.v (.int .i64 rows.length)) := by
 rcases h with ⟨rfl, rfl | rfl⟩ | ⟨t, rfl, _⟩ <;> simp [E.lenX, hT, E.rowsOf]
theorem Acc.cast {r r' : List (List PV)} (hr : r = r') (h : Acc σ s p ty sz r) : Acc σ s p ty sz r' := hr ▸ h
theorem Acc.lt (h : Acc σ s p ty sz rows) : ∀ t r, p = .ow t r → t < s.length := by
 rcases h with ⟨_, rfl | rfl⟩ | ⟨k, rfl, h2, h3⟩
 ·intro t r hh; cases hh
 ·intro t r hh; cases hh
 ·intro t r hh;injection hh with hh;subst hh;exact (List.getElem?_eq_some_iff.1 h3).1
inductive Cn : PV → Prop
 | v (x : Value) : Cn (.v x)
 | e0 : Cn .e0
 | sl {rows : List (List PV)} : (∀ r ∈ rows, ∀ p ∈ r, Cn p) → Cn (.sl rows)
 | ag {ps : List PV} : (∀ p ∈ ps, Cn p) → Cn (.ag ps)
 | tu {ps : List PV} : (∀ p ∈ ps, Cn p) → Cn (.tu ps)
theorem Cn.cl {p : PV} (h : Cn p) (n : Nat) : Cl n p := by
 induction h with
 | v x => exact .v x
 | e0 => exact .e0
 | sl h ih => exact .sl ih
 | ag h ih => exact .ag ih
 | tu h ih => exact .tu ih
def Pw (σ : Store) (K : PV → Store → Prop) (r : PV) (s : Store) : Prop := Pre σ s ∧ ∃ r', Wk r r' ∧ Cn r' ∧ K r' σ
end
theorem qW {σ : Store} {f : FuncId} {fn : Func} {c : Code} {args : List PV} {K : PV → Store → Prop} (hf : Try.prog.funcs[f]? = some fn) (hname : (fn.name == "runtime.NumGoroutine") = false) (hb : fn.body = some c) (hc : (QI fn.ntmps c && decide (args.length ≤ fn.ntmps)) = true)
  (h : Ev Try.prog E.T c (qz args) σ (Bd E.T fn (Pw σ K))) : EC Try.prog f args σ K :=
 EC.pure (EC.wkr ((w_fn hf hname hb hc h).mono fun r s ⟨h1, r', h2, h3, h4⟩ => ⟨r', h2, h1, h3.cl _, h4⟩))
theorem cj2 {a0 a1 : Prop} (h0 : a0) (h1 : a1) : a0 ∧ a1 := ⟨h0, h1⟩
theorem cj3 {a0 a1 a2 : Prop} (h0 : a0) (h1 : a1) (h2 : a2) : a0 ∧ a1 ∧ a2 := ⟨h0, h1, h2⟩
theorem cj4 {a0 a1 a2 a3 : Prop} (h0 : a0) (h1 : a1) (h2 : a2) (h3 : a3) : a0 ∧ a1 ∧ a2 ∧ a3 := ⟨h0, h1, h2, h3⟩
theorem cj5 {a0 a1 a2 a3 a4 : Prop} (h0 : a0) (h1 : a1) (h2 : a2) (h3 : a3) (h4 : a4) : a0 ∧ a1 ∧ a2 ∧ a3 ∧ a4 := ⟨h0, h1, h2, h3, h4⟩
theorem cj6 {a0 a1 a2 a3 a4 a5 : Prop} (h0 : a0) (h1 : a1) (h2 : a2) (h3 : a3) (h4 : a4) (h5 : a5) : a0 ∧ a1 ∧ a2 ∧ a3 ∧ a4 ∧ a5 := ⟨h0, h1, h2, h3, h4, h5⟩
theorem cj7 {a0 a1 a2 a3 a4 a5 a6 : Prop} (h0 : a0) (h1 : a1) (h2 : a2) (h3 : a3) (h4 : a4) (h5 : a5) (h6 : a6) : a0 ∧ a1 ∧ a2 ∧ a3 ∧ a4 ∧ a5 ∧ a6 := ⟨h0, h1, h2, h3, h4, h5, h6⟩
theorem cj8 {a0 a1 a2 a3 a4 a5 a6 a7 : Prop} (h0 : a0) (h1 : a1) (h2 : a2) (h3 : a3) (h4 : a4) (h5 : a5) (h6 : a6) (h7 : a7) : a0 ∧ a1 ∧ a2 ∧ a3 ∧ a4 ∧ a5 ∧ a6 ∧ a7 := ⟨h0, h1, h2, h3, h4, h5, h6, h7⟩
theorem cj9 {a0 a1 a2 a3 a4 a5 a6 a7 a8 : Prop} (h0 : a0) (h1 : a1) (h2 : a2) (h3 : a3) (h4 : a4) (h5 : a5) (h6 : a6) (h7 : a7) (h8 : a8) : a0 ∧ a1 ∧ a2 ∧ a3 ∧ a4 ∧ a5 ∧ a6 ∧ a7 ∧ a8 := ⟨h0, h1, h2, h3, h4, h5, h6, h7, h8⟩
theorem Zt {a0 a1 a2 a3 a4 a5 a6 a7 a8 a9 : Prop} (h0 : a0) (h1 : a1) (h2 : a2) (h3 : a3) (h4 : a4) (h5 : a5) (h6 : a6) (h7 : a7) (h8 : a8) (h9 : a9) : a0 ∧ a1 ∧ a2 ∧ a3 ∧ a4 ∧ a5 ∧ a6 ∧ a7 ∧ a8 ∧ a9 := ⟨h0, h1, h2, h3, h4, h5, h6, h7, h8, h9⟩
theorem YH {a0 a1 a2 a3 a4 a5 a6 a7 a8 a9 a10 : Prop} (h0 : a0) (h1 : a1) (h2 : a2) (h3 : a3) (h4 : a4) (h5 : a5) (h6 : a6) (h7 : a7) (h8 : a8) (h9 : a9) (h10 : a10) : a0 ∧ a1 ∧ a2 ∧ a3 ∧ a4 ∧ a5 ∧ a6 ∧ a7 ∧ a8 ∧ a9 ∧ a10 := ⟨h0, h1, h2, h3, h4, h5, h6, h7, h8, h9, h10⟩
theorem Jn {a0 a1 a2 a3 a4 a5 a6 a7 a8 a9 a10 a11 : Prop} (h0 : a0) (h1 : a1) (h2 : a2) (h3 : a3) (h4 : a4) (h5 : a5) (h6 : a6) (h7 : a7) (h8 : a8) (h9 : a9) (h10 : a10) (h11 : a11) : a0 ∧ a1 ∧ a2 ∧ a3 ∧ a4 ∧ a5 ∧ a6 ∧ a7 ∧ a8 ∧ a9 ∧ a10 ∧ a11 := ⟨h0, h1, h2, h3, h4, h5, h6, h7, h8, h9, h10, h11⟩
theorem cj13 {a0 a1 a2 a3 a4 a5 a6 a7 a8 a9 a10 a11 a12 : Prop} (h0 : a0) (h1 : a1) (h2 : a2) (h3 : a3) (h4 : a4) (h5 : a5) (h6 : a6) (h7 : a7) (h8 : a8) (h9 : a9) (h10 : a10) (h11 : a11) (h12 : a12) : a0 ∧ a1 ∧ a2 ∧ a3 ∧ a4 ∧ a5 ∧ a6 ∧ a7 ∧ a8 ∧ a9 ∧ a10 ∧ a11 ∧ a12 := ⟨h0, h1, h2, h3, h4, h5, h6, h7, h8, h9, h10, h11, h12⟩
theorem Yl {a0 a1 a2 a3 a4 a5 a6 a7 a8 a9 a10 a11 a12 a13 : Prop} (h0 : a0) (h1 : a1) (h2 : a2) (h3 : a3) (h4 : a4) (h5 : a5) (h6 : a6) (h7 : a7) (h8 : a8) (h9 : a9) (h10 : a10) (h11 : a11) (h12 : a12) (h13 : a13) : a0 ∧ a1 ∧ a2 ∧ a3 ∧ a4 ∧ a5 ∧ a6 ∧ a7 ∧ a8 ∧ a9 ∧ a10 ∧ a11 ∧ a12 ∧ a13 := ⟨h0, h1, h2, h3, h4, h5, h6, h7, h8, h9, h10, h11, h12, h13⟩
theorem cj15 {a0 a1 a2 a3 a4 a5 a6 a7 a8 a9 a10 a11 a12 a13 a14 : Prop} (h0 : a0) (h1 : a1) (h2 : a2) (h3 : a3) (h4 : a4) (h5 : a5) (h6 : a6) (h7 : a7) (h8 : a8) (h9 : a9) (h10 : a10) (h11 : a11) (h12 : a12) (h13 : a13) (h14 : a14) : a0 ∧ a1 ∧ a2 ∧ a3 ∧ a4 ∧ a5 ∧ a6 ∧ a7 ∧ a8 ∧ a9 ∧ a10 ∧ a11 ∧ a12 ∧ a13 ∧ a14 := ⟨h0, h1, h2, h3, h4, h5, h6, h7, h8, h9, h10, h11, h12, h13, h14⟩
theorem JV {a0 a1 a2 a3 a4 a5 a6 a7 a8 a9 a10 a11 a12 a13 a14 a15 : Prop} (h0 : a0) (h1 : a1) (h2 : a2) (h3 : a3) (h4 : a4) (h5 : a5) (h6 : a6) (h7 : a7) (h8 : a8) (h9 : a9) (h10 : a10) (h11 : a11) (h12 : a12) (h13 : a13) (h14 : a14) (h15 : a15) : a0 ∧ a1 ∧ a2 ∧ a3 ∧ a4 ∧ a5 ∧ a6 ∧ a7 ∧ a8 ∧ a9 ∧ a10 ∧ a11 ∧ a12 ∧ a13 ∧ a14 ∧ a15 := ⟨h0, h1, h2, h3, h4, h5, h6, h7, h8, h9, h10, h11, h12, h13, h14, h15⟩
theorem cj17 {a0 a1 a2 a3 a4 a5 a6 a7 a8 a9 a10 a11 a12 a13 a14 a15 a16 : Prop} (h0 : a0) (h1 : a1) (h2 : a2) (h3 : a3) (h4 : a4) (h5 : a5) (h6 : a6) (h7 : a7) (h8 : a8) (h9 : a9) (h10 : a10) (h11 : a11) (h12 : a12) (h13 : a13) (h14 : a14) (h15 : a15) (h16 : a16) : a0 ∧ a1 ∧ a2 ∧ a3 ∧ a4 ∧ a5 ∧ a6 ∧ a7 ∧ a8 ∧ a9 ∧ a10 ∧ a11 ∧ a12 ∧ a13 ∧ a14 ∧ a15 ∧ a16 := ⟨h0, h1, h2, h3, h4, h5, h6, h7, h8, h9, h10, h11, h12, h13, h14, h15, h16⟩
theorem cj18 {a0 a1 a2 a3 a4 a5 a6 a7 a8 a9 a10 a11 a12 a13 a14 a15 a16 a17 : Prop} (h0 : a0) (h1 : a1) (h2 : a2) (h3 : a3) (h4 : a4) (h5 : a5) (h6 : a6) (h7 : a7) (h8 : a8) (h9 : a9) (h10 : a10) (h11 : a11) (h12 : a12) (h13 : a13) (h14 : a14) (h15 : a15) (h16 : a16) (h17 : a17) : a0 ∧ a1 ∧ a2 ∧ a3 ∧ a4 ∧ a5 ∧ a6 ∧ a7 ∧ a8 ∧ a9 ∧ a10 ∧ a11 ∧ a12 ∧ a13 ∧ a14 ∧ a15 ∧ a16 ∧ a17 := ⟨h0, h1, h2, h3, h4, h5, h6, h7, h8, h9, h10, h11, h12, h13, h14, h15, h16, h17⟩
theorem ZC {a0 a1 a2 a3 a4 a5 a6 a7 a8 a9 a10 a11 a12 a13 a14 a15 a16 a17 a18 a19 : Prop} (h0 : a0) (h1 : a1) (h2 : a2) (h3 : a3) (h4 : a4) (h5 : a5) (h6 : a6) (h7 : a7) (h8 : a8) (h9 : a9) (h10 : a10) (h11 : a11) (h12 : a12) (h13 : a13) (h14 : a14) (h15 : a15) (h16 : a16) (h17 : a17) (h18 : a18) (h19 : a19) : a0 ∧ a1 ∧ a2 ∧ a3 ∧ a4 ∧ a5 ∧ a6 ∧ a7 ∧ a8 ∧ a9 ∧ a10 ∧ a11 ∧ a12 ∧ a13 ∧ a14 ∧ a15 ∧ a16 ∧ a17 ∧ a18 ∧ a19 := ⟨h0, h1, h2, h3, h4, h5, h6, h7, h8, h9, h10, h11, h12, h13, h14, h15, h16, h17, h18, h19⟩
theorem ql {P : Program} {T : TypeId → Option TI} {s : Store} {e : Env} {Q : X → Env → Store → Prop} {a b c : Code} (h : Ev P T (.seq a (.seq b c)) e s Q) : Ev P T (.seq (.seq a b) c) e s Q :=
 .of (Qu a (fun x e s hx => by
  cases x with
  | nrm =>
   obtain ⟨e2, s2, hw, hx⟩ := hx;refine ⟨e2, s2, hw, Qu b (fun y e s hy => ?_) e2 s2 hx⟩;cases y <;> exact hy
  | ext i => exact hx
  | ret => exact hx) e s h.to)
theorem cw_n {I : Env → Store → Prop} {K : X → Env → Store → Prop} {e : Env} {s : Store} (h : ∃ e2, WkE e e2 ∧ I e2 s) : Cw I K .nrm e s := let ⟨e2, hw, hi⟩ := h; ⟨e2, s, .wk hw, hi⟩
theorem qe {I : Env → Store → Prop} {K : X → Env → Store → Prop} {e : Env} {s : Store} (h : I e s) : Cw I K .nrm e s := cw_n ⟨e, WkE.refl _, h⟩
theorem ZU {I : Env → Store → Prop} {K : X → Env → Store → Prop} {e e2 : Env} {s s2 : Store} (hg : Gh e s e2 s2) (h : I e2 s2) : Cw I K .nrm e s := ⟨e2, s2, hg, h⟩
theorem cw_x {I : Env → Store → Prop} {K : X → Env → Store → Prop} {e : Env} {s : Store} {i : Nat} (h : K (.ext i) e s) : Cw I K (.ext i) e s := h
theorem qB {I : Env → Store → Prop} {K : X → Env → Store → Prop} {e : Env} {s : Store} (h : K .ret e s) : Cw I K .ret e s := h
theorem iq_n {V W : Type} {I : V → Env → Store → Prop} {x : V ⊕ W} {r : W} {Q : X → Env → Store → Prop} {e : Env} {s : Store} {v' : V} (hx : x = .inl v') (h : ∃ e2, WkE e e2 ∧ I v' e2 s) : Iq I x r Q .nrm e s := let ⟨e2, hw, hi⟩ := h; ⟨v', hx, e2, s, .wk hw, hi⟩
theorem qZ {V W : Type} {I : V → Env → Store → Prop} {x : V ⊕ W} {r : W} {Q : X → Env → Store → Prop} {e : Env} {s : Store} {v' : V} (hx : x = .inl v') (h : I v' e s) : Iq I x r Q .nrm e s := iq_n hx ⟨e, WkE.refl _, h⟩
theorem qY {V W : Type} {I : V → Env → Store → Prop} {x : V ⊕ W} {r r' : W} {Q : X → Env → Store → Prop} {e : Env} {s : Store} {i : Nat} (hx : x = .inr r') (h : r' = r → Q (.ext i) e s) : Iq I x r Q (.ext i) e s := ⟨r', hx, h⟩
theorem zv {V W : Type} {I : V → Env → Store → Prop} {x : V ⊕ W} {r r' : W} {Q : X → Env → Store → Prop} {e : Env} {s : Store} (hx : x = .inr r') (h : r' = r → Q .ret e s) : Iq I x r Q .ret e s := ⟨r', hx, h⟩
theorem zE {P : Program} {T : TypeId → Option TI} {s : Store} {e : Env} {Q : X → Env → Store → Prop} {c : Code} (I : Env → Store → Prop) (h : Ev P T c e s (Ct I Q)) (k : ∀ e s, I e s → Q .nrm e s) : Ev P T c e s Q :=
 h.mono fun x e s hx => by cases x <;> first | exact k e s hx | exact hx
theorem qS {I : Env → Store → Prop} {K : X → Env → Store → Prop} {e : Env} {s : Store} (h : I e s) : Ct I K .nrm e s := h
theorem Yk {I : Env → Store → Prop} {K : X → Env → Store → Prop} {e : Env} {s : Store} (h : K .ret e s) : Ct I K .ret e s := h
theorem qt {fn : Func} {K : PV → Store → Prop} {x : X} {r r' : PV} {σ s : Store} {e : Env} (hx : x ≠ .nrm → x = .ret) (h1 : qqh T fn.results e s = some r) (hp : Pre σ s) (hw : Wk r r') (hc : Cn r') (hk : K r' σ) : Bd T fn (Pw σ K) x e s := ZV hx h1 ⟨hp, r', hw, hc, hk⟩
def CnL (l : List PV) : Prop := ∀ p ∈ l, Cn p
theorem CnL.nil : CnL [] := fun p hp => by simp at hp
theorem CnL.cons {p : PV} {l : List PV} (h : Cn p) (hl : CnL l) : CnL (p :: l) := fun q hq => by
 rcases List.mem_cons.1 hq with rfl | hq
 ·exact h
 ·exact hl q hq
theorem Cn.rows {α : Type} {f : α → List PV} (h : ∀ x, CnL (f x)) (l : List α) : Cn (.sl (l.map f)) := .sl fun r hr p hp => by
 obtain ⟨x, _, rfl⟩ := List.mem_map.1 hr;exact h x p hp
theorem qA {α β : Type} {f : α → β} {l : List α} {i : Nat} {x : α} (h : l[i]? = some x) : (l.map f)[i]? = some (f x) := by rw [List.getElem?_map, h]; rfl
theorem qI {α : Type} {f : α → List PV} {n : Nat} (h : ∀ x, (f x).length = n) (l : List α) : ∀ r ∈ l.map f, r.length = n := fun r hr => by
 obtain ⟨x, _, rfl⟩ := List.mem_map.1 hr;exact h x
theorem qO {α : Type} {c : Bool} {a b : Option α} {r : α} (hc : c = true) (h : (if c then a else b) = some r) : a = some r := by rw [hc] at h; exact h
theorem qU {α : Type} {c : Bool} {a b : Option α} {r : α} (hc : c = false) (h : (if c then a else b) = some r) : b = some r := by rw [hc] at h; exact h
noncomputable def JS (P : Program) (T : TypeId → Option TI) (ops : Array Oper) (H : Store) (base : Nat) : List Oper → Nat → Env → Store → (Env → Store → Prop) → Prop
 | [], _, e, s, K => K e s
 | o :: rest, j, e, s, K => match zw ops o e with
  | some true => if zF o.op then (match qo T o.op e s with
    | .val p => JS P T ops H base rest j (upd e o.dst p) s K
    | .eff p s' => sub H s' ∧ JS P T ops H base rest j (upd e o.dst p) s' K
    | .call f args => EC P f args s (fun r s' => sub H s' ∧ JS P T ops H base rest j (upd e o.dst r) s' K)
    | _ => False)
   else (match qo T o.op e H with
    | .val p => JS P T ops H base rest (if zK o.op then j + 1 else j) (upd e o.dst p) s K
    | .new ob mk => JS P T ops H base rest (j + 1) (upd e o.dst (mk (base + j))) (s.set (base + j) (some ob)) K
    | _ => False)
  | some false => JS P T ops H base rest (if zK o.op then j + 1 else j) (upd e o.dst (.tu [])) s K
  | none => False
theorem newIdx_next {ops : Array Oper} {i : Nat} {o : Oper} (h : ops.toList[i]? = some o) : zg ops (i + 1) = if zK o.op then zg ops i + 1 else zg ops i := by
 unfold zg;rw [List.take_add_one, h];simp only [Option.toList_some, List.filter_append, List.length_append, List.filter_cons, List.filter_nil];split <;> simp
theorem eff_not_new {o : Op} (h : zF o = true) : zK o = false := by
 cases o <;> simp [zF, zK] at h ⊢
theorem zzC {P : Program} {T : TypeId → Option TI} {ops : Array Oper} {H : Store} {base : Nat} {K : Env → Store → Prop} : ∀ (l : List Oper) (i : Nat) (e : Env) (s : Store), ops.toList.drop i = l → JS P T ops H base l (zg ops i) e s K → Yj P T ops H base l i e s K
 | [], i, e, s, _, h => h
 | o :: l, i, e, s, hl, h => by
  have hi : ops.toList[i]? = some o := by
   have := congrArg (fun x => x[0]?) hl;simpa using this
  have hl' : ops.toList.drop (i + 1) = l := by
   have := congrArg List.tail hl;simpa using this
  have hn := newIdx_next hi;have go := fun e s => zzC (P := P) (T := T) (H := H) (base := base) (K := K) l (i + 1) e s hl';rw [hn] at go;unfold Yj zm;unfold JS at h;split at h
  ·rename_i hw;rw [hw];simp only;unfold Qe;split at h
   ·rename_i hE;rw [if_pos hE];rw [eff_not_new hE] at go;simp only [Bool.false_eq_true, if_false] at go;split at h
    ·rename_i p hr;rw [hr];exact go _ _ h
    ·rename_i p s' hr;rw [hr];exact ⟨h.1, go _ _ h.2⟩
    ·rename_i f args hr;rw [hr];exact h.mono fun r s' hk => ⟨hk.1, go _ _ hk.2⟩
    ·exact h.elim
   ·rename_i hE;rw [if_neg hE];split at h
    ·rename_i p hr;rw [hr];exact go _ _ h
    ·rename_i ob mk hr;rw [(Yy hr).1] at go;simp only [if_true] at go;rw [hr];exact go _ _ h
    ·exact h.elim
  ·rename_i hw;rw [hw];exact go _ _ h
  ·exact h.elim
def RestD (P : Program) (T : TypeId → Option TI) (ops : Array Oper) (H : Store) (base : Nat) (rest : List Oper) (j : Nat) (e : Env) (d : Option Tmp) (K : Env → Store → Prop) (r : PV) (s : Store) : Prop := sub H s ∧ JS P T ops H base rest j (upd e d r) s K
noncomputable def qqn : (P : Program) → (T : TypeId → Option TI) → (ops : Array Oper) → (H : Store) → (base : Nat) → List Oper → Nat → Env → Store → (Env → Store → Prop) → Prop := Classical.choose (⟨@JS, rfl⟩ : ∃ f, f = @JS)
theorem qqL : @qqn = @JS := Classical.choose_spec (⟨@JS, rfl⟩ : ∃ f, f = @JS)
theorem evDC_nil {P : Program} {T : TypeId → Option TI} {ops : Array Oper} {H : Store} {base j : Nat} {K : Env → Store → Prop} (e : Env) (s : Store) : qqn P T ops H base [] j e s K = K e s := by rw [qqL]; rfl
theorem evDC_cons {P : Program} {T : TypeId → Option TI} {ops : Array Oper} {H : Store} {base j : Nat} {K : Env → Store → Prop} (o : Oper) (rest : List Oper) (e : Env) (s : Store) : qqn P T ops H base (o :: rest) j e s K = match zw ops o e with
  | some true => if zF o.op then (match qo T o.op e s with
    | .val p => qqn P T ops H base rest j (upd e o.dst p) s K
    | .eff p s' => sub H s' ∧ qqn P T ops H base rest j (upd e o.dst p) s' K
    | .call f args => EC P f args s (RestD P T ops H base rest j e o.dst K)
    | _ => False)
   else (match qo T o.op e H with
    | .val p => qqn P T ops H base rest (if zK o.op then j + 1 else j) (upd e o.dst p) s K
    | .new ob mk => qqn P T ops H base rest (j + 1) (upd e o.dst (mk (base + j))) (s.set (base + j) (some ob)) K
    | _ => False)
  | some false => qqn P T ops H base rest (if zK o.op then j + 1 else j) (upd e o.dst (.tu [])) s K
  | none => False := by rw [qqL]; rfl
theorem set_app0 (s l : Store) (a b : Option AObj) : (s ++ a :: l).set s.length b = s ++ b :: l := by simp
theorem set_app1 (s l : Store) (a b c : Option AObj) : (s ++ a :: b :: l).set (s.length + 1) c = s ++ a :: c :: l := by simp
theorem set_app2 (s l : Store) (a b c d : Option AObj) : (s ++ a :: b :: c :: l).set (s.length + 2) d = s ++ a :: b :: d :: l := by simp
theorem get_app0 (s l : Store) (a : Option AObj) : (s ++ a :: l)[s.length]? = some a := by simp
theorem get_app1 (s l : Store) (a b : Option AObj) : (s ++ a :: b :: l)[s.length + 1]? = some b := by simp
theorem get_app2 (s l : Store) (a b c : Option AObj) : (s ++ a :: b :: c :: l)[s.length + 2]? = some c := by simp
theorem Bx.at {σ s : Store} (h : Pre σ s) {l : Store} {j : Nat} {t : TypeId} {c : List PV} (hl : l[j]? = some (some (.box t c))) : Bx σ (s ++ l) (s.length + j) t c := ⟨by have := h.le; omega, by rw [List.getElem?_append_right (by omega), Nat.add_sub_cancel_left]; exact hl⟩
theorem sub_hid0 (s : Store) (i : Nat) : sub (s.set i none) s = True := eq_true fun j o h => ⟨by
 by_cases hj : i = j
 ·subst hj;have := h.1;by_cases hi : i < s.length
  ·rw [List.getElem?_set_self hi] at this; cases this
  ·rw [List.getElem?_eq_none (by simp; omega)] at this; cases this
 ·rw [← h.1, List.getElem?_set_ne hj], h.2⟩
theorem sub_hid (s : Store) (i : Nat) (o : Option AObj) : sub (s.set i none) (s.set i o) = True := eq_true fun j o' h => ⟨by
 by_cases hj : i = j
 ·subst hj;have := h.1;by_cases hi : i < s.length
  ·rw [List.getElem?_set_self hi] at this; cases this
  ·rw [List.getElem?_eq_none (by simp; omega)] at this; cases this
 ·rw [List.getElem?_set_ne hj, ← h.1, List.getElem?_set_ne hj], h.2⟩
theorem sub_appT {H s : Store} (h : sub H s) (l : Store) : sub H (s ++ l) := fun i o hl => of_eq_true (JY s l) i o (h i o hl)
theorem sub_hid1 (s l : Store) (i : Nat) : sub (s.set i none) (s ++ l) = True := eq_true (sub_appT (of_eq_true (sub_hid0 s i)) l)
theorem sub_hid2 (s l : Store) (i : Nat) (o : Option AObj) : sub (s.set i none) (s.set i o ++ l) = True := eq_true (sub_appT (of_eq_true (sub_hid s i o)) l)
theorem hget {s : Store} {i j : Nat} {x : Option AObj} (h : s[j]? = some x) (hne : i ≠ j) : (s.set i none)[j]? = some x := by rw [List.getElem?_set_ne hne]; exact h
def oz : List (List PV) → PV
 | [] => .e0
 | r :: l => .sl (r :: l)
theorem Wk.oz (l : List (List PV)) : Wk (oz l) (.sl l) := by cases l; exact .e0; exact .refl _
theorem Acc.oz {σ s : Store} {p : PV} {ty : TypeId} {sz : Nat} {rows : List (List PV)} (h : Acc σ s p ty sz rows) (hne : rows ≠ []) : Wk p (oz rows) := by
 cases rows with
 | nil => exact absurd rfl hne
 | cons r l => exact h.wk
theorem Acc.ow {σ s : Store} {p : PV} {ty : TypeId} {sz : Nat} {rows : List (List PV)} (h : Acc σ s p ty sz rows) (hne : rows ≠ []) : ∃ t, p = .ow t rows := by
 rcases h with ⟨h, _⟩ | ⟨t, h, _⟩
 ·exact absurd h hne
 ·exact ⟨t, h⟩
theorem Cn.oz {l : List (List PV)} (h : Cn (.sl l)) : Cn (oz l) := by cases l; exact .e0; exact h
theorem Qg (l : List (List PV)) : (oz l).one = true := by cases l <;> rfl
theorem ss {φ : Prop} {α : Sort _} {a b : α} (f : φ) (h : φ → a = b := by (intro hf; simp (maxSteps := 1000000) -implicitDefEqProofs only [hf, evH_nil, evH_cons, YO, qqh, List.mapM_cons, List.mapM_nil, Option.bind_eq_bind, Option.pure_def, evDC_nil, evDC_cons, zF, zK, sub_self, JY, Nat.add_zero, Nat.zero_add, set_app0, set_app1, set_app2, get_app0, get_app1, get_app2, zw, List.getElem?_toArray, qo, Zy, upd_none, val, argE_at, Nat.reduceLT, ↓reduceIte, List.getD_cons_zero, List.getD_cons_succ, List.getElem?_cons_succ, List.getElem?_cons_zero, zp, abin, abinI, abinS, aun, Nat.reduceEqDiff, Nat.reduceAdd, ofV, Option.map_some, Option.bind_some, Bool.false_eq_true, zN, PV.flat, PV.one, Value.oneCell', List.all_cons, List.all_nil, Bool.and_true, Bool.true_and, List.length_cons, List.length_nil, List.length_map, List.take_succ_cons, List.take_zero, List.drop_succ_cons, List.drop_zero, List.cons_append, List.nil_append, Nat.reduceLeDiff, and_self, and_true, true_and, beq_self_eq_true, Bool.not_true, Bool.not_false, Qr, lenX, rowsOf, intOf?, List.getElem?_concat_length, if_true, ite_true, ite_false, reduceBEq, List.map_cons, List.map_nil, List.toList_toArray, beq_true, beq_false, List.append_nil, set_concat, decide_true, decide_false, eq_self, Int.reduceEq, Int.reduceLT, Int.reduceLE, Int.reduceNeg, Jl, zpv, Z.val, Z.pv, Jh, List.replicate_succ, List.replicate_zero, List.set_cons_zero, List.set_cons_succ, Nat.reduceMul, Nat.zero_lt_one, Array.size, appn2, appn3, Option.some.injEq, ne_eq, not_false_eq_true, not_true_eq_false, false_and, and_false, List.cons.injEq, reduceCtorEq, Option.map_none, Option.isSome_some, Option.isSome_none, Option.getD_some, Option.getD_none, List.headD_cons, Option.isSome_map, mpF_str, keyA, YG, eqFs, eqC, sub_hid, sub_hid0, sub_hid1, sub_hid2, strR, ↓Qg]; try rfl)) : a = b := h f
theorem w_x {φ : Prop} {id : Nat} {ops : Array Oper} {e : Env} {s : Store} {Q : X → Env → Store → Prop} {B : (Env → Store → Prop) → Prop} (f : φ) (k : B fun e s => Q .nrm e s) (h : φ → ∀ K, evH Try.prog T ops ops.toList e s K = B K := by (intro hf K; exact ss hf)) : Ev Try.prog T (.region id ops false) e s Q := .of (by
 show zD Try.prog T ops ops.toList e s (fun e s => Q .nrm e s);refine Zs _ _ _ ?_;rw [← JR, h f];exact k)
theorem zzA {P : Program} {T : TypeId → Option TI} {ops : Array Oper} {K : Env → Store → Prop} {l2 : List Oper} : ∀ (l : List Oper) (e : Env) (s : Store), zD P T ops l e s (fun e s => zD P T ops l2 e s K) → zD P T ops (l ++ l2) e s K
 | [], e, s, h => h
 | o :: l, e, s, h => by
  simp only [zD, List.cons_append] at h ⊢;obtain ⟨e2, hw, h⟩ := h;refine ⟨e2, hw, ?_⟩;split at h
  ·exact qqP (fun e s => zzA l e s) h
  ·exact zzA l _ _ h
  ·exact h
theorem evG_wk {P : Program} {T : TypeId → Option TI} {ops : Array Oper} {K : Env → Store → Prop} {o : Oper} {rest : List Oper} {e e' : Env} {s : Store} (hw : WkE e e') (h : evG P T ops (o :: rest) e' s K) : zD P T ops (o :: rest) e s K := by
 unfold evG at h;unfold zD QJ;refine ⟨e', hw, ?_⟩;cases hw : zw ops o e' with
 | none => rw [hw] at h; exact h
 | some b =>
  rw [hw] at h;cases b with
  | false => exact Zs rest _ _ h
  | true =>
   simp only at h ⊢;cases hs : qo T o.op e' s with
   | val p => rw [hs] at h; exact Zs rest _ _ h
   | new ob mk => rw [hs] at h; exact Zs rest _ _ h
   | eff p s' => rw [hs] at h; exact Zs rest _ _ h
   | call f args => rw [hs] at h; exact h
   | bad => rw [hs] at h; exact h
theorem w_xn {φ : Prop} {id : Nat} {ops : Array Oper} {e : Env} {s : Store} {Q : X → Env → Store → Prop} {B : (Env → Store → Prop) → Prop} (k : Nat) (t : Tmp) (f : φ) (kk : B fun e s => e t = .e0 ∧ evH Try.prog T ops (ops.toList.drop k) (upd e (some t) .nv) s fun e s => Q .nrm e s) (hd : (ops.toList.drop k).isEmpty = false := by kernel_rfl)
  (h : φ → ∀ K, evH Try.prog T ops (ops.toList.take k) e s K = B K := by (intro hf K; exact ss hf)) : Ev Try.prog T (.region id ops false) e s Q := .of (by
 show zD Try.prog T ops ops.toList e s (fun e s => Q .nrm e s);rw [← List.take_append_drop k ops.toList];refine zzA _ _ _ (ZB ?_ _ _ _ (Zs _ _ _ (by rw [← JR, h f]; exact kk)));intro e s hh;obtain ⟨h1, h2⟩ := hh;rw [JR] at h2;cases hl : ops.toList.drop k with
 | nil => rw [hl] at hd; cases hd
 | cons o rest =>
  rw [hl] at h2;refine evG_wk (fun x => ?_) h2;rw [Zy];split
  ·rename_i hx; rw [hx, h1]; exact .e0v
  ·exact .refl _)
theorem w_y {φ : Prop} {ops : Array Oper} {l : List Oper} {d : Option Tmp} {r : PV} {e : Env} {s : Store} {K : Env → Store → Prop} {B : (Env → Store → Prop) → Prop} (f : φ) (k : B K) (h : φ → ∀ K, evH Try.prog T ops l (upd e d r) s K = B K := by (intro hf K; exact ss hf)) : Rest Try.prog T ops l e d K r s := by
 unfold Rest;refine Zs _ _ _ ?_;rw [← JR, h f];exact k
theorem ZX {φ : Prop} {id : Nat} {ops : Array Oper} {e : Env} {s : Store} {Q : X → Env → Store → Prop} {B : (Env → Store → Prop) → Prop} (f : φ) (k : B fun e s => Q .nrm e s) (hp : (pureD ops && Ym ops ops.size) = true := by kernel_rfl) (h : φ → ∀ K, evH Try.prog T ops ops.toList e s K = B K := by (intro hf K; exact ss hf)) : Ev Try.prog T (.region id ops true) e s Q := .of (by
 refine evDraw_pure (by kernel_rfl) hp ?_;rw [← JR, h f];exact k)
theorem xv {φ : Prop} {a b : PV} (f : φ) (h : φ → a = b := by (intro hf; exact ss hf)) : a = b := h f
theorem xr {φ : Prop} {rs : Array ResultVar} {e : Env} {s : Store} {r : PV} (f : φ) (h : φ → qqh T rs e s = some r := by (intro hf; exact ss hf)) : qqh T rs e s = some r := h f
theorem xt {φ : Prop} {c : Operand} {a b : Code} {e : Env} {s : Store} {Q : X → Env → Store → Prop} (f : φ) (h1 : Ev Try.prog T a e s Q) (hc : φ → val e c = .v (.bool true) := by (intro hf; exact ss hf)) : Ev Try.prog T (.cond c a b) e s Q := w_ct (hc f) h1
theorem xf {φ : Prop} {c : Operand} {a b : Code} {e : Env} {s : Store} {Q : X → Env → Store → Prop} (f : φ) (h1 : Ev Try.prog T b e s Q) (hc : φ → val e c = .v (.bool false) := by (intro hf; exact ss hf)) : Ev Try.prog T (.cond c a b) e s Q := w_cf (hc f) h1
theorem zn {φ : Prop} {id : Nat} {ops : Array Oper} {e : Env} {s : Store} {Q : X → Env → Store → Prop} {B : (Env → Store → Prop) → Prop} (k : Nat) (n : Nat) (f : φ) (hk : B fun e s => evH Try.prog T ops (ops.toList.drop k) e s fun e s => Q .nrm e s) (hc : (Ym ops k && chkD (zb ops k) && QN (zb ops k) == n) = true := by kernel_rfl)
  (h : φ → ∀ K, qqn Try.prog T (zb ops k) s s.length (zb ops k).toList 0 e (s ++ List.replicate n (some .res)) K = B K := by (simp only [zb, List.take_succ_cons, List.take_zero, List.take_nil]; (intro hf K; exact ss hf))) : Ev Try.prog T (.region id ops true) e s Q := .of (by
 simp only [Bool.and_eq_true, beq_iff_eq] at hc;obtain ⟨⟨h0, h1⟩, h2⟩ := hc;refine ⟨by kernel_rfl, k, h0, h1, s, ?_, ?_⟩
 ·rw [JY]; trivial
 ·rw [h2];refine YF (K := fun e s => evH Try.prog T ops (ops.toList.drop k) e s fun e s => Q .nrm e s) (fun e s hh => Zs _ _ _ (by rw [JR] at hh; exact hh)) _ _ _ _ ?_;refine zzC (zb ops k).toList 0 e _ (by simp) ?_;have h0 : zg (zb ops k) 0 = 0 := by simp [zg]
  rw [h0, ← qqL, h f];exact hk)
theorem za {φ : Prop} {ops : Array Oper} {l : List Oper} {e : Env} {s : Store} {K : Env → Store → Prop} {B : (Env → Store → Prop) → Prop} (f : φ) (k : B K) (h : φ → ∀ K, evH Try.prog T ops l e s K = B K := by (intro hf K; exact ss hf)) : evH Try.prog T ops l e s K := by
 rw [h f];exact k
theorem Jv {φ : Prop} {ops : Array Oper} {H : Store} {base j : Nat} {l : List Oper} {d : Option Tmp} {r : PV} {e : Env} {s : Store} {K : Env → Store → Prop} {B : (Env → Store → Prop) → Prop} (f : φ) (k : B K) (hs : sub H s := by (first | exact fun _ _ h => h | exact of_eq_true (JY _ _) | exact of_eq_true (sub_hid _ _ _) | exact of_eq_true (sub_hid2 _ _ _ _)))
  (h : φ → ∀ K, qqn Try.prog T ops H base l j (upd e d r) s K = B K := by (intro hf K; exact ss hf)) : RestD Try.prog T ops H base l j e d K r s := by
 refine ⟨hs, ?_⟩;rw [← qqL, h f];exact k
theorem w_xh {φ : Prop} {id : Nat} {ops : Array Oper} {e : Env} {s : Store} {Q : X → Env → Store → Prop} {B : (Env → Store → Prop) → Prop} (i : Nat) (k : Nat) (n : Nat) (f : φ) (hk : B fun e s => evH Try.prog T ops (ops.toList.drop k) e s fun e s => Q .nrm e s) (hc : (Ym ops k && chkD (zb ops k) && QN (zb ops k) == n) = true := by kernel_rfl)
  (h : φ → ∀ K, qqn Try.prog T (zb ops k) (s.set i none) s.length (zb ops k).toList 0 e (s ++ List.replicate n (some .res)) K = B K := by (simp only [zb, List.take_succ_cons, List.take_zero, List.take_nil]; (intro hf K; exact ss hf))) : Ev Try.prog T (.region id ops true) e s Q := .of (by
 simp only [Bool.and_eq_true, beq_iff_eq] at hc;obtain ⟨⟨h0, h1⟩, h2⟩ := hc;refine ⟨by kernel_rfl, k, h0, h1, s.set i none, ?_, ?_⟩
 ·exact of_eq_true (sub_hid1 s _ i)
 ·rw [h2];refine YF (K := fun e s => evH Try.prog T ops (ops.toList.drop k) e s fun e s => Q .nrm e s) (fun e s hh => Zs _ _ _ (by rw [JR] at hh; exact hh)) _ _ _ _ ?_;refine zzC (zb ops k).toList 0 e _ (by simp) ?_;have h0 : zg (zb ops k) 0 = 0 := by simp [zg]
  rw [h0, ← qqL, h f];exact hk)
theorem Bx.cast {σ s : Store} {i : Nat} {t : TypeId} {c c' : List PV} (he : c = c') (h : Bx σ s i t c) : Bx σ s i t c' := he ▸ h
theorem Cn.sl0 : Cn (.sl []) := .sl fun r hr => absurd hr (by simp)
theorem tn0 : (0 : Int).toNat = 0 := rfl
theorem tn1 : (1 : Int).toNat = 1 := rfl
theorem Gh.tr {e e2 e3 : Env} {s s2 s3 : Store} (h : Gh e s e2 s2) (k : Gh e2 s2 e3 s3) : Gh e s e3 s3 :=
 ⟨h.1.trans k.1, fun F hF μ w hs => by
  obtain ⟨μ2, h1, h2, h3⟩ := h.2 F hF μ w hs;obtain ⟨μ3, k1, k2, k3⟩ := k.2 F (h.1.Fok hF) μ2 w h2;exact ⟨μ3, h1.trans hs k1, k2, fun t v hr => k3 t v (h3 t v hr)⟩⟩
theorem Gh.box {e : Env} {s : Store} {i : Nat} {t : TypeId} {c c' : List PV} (hg : s[i]? = some (some (.box t c))) (hw : WkL c c') : Gh e s e (s.set i (some (.box t c'))) := by
 refine ⟨qF.set _ hg (by simp), fun F hF μ w hs => ⟨μ, ?_⟩⟩;have hFi : F i = none := hF.non (by rw [hg]; simp);have hl : live (ov s F) i (.box t c) := ⟨by rw [qqi?, hg]; simp [QA hFi], by simp⟩;rw [Jc hFi];have hgr : w.grownBy w (some (μ i)) := ⟨rfl, rfl, rfl, Nat.le_refl _, fun _ _ _ => rfl⟩;have e1 : Ext (ov s F) μ w ((ov s F).set i (some (.box t c'))) μ w := Yh (o' := .box t c') hs hl (by simp) (show Qq μ μ w w i (.box t c) (.box t c') from rfl) hgr (fun _ _ _ _ h => by cases h);refine ⟨e1, qqd hs hl e1 hgr ?_, fun t v hr => hr.ext hs e1⟩;obtain ⟨cs, g1, g2, g3, g4⟩ := hs.obj _ _ hl;refine ⟨cs, g1, g2.trans hw.len, g3, fun j y q hy hq => ?_⟩;have hj : j < c.length := by rw [hw.len]; exact (List.getElem?_eq_some_iff.1 hq).1
 have hp : c[j]? = some c[j] := List.getElem?_eq_getElem hj;exact ((g4 j y _ hy hp).wk (hw.get j _ q hp hq)).ext hs e1
theorem qqF {V : Type} {f : V → PV} {m r : Mp V} {k : ByteArray} {v : V} (h : Jm m k v = some r) : AObj.map .s (upm (mpF f m.get) (.string k) (f v)) (m.n + 1) = .map .s (mpF f r.get) r.n := by
 obtain ⟨_, rfl⟩ := JE h;have : upm (mpF f m.get) (.string k) (f v) = mpF f (m.put k v).get := by
  funext x
  unfold upm mpF Mp.put;by_cases hx : x = .string k
  ·subst hx;simp
  ·rw [if_neg hx];cases x with
   | string s =>
    have : s ≠ k := fun he => hx (by rw [he]);simp [this]
   | _ => rfl
 rw [this];rfl
theorem YU {V : Type} (f : V → PV) : AObj.map .s (fun _ => none) 0 = .map .s (mpF f (Mp.emp : Mp V).get) (Mp.emp : Mp V).n := by
 have : mpF f (Mp.emp : Mp V).get = fun _ => none := by
  funext x
  cases x <;> rfl
 rw [this];rfl
structure Gx (s : Store) (i : Nat) (o : AObj) : Prop where
 get : s[i]? = some (some o)
section
variable {σ τ s s' : Store} {i j : Nat} {o o' : AObj}
theorem Gx.lt (h : Gx s i o) : i < s.length := (List.getElem?_eq_some_iff.1 h.get).1
theorem Gx.app (h : Gx s i o) (x : Store) : Gx (s ++ x) i o := ⟨by rw [List.getElem?_append_left h.lt]; exact h.get⟩
theorem Gx.any (h : Gx s i o) : ∀ x, (s ++ x)[i]? = some (some o) := fun x => (h.app x).get
theorem Gx.any2 (h : Gx s i o) : ∀ x y, (s ++ x ++ y)[i]? = some (some o) := fun x y => ((h.app x).app y).get
theorem Gx.g3 (h : Gx s i o) : s[i]? = some (some o) ∧ (∀ x, (s ++ x)[i]? = some (some o)) ∧ ∀ x y, (s ++ x ++ y)[i]? = some (some o) := ⟨h.get, h.any, h.any2⟩
theorem Gx.same (h : Gx s i o) (o' : AObj) : Gx (s.set i (some o')) i o' := ⟨by rw [List.getElem?_set_self h.lt]⟩
theorem Gx.ne (h : Gx s i o) (hne : j ≠ i) (x : Option AObj) : Gx (s.set j x) i o := ⟨by rw [List.getElem?_set_ne hne]; exact h.get⟩
theorem Gx.nea (h : Gx s i o) (hne : j ≠ i) : ∀ x, (s.set j x)[i]? = some (some o) := fun x => (h.ne hne x).get
theorem Gx.samea (h : Gx s i o) : ∀ o' : AObj, (s.set i (some o'))[i]? = some (some o') := fun o' => (h.same o').get
theorem Gx.new (s : Store) (o : AObj) : Gx (s ++ [some o]) s.length o := ⟨by simp⟩
theorem Gx.at (s : Store) {l : Store} {j : Nat} {o : AObj} (hl : l[j]? = some (some o)) : Gx (s ++ l) (s.length + j) o := ⟨by rw [List.getElem?_append_right (by omega), Nat.add_sub_cancel_left]; exact hl⟩
theorem Gx.cast (h : Gx s i o) (he : o = o') : Gx s i o' := he ▸ h
theorem Gx.apart (h : Gx s i o) (h' : Gx s j o') (hne : o ≠ o') : i ≠ j := fun e => hne (by subst e; have := h.get.symm.trans h'.get; injection this with this; injection this)
theorem Bx.gx {t : TypeId} {c : List PV} (h : Bx σ s i t c) : Gx s i (.box t c) := ⟨h.get⟩
theorem Gx.keep {q : PV} {ty : TypeId} {sz : Nat} {rows : List (List PV)} (h : Gx s i o) (ho : ∀ a b c, o ≠ .tok a b c) (ha : Acc σ s q ty sz rows) (k : Keep q s s') : Gx s' i o := by
 refine ⟨k.1 i _ h.get fun r hr => ?_⟩;rcases ha with ⟨_, rfl | rfl⟩ | ⟨k, rfl, h2, h3⟩
 ·cases hr
 ·cases hr
 ·injection hr with h4 h5;subst h4;have := h.get.symm.trans h3;injection this with this;injection this with this;exact ho _ _ _ this
theorem Acc.setg {p : PV} {ty : TypeId} {sz : Nat} {rows : List (List PV)} (h : Acc σ s p ty sz rows) (hb : Gx s i o) (ho : ∀ a b c, o ≠ .tok a b c) (x : Option AObj) : Acc σ (s.set i x) p ty sz rows := by
 rcases h with h | ⟨k, h1, h2, h3⟩
 ·exact .inl h
 ·refine .inr ⟨k, h1, h2, ?_⟩;rw [List.getElem?_set_ne]
  ·exact h3
  ·rintro rfl
   have := hb.get.symm.trans h3;injection this with this;injection this with this;exact ho _ _ _ this
theorem Pre.setp (h : Pre τ s) {i : Nat} (hi : i < τ.length) (o : Option AObj) : Pre (τ.set i o) (s.set i o) := by
 obtain ⟨ex, rfl⟩ := h;exact ⟨ex, by rw [List.set_append_left _ _ hi]⟩
theorem Pre.trans {ρ : Store} (h : Pre τ s) (h' : Pre s ρ) : Pre τ ρ := by
 obtain ⟨ex, rfl⟩ := h;obtain ⟨ey, rfl⟩ := h';exact ⟨ex ++ ey, by rw [List.append_assoc]⟩
def Fr (σ τ : Store) (S : List Nat) : Prop := τ.length = σ.length ∧ ∀ j, j ∉ S → τ[j]? = σ[j]?
theorem Fr.refl (σ : Store) (S : List Nat) : Fr σ σ S := ⟨rfl, fun _ _ => rfl⟩
theorem Fr.set {S : List Nat} (h : Fr σ τ S) {i : Nat} (hi : i ∈ S) (o : Option AObj) : Fr σ (τ.set i o) S := ⟨by simp [h.1], fun j hj => by rw [List.getElem?_set_ne (by rintro rfl; exact hj hi)]; exact h.2 j hj⟩
theorem Fr.ge {S : List Nat} (h : Fr σ τ S) {i : Nat} (hi : σ.length ≤ i) : τ.length ≤ i := by rw [h.1]; exact hi
theorem Fr.lt {S : List Nat} (h : Fr σ τ S) {i : Nat} (hi : i < σ.length) : i < τ.length := by rw [h.1]; exact hi
theorem Bx.newf {S : List Nat} (hf : Fr σ τ S) (h : Pre τ s) (t : TypeId) (c : List PV) : Bx σ (s ++ [some (.box t c)]) s.length t c := ⟨by rw [← hf.1]; exact h.le, by simp⟩
theorem Bx.atf {S : List Nat} (hf : Fr σ τ S) (h : Pre τ s) {l : Store} {j : Nat} {t : TypeId} {c : List PV} (hl : l[j]? = some (some (.box t c))) : Bx σ (s ++ l) (s.length + j) t c := ⟨by rw [← hf.1]; have := h.le; omega, by rw [List.getElem?_append_right (by omega), Nat.add_sub_cancel_left]; exact hl⟩
theorem Acc.ft {S : List Nat} (hf : Fr σ τ S) {p : PV} {ty : TypeId} {sz : Nat} {rows : List (List PV)} (h : Acc σ s p ty sz rows) : Acc τ s p ty sz rows := by
 rcases h with h | ⟨k, h1, h2, h3⟩
 ·exact .inl h
 ·exact .inr ⟨k, h1, hf.ge h2, h3⟩
def Ja (σ : Store) : List (Nat × AObj) → Store
 | [] => σ
 | (i, o) :: l => Ja (σ.set i (some o)) l
theorem QQl : ∀ (l : List (Nat × AObj)) (σ : Store), (Ja σ l).length = σ.length
 | [], σ => rfl
 | (i, o) :: l, σ => by rw [Ja, QQl l]; simp
theorem YK : ∀ (l : List (Nat × AObj)) (σ : Store) (j : Nat), j ∉ l.map (·.1) → (Ja σ l)[j]? = σ[j]?
 | [], σ, j, _ => rfl
 | (i, o) :: l, σ, j, h => by
  simp only [List.map_cons, List.mem_cons, not_or] at h;rw [Ja, YK l _ j h.2, List.getElem?_set_ne (fun e => h.1 e.symm)]
theorem zzo : ∀ (l : List (Nat × AObj)) (σ : Store) (i : Nat) (o : AObj), (l.map (·.1)).Nodup → (i, o) ∈ l → i < σ.length → (Ja σ l)[i]? = some (some o)
 | [], σ, i, o, _, h, _ => by cases h
 | (k, o') :: l, σ, i, o, hn, h, hi => by
  simp only [List.map_cons, List.nodup_cons] at hn;rw [Ja];rcases List.mem_cons.1 h with h | h
  ·injection h with h1 h2;subst h1 h2;rw [YK l _ i hn.1, List.getElem?_set_self hi]
  ·exact zzo l _ i o hn.2 h (by simpa using hi)
theorem Fr.eq {l : List (Nat × AObj)} (h : Fr σ τ (l.map (·.1))) (hn : (l.map (·.1)).Nodup) (hl : ∀ x ∈ l, x.1 < σ.length ∧ τ[x.1]? = some (some x.2)) : τ = Ja σ l := by
 apply List.ext_getElem?;intro j;by_cases hj : j ∈ l.map (·.1)
 ·obtain ⟨⟨i, o⟩, hx, rfl⟩ := List.mem_map.1 hj;obtain ⟨h1, h2⟩ := hl _ hx;rw [h2, zzo l σ i o hn hx h1]
 ·rw [h.2 j hj, YK l σ j hj]
theorem Pre.get (h : Pre τ s) {i : Nat} (hi : i < τ.length) : s[i]? = τ[i]? := by
 obtain ⟨ex, rfl⟩ := h;rw [List.getElem?_append_left hi]
theorem Gx.back (h : Gx s i o) (hp : Pre τ s) (hi : i < τ.length) : τ[i]? = some (some o) := by rw [← hp.get hi]; exact h.get
inductive CnO : AObj → Prop
 | box {t : TypeId} {c : List PV} : (∀ p ∈ c, Cn p) → CnO (.box t c)
 | map {kk : KK} {m : Value → Option PV} {n : Nat} : (∀ k p, m k = some p → Cn p) → CnO (.map kk m n)
theorem CnO.cl {o : AObj} (h : CnO o) (n : Nat) : ClO n o := by
 cases h with
 | box h => exact fun c hc => (h c hc).cl n
 | map h => exact fun k p hk => (h k p hk).cl n
theorem CnO.mp {V : Type} {f : V → PV} (h : ∀ v, Cn (f v)) (g : ByteArray → Option V) (n : Nat) : CnO (.map .s (mpF f g) n) := .map fun k p hk => by
 unfold mpF at hk;split at hk
 ·obtain ⟨v, _, rfl⟩ := Option.map_eq_some_iff.1 hk;exact h v
 ·cases hk
def ClL (n : Nat) (l : List PV) : Prop := ∀ p ∈ l, Cl n p
theorem ClL.nil {n : Nat} : ClL n [] := fun p hp => by simp at hp
theorem ClL.cons {n : Nat} {p : PV} {l : List PV} (h : Cl n p) (hl : ClL n l) : ClL n (p :: l) := fun q hq => by
 rcases List.mem_cons.1 hq with rfl | hq
 ·exact h
 ·exact hl q hq
theorem ClO.bx {n : Nat} {t : TypeId} {c : List PV} (h : ClL n c) : ClO n (.box t c) := h
def Pq (σ : Store) (l : List (Nat × AObj)) (K : PV → Store → Prop) (r : PV) (s : Store) : Prop := Pre (Ja σ l) s ∧ ∃ r', Wk r r' ∧ Cn r' ∧ K r' (Ja σ l)
end
theorem w_fq {σ : Store} {f : FuncId} {fn : Func} {c : Code} {args : List PV} {K : PV → Store → Prop} {Q : PV → Store → Prop} (hf : Try.prog.funcs[f]? = some fn) (hname : (fn.name == "runtime.NumGoroutine") = false) (hb : fn.body = some c) (hc : (QI fn.ntmps c && decide (args.length ≤ fn.ntmps)) = true)
  (hQ : ∀ r s, Q r s → ∃ l : List (Nat × AObj), (l.map (·.1)).Nodup ∧ (∀ x ∈ l, x.1 < σ.length ∧ ClO σ.length x.2) ∧ Pq σ l K r s)
  (h : Ev Try.prog E.T c (qz args) σ (Bd E.T fn Q)) : EC Try.prog f args σ K :=
 EC.drop (EC.wkr ((w_fn hf hname hb hc h).mono fun r s hq => by
  obtain ⟨l, hn, hl, ⟨ex, he⟩, r', h2, h3, h4⟩ := hQ r s hq;refine ⟨r', h2, Ja σ l, ex, he, QQl _ _, fun i ob hi => ?_, h3.cl _, h4⟩;by_cases hj : i ∈ l.map (·.1)
  ·obtain ⟨⟨i', o⟩, hx, rfl⟩ := List.mem_map.1 hj;have h5 := zzo l σ i' o hn hx (hl _ hx).1;have := hi.1.symm.trans h5;injection this with this;injection this with this;subst this;exact .inr (hl _ hx).2
  ·exact .inl ⟨by rw [← YK l σ i hj]; exact hi.1, hi.2⟩))
section
variable {P : Program} {σ σ' s s' : Store} {μ μ' : Nat → Nat} {w w' : World} {e : Env}
def Wq (s : Store) (p q : PV) : Prop := ∀ F, Fok s F → ∀ μ w v, R (ov s F) μ w v p → R (ov s F) μ w v q
theorem Wq.wk {p q : PV} (h : Wk p q) : Wq s p q := fun F _ μ w v hr => hr.wk h
theorem Wq.refl (p : PV) : Wq s p p := fun F _ μ w v hr => hr
def Nilp (p : PV) : Prop := p = .v (.slice none 0 0) ∨ p = .e0 ∨ p = .nv
theorem ov_hol {g : Nat} (hg : s[g]? = some (some .hol)) {F : Nat → Option AObj} (hF : Fok s F) : (ov s F)[g]? = some (some .hol) := qqi hg (by simp)
theorem Wq.hol {g : Nat} {p : PV} (hg : s[g]? = some (some .hol)) (hp : Nilp p) : Wq s p (.vc g 0) := fun F hF μ w v hr => by
 have ho := ov_hol hg hF;have hv : ∃ A, v = .slice A 0 0 := by
  rcases hp with rfl | rfl | rfl
  ·exact ⟨none, R_v hr⟩
  ·cases hr; exact ⟨_, rfl⟩
  ·cases hr; exact ⟨_, rfl⟩
 obtain ⟨A, rfl⟩ := hv;refine .vc _ _ _ ⟨(List.getElem?_eq_some_iff.1 ho).1, by rw [ho]; simp⟩ rfl (fun _ => ⟨rfl, A, rfl⟩) fun e sz n ⟨c, hl⟩ => ?_;have := hl.1;rw [ho] at this;cases this
theorem Gh.env {e e2 : Env} (h : ∀ t, Wq s (e t) (e2 t)) : Gh e s e2 s := ⟨qF.refl _, fun F hF μ w hs => ⟨μ, Ext.refl _ _ _, hs, fun t v hr => h t F hF μ w v hr⟩⟩
theorem Gh.tmp {t : Tmp} {p q : PV} (he : e t = p) (h : Wq s p q) : Gh e s (upd e (some t) q) s := .env fun x => by
 rw [Zy];split
 ·rename_i hx;rw [hx, he];exact h
 ·exact .refl _
inductive WqL (s : Store) : List PV → List PV → Prop
 | nil : WqL s [] []
 | cons {p q : PV} {ps qs : List PV} : Wq s p q → WqL s ps qs → WqL s (p :: ps) (q :: qs)
theorem WqL.len {ps qs : List PV} (h : WqL s ps qs) : ps.length = qs.length := by
 induction h with
 | nil => rfl
 | cons h1 h2 ih => simp [ih]
theorem WqL.get {ps qs : List PV} (h : WqL s ps qs) : ∀ (i : Nat) p q, ps[i]? = some p → qs[i]? = some q → Wq s p q := by
 induction h with
 | nil => intro i p q h1; simp at h1
 | cons h1 h2 ih =>
  intro i p q h3 h4;cases i with
  | zero => simp at h3 h4; subst h3 h4; exact h1
  | succ i => exact ih i p q (by simpa using h3) (by simpa using h4)
theorem Gh.boxq {i : Nat} {t : TypeId} {c c' : List PV} (hg : s[i]? = some (some (.box t c))) (hw : WqL s c c') : Gh e s e (s.set i (some (.box t c'))) := by
 refine ⟨qF.set _ hg (by simp), fun F hF μ w hs => ⟨μ, ?_⟩⟩;have hFi : F i = none := hF.non (by rw [hg]; simp);have hl : live (ov s F) i (.box t c) := ⟨by rw [qqi?, hg]; simp [QA hFi], by simp⟩;rw [Jc hFi];have hgr : w.grownBy w (some (μ i)) := ⟨rfl, rfl, rfl, Nat.le_refl _, fun _ _ _ => rfl⟩;have e1 : Ext (ov s F) μ w ((ov s F).set i (some (.box t c'))) μ w := Yh (o' := .box t c') hs hl (by simp) (show Qq μ μ w w i (.box t c) (.box t c') from rfl) hgr (fun _ _ _ _ h => by cases h);refine ⟨e1, qqd hs hl e1 hgr ?_, fun t v hr => hr.ext hs e1⟩;obtain ⟨cs, g1, g2, g3, g4⟩ := hs.obj _ _ hl;refine ⟨cs, g1, g2.trans hw.len, g3, fun j y q hy hq => ?_⟩;have hj : j < c.length := by rw [hw.len]; exact (List.getElem?_eq_some_iff.1 hq).1
 have hp : c[j]? = some c[j] := List.getElem?_eq_getElem hj;exact (hw.get j _ q hp hq F hF μ w y (g4 j y _ hy hp)).ext hs e1
theorem qql {i : Nat} {o : AObj} (h : live (s ++ [some .hol]) i o) : live s i o := by
 have h0 := h;rcases zzv h with ⟨_, h⟩ | ⟨_, h⟩
 ·exact h
 ·exact absurd h h0.2.2
theorem Gh.hole : Gh e s e (s ++ [some .hol]) := by
 refine ⟨qF.push _, fun F hF μ w hs => ⟨μ, ?_⟩⟩;rw [YT hF];have hh : ∀ i, known (ov s F) i → Qh (ov s F ++ [some .hol]) i → Qh (ov s F) i := fun i hk hh => by
  unfold Qh at hh ⊢
  rwa [List.getElem?_append_left hk.1] at hh
 have he : Ext (ov s F) μ w (ov s F ++ [some .hol]) μ w := ⟨rfl, rfl, rfl, Nat.le_refl _, by simp, fun i h => QQr h, fun _ _ _ => rfl, fun id e sz len cur _ h => ⟨cur, h, fun _ _ => rfl⟩, hh, fun id o' _ h => .inl ⟨o', qql h, Qq.same h.2 rfl rfl⟩, fun id o' h => .inl ⟨(qql h).known, rfl⟩⟩;exact ⟨he, ⟨fun i j o o' hi hj => hs.inj i j o o' (qql hi) (qql hj), fun i o hl => (hs.obj i o (qql hl)).ext hs he rfl⟩, fun t v hr => hr.ext hs he⟩
theorem JK {g i : Nat} {o : AObj} (h : live (s.set g none) i o) : i ≠ g ∧ live s i o := by
 obtain ⟨h1, h2⟩ := h;rw [List.getElem?_set] at h1;split at h1
 ·split at h1 <;> cases h1
 ·rename_i hne;exact ⟨fun e => hne e.symm, h1, h2⟩
theorem hol_none {g i : Nat} (h : Qh (s.set g none) i) : Qh s i := by
 unfold Qh at h ⊢;rw [List.getElem?_set] at h;split at h
 ·split at h <;> cases h
 ·exact h
theorem Jz {g : Nat} (hs : SR s μ w) : Ext s μ w (s.set g none) μ w :=
 ⟨rfl, rfl, rfl, Nat.le_refl _, by simp, fun i h => ⟨by simpa using h.1, by
  rw [List.getElem?_set];split
  ·split <;> simp
  ·exact h.2⟩, fun _ _ _ => rfl, fun id e sz len cur _ h => ⟨cur, h, fun _ _ => rfl⟩, fun i _ hh => hol_none hh, fun id o' _ h => .inl ⟨o', (JK h).2, Qq.same h.2 rfl rfl⟩, fun id o' h => .inl ⟨(JK h).2.known, rfl⟩⟩
theorem sr_kill {g : Nat} (hs : SR s μ w) : SR (s.set g none) μ w :=
 ⟨fun i j o o' hi hj => hs.inj i j o o' (JK hi).2 (JK hj).2, fun i o hl => (hs.obj i o (JK hl).2).ext hs (Jz hs) rfl⟩
theorem flat_at {sz : Nat} : ∀ (rows : List (List PV)) (i j : Nat) (r : List PV) (p : PV), (∀ r ∈ rows, r.length = sz) → rows[i]? = some r → r[j]? = some p → rows.flatten[i * sz + j]? = some p
 | [], i, j, r, p, _, h, _ => by simp at h
 | r0 :: rows, 0, j, r, p, hr, h1, h2 => by
  simp at h1;subst h1;have hj := (List.getElem?_eq_some_iff.1 h2).1;rw [List.flatten_cons, Nat.zero_mul, Nat.zero_add, List.getElem?_append_left hj];exact h2
 | r0 :: rows, i + 1, j, r, p, hr, h1, h2 => by
  have hl := hr r0 (by simp);rw [List.flatten_cons, List.getElem?_append_right (by rw [hl, Nat.succ_mul]; omega), hl, show (i + 1) * sz + j - sz = i * sz + j by rw [Nat.succ_mul]; omega];exact flat_at rows i j r p (fun r h => hr r (by simp [h])) (by simpa using h1) h2
theorem vc_sl {g n sz : Nat} {et : TypeId} {rows : List (List PV)} {v : Value} (hs : SR s μ w) (hg : s[g]? = some (some (.vec et sz n rows.flatten))) (hr : ∀ r ∈ rows, r.length = sz) (hn : rows.length = n) (h : R s μ w v (.vc g n)) : R (s.set g none) μ w v (.sl rows) := by
 have hl : live s g (.vec et sz n rows.flatten) := ⟨hg, by simp⟩;obtain ⟨cap, cur, rfl, hcur, q1, q2, q3⟩ := zzj h hg;obtain ⟨cs, h1, h2, h3, h4, h5⟩ := hs.obj g _ hl;obtain rfl : cs = cur := by rw [hcur] at h1; injection h1 with h1; injection h1 with h1; exact h1.symm
 subst hn;have hidx : ∀ i j, i < rows.length → j < sz → i * sz + j < rows.flatten.length := fun i j hi hj => by
  rw [h2];have := Nat.mul_le_mul_right sz hi;rw [Nat.succ_mul] at this;omega
 have hget : ∀ i j, i < rows.length → j < sz → cs[i * sz + j]? = some (cs.getD (i * sz + j) undef) := fun i j hi hj => by
  have := hidx i j hi hj;rw [Array.getElem?_eq_getElem (by omega), Array.getD_eq_getD_getElem?, Array.getElem?_eq_getElem (by omega)];rfl
 refine .sl _ _ sz rows (fun i j => cs.getD (i * sz + j) undef) q1 hr (fun i j hi hj => ⟨?_, ?_⟩) (fun i j hi hj => h4 _ _ (hidx i j hi hj) (hget i j hi hj)) fun i j r p hr1 hp => ?_
 ·rw [Qm];simp only [World.cell?, hcur, Nat.zero_add, Option.isSome_none, Bool.false_eq_true, if_false];exact hget i j hi hj
 ·rintro ⟨id, o, hl', hm, _⟩
  rw [add_blk] at hm;obtain ⟨k1, k2⟩ := JK hl';exact k1 (hs.inj id g _ _ k2 hl hm)
 ·have hi := (List.getElem?_eq_some_iff.1 hr1).1;have hj := (List.getElem?_eq_some_iff.1 hp).1;rw [hr r (List.mem_of_getElem? hr1)] at hj;exact (h5 _ _ p (hget i j hi hj) (flat_at rows i j r p hr hr1 hp)).ext hs (Jz hs)
theorem Gh.frz {g n sz : Nat} {et : TypeId} {rows : List (List PV)} {t : Tmp} (he : e t = .vc g n) (hg : s[g]? = some (some (.vec et sz n rows.flatten))) (hr : ∀ r ∈ rows, r.length = sz) (hn : rows.length = n) : Gh e s (upd e (some t) (.sl rows)) (s.set g none) := by
 refine ⟨qF.set _ hg (by simp), fun F hF μ w hs => ⟨μ, ?_⟩⟩;have hFg : F g = none := hF.non (by rw [hg]; simp);have hg' : (ov s F)[g]? = some (some (.vec et sz n rows.flatten)) := qqi hg (by simp);rw [Jc hFg];refine ⟨Jz hs, sr_kill hs, fun t' v hv => ?_⟩;rw [Zy];split
 ·rename_i hx;rw [hx, he] at hv;exact vc_sl hs hg' hr hn hv
 ·exact hv.ext hs (Jz hs)
theorem EC.gh {f : FuncId} {args : List PV} {K : PV → Store → Prop} (h : EC P f args σ fun r s => ∃ r' s', Gh (fun _ => r) s (fun _ => r') s' ∧ K r' s') : EC P f args σ K := by
 refine ⟨?_, fun F hF μ w vs hs hvs => ?_⟩
 ·obtain ⟨r, s, h1, r', s', h2, h3⟩ := h.1;exact ⟨r', s', h1.trans h2.1, h3⟩
 ·have fin : ∀ x w', (∃ r σ1 μ', Ext (ov σ F) μ w σ1 μ' w' ∧ SR σ1 μ' w' ∧ R σ1 μ' w' x r ∧ ∃ s0, σ1 = ov s0 F ∧ qF σ s0 ∧ ∃ r' s', Gh (fun _ => r) s0 (fun _ => r') s' ∧ K r' s') →
    ∃ r σ1 μ', Ext (ov σ F) μ w σ1 μ' w' ∧ SR σ1 μ' w' ∧ R σ1 μ' w' x r ∧ ∃ s0, σ1 = ov s0 F ∧ qF σ s0 ∧ K r s0 := by
   rintro x w' ⟨r, σ1, μ', k1, k2, k3, s0, rfl, k5, r', s', hg, hk⟩
   obtain ⟨μ2, h1, h2, h3⟩ := hg.2 F (k5.Fok hF) μ' w' k2;exact ⟨r', _, μ2, k1.trans hs h1, h2, h3 0 x k3, s', rfl, k5.trans hg.1, hk⟩
  rcases h.2 F hF μ w vs hs hvs with ⟨a, b⟩ | ⟨x, w', a, b⟩
  ·exact .inl ⟨a, b.mono fun e w' ⟨x, hx, hp⟩ => ⟨x, hx, fin x w' hp⟩⟩
  ·exact .inr ⟨x, w', a, fin x w' b⟩
theorem zzy {sz : Nat} : ∀ (rows : List (List PV)) (i : Nat) (r : List PV), (∀ r ∈ rows, r.length = sz) → rows[i]? = some r → rows.flatten.drop (i * sz) = r ++ (rows.drop (i + 1)).flatten
 | [], i, r, _, h => by simp at h
 | r0 :: rows, 0, r, hr, h => by
  simp at h;subst h;simp
 | r0 :: rows, i + 1, r, hr, h => by
  have hl := hr r0 (by simp);rw [List.flatten_cons, Nat.succ_mul, Nat.add_comm, ← List.drop_drop, List.drop_left' hl];exact zzy rows i r (fun r h => hr r (by simp [h])) (by simpa using h)
theorem flat_take {sz : Nat} : ∀ (rows : List (List PV)) (i : Nat), (∀ r ∈ rows, r.length = sz) → i ≤ rows.length → rows.flatten.take (i * sz) = (rows.take i).flatten
 | rows, 0, hr, h => by simp
 | [], i + 1, hr, h => by simp at h
 | r0 :: rows, i + 1, hr, h => by
  have hl := hr r0 (by simp);rw [List.flatten_cons, Nat.succ_mul, Nat.add_comm, List.take_append, hl, List.take_of_length_le (by omega), Nat.add_sub_cancel_left, flat_take rows i (fun r h => hr r (by simp [h])) (by simpa using h)];simp
theorem vec_splice {sz i off : Nat} {rows : List (List PV)} {r c : List PV} (hr : ∀ r ∈ rows, r.length = sz) (hi : rows[i]? = some r) (ho : off + c.length ≤ sz) : zN rows.flatten (i * sz + off) c = (rows.set i (zN r off c)).flatten := by
 have hl := hr r (List.mem_of_getElem? hi);have hlt := (List.getElem?_eq_some_iff.1 hi).1;have hd := zzy rows i r hr hi;have ht := flat_take rows i hr (by omega);unfold zN;rw [List.set_eq_take_append_cons_drop, if_pos hlt, List.flatten_append, List.flatten_cons, ← ht];have e1 : rows.flatten.take (i * sz + off) = rows.flatten.take (i * sz) ++ r.take off := by
  rw [List.take_add, hd, List.take_append_of_le_length (by omega)]
 have e2 : rows.flatten.drop (i * sz + off + c.length) = r.drop (off + c.length) ++ (rows.drop (i + 1)).flatten := by
  rw [Nat.add_assoc, ← List.drop_drop, hd, List.drop_append_of_le_length (by omega)]
 rw [e1, e2];simp
def tkO (e : TypeId) (sz n : Nat) : AObj := if n = 0 then .hol else .tok e sz n
def vcO (e : TypeId) (sz : Nat) (rows : List (List PV)) : AObj := if rows = [] then .hol else .vec e sz rows.length rows.flatten
theorem Wq.holw {g : Nat} {p : PV} (hg : s[g]? = some (some .hol)) (hp : Nilp p) : Wq s p (.ow g []) := fun F hF μ w v hr => by
 have ho := ov_hol hg hF;have hv : ∃ A, v = .slice A 0 0 := by
  rcases hp with rfl | rfl | rfl
  ·exact ⟨none, R_v hr⟩
  ·cases hr; exact ⟨_, rfl⟩
  ·cases hr; exact ⟨_, rfl⟩
 obtain ⟨A, rfl⟩ := hv;refine .ow _ _ _ (.sl0 A 0) ⟨(List.getElem?_eq_some_iff.1 ho).1, by rw [ho]; simp⟩ (fun _ => ⟨rfl, A, rfl⟩) fun e sz n hl => ?_;have := hl.1;rw [ho] at this;cases this
theorem Nilp.e0 : Nilp .e0 := .inr (.inl rfl)
theorem Nilp.v : Nilp (.v (.slice none 0 0)) := .inl rfl
section
variable {ty tl : TypeId} {ti : TI} {a b i k n : Nat} {g m : Bool} {z : List Z} {rows ns vr : List (List PV)} {x : PV}
theorem qqc (hT : T tl = some ⟨a, b, g, m, z, .slc ty⟩) (hE : T ty = some ti) (hg : s[i]? = some (some (tkO ty ti.sz n))) (hln : rows.length = n) (hr : ∀ r ∈ rows, r.length = ti.sz) (hn : ∀ r ∈ ns, r.length = ti.sz) (hne : ns ≠ []) (h0 : 0 < ti.sz)
  (hb : (rows.length + ns.length) * ti.bytes ≤ 140737488355328 ∧ rows.length + ns.length ≤ 140737488355328) (hv : rows ++ ns = vr) (hk : vr.length = k) (hx : E.rowsOf x = some ns) : qL T tl (.ow i rows) x s = .eff (.ow i vr) (s.set i (some (tkO ty ti.sz k))) := by
 subst hln hv hk;have hl : ns.length ≠ 0 := fun h => hne (List.length_eq_zero_iff.1 h);simp only [qL, hT, hE, hx, if_neg hne];rw [if_pos ⟨hn, h0⟩, hg];by_cases h : rows.length = 0
 ·have hr0 := List.length_eq_zero_iff.1 h;subst hr0;rw [show tkO ty ti.sz ([] : List (List PV)).length = .hol from rfl];simp only [List.length_nil, Nat.zero_add] at hb;simp only [true_and, if_pos hb, List.nil_append, tkO, if_neg hl]
 ·rw [tkO, if_neg h];simp only;rw [if_pos ⟨trivial, trivial, trivial, hr, hb⟩, tkO, if_neg (by rw [List.length_append]; omega), List.length_append]
theorem tk_app0 (hT : T tl = some ⟨a, b, g, m, z, .slc ty⟩) (hE : T ty = some ti) (hn : ∀ r ∈ ns, r.length = ti.sz) (hne : ns ≠ []) (h0 : 0 < ti.sz)
  (hb : ns.length * ti.bytes ≤ 140737488355328 ∧ ns.length ≤ 140737488355328) (hx : E.rowsOf x = some ns) (hk : ns.length = k) : qL T tl .e0 x s = .eff (.ow s.length ns) (s ++ [some (tkO ty ti.sz k)]) := by
 subst hk;have hl : ns.length ≠ 0 := fun h => hne (List.length_eq_zero_iff.1 h);simp only [qL, hT, hE, hx, if_neg hne];rw [if_pos ⟨hn, h0⟩];simp only [if_pos hb, tkO, if_neg hl]
theorem zU {j sz o k : Nat} {r : List PV} (hr : ∀ r ∈ rows, r.length = sz) (hi : rows[j]? = some r) (ho : o + k ≤ sz) : j * sz + o + k ≤ rows.flatten.length := by
 have hlen : j * sz + sz ≤ rows.flatten.length := by
  rw [Yg rows hr];have := (List.getElem?_eq_some_iff.1 hi).1
  calc j * sz + sz = (j + 1) * sz := by rw [Nat.succ_mul]
   _ ≤ rows.length * sz := Nat.mul_le_mul_right _ this
 omega
theorem YI (hne : rows ≠ []) (e : TypeId) (sz : Nat) : vcO e sz rows = .vec e sz rows.length rows.flatten := by rw [vcO, if_neg hne]
theorem ZE (hT : T tl = some ⟨a, b, g, m, z, .slc ty⟩) {sz : Nat} (hg : s[i]? = some (some (vcO ty sz rows))) (hn : rows.length = n) : lenX T tl (.vc i n) s = .val (.v (.int .i64 n)) := by
 subst hn;by_cases h : rows = []
 ·subst h;rw [show vcO ty sz [] = .hol from rfl] at hg;simp [lenX, hT, hg]
 ·rw [YI h] at hg;simp [lenX, hT, hg]
theorem vc_app (hT : T tl = some ⟨a, b, g, m, z, .slc ty⟩) (hE : T ty = some ti) (hg : s[i]? = some (some (vcO ty ti.sz rows))) (hln : rows.length = n) (hn : ∀ r ∈ ns, r.length = ti.sz) (hne : ns ≠ []) (h0 : 0 < ti.sz)
  (hb : (n + ns.length) * ti.bytes ≤ 140737488355328 ∧ n + ns.length ≤ 140737488355328) (hv : rows ++ ns = vr) (hk : vr.length = k) (hx : E.rowsOf x = some ns) : qL T tl (.vc i n) x s = .eff (.vc i k) (s.set i (some (vcO ty ti.sz vr))) := by
 subst hln hv hk;have hl : ns.length ≠ 0 := fun h => hne (List.length_eq_zero_iff.1 h);simp only [qL, hT, hE, hx, if_neg hne];rw [if_pos ⟨hn, h0⟩, hg];have hne2 : rows ++ ns ≠ [] := fun h => hne (List.append_eq_nil_iff.1 h).2;by_cases h : rows = []
 ·subst h;rw [show vcO ty ti.sz [] = .hol from rfl];simp only [List.length_nil, Nat.zero_add] at hb;simp only [List.length_nil, true_and, if_pos hb, List.nil_append, YI hne]
 ·rw [YI h];simp only;rw [if_pos ⟨trivial, trivial, trivial, hb⟩, YI hne2, List.length_append, List.flatten_append]
theorem zzi {r : List PV} {sz : Nat} {j : Nat} (hr : ∀ r ∈ rows, r.length = sz) (hi : rows[j]? = some r) : (∀ off p, r[off]? = some p → rows.flatten[j * sz + off]? = some p) ∧ (∀ off k, off + k ≤ sz → j * sz + off + k ≤ rows.flatten.length ∧ (rows.flatten.drop (j * sz + off)).take k = (r.drop off).take k) := by
 refine ⟨fun off p hp => flat_at rows j off r p hr hi hp, fun off k hk => ?_⟩;have hl := hr r (List.mem_of_getElem? hi);have hd := zzy rows j r hr hi;have hlen : j * sz + sz ≤ rows.flatten.length := by
  rw [Yg rows hr];have := (List.getElem?_eq_some_iff.1 hi).1
  calc j * sz + sz = (j + 1) * sz := by rw [Nat.succ_mul]
   _ ≤ rows.length * sz := Nat.mul_le_mul_right _ this
 refine ⟨by omega, ?_⟩;rw [← List.drop_drop, hd, List.drop_append_of_le_length (by omega), List.take_append_of_le_length (by simp; omega)]
theorem qqa {r c : List PV} {sz off j : Nat} {rows' : List (List PV)} (hr : ∀ r ∈ rows, r.length = sz) (hi : rows[j]? = some r) (hk : c.length = k) (ho : off + k ≤ sz) (hs : rows.set j (zN r off c) = rows') : rows.flatten.take (j * sz + off) ++ c ++ rows.flatten.drop (j * sz + off + k) = rows'.flatten := by
 subst hs hk;exact vec_splice hr hi ho
theorem Yv {sz : Nat} (hne : rows ≠ []) (hn : rows.length = n) (e : TypeId) : AObj.vec e sz n rows.flatten = vcO e sz rows := by subst hn; exact (YI hne e sz).symm
theorem ZF {j sz : Nat} {r : List PV} {e : TypeId} (hg : s[i]? = some (some (vcO e sz rows))) (hj : rows[j]? = some r) (hn : rows.length = n) : s[i]? = some (some (.vec e sz n rows.flatten)) := by
 rw [hg, Yv (by rintro rfl; simp at hj) hn e]
theorem tk_app1 (hT : T tl = some ⟨a, b, g, m, z, .slc ty⟩) (hE : T ty = some ti) (hln : rows.length = n) (hr : ∀ r ∈ rows, r.length = ti.sz) (hn : ∀ r ∈ ns, r.length = ti.sz) (hne : ns ≠ []) (h0 : 0 < ti.sz)
  (hb : (rows.length + ns.length) * ti.bytes ≤ 140737488355328 ∧ rows.length + ns.length ≤ 140737488355328) (hv : rows ++ ns = vr) (hk : vr.length = k) (hx : E.rowsOf x = some ns) : qL T tl (.ow s.length rows) x (s ++ [some (tkO ty ti.sz n)]) = .eff (.ow s.length vr) (s ++ [some (tkO ty ti.sz k)]) := by
 rw [qqc hT hE (by simp) hln hr hn hne h0 hb hv hk hx];simp
end
theorem Wk.sls {A : List (List PV)} {raw can : List PV} (h : WkL raw can) : Wk (.sl (A ++ [raw])) (.sl (A ++ [can])) := by
 refine .sl (by simp) (fun i r r' h1 h2 => ?_) fun i j r r' p q h1 h2 h3 h4 => ?_
 ·by_cases hi : i < A.length
  ·rw [List.getElem?_append_left hi] at h1 h2;rw [h1] at h2;injection h2 with h2;rw [h2]
  ·rw [List.getElem?_append_right (by omega)] at h1 h2;cases hk : i - A.length with
   | zero => rw [hk] at h1 h2; simp at h1 h2; subst h1 h2; exact h.len
   | succ k => rw [hk] at h1; simp at h1
 ·by_cases hi : i < A.length
  ·rw [List.getElem?_append_left hi] at h1 h2;rw [h1] at h2;injection h2 with h2;subst h2;rw [h3] at h4;injection h4 with h4;subst h4;exact .refl _
  ·rw [List.getElem?_append_right (by omega)] at h1 h2;cases hk : i - A.length with
   | zero => rw [hk] at h1 h2; simp at h1 h2; subst h1 h2; exact h.get j p q h3 h4
   | succ k => rw [hk] at h1; simp at h1
theorem Wk.oos {t : Nat} {A R : List (List PV)} {raw can : List PV} (h : WkL raw can) (hv : A ++ [can] = R) : Wk (.ow t (A ++ [raw])) (.ow t R) := by
 subst hv;exact .oo (by simp) (.sls h)
theorem JG {r : List PV} {n : Nat} (h : r.length = n) : ∀ x ∈ [r], x.length = n := fun x hx => by rw [List.mem_singleton.1 hx]; exact h
theorem Gh.new0 {p : PV} (hp : Nilp p) : Gh (fun _ => p) s (fun _ => .ow s.length []) (s ++ [some .hol]) := Gh.hole.tr (.env fun _ => .holw (by simp) hp)
theorem zh {α : Type} {xs : List α} {i : Int} {y : α} (h : qC xs i = some y) : i < (xs.length : Int) := by
 obtain ⟨h1, h2⟩ := qg h;have := (List.getElem?_eq_some_iff.1 h2).1;omega
theorem Qp {α : Type} {xs zs : List α} {i : Int} {y : α} (h : Jw xs i y = some zs) : i < (zs.length : Int) := by
 obtain ⟨h1, h2, h3⟩ := qJ h;rw [← h3, List.length_set];omega
theorem WkL.app {a b c d : List PV} (h : WkL a b) (k : WkL c d) : WkL (a ++ c) (b ++ d) := by
 induction h with
 | nil => exact k
 | cons h1 h2 ih => exact .cons h1 ih
theorem ClO.tk {n : Nat} {e sz k : Nat} : ClO n (tkO e sz k) := by unfold tkO; split <;> trivial
theorem ClO.vc {n : Nat} {e sz : Nat} {rows : List (List PV)} (h : ∀ r ∈ rows, ∀ p ∈ r, Cl n p) : ClO n (vcO e sz rows) := by
 unfold vcO;split
 ·trivial
 ·intro c hc;obtain ⟨r, h1, h2⟩ := List.mem_flatten.1 hc;exact h r h1 c h2
theorem Gh.vec {i n sz : Nat} {t : TypeId} {c c' : List PV} (hg : s[i]? = some (some (.vec t sz n c))) (hw : WkL c c') : Gh e s e (s.set i (some (.vec t sz n c'))) := by
 refine ⟨qF.set _ hg (by simp), fun F hF μ w hs => ⟨μ, ?_⟩⟩;have hFi : F i = none := hF.non (by rw [hg]; simp);have hl : live (ov s F) i (.vec t sz n c) := ⟨by rw [qqi?, hg]; simp [QA hFi], by simp⟩;rw [Jc hFi];have hgr : w.grownBy w (some (μ i)) := ⟨rfl, rfl, rfl, Nat.le_refl _, fun _ _ _ => rfl⟩;have e1 : Ext (ov s F) μ w ((ov s F).set i (some (.vec t sz n c'))) μ w := Yh (o' := .vec t sz n c') hs hl (by simp) (show Qq μ μ w w i (.vec t sz n c) (.vec t sz n c') from ⟨rfl, rfl, Nat.le_refl _, fun _ => ⟨rfl, .refl _ _⟩⟩) hgr (fun _ _ _ _ h => by cases h);refine ⟨e1, qqd hs hl e1 hgr ?_, fun t v hr => hr.ext hs e1⟩;obtain ⟨cs, g1, g2, g3, g4, g5⟩ := hs.obj _ _ hl;have hlen := hw.len;refine ⟨cs, g1, by omega, by omega, fun j y hj hy => g4 j y (by omega) hy, fun j y q hy hq => ?_⟩;have hj : j < c.length := by rw [hlen]; exact (List.getElem?_eq_some_iff.1 hq).1
 have hp : c[j]? = some c[j] := List.getElem?_eq_getElem hj;exact ((g5 j y _ hy hp).wk (hw.get j _ q hp hq)).ext hs e1
theorem Gh.vecw {i sz : Nat} {t : TypeId} {A R : List (List PV)} {raw can : List PV} (hg : s[i]? = some (some (vcO t sz (A ++ [raw])))) (h : WkL raw can) (hv : A ++ [can] = R) : Gh e s e (s.set i (some (vcO t sz R))) := by
 subst hv;rw [YI (by simp)] at hg ⊢;have := Gh.vec (e := e) hg (c' := (A ++ [can]).flatten) (by simp only [List.flatten_append, List.flatten_cons, List.flatten_nil, List.append_nil]; exact .app (.refl _) h);simpa using this
theorem Gh.frzv {g n sz : Nat} {et : TypeId} {rows : List (List PV)} {t : Tmp} (he : e t = .vc g n) (hg : s[g]? = some (some (vcO et sz rows))) (hr : ∀ r ∈ rows, r.length = sz) (hn : rows.length = n) : Gh e s (upd e (some t) (.sl rows)) (s.set g none) := by
 by_cases h : rows = []
 ·subst h;rw [show vcO et sz [] = .hol from rfl] at hg;refine ⟨qF.set _ hg (by simp), fun F hF μ w hs => ⟨μ, ?_⟩⟩;have hFg : F g = none := hF.non (by rw [hg]; simp);have hg' : (ov s F)[g]? = some (some .hol) := ov_hol hg hF;rw [Jc hFg];refine ⟨Jz hs, sr_kill hs, fun t' v hv => ?_⟩;rw [Zy];split
  ·rename_i hx;rw [hx, he] at hv;obtain ⟨_, A, rfl⟩ := zzk hv hg';exact .sl0 A 0
  ·exact hv.ext hs (Jz hs)
 ·rw [YI h] at hg;exact .frz he (hn ▸ hg) hr hn
end
theorem Gh.frzb {e : Env} {s : Store} {i g n sz k : Nat} {t et : TypeId} {c : List PV} {rows : List (List PV)} (hb : s[i]? = some (some (.box t c))) (hk : c[k]? = some (.vc g n)) (hg : s[g]? = some (some (vcO et sz rows))) (hr : ∀ r ∈ rows, r.length = sz) (hn : rows.length = n) : Gh e s e ((s.set g none).set i (some (.box t (c.set k (.sl rows))))) := by
 have hgi : g ≠ i := fun h => by
  subst h;rw [hb] at hg;injection hg with hg;injection hg with hg;unfold vcO at hg;split at hg <;> cases hg
 have hvc : vcO et sz rows ≠ .res := by unfold vcO; split <;> simp
 refine ⟨(qF.set _ hg (by simpa using hvc)).trans (qF.set _ (by rw [List.getElem?_set_ne hgi]; exact hb) (by simp)), fun F hF μ w hs => ⟨μ, ?_⟩⟩;have hFg : F g = none := hF.non (by rw [hg]; simpa using hvc);have hFi : F i = none := hF.non (by rw [hb]; simp);rw [Jc hFi, Jc hFg];have hl0 : live (ov s F) i (.box t c) := ⟨by rw [qqi?, hb]; simp [QA hFi], by simp⟩;obtain ⟨cs, g1, g2, g3, g4⟩ := hs.obj _ _ hl0;have conv : ∀ v, R (ov s F) μ w v (.vc g n) → R ((ov s F).set g none) μ w v (.sl rows) := fun v hv => by
  by_cases h : rows = []
  ·subst h;rw [show vcO et sz [] = .hol from rfl] at hg;obtain ⟨_, A, rfl⟩ := zzk hv (ov_hol hg hF);exact .sl0 A 0
  ·rw [YI h] at hg;exact vc_sl hs (qqi (hn ▸ hg) (by simp)) hr hn hv
 have hs1 := sr_kill (g := g) hs;have e0 : Ext (ov s F) μ w ((ov s F).set g none) μ w := Jz hs;have hl : live ((ov s F).set g none) i (.box t c) := ⟨by rw [List.getElem?_set_ne hgi]; exact hl0.1, by simp⟩;have hgr : w.grownBy w (some (μ i)) := ⟨rfl, rfl, rfl, Nat.le_refl _, fun _ _ _ => rfl⟩;have e1 : Ext ((ov s F).set g none) μ w (((ov s F).set g none).set i (some (.box t (c.set k (.sl rows))))) μ w := Yh (o' := .box t (c.set k (.sl rows))) hs1 hl (by simp) (show Qq μ μ w w i (.box t c) (.box t (c.set k (.sl rows))) from rfl) hgr (fun _ _ _ _ h => by cases h);refine ⟨e0.trans hs e1, qqd hs1 hl e1 hgr ?_, fun t v hr => (hr.ext hs e0).ext hs1 e1⟩;refine ⟨cs, g1, by rw [List.length_set]; exact g2, g3, fun j y q hy hq => ?_⟩;by_cases hj : k = j
 ·subst hj;have hkl := (List.getElem?_eq_some_iff.1 hk).1;rw [List.getElem?_set_self hkl] at hq;obtain rfl := Option.some.inj hq;exact (conv y (g4 k y _ hy hk)).ext hs1 e1
 ·rw [List.getElem?_set_ne hj] at hq;exact ((g4 j y q hy hq).ext hs e0).ext hs1 e1
theorem Nilp.nv : Nilp .nv := .inr (.inr rfl)
theorem zzs {s : Store} {ty tl : TypeId} {ti : TI} {a b k : Nat} {g m : Bool} {z : List Z} {ns vr : List (List PV)} {x : PV} (hT : T tl = some ⟨a, b, g, m, z, .slc ty⟩) (hE : T ty = some ti) (hn : ∀ r ∈ ns, r.length = ti.sz) (hne : ns ≠ []) (h0 : 0 < ti.sz)
  (hb : ns.length * ti.bytes ≤ 140737488355328 ∧ ns.length ≤ 140737488355328) (hv : ns = vr) (hk : vr.length = k) (hx : E.rowsOf x = some ns) : qL T tl .nv x s = .eff (.vc s.length k) (s ++ [some (vcO ty ti.sz vr)]) := by
 subst hv hk;simp only [qL, hT, hE, hx, if_neg hne];rw [if_pos ⟨hn, h0⟩];simp only [if_pos hb, YI hne]
theorem qqE {s : Store} {ty tl : TypeId} {ti : TI} {a b : Nat} {g m : Bool} {z : List Z} {x : PV} (hT : T tl = some ⟨a, b, g, m, z, .slc ty⟩) (hE : T ty = some ti) (hx : E.rowsOf x = some []) : qL T tl .nv x s = .val .nv := by
 simp only [qL, hT, hE, hx, if_true]
theorem Gx.ap {s : Store} {i j : Nat} {o o' : AObj} (h : Gx s i o) (h' : Gx s j o') (hne : o ≠ o' := by (intro h; first | (cases h; done) | (unfold tkO at h; split at h <;> cases h) | (unfold vcO at h; split at h <;> cases h))) : i ≠ j := h.apart h' hne
abbrev eI (e : Env) (t : Nat) (n : Int) : Prop := e t = .v (.int .i64 n)
abbrev eL {α : Type} (e : Env) (t : Nat) (l : List α) : Prop := e t = .v (.int .i64 ((List.length l : Nat) : Int))
abbrev eB (e : Env) (t : Nat) (b : Bool) : Prop := e t = .v (.bool b)
abbrev eT (e : Env) (t : Nat) (b : ByteArray) : Prop := e t = .v (.string b)
abbrev eP (e : Env) (t : Nat) (i : Nat) : Prop := e t = .pt i 0
abbrev eS {α : Type} (e : Env) (t : Nat) (f : α → List PV) (l : List α) : Prop := e t = .sl (List.map f l)
abbrev CLE (a b : List PV) (k : Nat) : Prop := (∀ i : Nat, a[i]? = b[i]?) ∧ a.length = k ∧ (∀ n, a.take n = b.take n) ∧ (∀ n, a.drop n = b.drop n) ∧ a.all PV.one = true
end Go.Proofs.Ytohmmfimedgccaa.E
end
section
namespace Go.Proofs.Ytohmmfimedgccaa.E
set_option linter.unusedVariables false
def RC (w : World) (cs : List Value) (ps : List PV) : Prop := cs.length = ps.length ∧ ∀ (i : Nat) v p, cs[i]? = some v → ps[i]? = some p → v.oneCell' = true ∧ R [] (fun _ => 0) w v p
theorem RC.one {w : World} {v : Value} {p : PV} (h1 : v.oneCell' = true) (h : R [] (fun _ => 0) w v p) : RC w [v] [p] := ⟨rfl, fun i x q hx hq => by
 match i with
 | 0 => simp at hx hq; subst hx hq; exact ⟨h1, h⟩
 | n + 1 => simp at hx⟩
theorem RC.app {w : World} {cs ds : List Value} {ps qs : List PV} (h : RC w cs ps) (h' : RC w ds qs) : RC w (cs ++ ds) (ps ++ qs) := ⟨by simp [h.1, h'.1], fun i v p hv hp => by
 by_cases hi : i < cs.length
 ·rw [List.getElem?_append_left hi] at hv;rw [List.getElem?_append_left (by have := h.1; omega)] at hp;exact h.2 i v p hv hp
 ·rw [List.getElem?_append_right (by omega)] at hv;rw [List.getElem?_append_right (by have := h.1; omega), ← h.1] at hp;exact h'.2 _ v p hv hp⟩
def RO {α : Type} (P : Program) (t : TypeId) (f : α → List PV) (G : α → Prop) (n : Nat) : Prop :=
 ∀ (H : Type) (enc : TypeId × Value → H) (w : World) (base : Nat) (spare : Nat → Bool) (held : Bool) (m : Nat), m ≤ n → ∀ (cs : List Value) (r : DataW H × List MemPlace),
  DataW.trod enc P w base spare held m t cs = some r → (∀ x ∈ DataW.weights P t r.1, x ≤ reachBytes) → ∃ x, RC w cs (f x) ∧ G x
theorem RO.down {α : Type} {P : Program} {t : TypeId} {f : α → List PV} {G : α → Prop} {n k : Nat} (h : RO P t f G n) (hk : k ≤ n) : RO P t f G k :=
 fun H enc w base spare held m hm cs r hr hw => h H enc w base spare held m (Nat.le_trans hm hk) cs r hr hw
theorem RO.imp {α : Type} {P : Program} {t : TypeId} {f : α → List PV} {G G' : α → Prop} {n : Nat} (h : RO P t f G n) (hg : ∀ x, G x → G' x) : RO P t f G' n :=
 fun H enc w base spare held m hm cs r hr hw => let ⟨x, h1, h2⟩ := h H enc w base spare held m hm cs r hr hw; ⟨x, h1, hg x h2⟩
theorem ro_int {P : Program} {t : TypeId} {k : IntKind} (ht : P.underlying t = some (.int k)) (n : Nat) : RO P t (fun x : Int => [.v (.int k x)]) (fun x => (Lit.int k x).wf = true) n := by
 intro H enc w base spare held m _ cs r hr _;obtain ⟨x, rfl, _, hw⟩ := DataW.trod_int ht hr;exact ⟨x, .one rfl (.v _ rfl), hw⟩
theorem ro_string {P : Program} {t : TypeId} (ht : P.underlying t = some .string) (n : Nat) : RO P t (fun x : ByteArray => [.v (.string x)]) (fun x => x.size ≤ reachBytes) n := by
 intro H enc w base spare held m _ cs r hr hw;obtain ⟨x, rfl, rfl, _⟩ := DataW.trod_string ht hr;refine ⟨x, .one rfl (.v _ rfl), ?_⟩;have := hw x.data.toList.length (by simp [DataW.weights])
 rwa [Array.length_toList] at this
theorem list_of {α : Type} {n : Nat} {Q : Nat → α → Prop} (h : ∀ i, i < n → ∃ x, Q i x) : ∃ l : List α, l.length = n ∧ ∀ i x, l[i]? = some x → Q i x := by
 induction n with
 | zero => exact ⟨[], rfl, fun i x hi => by simp at hi⟩
 | succ n ih =>
  obtain ⟨l, hl, hq⟩ := ih fun i hi => h i (by omega);obtain ⟨x, hx⟩ := h n (by omega);refine ⟨l ++ [x], by simp [hl], fun i y hi => ?_⟩;by_cases hlt : i < l.length
  ·rw [List.getElem?_append_left hlt] at hi;exact hq i y hi
  ·rw [List.getElem?_append_right (by omega)] at hi;have h0 : i - l.length = 0 := by
    rcases Nat.eq_zero_or_pos (i - l.length) with h | h
    ·exact h
    ·rw [List.getElem?_eq_none (by simp; omega)] at hi;cases hi
   rw [h0] at hi;simp only [List.getElem?_cons_zero, Option.some.injEq] at hi;rw [← hi, show i = n by omega];exact hx
theorem qqB {H : Type} {P : Program} {e : TypeId} : ∀ {l : List (DataW H)} {i : Nat} {d : DataW H} {x : Nat}, l[i]? = some d → x ∈ DataW.weights P e d → x ∈ DataW.weightsAll P e l
 | [], i, d, x, h, _ => by simp at h
 | y :: l, 0, d, x, h, hx => by
  simp at h;subst h;unfold DataW.weightsAll;exact List.mem_append_left _ hx
 | y :: l, i + 1, d, x, h, hx => by
  unfold DataW.weightsAll;exact List.mem_append_right _ (qqB (by simpa using h) hx)
theorem ro_slice {α : Type} {P : Program} {t e : TypeId} {f : α → List PV} {G : α → Prop} {n sz : Nat} (ht : P.underlying t = some (.slice e)) (hsz : P.cellsOf e = sz) (hf : ∀ x, (f x).length = sz) (h : RO P e f G n) :
  RO P t (fun xs : List α => [.sl (xs.map f)]) (fun xs => xs.length * P.bytesOf e ≤ reachBytes ∧ ∀ x ∈ xs, G x) (n + 1) := by
 intro H enc w base spare held m hm cs r hr hwt;rcases DataW.trod_slice ht hr with ⟨rfl, rfl⟩ | ⟨a, len, cap, elems, rest, k, rfl, rfl, rfl, _, hl, hc, hlen, hel, _⟩
 ·exact ⟨[], .one rfl (.sl0 _ _), by simp, by simp⟩
 ·have hW : ∀ x ∈ DataW.weights P t (DataW.slice (elems.map (·.1)) (rest.map (·.1))), x ≤ reachBytes := hwt;have hW1 := hW (((elems.map (·.1)).length + (rest.map (·.1)).length) * P.bytesOf e) (by simp [DataW.weights, ht]);have hk : ∀ i, i < len → ∃ x : α, (∃ c, c.length = sz ∧ RC w c (f x) ∧ ∀ j u, c[j]? = some u → w.cell? (a.add (i * sz + j)) = some u) ∧ G x := by
   intro i hi;have h1 := hel i hi;rw [List.getElem?_eq_getElem (by omega)] at h1;obtain ⟨c, h2, h3⟩ := Option.bind_eq_some_iff.1 h1;obtain ⟨x, hx, hg⟩ := h H enc w base spare held k (by omega) c _ h3 (fun q hq => hW q (by
    simp only [DataW.weights, ht, List.mem_cons, List.mem_append];exact .inr (.inl (qqB (i := i) (by rw [List.getElem?_map, List.getElem?_eq_getElem (by omega)]; rfl) hq))))
   obtain ⟨_, hcl, hcc⟩ := World.cells?_some h2;refine ⟨x, ⟨c, by rw [hcl, hsz], hx, fun j u hu => ?_⟩, hg⟩;have hj : j < c.length := (List.getElem?_eq_some_iff.1 hu).1;rw [← Go.Deep.add_add, ← hsz, hcc j (by omega)];exact hu
  obtain ⟨l, hll, hq⟩ := list_of hk;refine ⟨l, .one rfl ?_, ?_, ?_⟩
  ·have hlm : (l.map f).length = len := by simp [hll]
   have hsome : ∀ i, i < len → ∃ x, l[i]? = some x := fun i hi => ⟨_, List.getElem?_eq_getElem (by omega)⟩;have := R.sl (σ := []) (μ := fun _ => 0) (w := w) a cap sz (l.map f) (fun i j => (w.cell? (a.add (i * sz + j))).getD (.bool false)) (by rw [hlm]; exact hl) (fun r hr => by obtain ⟨x, _, rfl⟩ := List.mem_map.1 hr; exact hf x)
    (fun i j hi hj => by
     rw [hlm] at hi;obtain ⟨x, hx⟩ := hsome i hi;obtain ⟨⟨c, h1, h2, h3⟩, _⟩ := hq i x hx;have h4 := h3 j _ (List.getElem?_eq_getElem (by omega : j < c.length));refine ⟨by rw [h4]; rfl, ?_⟩
     rintro ⟨id, o, hl, _⟩
     have := hl.1;simp at this)
    (fun i j hi hj => by
     rw [hlm] at hi;obtain ⟨x, hx⟩ := hsome i hi;obtain ⟨⟨c, h1, h2, h3⟩, _⟩ := hq i x hx;have h4 := h3 j _ (List.getElem?_eq_getElem (by omega : j < c.length));rw [h4];exact (h2.2 j _ _ (List.getElem?_eq_getElem (by omega)) (List.getElem?_eq_getElem (by rw [hf]; omega))).1)
    (fun i j r p hr hp => by
     rw [List.getElem?_map] at hr;obtain ⟨x, hx, rfl⟩ := Option.map_eq_some_iff.1 hr;obtain ⟨⟨c, h1, h2, h3⟩, _⟩ := hq i x hx;have hj := (List.getElem?_eq_some_iff.1 hp).1;rw [hf] at hj;have h4 := h3 j _ (List.getElem?_eq_getElem (by omega : j < c.length));rw [h4];exact (h2.2 j _ _ (List.getElem?_eq_getElem (by omega)) hp).2)
   rw [hlm] at this;exact this
  ·rw [List.length_map, List.length_map] at hW1;rw [hll, ← hlen];exact Nat.le_trans (Nat.mul_le_mul_right _ (Nat.le_add_right _ _)) hW1
  ·intro x hx;obtain ⟨i, hi⟩ := List.getElem?_of_mem hx;exact (hq i x hi).2
def RF {β : Type} (P : Program) (fs : List Field) (o cells : Nat) (f : β → List PV) (G : β → Prop) (n : Nat) : Prop :=
 ∀ (H : Type) (enc : TypeId × Value → H) (w : World) (base : Nat) (spare : Nat → Bool) (held : Bool) (m : Nat), m ≤ n → ∀ (cs : List Value), cs.length = cells →
  (∀ fd ∈ fs, ∃ r, DataW.trod enc P w base spare held m fd.type ((cs.drop fd.offset).take (P.cellsOf fd.type)) = some r ∧ ∀ x ∈ DataW.weights P fd.type r.1, x ≤ reachBytes) → ∃ x, RC w (cs.drop o) (f x) ∧ G x
theorem YS {α : Type} {P : Program} {fd : Field} {o cells : Nat} {f : α → List PV} {G : α → Prop} {n : Nat} (ho : fd.offset = o) (hs : o + P.cellsOf fd.type = cells) (h : RO P fd.type f G n) : RF P [fd] o cells f G n := by
 intro H enc w base spare held m hm cs hl hf;obtain ⟨r, hr, hw⟩ := hf fd (by simp);rw [ho, List.take_of_length_le (by rw [List.length_drop]; omega)] at hr;exact h H enc w base spare held m hm _ r hr hw
theorem zH {α β : Type} {P : Program} {fd : Field} {fs : List Field} {o o' cells : Nat} {f : α → List PV} {f' : β → List PV} {G : α → Prop} {G' : β → Prop} {n : Nat} (ho : fd.offset = o) (hs : o + P.cellsOf fd.type = o') (h : RO P fd.type f G n) (h' : RF P fs o' cells f' G' n) :
  RF P (fd :: fs) o cells (fun x : α × β => f x.1 ++ f' x.2) (fun x => G x.1 ∧ G' x.2) n := by
 intro H enc w base spare held m hm cs hl hf;obtain ⟨r, hr, hw⟩ := hf fd (by simp);obtain ⟨x, hx, hg⟩ := h H enc w base spare held m hm _ r hr hw;obtain ⟨y, hy, hg'⟩ := h' H enc w base spare held m hm cs hl fun g hg => hf g (by simp [hg]);refine ⟨(x, y), ?_, hg, hg'⟩;have := hx.app hy;rw [ho, ← hs, ← List.drop_drop, List.take_append_drop] at this;exact this
theorem JD {β γ : Type} {P : Program} {t : TypeId} {fs : Array Field} {f : β → List PV} {G : β → Prop} {n : Nat} (g : β → γ) {c : γ → List PV} (hfg : ∀ y, c (g y) = f y) (ht : P.underlying t = some (.struct fs)) (h : RF P fs.toList 0 (P.cellsOf t) f G n) :
  RO P t c (fun x => ∃ y, g y = x ∧ G y) (n + 1) := by
 intro H enc w base spare held m hm cs r hr hwt;obtain ⟨ys, k, rfl, rfl, hl, hz, hx⟩ := DataW.trod_struct ht hr;obtain ⟨y, hy, hg⟩ := h H enc w base spare held k (by omega) cs hl (fun fd hfd => by
  obtain ⟨i, hi, he⟩ := List.getElem_of_mem hfd;have h1 := hx i fd (by rw [← he]; simp);have hi' : i < ys.length := by rw [hz]; simpa using hi
  refine ⟨ys[i], by rw [h1, List.getElem?_eq_getElem hi'], fun x hxw => hwt x ?_⟩;show x ∈ DataW.weights P t (DataW.agg (ys.map (·.1)));simp only [DataW.weights, ht];exact DataW.weights_mem_each (j := i) (by rw [List.getElem?_map, List.getElem?_eq_getElem hi, Option.map_some, he]) (by rw [List.getElem?_map, List.getElem?_eq_getElem hi']; rfl) x hxw)
 exact ⟨g y, by rw [hfg]; simpa using hy, y, rfl, hg⟩
theorem arg_agg {α : Type} {P : Program} {t : TypeId} {fs : Array Field} {f : α → List PV} {G : α → Prop} {H : Type} {enc : TypeId × Value → H} {w : World} {base b0 : Nat} {r : Reach} {spare : Nat → Bool} {held : Bool} {v : Value} {D : DataW H} {p : List MemPlace}
  (ht : P.underlying t = some (.struct fs)) (hv : Value.okWide P w r b0 t v) (h : ∀ n, RO P t f G n) (hr : DataW.Trod enc P w base spare held t v D p) (hw : ∀ x ∈ DataW.weights P t D, x ≤ reachBytes) :
  ∃ (x : α), R [] (fun _ => 0) w v (.ag (f x)) ∧ G x := by
 obtain ⟨cs, rfl, _⟩ := Go.WideShapes.okWide_struct ht hv;obtain ⟨n, hn⟩ := hr;obtain ⟨x, hx, hg⟩ := h n H enc w base spare held n (Nat.le_refl _) _ _ hn hw;have hx' : RC w cs.toList (f x) := by simpa [Value.cells] using hx
 exact ⟨x, .ag _ _ (by simpa using hx'.1) (fun i y hy => by
  have hi := (Array.getElem?_eq_some_iff.1 hy).1;exact (hx'.2 i y _ (by simpa using hy) (List.getElem?_eq_getElem (by have := hx'.1; simp at this; omega))).1) (fun i y q hy hq => (hx'.2 i y q (by simpa using hy) hq).2), hg⟩
theorem arg_one {α : Type} {P : Program} {t : TypeId} {f : α → PV} {G : α → Prop} {H : Type} {enc : TypeId × Value → H} {w : World} {base : Nat} {spare : Nat → Bool} {held : Bool} {v : Value} {D : DataW H} {p : List MemPlace}
  (h1 : v.oneCell' = true) (h : ∀ n, RO P t (fun x => [f x]) G n) (hr : DataW.Trod enc P w base spare held t v D p) (hw : ∀ x ∈ DataW.weights P t D, x ≤ reachBytes) : ∃ (x : α), R [] (fun _ => 0) w v (f x) ∧ G x := by
 obtain ⟨n, hn⟩ := hr;obtain ⟨x, hx, hg⟩ := h n H enc w base spare held n (Nat.le_refl _) _ _ hn hw;have hc : v.cells = #[v] := by cases v <;> first | rfl | cases h1
 rw [hc] at hx;exact ⟨x, (hx.2 0 v (f x) rfl rfl).2, hg⟩
theorem arg_pair {α : Type} {P : Program} {t e : TypeId} {f : α → PV} {G : α → Prop} {H : Type} {enc : TypeId × Value → H} {w : World} {base b0 : Nat} {r : Reach} {spare : Nat → Bool} {held : Bool} {v : Value} {D : DataW H} {p : List MemPlace}
  (ht : P.underlying t = some (.array 2 e)) (he : P.cellsOf e = 1) (hz : P.cellsOf t = 2) (hv : Value.okWide P w r b0 t v) (h : ∀ n, RO P e (fun x => [f x]) G n) (hr : DataW.Trod enc P w base spare held t v D p) (hw : ∀ x ∈ DataW.weights P t D, x ≤ reachBytes) :
  ∃ (x : α × α), R [] (fun _ => 0) w v (.ag [f x.1, f x.2]) ∧ G x.1 ∧ G x.2 := by
 have hv' : ∃ cs, v = .agg cs ∧ cs.size = P.cellsOf t := by
  unfold Value.okWide at hv;rw [ht] at hv;obtain ⟨cs, h1, h2, _⟩ := hv;exact ⟨cs, h1, h2⟩
 obtain ⟨cs, rfl, hs⟩ := hv';obtain ⟨n, hn⟩ := hr;obtain ⟨xs, m, rfl, hd, hl, hx, hi⟩ := DataW.trod_array ht hn;obtain ⟨rfl, rfl⟩ := Prod.mk.inj hd;obtain ⟨a, b, rfl⟩ : ∃ a b, xs = [a, b] := by
  match xs, hx with
  | [a, b], _ => exact ⟨a, b, rfl⟩
 have hs2 : cs.size = 2 := by rw [hs, hz]
 obtain ⟨c0, c1, rfl⟩ : ∃ c0 c1, cs = #[c0, c1] := by
  obtain ⟨l⟩ := cs
  match l, hs2 with
  | [c0, c1], _ => exact ⟨c0, c1, rfl⟩
 have h0 := hi 0 (by omega);have h1 := hi 1 (by omega);rw [he] at h0 h1;simp [Value.cells] at h0 h1;have hw' : ∀ x, x ∈ DataW.weights P e a.1 ∨ x ∈ DataW.weights P e b.1 → x ≤ reachBytes := fun x hx => hw x (by
  simp only [DataW.weights, ht, List.map_cons, List.map_nil, DataW.weightsAll, List.append_nil];exact List.mem_append.2 hx)
 obtain ⟨x, hx1, hg1⟩ := h m H enc w base spare held m (Nat.le_refl _) _ _ h0 fun q hq => hw' q (.inl hq);obtain ⟨y, hx2, hg2⟩ := h m H enc w base spare held m (Nat.le_refl _) _ _ h1 fun q hq => hw' q (.inr hq);have r0 := hx1.2 0 c0 (f x) rfl rfl;have r1 := hx2.2 0 c1 (f y) rfl rfl;exact ⟨(x, y), .ag _ _ rfl (fun i z hz => by
  match i, hz with
  | 0, hz => simp at hz; subst hz; exact r0.1
  | 1, hz => simp at hz; subst hz; exact r1.1
  | i + 2, hz => simp at hz) (fun i z q hz hq => by
  match i, hz, hq with
  | 0, hz, hq => simp at hz hq; subst hz hq; exact r0.2
  | 1, hz, hq => simp at hz hq; subst hz hq; exact r1.2
  | i + 2, hz, hq => simp at hz), hg1, hg2⟩
theorem law_calls {f : FuncId} {fn : Func} {c : Code} {args : List PV} {vs : Array Value} {w : World} (hf : Try.prog.funcs[f]? = some fn) (hname : (fn.name == "runtime.NumGoroutine") = false) (hb : fn.body = some c)
  (h : ∀ K : PV → Store → Prop, K (.v (.bool true)) [] → EC Try.prog f args [] K) (hv : RL [] (fun _ => 0) w vs args) :
  Calls Try.prog f vs w fun e w' => e = .returned (.bool true) ∧ Go.RowKit.Below w.heap.size w w' := by
 have h1 := (h (fun r s => r = .v (.bool true)) rfl).here (fun _ => 0) w vs ⟨fun i j o o' hi => by have := hi.1; simp at this, fun i o hi => by have := hi.1; simp at this⟩ hv;rcases h1 with ⟨_, h2⟩ | ⟨x, w', h2, _⟩
 ·refine h2.mono fun e w' ⟨x, hx, r, σ', μ', k1, k2, k3, k4⟩ => ?_;subst hx k4;cases k3;exact ⟨rfl, k1.os, k1.tape, k1.output, k1.size, fun k hk => k1.keep k hk fun id o hl => by have := hl.1; simp at this⟩
 ·rw [enters_ hf hname hb vs w] at h2;cases h2
abbrev C_s (s : ByteArray) : List PV := [.v (.string s)]
structure qP where
 x : Int
 y : Int
 signed : Bool
 code : Int
 deriving DecidableEq
instance : Inhabited qP := ⟨(qP.mk (0 : Int) (0 : Int) false (0 : Int))⟩
def qP.cl (x : qP) : List PV := [(.v (.int .i64 x.x)), (.v (.int .i64 x.y)), (.v (.bool x.signed)), (.v (.int .u8 x.code))]
theorem qP.cle (x : qP) : CLE (qP.cl x) [(.v (.int .i64 x.x)), (.v (.int .i64 x.y)), (.v (.bool x.signed)), (.v (.int .u8 x.code))] 4 := ⟨fun _ => rfl, rfl, fun _ => rfl, fun _ => rfl, by first | rfl | (simp only [qP.cl, List.all_cons, Qg]; rfl)⟩
theorem qP.clu (x : qP) : qP.cl x = [(.v (.int .i64 x.x)), (.v (.int .i64 x.y)), (.v (.bool x.signed)), (.v (.int .u8 x.code))] := rfl
theorem qP.cn (x : qP) : CnL (qP.cl x) := (CnL.cons (.v _) (CnL.cons (.v _) (CnL.cons (.v _) (CnL.cons (.v _) CnL.nil))))
structure Expr where
 kind : Int
 name : ByteArray
 n : Int
 d : Int
 args : (List Expr)
 at_ : Int
instance : Inhabited Expr := ⟨(Expr.mk (0 : Int) (⟨#[]⟩ : ByteArray) (0 : Int) (0 : Int) ([] : (List Expr)) (0 : Int))⟩
mutual
def Expr.cl0 : Expr → List PV
 | ⟨k, s, n, d, xs, a⟩ => [.v (.int .i64 k), .v (.string s), .v (.int .i64 n), .v (.int .i64 d), .sl (Expr.rows xs), .v (.int .i64 a)]
def Expr.rows : List Expr → List (List PV)
 | [] => []
 | e :: l => Expr.cl0 e :: Expr.rows l
end
def Expr.cl (x : Expr) : List PV := [.v (.int .i64 x.kind), .v (.string x.name), .v (.int .i64 x.n), .v (.int .i64 x.d), .sl (Expr.rows x.args), .v (.int .i64 x.at_)]
theorem Expr.cle (x : Expr) : CLE (Expr.cl x) [(.v (.int .i64 x.kind)), (.v (.string x.name)), (.v (.int .i64 x.n)), (.v (.int .i64 x.d)), (.sl (Expr.rows x.args)), (.v (.int .i64 x.at_))] 6 := ⟨fun _ => rfl, rfl, fun _ => rfl, fun _ => rfl, by first | rfl | (simp only [Expr.cl, List.all_cons, Qg]; rfl)⟩
theorem Expr.clu (x : Expr) : Expr.cl x = [(.v (.int .i64 x.kind)), (.v (.string x.name)), (.v (.int .i64 x.n)), (.v (.int .i64 x.d)), (.sl (Expr.rows x.args)), (.v (.int .i64 x.at_))] := rfl
theorem Expr.cl0_eq (x : Expr) : Expr.cl0 x = Expr.cl x := by cases x; simp [Expr.cl0, Expr.cl]
theorem Expr.rows_eq : ∀ l : List Expr, Expr.rows l = l.map Expr.cl
 | [] => by simp [Expr.rows]
 | e :: l => by simp [Expr.rows, Expr.rows_eq l, Expr.cl0_eq]
theorem Expr.rlen (l : List Expr) : (Expr.rows l).length = l.length := by rw [Expr.rows_eq, List.length_map]
theorem Expr.rget {l : List Expr} {i : Nat} {x : Expr} (h : l[i]? = some x) : (Expr.rows l)[i]? = some (Expr.cl x) := by rw [Expr.rows_eq]; exact qA h
theorem Expr.ind {p : Expr → Prop} (h : ∀ k s n d xs a, (∀ e ∈ xs, p e) → p ⟨k, s, n, d, xs, a⟩) (e : Expr) : p e :=
 Expr.rec (motive_1 := p) (motive_2 := fun l => ∀ e ∈ l, p e) (fun k s n d xs a ih => h k s n d xs a ih) (by simp) (fun e l h1 h2 => by
  intro x hx;rcases List.mem_cons.1 hx with rfl | hx
  ·exact h1
  ·exact h2 x hx) e
theorem Expr.cn (x : Expr) : CnL (Expr.cl x) := by
 induction x using Expr.ind with
 | h k s n d xs a ih =>
  refine CnL.cons (.v _) (CnL.cons (.v _) (CnL.cons (.v _) (CnL.cons (.v _) (CnL.cons ?_ (CnL.cons (.v _) CnL.nil)))));show Cn (.sl (Expr.rows xs));rw [Expr.rows_eq];refine .sl fun r hr p hp => ?_;obtain ⟨x, hx, rfl⟩ := List.mem_map.1 hr;exact ih x hx p hp
theorem Expr.cnr (l : List Expr) : Cn (.sl (Expr.rows l)) := by rw [Expr.rows_eq]; exact Cn.rows Expr.cn l
theorem Expr.rall (l : List Expr) : ∀ r ∈ Expr.rows l, r.length = 6 := by rw [Expr.rows_eq]; exact qI (f := Expr.cl) (n := 6) (fun _ => rfl) l
structure Node where
 name : ByteArray
 params : (List ByteArray)
 budget : Int
 body : Expr
 at_ : Int
instance : Inhabited Node := ⟨(Node.mk (⟨#[]⟩ : ByteArray) ([] : (List ByteArray)) (0 : Int) (Expr.mk (0 : Int) (⟨#[]⟩ : ByteArray) (0 : Int) (0 : Int) ([] : (List Expr)) (0 : Int)) (0 : Int))⟩
def Node.cl (x : Node) : List PV := [(.v (.string x.name)), (.sl (List.map C_s x.params)), (.v (.int .i64 x.budget)), (.v (.int .i64 x.body.kind)), (.v (.string x.body.name)), (.v (.int .i64 x.body.n)), (.v (.int .i64 x.body.d)), (.sl (Expr.rows x.body.args)), (.v (.int .i64 x.body.at_)), (.v (.int .i64 x.at_))]
theorem Node.cle (x : Node) : CLE (Node.cl x) [(.v (.string x.name)), (.sl (List.map C_s x.params)), (.v (.int .i64 x.budget)), (.v (.int .i64 x.body.kind)), (.v (.string x.body.name)), (.v (.int .i64 x.body.n)), (.v (.int .i64 x.body.d)), (.sl (Expr.rows x.body.args)), (.v (.int .i64 x.body.at_)), (.v (.int .i64 x.at_))] 10 := ⟨fun _ => rfl, rfl, fun _ => rfl, fun _ => rfl, by first | rfl | (simp only [Node.cl, List.all_cons, Qg]; rfl)⟩
theorem Node.clu (x : Node) : Node.cl x = [(.v (.string x.name)), (.sl (List.map C_s x.params)), (.v (.int .i64 x.budget)), (.v (.int .i64 x.body.kind)), (.v (.string x.body.name)), (.v (.int .i64 x.body.n)), (.v (.int .i64 x.body.d)), (.sl (Expr.rows x.body.args)), (.v (.int .i64 x.body.at_)), (.v (.int .i64 x.at_))] := rfl
theorem Node.cn (x : Node) : CnL (Node.cl x) := (CnL.cons (.v _) (CnL.cons (Cn.rows (fun _ => CnL.cons (.v _) CnL.nil) _) (CnL.cons (.v _) (CnL.cons (.v _) (CnL.cons (.v _) (CnL.cons (.v _) (CnL.cons (.v _) (CnL.cons (Expr.cnr _) (CnL.cons (.v _) (CnL.cons (.v _) CnL.nil))))))))))
structure Flow where
 name : ByteArray
 e : Expr
 at_ : Int
instance : Inhabited Flow := ⟨(Flow.mk (⟨#[]⟩ : ByteArray) (Expr.mk (0 : Int) (⟨#[]⟩ : ByteArray) (0 : Int) (0 : Int) ([] : (List Expr)) (0 : Int)) (0 : Int))⟩
def Flow.cl (x : Flow) : List PV := [(.v (.string x.name)), (.v (.int .i64 x.e.kind)), (.v (.string x.e.name)), (.v (.int .i64 x.e.n)), (.v (.int .i64 x.e.d)), (.sl (Expr.rows x.e.args)), (.v (.int .i64 x.e.at_)), (.v (.int .i64 x.at_))]
theorem Flow.cle (x : Flow) : CLE (Flow.cl x) [(.v (.string x.name)), (.v (.int .i64 x.e.kind)), (.v (.string x.e.name)), (.v (.int .i64 x.e.n)), (.v (.int .i64 x.e.d)), (.sl (Expr.rows x.e.args)), (.v (.int .i64 x.e.at_)), (.v (.int .i64 x.at_))] 8 := ⟨fun _ => rfl, rfl, fun _ => rfl, fun _ => rfl, by first | rfl | (simp only [Flow.cl, List.all_cons, Qg]; rfl)⟩
theorem Flow.clu (x : Flow) : Flow.cl x = [(.v (.string x.name)), (.v (.int .i64 x.e.kind)), (.v (.string x.e.name)), (.v (.int .i64 x.e.n)), (.v (.int .i64 x.e.d)), (.sl (Expr.rows x.e.args)), (.v (.int .i64 x.e.at_)), (.v (.int .i64 x.at_))] := rfl
theorem Flow.cn (x : Flow) : CnL (Flow.cl x) := (CnL.cons (.v _) (CnL.cons (.v _) (CnL.cons (.v _) (CnL.cons (.v _) (CnL.cons (.v _) (CnL.cons (Expr.cnr _) (CnL.cons (.v _) (CnL.cons (.v _) CnL.nil))))))))
structure Input where
 name : ByteArray
 period : Int
 phase : Int
 at_ : Int
 deriving DecidableEq
instance : Inhabited Input := ⟨(Input.mk (⟨#[]⟩ : ByteArray) (0 : Int) (0 : Int) (0 : Int))⟩
def Input.cl (x : Input) : List PV := [(.v (.string x.name)), (.v (.int .i64 x.period)), (.v (.int .i64 x.phase)), (.v (.int .i64 x.at_))]
theorem Input.cle (x : Input) : CLE (Input.cl x) [(.v (.string x.name)), (.v (.int .i64 x.period)), (.v (.int .i64 x.phase)), (.v (.int .i64 x.at_))] 4 := ⟨fun _ => rfl, rfl, fun _ => rfl, fun _ => rfl, by first | rfl | (simp only [Input.cl, List.all_cons, Qg]; rfl)⟩
theorem Input.clu (x : Input) : Input.cl x = [(.v (.string x.name)), (.v (.int .i64 x.period)), (.v (.int .i64 x.phase)), (.v (.int .i64 x.at_))] := rfl
theorem Input.cn (x : Input) : CnL (Input.cl x) := (CnL.cons (.v _) (CnL.cons (.v _) (CnL.cons (.v _) (CnL.cons (.v _) CnL.nil))))
structure Output where
 name : ByteArray
 flow : ByteArray
 deadline : Int
 at_ : Int
 deriving DecidableEq
instance : Inhabited Output := ⟨(Output.mk (⟨#[]⟩ : ByteArray) (⟨#[]⟩ : ByteArray) (0 : Int) (0 : Int))⟩
def Output.cl (x : Output) : List PV := [(.v (.string x.name)), (.v (.string x.flow)), (.v (.int .i64 x.deadline)), (.v (.int .i64 x.at_))]
theorem Output.cle (x : Output) : CLE (Output.cl x) [(.v (.string x.name)), (.v (.string x.flow)), (.v (.int .i64 x.deadline)), (.v (.int .i64 x.at_))] 4 := ⟨fun _ => rfl, rfl, fun _ => rfl, fun _ => rfl, by first | rfl | (simp only [Output.cl, List.all_cons, Qg]; rfl)⟩
theorem Output.clu (x : Output) : Output.cl x = [(.v (.string x.name)), (.v (.string x.flow)), (.v (.int .i64 x.deadline)), (.v (.int .i64 x.at_))] := rfl
theorem Output.cn (x : Output) : CnL (Output.cl x) := (CnL.cons (.v _) (CnL.cons (.v _) (CnL.cons (.v _) (CnL.cons (.v _) CnL.nil))))
structure Program where
 nodes : (List Node)
 inputs : (List Input)
 flows : (List Flow)
 outputs : (List Output)
instance : Inhabited Program := ⟨(Program.mk ([] : (List Node)) ([] : (List Input)) ([] : (List Flow)) ([] : (List Output)))⟩
def Program.cl (x : Program) : List PV := [(.sl (List.map Node.cl x.nodes)), (.sl (List.map Input.cl x.inputs)), (.sl (List.map Flow.cl x.flows)), (.sl (List.map Output.cl x.outputs))]
theorem Program.cle (x : Program) : CLE (Program.cl x) [(.sl (List.map Node.cl x.nodes)), (.sl (List.map Input.cl x.inputs)), (.sl (List.map Flow.cl x.flows)), (.sl (List.map Output.cl x.outputs))] 4 := ⟨fun _ => rfl, rfl, fun _ => rfl, fun _ => rfl, by first | rfl | (simp only [Program.cl, List.all_cons, Qg]; rfl)⟩
theorem Program.clu (x : Program) : Program.cl x = [(.sl (List.map Node.cl x.nodes)), (.sl (List.map Input.cl x.inputs)), (.sl (List.map Flow.cl x.flows)), (.sl (List.map Output.cl x.outputs))] := rfl
theorem Program.cn (x : Program) : CnL (Program.cl x) := (CnL.cons (Cn.rows Node.cn _) (CnL.cons (Cn.rows Input.cn _) (CnL.cons (Cn.rows Flow.cn _) (CnL.cons (Cn.rows Output.cn _) CnL.nil))))
structure Clock where
 period : Int
 phase : Int
 deriving DecidableEq
instance : Inhabited Clock := ⟨(Clock.mk (0 : Int) (0 : Int))⟩
def Clock.cl (x : Clock) : List PV := [(.v (.int .i64 x.period)), (.v (.int .i64 x.phase))]
theorem Clock.cle (x : Clock) : CLE (Clock.cl x) [(.v (.int .i64 x.period)), (.v (.int .i64 x.phase))] 2 := ⟨fun _ => rfl, rfl, fun _ => rfl, fun _ => rfl, by first | rfl | (simp only [Clock.cl, List.all_cons, Qg]; rfl)⟩
theorem Clock.clu (x : Clock) : Clock.cl x = [(.v (.int .i64 x.period)), (.v (.int .i64 x.phase))] := rfl
theorem Clock.cn (x : Clock) : CnL (Clock.cl x) := (CnL.cons (.v _) (CnL.cons (.v _) CnL.nil))
structure Op where
 kind : Int
 n : Int
 d : Int
 deriving DecidableEq
instance : Inhabited Op := ⟨(Op.mk (0 : Int) (0 : Int) (0 : Int))⟩
def Op.cl (x : Op) : List PV := [(.v (.int .i64 x.kind)), (.v (.int .i64 x.n)), (.v (.int .i64 x.d))]
theorem Op.cle (x : Op) : CLE (Op.cl x) [(.v (.int .i64 x.kind)), (.v (.int .i64 x.n)), (.v (.int .i64 x.d))] 3 := ⟨fun _ => rfl, rfl, fun _ => rfl, fun _ => rfl, by first | rfl | (simp only [Op.cl, List.all_cons, Qg]; rfl)⟩
theorem Op.clu (x : Op) : Op.cl x = [(.v (.int .i64 x.kind)), (.v (.int .i64 x.n)), (.v (.int .i64 x.d))] := rfl
theorem Op.cn (x : Op) : CnL (Op.cl x) := (CnL.cons (.v _) (CnL.cons (.v _) (CnL.cons (.v _) CnL.nil)))
structure Arg where
 src : Int
 ops : (List Op)
 deriving DecidableEq
instance : Inhabited Arg := ⟨(Arg.mk (0 : Int) ([] : (List Op)))⟩
def Arg.cl (x : Arg) : List PV := [(.v (.int .i64 x.src)), (.sl (List.map Op.cl x.ops))]
theorem Arg.cle (x : Arg) : CLE (Arg.cl x) [(.v (.int .i64 x.src)), (.sl (List.map Op.cl x.ops))] 2 := ⟨fun _ => rfl, rfl, fun _ => rfl, fun _ => rfl, by first | rfl | (simp only [Arg.cl, List.all_cons, Qg]; rfl)⟩
theorem Arg.clu (x : Arg) : Arg.cl x = [(.v (.int .i64 x.src)), (.sl (List.map Op.cl x.ops))] := rfl
theorem Arg.cn (x : Arg) : CnL (Arg.cl x) := (CnL.cons (.v _) (CnL.cons (Cn.rows Op.cn _) CnL.nil))
structure Task where
 node : Int
 clock : Clock
 args : (List Arg)
 deriving DecidableEq
instance : Inhabited Task := ⟨(Task.mk (0 : Int) (Clock.mk (0 : Int) (0 : Int)) ([] : (List Arg)))⟩
def Task.cl (x : Task) : List PV := [(.v (.int .i64 x.node)), (.v (.int .i64 x.clock.period)), (.v (.int .i64 x.clock.phase)), (.sl (List.map Arg.cl x.args))]
theorem Task.cle (x : Task) : CLE (Task.cl x) [(.v (.int .i64 x.node)), (.v (.int .i64 x.clock.period)), (.v (.int .i64 x.clock.phase)), (.sl (List.map Arg.cl x.args))] 4 := ⟨fun _ => rfl, rfl, fun _ => rfl, fun _ => rfl, by first | rfl | (simp only [Task.cl, List.all_cons, Qg]; rfl)⟩
theorem Task.clu (x : Task) : Task.cl x = [(.v (.int .i64 x.node)), (.v (.int .i64 x.clock.period)), (.v (.int .i64 x.clock.phase)), (.sl (List.map Arg.cl x.args))] := rfl
theorem Task.cn (x : Task) : CnL (Task.cl x) := (CnL.cons (.v _) (CnL.cons (.v _) (CnL.cons (.v _) (CnL.cons (Cn.rows Arg.cn _) CnL.nil))))
structure Tell where
 clock : Clock
 arg : Arg
 deadline : Int
 deriving DecidableEq
instance : Inhabited Tell := ⟨(Tell.mk (Clock.mk (0 : Int) (0 : Int)) (Arg.mk (0 : Int) ([] : (List Op))) (0 : Int))⟩
def Tell.cl (x : Tell) : List PV := [(.v (.int .i64 x.clock.period)), (.v (.int .i64 x.clock.phase)), (.v (.int .i64 x.arg.src)), (.sl (List.map Op.cl x.arg.ops)), (.v (.int .i64 x.deadline))]
theorem Tell.cle (x : Tell) : CLE (Tell.cl x) [(.v (.int .i64 x.clock.period)), (.v (.int .i64 x.clock.phase)), (.v (.int .i64 x.arg.src)), (.sl (List.map Op.cl x.arg.ops)), (.v (.int .i64 x.deadline))] 5 := ⟨fun _ => rfl, rfl, fun _ => rfl, fun _ => rfl, by first | rfl | (simp only [Tell.cl, List.all_cons, Qg]; rfl)⟩
theorem Tell.clu (x : Tell) : Tell.cl x = [(.v (.int .i64 x.clock.period)), (.v (.int .i64 x.clock.phase)), (.v (.int .i64 x.arg.src)), (.sl (List.map Op.cl x.arg.ops)), (.v (.int .i64 x.deadline))] := rfl
theorem Tell.cn (x : Tell) : CnL (Tell.cl x) := (CnL.cons (.v _) (CnL.cons (.v _) (CnL.cons (.v _) (CnL.cons (Cn.rows Op.cn _) (CnL.cons (.v _) CnL.nil)))))
structure Flat where
 inputs : (List Clock)
 nodes : (List Node)
 tasks : (List Task)
 tells : (List Tell)
instance : Inhabited Flat := ⟨(Flat.mk ([] : (List Clock)) ([] : (List Node)) ([] : (List Task)) ([] : (List Tell)))⟩
def Flat.cl (x : Flat) : List PV := [(.sl (List.map Clock.cl x.inputs)), (.sl (List.map Node.cl x.nodes)), (.sl (List.map Task.cl x.tasks)), (.sl (List.map Tell.cl x.tells))]
theorem Flat.cle (x : Flat) : CLE (Flat.cl x) [(.sl (List.map Clock.cl x.inputs)), (.sl (List.map Node.cl x.nodes)), (.sl (List.map Task.cl x.tasks)), (.sl (List.map Tell.cl x.tells))] 4 := ⟨fun _ => rfl, rfl, fun _ => rfl, fun _ => rfl, by first | rfl | (simp only [Flat.cl, List.all_cons, Qg]; rfl)⟩
theorem Flat.clu (x : Flat) : Flat.cl x = [(.sl (List.map Clock.cl x.inputs)), (.sl (List.map Node.cl x.nodes)), (.sl (List.map Task.cl x.tasks)), (.sl (List.map Tell.cl x.tells))] := rfl
theorem Flat.cn (x : Flat) : CnL (Flat.cl x) := (CnL.cons (Cn.rows Clock.cn _) (CnL.cons (Cn.rows Node.cn _) (CnL.cons (Cn.rows Task.cn _) (CnL.cons (Cn.rows Tell.cn _) CnL.nil))))
structure zo where
 flow : Int
 at_ : Int
 deriving DecidableEq
instance : Inhabited zo := ⟨(zo.mk (0 : Int) (0 : Int))⟩
def zo.cl (x : zo) : List PV := [(.v (.int .i64 x.flow)), (.v (.int .i64 x.at_))]
theorem zo.cle (x : zo) : CLE (zo.cl x) [(.v (.int .i64 x.flow)), (.v (.int .i64 x.at_))] 2 := ⟨fun _ => rfl, rfl, fun _ => rfl, fun _ => rfl, by first | rfl | (simp only [zo.cl, List.all_cons, Qg]; rfl)⟩
theorem zo.clu (x : zo) : zo.cl x = [(.v (.int .i64 x.flow)), (.v (.int .i64 x.at_))] := rfl
theorem zo.cn (x : zo) : CnL (zo.cl x) := (CnL.cons (.v _) (CnL.cons (.v _) CnL.nil))
structure zj where
 kind : Int
 text : ByteArray
 n : Int
 at_ : Int
 deriving DecidableEq
instance : Inhabited zj := ⟨(zj.mk (0 : Int) (⟨#[]⟩ : ByteArray) (0 : Int) (0 : Int))⟩
def zj.cl (x : zj) : List PV := [(.v (.int .i64 x.kind)), (.v (.string x.text)), (.v (.int .i64 x.n)), (.v (.int .i64 x.at_))]
theorem zj.cle (x : zj) : CLE (zj.cl x) [(.v (.int .i64 x.kind)), (.v (.string x.text)), (.v (.int .i64 x.n)), (.v (.int .i64 x.at_))] 4 := ⟨fun _ => rfl, rfl, fun _ => rfl, fun _ => rfl, by first | rfl | (simp only [zj.cl, List.all_cons, Qg]; rfl)⟩
theorem zj.clu (x : zj) : zj.cl x = [(.v (.int .i64 x.kind)), (.v (.string x.text)), (.v (.int .i64 x.n)), (.v (.int .i64 x.at_))] := rfl
theorem zj.cn (x : zj) : CnL (zj.cl x) := (CnL.cons (.v _) (CnL.cons (.v _) (CnL.cons (.v _) (CnL.cons (.v _) CnL.nil))))
structure qR where
 at_ : Int
 e : Int
 deriving DecidableEq
instance : Inhabited qR := ⟨(qR.mk (0 : Int) (0 : Int))⟩
def qR.cl (x : qR) : List PV := [(.v (.int .i64 x.at_)), (.v (.int .i64 x.e))]
theorem qR.cle (x : qR) : CLE (qR.cl x) [(.v (.int .i64 x.at_)), (.v (.int .i64 x.e))] 2 := ⟨fun _ => rfl, rfl, fun _ => rfl, fun _ => rfl, by first | rfl | (simp only [qR.cl, List.all_cons, Qg]; rfl)⟩
theorem qR.clu (x : qR) : qR.cl x = [(.v (.int .i64 x.at_)), (.v (.int .i64 x.e))] := rfl
theorem qR.cn (x : qR) : CnL (qR.cl x) := (CnL.cons (.v _) (CnL.cons (.v _) CnL.nil))
structure qc where
 finder : qR
 known : (Mp Clock)
instance : Inhabited qc := ⟨(qc.mk (qR.mk (0 : Int) (0 : Int)) (Mp.emp : (Mp Clock)))⟩
structure qj where
 node : Int
 args : (List Expr)
 ways : (List ByteArray)
instance : Inhabited qj := ⟨(qj.mk (0 : Int) ([] : (List Expr)) ([] : (List ByteArray)))⟩
def qj.cl (x : qj) : List PV := [(.v (.int .i64 x.node)), (.sl (Expr.rows x.args)), (.sl (List.map C_s x.ways))]
theorem qj.cle (x : qj) : CLE (qj.cl x) [(.v (.int .i64 x.node)), (.sl (Expr.rows x.args)), (.sl (List.map C_s x.ways))] 3 := ⟨fun _ => rfl, rfl, fun _ => rfl, fun _ => rfl, by first | rfl | (simp only [qj.cl, List.all_cons, Qg]; rfl)⟩
theorem qj.clu (x : qj) : qj.cl x = [(.v (.int .i64 x.node)), (.sl (Expr.rows x.args)), (.sl (List.map C_s x.ways))] := rfl
theorem qj.cn (x : qj) : CnL (qj.cl x) := (CnL.cons (.v _) (CnL.cons (Expr.cnr _) (CnL.cons (Cn.rows (fun _ => CnL.cons (.v _) CnL.nil) _) CnL.nil)))
structure qh where
 p : Program
 flows : (Mp Int)
 calls : (List qj)
 at_ : (Mp Int)
 error : Int
 e : Int
instance : Inhabited qh := ⟨(qh.mk (Program.mk ([] : (List Node)) ([] : (List Input)) ([] : (List Flow)) ([] : (List Output))) (Mp.emp : (Mp Int)) ([] : (List qj)) (Mp.emp : (Mp Int)) (0 : Int) (0 : Int))⟩
structure zi where
 l : (List zj)
 end_ : Int
 pos : Int
 at_ : Int
 e : Int
 p : Program
instance : Inhabited zi := ⟨(zi.mk ([] : (List zj)) (0 : Int) (0 : Int) (0 : Int) (0 : Int) (Program.mk ([] : (List Node)) ([] : (List Input)) ([] : (List Flow)) ([] : (List Output))))⟩
def zi.cl (x : zi) : List PV := [(.sl (List.map zj.cl x.l)), (.v (.int .i64 x.end_)), (.v (.int .i64 x.pos)), (.v (.int .i64 x.at_)), (.v (.int .i64 x.e)), (oz (List.map Node.cl x.p.nodes)), (oz (List.map Input.cl x.p.inputs)), (oz (List.map Flow.cl x.p.flows)), (oz (List.map Output.cl x.p.outputs))]
theorem zi.cle (x : zi) : CLE (zi.cl x) [(.sl (List.map zj.cl x.l)), (.v (.int .i64 x.end_)), (.v (.int .i64 x.pos)), (.v (.int .i64 x.at_)), (.v (.int .i64 x.e)), (oz (List.map Node.cl x.p.nodes)), (oz (List.map Input.cl x.p.inputs)), (oz (List.map Flow.cl x.p.flows)), (oz (List.map Output.cl x.p.outputs))] 9 := ⟨fun _ => rfl, rfl, fun _ => rfl, fun _ => rfl, by first | rfl | (simp only [zi.cl, List.all_cons, Qg]; rfl)⟩
theorem zi.clu (x : zi) : zi.cl x = [(.sl (List.map zj.cl x.l)), (.v (.int .i64 x.end_)), (.v (.int .i64 x.pos)), (.v (.int .i64 x.at_)), (.v (.int .i64 x.e)), (oz (List.map Node.cl x.p.nodes)), (oz (List.map Input.cl x.p.inputs)), (oz (List.map Flow.cl x.p.flows)), (oz (List.map Output.cl x.p.outputs))] := rfl
theorem zi.cn (x : zi) : CnL (zi.cl x) := (CnL.cons (Cn.rows zj.cn _) (CnL.cons (.v _) (CnL.cons (.v _) (CnL.cons (.v _) (CnL.cons (.v _) (CnL.cons (Cn.oz (Cn.rows Node.cn _)) (CnL.cons (Cn.oz (Cn.rows Input.cn _)) (CnL.cons (Cn.oz (Cn.rows Flow.cn _)) (CnL.cons (Cn.oz (Cn.rows Output.cn _)) CnL.nil)))))))))
theorem T_2 : T 2 = some ⟨1, 8, false, false, [(.i .i64)], .int .i64⟩ := rfl
theorem T_3 : T 3 = some ⟨1, 8, false, false, [(.i .i64)], .int .i64⟩ := rfl
theorem T_4 : T 4 = some ⟨1, 1, false, false, [.b], .bool⟩ := rfl
theorem T_5 : T 5 = some ⟨1, 1, false, false, [(.i .u8)], .int .u8⟩ := rfl
theorem T_9 : T 9 = some ⟨1, 16, false, false, [.s], .str⟩ := rfl
theorem T_22 : T 22 = some ⟨1, 24, false, false, [.sl], .slc 99⟩ := rfl
theorem T_23 : T 23 = some ⟨1, 24, false, false, [.sl], .slc 96⟩ := rfl
theorem T_24 : T 24 = some ⟨1, 24, false, false, [.sl], .slc 41⟩ := rfl
theorem T_25 : T 25 = some ⟨1, 24, false, false, [.sl], .slc 65⟩ := rfl
theorem T_27 : T 27 = some ⟨4, 96, true, false, [.sl, .sl, .sl, .sl], .st [(0, 22), (1, 23), (2, 24), (3, 25)]⟩ := rfl
theorem T_30 : T 30 = some ⟨1, 8, false, false, [(.i .i64)], .int .i64⟩ := rfl
theorem T_33 : T 33 = some ⟨1, 24, false, false, [.sl], .slc 43⟩ := rfl
theorem T_37 : T 37 = some ⟨1, 24, false, false, [.sl], .slc 39⟩ := rfl
theorem T_39 : T 39 = some ⟨6, 72, true, false, [(.i .i64), .s, (.i .i64), (.i .i64), .sl, (.i .i64)], .st [(0, 3), (1, 9), (2, 2), (3, 2), (4, 37), (5, 3)]⟩ := rfl
theorem T_41 : T 41 = some ⟨8, 96, true, false, [.s, (.i .i64), .s, (.i .i64), (.i .i64), .sl, (.i .i64), (.i .i64)], .st [(0, 9), (1, 39), (7, 3)]⟩ := rfl
theorem T_43 : T 43 = some ⟨2, 16, true, true, [(.i .i64), (.i .i64)], .st [(0, 2), (1, 2)]⟩ := rfl
theorem T_46 : T 46 = some ⟨1, 24, false, false, [.sl], .slc 61⟩ := rfl
theorem T_47 : T 47 = some ⟨1, 24, false, false, [.sl], .slc 73⟩ := rfl
theorem T_49 : T 49 = some ⟨4, 96, true, false, [.sl, .sl, .sl, .sl], .st [(0, 33), (1, 22), (2, 46), (3, 47)]⟩ := rfl
theorem T_59 : T 59 = some ⟨1, 24, false, false, [.sl], .slc 68⟩ := rfl
theorem T_61 : T 61 = some ⟨4, 48, true, false, [(.i .i64), (.i .i64), (.i .i64), .sl], .st [(0, 3), (1, 43), (3, 59)]⟩ := rfl
theorem T_65 : T 65 = some ⟨4, 48, true, true, [.s, .s, (.i .i64), (.i .i64)], .st [(0, 9), (1, 9), (2, 2), (3, 3)]⟩ := rfl
theorem T_66 : T 66 = some ⟨1, 24, false, false, [.sl], .slc 119⟩ := rfl
theorem T_68 : T 68 = some ⟨2, 32, true, false, [(.i .i64), .sl], .st [(0, 3), (1, 66)]⟩ := rfl
theorem T_73 : T 73 = some ⟨5, 56, true, false, [(.i .i64), (.i .i64), (.i .i64), .sl, (.i .i64)], .st [(0, 43), (2, 68), (4, 2)]⟩ := rfl
theorem T_74 : T 74 = some ⟨2, 2, true, false, [(.i .u8), (.i .u8)], .arr 2 5⟩ := rfl
theorem T_89 : T 89 = some ⟨1, 24, false, false, [.sl], .slc 5⟩ := rfl
theorem T_96 : T 96 = some ⟨4, 40, true, true, [.s, (.i .i64), (.i .i64), (.i .i64)], .st [(0, 9), (1, 2), (2, 2), (3, 3)]⟩ := rfl
theorem T_97 : T 97 = some ⟨1, 24, false, false, [.sl], .slc 9⟩ := rfl
theorem T_99 : T 99 = some ⟨10, 128, true, false, [.s, .sl, (.i .i64), (.i .i64), .s, (.i .i64), (.i .i64), .sl, (.i .i64), (.i .i64)], .st [(0, 9), (1, 97), (2, 2), (3, 39), (9, 3)]⟩ := rfl
theorem T_106 : T 106 = some ⟨2, 16, true, true, [(.i .i64), (.i .i64)], .st [(0, 3), (1, 30)]⟩ := rfl
theorem T_107 : T 107 = some ⟨1, 8, false, false, [.m], .map 9 3⟩ := rfl
theorem T_119 : T 119 = some ⟨3, 24, true, true, [(.i .i64), (.i .i64), (.i .i64)], .st [(0, 3), (1, 2), (2, 2)]⟩ := rfl
theorem T_120 : T 120 = some ⟨1, 8, false, false, [.p], .other⟩ := rfl
theorem T_121 : T 121 = some ⟨1, 8, false, false, [.m], .map 9 43⟩ := rfl
theorem T_123 : T 123 = some ⟨3, 24, true, false, [(.i .i64), (.i .i64), .m], .st [(0, 106), (2, 121)]⟩ := rfl
theorem T_127 : T 127 = some ⟨1, 8, false, false, [.p], .other⟩ := rfl
theorem T_128 : T 128 = some ⟨1, 24, false, false, [.sl], .slc 164⟩ := rfl
theorem T_130 : T 130 = some ⟨9, 152, true, false, [.sl, .sl, .sl, .sl, .m, .sl, .m, (.i .i64), (.i .i64)], .st [(0, 27), (4, 107), (5, 128), (6, 107), (7, 3), (8, 30)]⟩ := rfl
theorem T_137 : T 137 = some ⟨1, 8, false, false, [.f], .other⟩ := rfl
theorem T_142 : T 142 = some ⟨1, 8, false, false, [.f], .other⟩ := rfl
theorem T_145 : T 145 = some ⟨1, 8, false, false, [.f], .other⟩ := rfl
theorem T_147 : T 147 = some ⟨1, 8, false, false, [.f], .other⟩ := rfl
theorem T_164 : T 164 = some ⟨3, 56, true, false, [(.i .i64), .sl, .sl], .st [(0, 3), (1, 37), (2, 97)]⟩ := rfl
theorem T_172 : T 172 = some ⟨1, 8, false, false, [.f], .other⟩ := rfl
def Sp_law08_FlatRight (a0 : Program) (a1 : Int) (a2 : (Int × Int)) (r : Bool) : Prop := ∀ (σ : Store) (K : PV → Store → Prop), K (.v (.bool r)) σ → EC Try.prog 6 [(.ag (Program.cl a0)), (.v (.int .i64 a1)), (.ag [(.v (.int .u8 a2.1)), (.v (.int .u8 a2.2))])] σ K
def Sat_law08_FlatRight (F : Program → Int → (Int × Int) → Option Bool) : Prop := ∀ (a0 : Program) (a1 : Int) (a2 : (Int × Int)) (r : Bool), F a0 a1 a2 = some r → Sp_law08_FlatRight a0 a1 a2 r
def Sp_ref04_Right (a0 : Program) (r : Bool) : Prop := ∀ (σ : Store) (K : PV → Store → Prop), K (.v (.bool r)) σ → EC Try.prog 10 [(.ag (Program.cl a0))] σ K
def Sat_ref04_Right (F : Program → Option Bool) : Prop := ∀ (a0 : Program) (r : Bool), F a0 = some r → Sp_ref04_Right a0 r
def Sp_ref06_Names (a0 : Program) (r : Bool) : Prop := ∀ (σ : Store) (K : PV → Store → Prop), K (.v (.bool r)) σ → EC Try.prog 13 [(.ag (Program.cl a0))] σ K
def Sat_ref06_Names (F : Program → Option Bool) : Prop := ∀ (a0 : Program) (r : Bool), F a0 = some r → Sp_ref06_Names a0 r
def Sp_check_Clocks (a0 : Program) (r : ((List Clock) × Int × Int)) : Prop := ∀ (σ : Store) (K : PV → Store → Prop), K (.tu [(.sl (List.map Clock.cl r.1)), (.v (.int .i64 r.2.1)), (.v (.int .i64 r.2.2))]) σ → EC Try.prog 16 [(.ag (Program.cl a0))] σ K
def Sat_check_Clocks (F : Program → Option ((List Clock) × Int × Int)) : Prop := ∀ (a0 : Program) (r : ((List Clock) × Int × Int)), F a0 = some r → Sp_check_Clocks a0 r
def Sp_law08_awake  (r : Bool) : Prop := ∀ (σ : Store) (K : PV → Store → Prop), K (.v (.bool r)) σ → EC Try.prog 17 [] σ K
def Sat_law08_awake (F : Option Bool) : Prop := ∀ (r : Bool), F = some r → Sp_law08_awake r
def Sp_flat_Make (a0 : Program) (a1 : (List Clock)) (r : (Flat × Int × Int)) : Prop := ∀ (σ : Store) (K : PV → Store → Prop), K (.tu [(.ag (Flat.cl r.1)), (.v (.int .i64 r.2.1)), (.v (.int .i64 r.2.2))]) σ → EC Try.prog 18 [(.ag (Program.cl a0)), (.sl (List.map Clock.cl a1))] σ K
def Sat_flat_Make (F : Program → (List Clock) → Option (Flat × Int × Int)) : Prop := ∀ (a0 : Program) (a1 : (List Clock)) (r : (Flat × Int × Int)), F a0 a1 = some r → Sp_flat_Make a0 a1 r
def Sp_ref08_Right (a0 : Flat) (r : Bool) : Prop := ∀ (σ : Store) (K : PV → Store → Prop), K (.v (.bool r)) σ → EC Try.prog 21 [(.ag (Flat.cl a0))] σ K
def Sat_ref08_Right (F : Flat → Option Bool) : Prop := ∀ (a0 : Flat) (r : Bool), F a0 = some r → Sp_ref08_Right a0 r
def Sp_ref06_Node (a0 : Program) (a1 : ByteArray) (r : Int) : Prop := ∀ (σ : Store) (K : PV → Store → Prop), K (.v (.int .i64 r)) σ → EC Try.prog 23 [(.ag (Program.cl a0)), (.v (.string a1))] σ K
def Sat_ref06_Node (F : Program → ByteArray → Option Int) : Prop := ∀ (a0 : Program) (a1 : ByteArray) (r : Int), F a0 a1 = some r → Sp_ref06_Node a0 a1 r
def Sp_ref06_Flow (a0 : Program) (a1 : ByteArray) (r : Int) : Prop := ∀ (σ : Store) (K : PV → Store → Prop), K (.v (.int .i64 r)) σ → EC Try.prog 25 [(.ag (Program.cl a0)), (.v (.string a1))] σ K
def Sat_ref06_Flow (F : Program → ByteArray → Option Int) : Prop := ∀ (a0 : Program) (a1 : ByteArray) (r : Int), F a0 a1 = some r → Sp_ref06_Flow a0 a1 r
def Sp_law08_Made (a0 : Program) (r : (Flat × Bool)) : Prop := ∀ (σ : Store) (K : PV → Store → Prop), K (.tu [(.ag (Flat.cl r.1)), (.v (.bool r.2))]) σ → EC Try.prog 28 [(.ag (Program.cl a0))] σ K
def Sat_law08_Made (F : Program → Option (Flat × Bool)) : Prop := ∀ (a0 : Program) (r : (Flat × Bool)), F a0 = some r → Sp_law08_Made a0 r
def Sp_law08_bent (a0 : Flat) (a1 : Int) (a2 : Int) (a3 : Int) (r : Flat) : Prop := ∀ (σ : Store) (K : PV → Store → Prop), K (.ag (Flat.cl r)) σ → EC Try.prog 29 [(.ag (Flat.cl a0)), (.v (.int .i64 a1)), (.v (.int .i64 a2)), (.v (.int .u8 a3))] σ K
def Sat_law08_bent (F : Flat → Int → Int → Int → Option Flat) : Prop := ∀ (a0 : Flat) (a1 : Int) (a2 : Int) (a3 : Int) (r : Flat), F a0 a1 a2 a3 = some r → Sp_law08_bent a0 a1 a2 a3 r
def Sp_flat_Right (a0 : Flat) (r : Bool) : Prop := ∀ (σ : Store) (K : PV → Store → Prop), K (.v (.bool r)) σ → EC Try.prog 30 [(.ag (Flat.cl a0))] σ K
def Sat_flat_Right (F : Flat → Option Bool) : Prop := ∀ (a0 : Flat) (r : Bool), F a0 = some r → Sp_flat_Right a0 r
def Sp_flat_Source (a0 : Flat) (a1 : Int) (r : (Clock × Bool)) : Prop := ∀ (σ : Store) (K : PV → Store → Prop), K (.tu [(.ag (Clock.cl r.1)), (.v (.bool r.2))]) σ → EC Try.prog 31 [(.ag (Flat.cl a0)), (.v (.int .i64 a1))] σ K
def Sat_flat_Source (F : Flat → Int → Option (Clock × Bool)) : Prop := ∀ (a0 : Flat) (a1 : Int) (r : (Clock × Bool)), F a0 a1 = some r → Sp_flat_Source a0 a1 r
def Sp_ref03_Right (a0 : ByteArray) (r : Bool) : Prop := ∀ (σ : Store) (K : PV → Store → Prop), K (.v (.bool r)) σ → EC Try.prog 38 [(.v (.string a0))] σ K
def Sat_ref03_Right (F : ByteArray → Option Bool) : Prop := ∀ (a0 : ByteArray) (r : Bool), F a0 = some r → Sp_ref03_Right a0 r
def Sp_ref04_number (a0 : Int) (a1 : Int) (a2 : Int) (r : Bool) : Prop := ∀ (σ : Store) (K : PV → Store → Prop), K (.v (.bool r)) σ → EC Try.prog 39 [(.v (.int .i64 a0)), (.v (.int .i64 a1)), (.v (.int .i64 a2))] σ K
def Sat_ref04_number (F : Int → Int → Int → Option Bool) : Prop := ∀ (a0 : Int) (a1 : Int) (a2 : Int) (r : Bool), F a0 a1 a2 = some r → Sp_ref04_number a0 a1 a2 r
def Sp_ref04_Size (a0 : Expr) (a1 : Int) (r : Int) : Prop := ∀ (σ : Store) (K : PV → Store → Prop), K (.v (.int .i64 r)) σ → EC Try.prog 40 [(.ag (Expr.cl a0)), (.v (.int .i64 a1))] σ K
def Sat_ref04_Size (F : Expr → Int → Option Int) : Prop := ∀ (a0 : Expr) (a1 : Int) (r : Int), F a0 a1 = some r → Sp_ref04_Size a0 a1 r
def Sp_ref04_Depth (a0 : Expr) (a1 : Int) (r : Int) : Prop := ∀ (σ : Store) (K : PV → Store → Prop), K (.v (.int .i64 r)) σ → EC Try.prog 41 [(.ag (Expr.cl a0)), (.v (.int .i64 a1))] σ K
def Sat_ref04_Depth (F : Expr → Int → Option Int) : Prop := ∀ (a0 : Expr) (a1 : Int) (r : Int), F a0 a1 = some r → Sp_ref04_Depth a0 a1 r
def Sp_ref04_Body (a0 : Expr) (r : Bool) : Prop := ∀ (σ : Store) (K : PV → Store → Prop), K (.v (.bool r)) σ → EC Try.prog 42 [(.ag (Expr.cl a0))] σ K
def Sat_ref04_Body (F : Expr → Option Bool) : Prop := ∀ (a0 : Expr) (r : Bool), F a0 = some r → Sp_ref04_Body a0 r
def Sp_ref04_Expr (a0 : Expr) (r : Bool) : Prop := ∀ (σ : Store) (K : PV → Store → Prop), K (.v (.bool r)) σ → EC Try.prog 43 [(.ag (Expr.cl a0))] σ K
def Sat_ref04_Expr (F : Expr → Option Bool) : Prop := ∀ (a0 : Expr) (r : Bool), F a0 = some r → Sp_ref04_Expr a0 r
def Sp_ref06_body (a0 : Node) (a1 : Expr) (r : Bool) : Prop := ∀ (σ : Store) (K : PV → Store → Prop), K (.v (.bool r)) σ → EC Try.prog 50 [(.ag (Node.cl a0)), (.ag (Expr.cl a1))] σ K
def Sat_ref06_body (F : Node → Expr → Option Bool) : Prop := ∀ (a0 : Node) (a1 : Expr) (r : Bool), F a0 a1 = some r → Sp_ref06_body a0 a1 r
def Sp_ref06_expr (a0 : Program) (a1 : Expr) (r : Bool) : Prop := ∀ (σ : Store) (K : PV → Store → Prop), K (.v (.bool r)) σ → EC Try.prog 51 [(.ag (Program.cl a0)), (.ag (Expr.cl a1))] σ K
def Sat_ref06_expr (F : Program → Expr → Option Bool) : Prop := ∀ (a0 : Program) (a1 : Expr) (r : Bool), F a0 a1 = some r → Sp_ref06_expr a0 a1 r
def Sp_ref02_Apply (a0 : Clock) (a1 : Op) (r : (Clock × Int)) : Prop := ∀ (σ : Store) (K : PV → Store → Prop), K (.tu [(.ag (Clock.cl r.1)), (.v (.int .i64 r.2))]) σ → EC Try.prog 52 [(.ag (Clock.cl a0)), (.ag (Op.cl a1))] σ K
def Sat_ref02_Apply (F : Clock → Op → Option (Clock × Int)) : Prop := ∀ (a0 : Clock) (a1 : Op) (r : (Clock × Int)), F a0 a1 = some r → Sp_ref02_Apply a0 a1 r
def Sp_check_solver_round (a0 : qc) (a1 : (List Flow)) (r : (Bool × qc)) : Prop := ∀ (σ : Store) (K : PV → Store → Prop) (j0 : Nat) (j0_2 : Nat), Gx σ j0 (AObj.box 123 [(.v (.int .i64 a0.finder.at_)), (.v (.int .i64 a0.finder.e)), (.mp j0_2)]) → Gx σ j0_2 (AObj.map .s (mpF (fun v : Clock => (PV.ag [(.v (.int .i64 v.period)), (.v (.int .i64 v.phase))])) (Mp.get a0.known)) (Mp.n a0.known)) → K (.v (.bool r.1)) (List.set (List.set σ j0 (some (AObj.box 123 [(.v (.int .i64 r.2.finder.at_)), (.v (.int .i64 r.2.finder.e)), (.mp j0_2)]))) j0_2 (some (AObj.map .s (mpF (fun v : Clock => (PV.ag [(.v (.int .i64 v.period)), (.v (.int .i64 v.phase))])) (Mp.get r.2.known)) (Mp.n r.2.known)))) → EC Try.prog 53 [(.pt j0 0), (.sl (List.map Flow.cl a1))] σ K
def Sat_check_solver_round (F : qc → (List Flow) → Option (Bool × qc)) : Prop := ∀ (a0 : qc) (a1 : (List Flow)) (r : (Bool × qc)), F a0 a1 = some r → Sp_check_solver_round a0 a1 r
def Sp_check_solver_calls (a0 : qc) (a1 : Expr) (r : (Unit × qc)) : Prop := ∀ (σ : Store) (K : PV → Store → Prop) (j0 : Nat) (j0_2 : Nat), Gx σ j0 (AObj.box 123 [(.v (.int .i64 a0.finder.at_)), (.v (.int .i64 a0.finder.e)), (.mp j0_2)]) → Gx σ j0_2 (AObj.map .s (mpF (fun v : Clock => (PV.ag [(.v (.int .i64 v.period)), (.v (.int .i64 v.phase))])) (Mp.get a0.known)) (Mp.n a0.known)) → K (.tu []) (List.set (List.set σ j0 (some (AObj.box 123 [(.v (.int .i64 r.2.finder.at_)), (.v (.int .i64 r.2.finder.e)), (.mp j0_2)]))) j0_2 (some (AObj.map .s (mpF (fun v : Clock => (PV.ag [(.v (.int .i64 v.period)), (.v (.int .i64 v.phase))])) (Mp.get r.2.known)) (Mp.n r.2.known)))) → EC Try.prog 54 [(.pt j0 0), (.ag (Expr.cl a1))] σ K
def Sat_check_solver_calls (F : qc → Expr → Option (Unit × qc)) : Prop := ∀ (a0 : qc) (a1 : Expr) (r : (Unit × qc)), F a0 a1 = some r → Sp_check_solver_calls a0 a1 r
def Sp_check_solver_of (a0 : qc) (a1 : Expr) (r : ((Clock × Bool) × qc)) : Prop := ∀ (σ : Store) (K : PV → Store → Prop) (j0 : Nat) (j0_2 : Nat), Gx σ j0 (AObj.box 123 [(.v (.int .i64 a0.finder.at_)), (.v (.int .i64 a0.finder.e)), (.mp j0_2)]) → Gx σ j0_2 (AObj.map .s (mpF (fun v : Clock => (PV.ag [(.v (.int .i64 v.period)), (.v (.int .i64 v.phase))])) (Mp.get a0.known)) (Mp.n a0.known)) → K (.tu [(.ag (Clock.cl r.1.1)), (.v (.bool r.1.2))]) (List.set (List.set σ j0 (some (AObj.box 123 [(.v (.int .i64 r.2.finder.at_)), (.v (.int .i64 r.2.finder.e)), (.mp j0_2)]))) j0_2 (some (AObj.map .s (mpF (fun v : Clock => (PV.ag [(.v (.int .i64 v.period)), (.v (.int .i64 v.phase))])) (Mp.get r.2.known)) (Mp.n r.2.known)))) → EC Try.prog 55 [(.pt j0 0), (.ag (Expr.cl a1))] σ K
def Sat_check_solver_of (F : qc → Expr → Option ((Clock × Bool) × qc)) : Prop := ∀ (a0 : qc) (a1 : Expr) (r : ((Clock × Bool) × qc)), F a0 a1 = some r → Sp_check_solver_of a0 a1 r
def Sp_flat_maker_number (a0 : qh) (a1 : Expr) (a2 : ByteArray) (r : (Unit × qh)) : Prop := ∀ (σ : Store) (K : PV → Store → Prop) (j0 : Nat) (j0_4 : Nat) (j0_5 : Nat) (j0_6 : Nat), Gx σ j0 (AObj.box 130 [(.sl (List.map Node.cl a0.p.nodes)), (.sl (List.map Input.cl a0.p.inputs)), (.sl (List.map Flow.cl a0.p.flows)), (.sl (List.map Output.cl a0.p.outputs)), (.mp j0_4), (.ow j0_5 (List.map qj.cl a0.calls)), (.mp j0_6), (.v (.int .i64 a0.error)), (.v (.int .i64 a0.e))]) → Gx σ j0_4 (AObj.map .s (mpF (fun v : Int => (PV.v (.int .i64 v))) (Mp.get a0.flows)) (Mp.n a0.flows)) → Gx σ j0_5 (tkO 164 3 (List.length a0.calls)) → Gx σ j0_6 (AObj.map .s (mpF (fun v : Int => (PV.v (.int .i64 v))) (Mp.get a0.at_)) (Mp.n a0.at_)) → j0_4 ≠ j0_6 → K (.tu []) (List.set (List.set (List.set (List.set σ j0 (some (AObj.box 130 [(.sl (List.map Node.cl r.2.p.nodes)), (.sl (List.map Input.cl r.2.p.inputs)), (.sl (List.map Flow.cl r.2.p.flows)), (.sl (List.map Output.cl r.2.p.outputs)), (.mp j0_4), (.ow j0_5 (List.map qj.cl r.2.calls)), (.mp j0_6), (.v (.int .i64 r.2.error)), (.v (.int .i64 r.2.e))]))) j0_4 (some (AObj.map .s (mpF (fun v : Int => (PV.v (.int .i64 v))) (Mp.get r.2.flows)) (Mp.n r.2.flows)))) j0_5 (some (tkO 164 3 (List.length r.2.calls)))) j0_6 (some (AObj.map .s (mpF (fun v : Int => (PV.v (.int .i64 v))) (Mp.get r.2.at_)) (Mp.n r.2.at_)))) → EC Try.prog 56 [(.pt j0 0), (.ag (Expr.cl a1)), (.v (.string a2))] σ K
def Sat_flat_maker_number (F : qh → Expr → ByteArray → Option (Unit × qh)) : Prop := ∀ (a0 : qh) (a1 : Expr) (a2 : ByteArray) (r : (Unit × qh)), F a0 a1 a2 = some r → Sp_flat_maker_number a0 a1 a2 r
def Sp_flat_maker_long (a0 : qh) (a1 : Expr) (a2 : ByteArray) (a3 : Bool) (r : Bool) : Prop := ∀ (σ : Store) (K : PV → Store → Prop) (j0 : Nat) (j0_4 : Nat) (j0_5 : Nat) (j0_6 : Nat), Gx σ j0 (AObj.box 130 [(.sl (List.map Node.cl a0.p.nodes)), (.sl (List.map Input.cl a0.p.inputs)), (.sl (List.map Flow.cl a0.p.flows)), (.sl (List.map Output.cl a0.p.outputs)), (.mp j0_4), (.ow j0_5 (List.map qj.cl a0.calls)), (.mp j0_6), (.v (.int .i64 a0.error)), (.v (.int .i64 a0.e))]) → Gx σ j0_4 (AObj.map .s (mpF (fun v : Int => (PV.v (.int .i64 v))) (Mp.get a0.flows)) (Mp.n a0.flows)) → Gx σ j0_5 (tkO 164 3 (List.length a0.calls)) → Gx σ j0_6 (AObj.map .s (mpF (fun v : Int => (PV.v (.int .i64 v))) (Mp.get a0.at_)) (Mp.n a0.at_)) → K (.v (.bool r)) σ → EC Try.prog 57 [(.pt j0 0), (.ag (Expr.cl a1)), (.v (.string a2)), (.v (.bool a3))] σ K
def Sat_flat_maker_long (F : qh → Expr → ByteArray → Bool → Option Bool) : Prop := ∀ (a0 : qh) (a1 : Expr) (a2 : ByteArray) (a3 : Bool) (r : Bool), F a0 a1 a2 a3 = some r → Sp_flat_maker_long a0 a1 a2 a3 r
def Sp_flat_maker_tasks (a0 : qh) (r : (List Task)) : Prop := ∀ (σ : Store) (K : PV → Store → Prop) (j0 : Nat) (j0_4 : Nat) (j0_5 : Nat) (j0_6 : Nat), Gx σ j0 (AObj.box 130 [(.sl (List.map Node.cl a0.p.nodes)), (.sl (List.map Input.cl a0.p.inputs)), (.sl (List.map Flow.cl a0.p.flows)), (.sl (List.map Output.cl a0.p.outputs)), (.mp j0_4), (.ow j0_5 (List.map qj.cl a0.calls)), (.mp j0_6), (.v (.int .i64 a0.error)), (.v (.int .i64 a0.e))]) → Gx σ j0_4 (AObj.map .s (mpF (fun v : Int => (PV.v (.int .i64 v))) (Mp.get a0.flows)) (Mp.n a0.flows)) → Gx σ j0_5 (tkO 164 3 (List.length a0.calls)) → Gx σ j0_6 (AObj.map .s (mpF (fun v : Int => (PV.v (.int .i64 v))) (Mp.get a0.at_)) (Mp.n a0.at_)) → K (.sl (List.map Task.cl r)) σ → EC Try.prog 58 [(.pt j0 0)] σ K
def Sat_flat_maker_tasks (F : qh → Option (List Task)) : Prop := ∀ (a0 : qh) (r : (List Task)), F a0 = some r → Sp_flat_maker_tasks a0 r
def Sp_flat_maker_arg (a0 : qh) (a1 : Expr) (a2 : ByteArray) (r : Arg) : Prop := ∀ (σ : Store) (K : PV → Store → Prop) (j0 : Nat) (j0_4 : Nat) (j0_5 : Nat) (j0_6 : Nat), Gx σ j0 (AObj.box 130 [(.sl (List.map Node.cl a0.p.nodes)), (.sl (List.map Input.cl a0.p.inputs)), (.sl (List.map Flow.cl a0.p.flows)), (.sl (List.map Output.cl a0.p.outputs)), (.mp j0_4), (.ow j0_5 (List.map qj.cl a0.calls)), (.mp j0_6), (.v (.int .i64 a0.error)), (.v (.int .i64 a0.e))]) → Gx σ j0_4 (AObj.map .s (mpF (fun v : Int => (PV.v (.int .i64 v))) (Mp.get a0.flows)) (Mp.n a0.flows)) → Gx σ j0_5 (tkO 164 3 (List.length a0.calls)) → Gx σ j0_6 (AObj.map .s (mpF (fun v : Int => (PV.v (.int .i64 v))) (Mp.get a0.at_)) (Mp.n a0.at_)) → K (.ag (Arg.cl r)) σ → EC Try.prog 59 [(.pt j0 0), (.ag (Expr.cl a1)), (.v (.string a2))] σ K
def Sat_flat_maker_arg (F : qh → Expr → ByteArray → Option Arg) : Prop := ∀ (a0 : qh) (a1 : Expr) (a2 : ByteArray) (r : Arg), F a0 a1 a2 = some r → Sp_flat_maker_arg a0 a1 a2 r
def Sp_ref02_Right (a0 : Clock) (r : Bool) : Prop := ∀ (σ : Store) (K : PV → Store → Prop), K (.v (.bool r)) σ → EC Try.prog 61 [(.ag (Clock.cl a0))] σ K
def Sat_ref02_Right (F : Clock → Option Bool) : Prop := ∀ (a0 : Clock) (r : Bool), F a0 = some r → Sp_ref02_Right a0 r
def Sp_ref08_fits (a0 : Flat) (a1 : Arg) (a2 : Clock) (r : Bool) : Prop := ∀ (σ : Store) (K : PV → Store → Prop), K (.v (.bool r)) σ → EC Try.prog 62 [(.ag (Flat.cl a0)), (.ag (Arg.cl a1)), (.ag (Clock.cl a2))] σ K
def Sat_ref08_fits (F : Flat → Arg → Clock → Option Bool) : Prop := ∀ (a0 : Flat) (a1 : Arg) (a2 : Clock) (r : Bool), F a0 a1 a2 = some r → Sp_ref08_fits a0 a1 a2 r
def Sp_slices_ContainsFunc_Clock (a0 : (List Clock)) (a1 : (Clock → Option Bool)) (r : Bool) : Prop := ∀ (σ : Store) (K : PV → Store → Prop) (fid1 : FuncId) (caps1 : List PV), (∀ (x0 : Clock) (b : Bool), a1 x0 = some b → ∀ (s : Store) (K : PV → Store → Prop), Pre σ s → K (.v (.bool b)) s → EC Try.prog fid1 ((.ag [(.v (.int .i64 x0.period)), (.v (.int .i64 x0.phase))]) :: caps1) s K) → K (.v (.bool r)) σ → EC Try.prog 63 [(.sl (List.map Clock.cl a0)), (.fn fid1 [] caps1)] σ K
def Sat_slices_ContainsFunc_Clock (F : (List Clock) → (Clock → Option Bool) → Option Bool) : Prop := ∀ (a0 : (List Clock)) (a1 : (Clock → Option Bool)) (r : Bool), F a0 a1 = some r → Sp_slices_ContainsFunc_Clock a0 a1 r
def Sp_flat_Right_c1 (a0 : Clock) (r : Bool) : Prop := ∀ (σ : Store) (K : PV → Store → Prop), K (.v (.bool r)) σ → EC Try.prog 64 [(.ag (Clock.cl a0))] σ K
def Sat_flat_Right_c1 (F : Clock → Option Bool) : Prop := ∀ (a0 : Clock) (r : Bool), F a0 = some r → Sp_flat_Right_c1 a0 r
def Sp_clock_Right (a0 : Clock) (r : Bool) : Prop := ∀ (σ : Store) (K : PV → Store → Prop), K (.v (.bool r)) σ → EC Try.prog 65 [(.ag (Clock.cl a0))] σ K
def Sat_clock_Right (F : Clock → Option Bool) : Prop := ∀ (a0 : Clock) (r : Bool), F a0 = some r → Sp_clock_Right a0 r
def Sp_slices_ContainsFunc_Node (a0 : (List Node)) (a1 : (Node → Option Bool)) (r : Bool) : Prop := ∀ (σ : Store) (K : PV → Store → Prop) (fid1 : FuncId) (caps1 : List PV), (∀ (x0 : Node) (b : Bool), a1 x0 = some b → ∀ (s : Store) (K : PV → Store → Prop), Pre σ s → K (.v (.bool b)) s → EC Try.prog fid1 ((.ag [(.v (.string x0.name)), (.sl (List.map C_s x0.params)), (.v (.int .i64 x0.budget)), (.v (.int .i64 x0.body.kind)), (.v (.string x0.body.name)), (.v (.int .i64 x0.body.n)), (.v (.int .i64 x0.body.d)), (.sl (Expr.rows x0.body.args)), (.v (.int .i64 x0.body.at_)), (.v (.int .i64 x0.at_))]) :: caps1) s K) → K (.v (.bool r)) σ → EC Try.prog 66 [(.sl (List.map Node.cl a0)), (.fn fid1 [] caps1)] σ K
def Sat_slices_ContainsFunc_Node (F : (List Node) → (Node → Option Bool) → Option Bool) : Prop := ∀ (a0 : (List Node)) (a1 : (Node → Option Bool)) (r : Bool), F a0 a1 = some r → Sp_slices_ContainsFunc_Node a0 a1 r
def Sp_flat_Right_c2 (a0 : Node) (r : Bool) : Prop := ∀ (σ : Store) (K : PV → Store → Prop), K (.v (.bool r)) σ → EC Try.prog 67 [(.ag (Node.cl a0))] σ K
def Sat_flat_Right_c2 (F : Node → Option Bool) : Prop := ∀ (a0 : Node) (r : Bool), F a0 = some r → Sp_flat_Right_c2 a0 r
def Sp_flat_ticks (a0 : Int) (r : Bool) : Prop := ∀ (σ : Store) (K : PV → Store → Prop), K (.v (.bool r)) σ → EC Try.prog 68 [(.v (.int .i64 a0))] σ K
def Sat_flat_ticks (F : Int → Option Bool) : Prop := ∀ (a0 : Int) (r : Bool), F a0 = some r → Sp_flat_ticks a0 r
def Sp_slices_ContainsFunc_Task (a0 : (List Task)) (a1 : (Task → Option Bool)) (r : Bool) : Prop := ∀ (σ : Store) (K : PV → Store → Prop) (fid1 : FuncId) (caps1 : List PV), (∀ (x0 : Task) (b : Bool), a1 x0 = some b → ∀ (s : Store) (K : PV → Store → Prop), Pre σ s → K (.v (.bool b)) s → EC Try.prog fid1 ((.ag [(.v (.int .i64 x0.node)), (.v (.int .i64 x0.clock.period)), (.v (.int .i64 x0.clock.phase)), (.sl (List.map Arg.cl x0.args))]) :: caps1) s K) → K (.v (.bool r)) σ → EC Try.prog 69 [(.sl (List.map Task.cl a0)), (.fn fid1 [] caps1)] σ K
def Sat_slices_ContainsFunc_Task (F : (List Task) → (Task → Option Bool) → Option Bool) : Prop := ∀ (a0 : (List Task)) (a1 : (Task → Option Bool)) (r : Bool), F a0 a1 = some r → Sp_slices_ContainsFunc_Task a0 a1 r
def Sp_flat_Right_c3 (a0 : Task) (a1 : Flat) (r : Bool) : Prop := ∀ (σ : Store) (K : PV → Store → Prop) (j1 : Nat), Gx σ j1 (AObj.box 49 (Flat.cl a1)) → K (.v (.bool r)) σ → EC Try.prog 70 [(.ag (Task.cl a0)), (.pt j1 0)] σ K
def Sat_flat_Right_c3 (F : Task → Flat → Option Bool) : Prop := ∀ (a0 : Task) (a1 : Flat) (r : Bool), F a0 a1 = some r → Sp_flat_Right_c3 a0 a1 r
def Sp_flat_task (a0 : Flat) (a1 : Task) (r : Bool) : Prop := ∀ (σ : Store) (K : PV → Store → Prop), K (.v (.bool r)) σ → EC Try.prog 71 [(.ag (Flat.cl a0)), (.ag (Task.cl a1))] σ K
def Sat_flat_task (F : Flat → Task → Option Bool) : Prop := ∀ (a0 : Flat) (a1 : Task) (r : Bool), F a0 a1 = some r → Sp_flat_task a0 a1 r
def Sp_slices_ContainsFunc_Tell (a0 : (List Tell)) (a1 : (Tell → Option Bool)) (r : Bool) : Prop := ∀ (σ : Store) (K : PV → Store → Prop) (fid1 : FuncId) (caps1 : List PV), (∀ (x0 : Tell) (b : Bool), a1 x0 = some b → ∀ (s : Store) (K : PV → Store → Prop), Pre σ s → K (.v (.bool b)) s → EC Try.prog fid1 ((.ag [(.v (.int .i64 x0.clock.period)), (.v (.int .i64 x0.clock.phase)), (.v (.int .i64 x0.arg.src)), (.sl (List.map Op.cl x0.arg.ops)), (.v (.int .i64 x0.deadline))]) :: caps1) s K) → K (.v (.bool r)) σ → EC Try.prog 72 [(.sl (List.map Tell.cl a0)), (.fn fid1 [] caps1)] σ K
def Sat_slices_ContainsFunc_Tell (F : (List Tell) → (Tell → Option Bool) → Option Bool) : Prop := ∀ (a0 : (List Tell)) (a1 : (Tell → Option Bool)) (r : Bool), F a0 a1 = some r → Sp_slices_ContainsFunc_Tell a0 a1 r
def Sp_flat_Right_c4 (a0 : Tell) (a1 : Flat) (r : Bool) : Prop := ∀ (σ : Store) (K : PV → Store → Prop) (j1 : Nat), Gx σ j1 (AObj.box 49 (Flat.cl a1)) → K (.v (.bool r)) σ → EC Try.prog 73 [(.ag (Tell.cl a0)), (.pt j1 0)] σ K
def Sat_flat_Right_c4 (F : Tell → Flat → Option Bool) : Prop := ∀ (a0 : Tell) (a1 : Flat) (r : Bool), F a0 a1 = some r → Sp_flat_Right_c4 a0 a1 r
def Sp_flat_fits (a0 : Flat) (a1 : Arg) (a2 : Clock) (r : Bool) : Prop := ∀ (σ : Store) (K : PV → Store → Prop), K (.v (.bool r)) σ → EC Try.prog 74 [(.ag (Flat.cl a0)), (.ag (Arg.cl a1)), (.ag (Clock.cl a2))] σ K
def Sat_flat_fits (F : Flat → Arg → Clock → Option Bool) : Prop := ∀ (a0 : Flat) (a1 : Arg) (a2 : Clock) (r : Bool), F a0 a1 a2 = some r → Sp_flat_fits a0 a1 a2 r
def Sp_ref03_small (a0 : Int) (r : Bool) : Prop := ∀ (σ : Store) (K : PV → Store → Prop), K (.v (.bool r)) σ → EC Try.prog 86 [(.v (.int .u8 a0))] σ K
def Sat_ref03_small (F : Int → Option Bool) : Prop := ∀ (a0 : Int) (r : Bool), F a0 = some r → Sp_ref03_small a0 r
def Sp_ref03_digit (a0 : Int) (r : Bool) : Prop := ∀ (σ : Store) (K : PV → Store → Prop), K (.v (.bool r)) σ → EC Try.prog 87 [(.v (.int .u8 a0))] σ K
def Sat_ref03_digit (F : Int → Option Bool) : Prop := ∀ (a0 : Int) (r : Bool), F a0 = some r → Sp_ref03_digit a0 r
def Sp_ref03_Word (a0 : ByteArray) (r : Bool) : Prop := ∀ (σ : Store) (K : PV → Store → Prop), K (.v (.bool r)) σ → EC Try.prog 88 [(.v (.string a0))] σ K
def Sat_ref03_Word (F : ByteArray → Option Bool) : Prop := ∀ (a0 : ByteArray) (r : Bool), F a0 = some r → Sp_ref03_Word a0 r
def Sp_ref06_param (a0 : Node) (a1 : ByteArray) (r : Bool) : Prop := ∀ (σ : Store) (K : PV → Store → Prop), K (.v (.bool r)) σ → EC Try.prog 91 [(.ag (Node.cl a0)), (.v (.string a1))] σ K
def Sat_ref06_param (F : Node → ByteArray → Option Bool) : Prop := ∀ (a0 : Node) (a1 : ByteArray) (r : Bool), F a0 a1 = some r → Sp_ref06_param a0 a1 r
def Sp_clock_Apply (a0 : Clock) (a1 : Op) (r : (Clock × Int)) : Prop := ∀ (σ : Store) (K : PV → Store → Prop), K (.tu [(.ag (Clock.cl r.1)), (.v (.int .i64 r.2))]) σ → EC Try.prog 92 [(.ag (Clock.cl a0)), (.ag (Op.cl a1))] σ K
def Sat_clock_Apply (F : Clock → Op → Option (Clock × Int)) : Prop := ∀ (a0 : Clock) (a1 : Op) (r : (Clock × Int)), F a0 a1 = some r → Sp_clock_Apply a0 a1 r
def Sp_slices_IndexFunc_Node (a0 : (List Node)) (a1 : (Node → Option Bool)) (r : Int) : Prop := ∀ (σ : Store) (K : PV → Store → Prop) (fid1 : FuncId) (caps1 : List PV), (∀ (x0 : Node) (b : Bool), a1 x0 = some b → ∀ (s : Store) (K : PV → Store → Prop), Pre σ s → K (.v (.bool b)) s → EC Try.prog fid1 ((.ag [(.v (.string x0.name)), (.sl (List.map C_s x0.params)), (.v (.int .i64 x0.budget)), (.v (.int .i64 x0.body.kind)), (.v (.string x0.body.name)), (.v (.int .i64 x0.body.n)), (.v (.int .i64 x0.body.d)), (.sl (Expr.rows x0.body.args)), (.v (.int .i64 x0.body.at_)), (.v (.int .i64 x0.at_))]) :: caps1) s K) → K (.v (.int .i64 r)) σ → EC Try.prog 93 [(.sl (List.map Node.cl a0)), (.fn fid1 [] caps1)] σ K
def Sat_slices_IndexFunc_Node (F : (List Node) → (Node → Option Bool) → Option Int) : Prop := ∀ (a0 : (List Node)) (a1 : (Node → Option Bool)) (r : Int), F a0 a1 = some r → Sp_slices_IndexFunc_Node a0 a1 r
def Sp_flat_maker_number_c1 (a0 : Node) (a1 : Expr) (r : Bool) : Prop := ∀ (σ : Store) (K : PV → Store → Prop) (j1 : Nat), Gx σ j1 (AObj.box 39 (Expr.cl a1)) → K (.v (.bool r)) σ → EC Try.prog 94 [(.ag (Node.cl a0)), (.pt j1 0)] σ K
def Sat_flat_maker_number_c1 (F : Node → Expr → Option Bool) : Prop := ∀ (a0 : Node) (a1 : Expr) (r : Bool), F a0 a1 = some r → Sp_flat_maker_number_c1 a0 a1 r
def Sp_flat_way (a0 : ByteArray) (a1 : Int) (r : ByteArray) : Prop := ∀ (σ : Store) (K : PV → Store → Prop), K (.v (.string r)) σ → EC Try.prog 95 [(.v (.string a0)), (.v (.int .i64 a1))] σ K
def Sat_flat_way (F : ByteArray → Int → Option ByteArray) : Prop := ∀ (a0 : ByteArray) (a1 : Int) (r : ByteArray), F a0 a1 = some r → Sp_flat_way a0 a1 r
def Sp_slices_Clone_Op (a0 : (List Op)) (r : (List Op)) : Prop := ∀ (σ : Store) (K : PV → Store → Prop), K (.ow σ.length (List.map Op.cl r)) (σ ++ [some (tkO 119 3 (List.length r))]) → EC Try.prog 97 [(.sl (List.map Op.cl a0))] σ K
def Sat_slices_Clone_Op (F : (List Op) → Option (List Op)) : Prop := ∀ (a0 : (List Op)) (r : (List Op)), F a0 = some r → Sp_slices_Clone_Op a0 r
def Sp_ref08_source (a0 : Flat) (a1 : Int) (r : (Clock × Bool)) : Prop := ∀ (σ : Store) (K : PV → Store → Prop), K (.tu [(.ag (Clock.cl r.1)), (.v (.bool r.2))]) σ → EC Try.prog 98 [(.ag (Flat.cl a0)), (.v (.int .i64 a1))] σ K
def Sat_ref08_source (F : Flat → Int → Option (Clock × Bool)) : Prop := ∀ (a0 : Flat) (a1 : Int) (r : (Clock × Bool)), F a0 a1 = some r → Sp_ref08_source a0 a1 r
def Sp_ref02_All (a0 : Clock) (a1 : (List Op)) (r : (Clock × Int)) : Prop := ∀ (σ : Store) (K : PV → Store → Prop), K (.tu [(.ag (Clock.cl r.1)), (.v (.int .i64 r.2))]) σ → EC Try.prog 99 [(.ag (Clock.cl a0)), (.sl (List.map Op.cl a1))] σ K
def Sat_ref02_All (F : Clock → (List Op) → Option (Clock × Int)) : Prop := ∀ (a0 : Clock) (a1 : (List Op)) (r : (Clock × Int)), F a0 a1 = some r → Sp_ref02_All a0 a1 r
def Sp_slices_IndexFunc_Clock (a0 : (List Clock)) (a1 : (Clock → Option Bool)) (r : Int) : Prop := ∀ (σ : Store) (K : PV → Store → Prop) (fid1 : FuncId) (caps1 : List PV), (∀ (x0 : Clock) (b : Bool), a1 x0 = some b → ∀ (s : Store) (K : PV → Store → Prop), Pre σ s → K (.v (.bool b)) s → EC Try.prog fid1 ((.ag [(.v (.int .i64 x0.period)), (.v (.int .i64 x0.phase))]) :: caps1) s K) → K (.v (.int .i64 r)) σ → EC Try.prog 100 [(.sl (List.map Clock.cl a0)), (.fn fid1 [] caps1)] σ K
def Sat_slices_IndexFunc_Clock (F : (List Clock) → (Clock → Option Bool) → Option Int) : Prop := ∀ (a0 : (List Clock)) (a1 : (Clock → Option Bool)) (r : Int), F a0 a1 = some r → Sp_slices_IndexFunc_Clock a0 a1 r
def Sp_slices_IndexFunc_Task (a0 : (List Task)) (a1 : (Task → Option Bool)) (r : Int) : Prop := ∀ (σ : Store) (K : PV → Store → Prop) (fid1 : FuncId) (caps1 : List PV), (∀ (x0 : Task) (b : Bool), a1 x0 = some b → ∀ (s : Store) (K : PV → Store → Prop), Pre σ s → K (.v (.bool b)) s → EC Try.prog fid1 ((.ag [(.v (.int .i64 x0.node)), (.v (.int .i64 x0.clock.period)), (.v (.int .i64 x0.clock.phase)), (.sl (List.map Arg.cl x0.args))]) :: caps1) s K) → K (.v (.int .i64 r)) σ → EC Try.prog 101 [(.sl (List.map Task.cl a0)), (.fn fid1 [] caps1)] σ K
def Sat_slices_IndexFunc_Task (F : (List Task) → (Task → Option Bool) → Option Int) : Prop := ∀ (a0 : (List Task)) (a1 : (Task → Option Bool)) (r : Int), F a0 a1 = some r → Sp_slices_IndexFunc_Task a0 a1 r
def Sp_slices_ContainsFunc_Arg (a0 : (List Arg)) (a1 : (Arg → Option Bool)) (r : Bool) : Prop := ∀ (σ : Store) (K : PV → Store → Prop) (fid1 : FuncId) (caps1 : List PV), (∀ (x0 : Arg) (b : Bool), a1 x0 = some b → ∀ (s : Store) (K : PV → Store → Prop), Pre σ s → K (.v (.bool b)) s → EC Try.prog fid1 ((.ag [(.v (.int .i64 x0.src)), (.sl (List.map Op.cl x0.ops))]) :: caps1) s K) → K (.v (.bool r)) σ → EC Try.prog 102 [(.sl (List.map Arg.cl a0)), (.fn fid1 [] caps1)] σ K
def Sat_slices_ContainsFunc_Arg (F : (List Arg) → (Arg → Option Bool) → Option Bool) : Prop := ∀ (a0 : (List Arg)) (a1 : (Arg → Option Bool)) (r : Bool), F a0 a1 = some r → Sp_slices_ContainsFunc_Arg a0 a1 r
def Sp_flat_task_c1 (a0 : Arg) (a1 : Flat) (a2 : Task) (r : Bool) : Prop := ∀ (σ : Store) (K : PV → Store → Prop) (j1 : Nat) (j2 : Nat), Gx σ j1 (AObj.box 49 (Flat.cl a1)) → Gx σ j2 (AObj.box 61 (Task.cl a2)) → K (.v (.bool r)) σ → EC Try.prog 103 [(.ag (Arg.cl a0)), (.pt j1 0), (.pt j2 0)] σ K
def Sat_flat_task_c1 (F : Arg → Flat → Task → Option Bool) : Prop := ∀ (a0 : Arg) (a1 : Flat) (a2 : Task) (r : Bool), F a0 a1 a2 = some r → Sp_flat_task_c1 a0 a1 a2 r
def Sp_slices_IndexFunc_Tell (a0 : (List Tell)) (a1 : (Tell → Option Bool)) (r : Int) : Prop := ∀ (σ : Store) (K : PV → Store → Prop) (fid1 : FuncId) (caps1 : List PV), (∀ (x0 : Tell) (b : Bool), a1 x0 = some b → ∀ (s : Store) (K : PV → Store → Prop), Pre σ s → K (.v (.bool b)) s → EC Try.prog fid1 ((.ag [(.v (.int .i64 x0.clock.period)), (.v (.int .i64 x0.clock.phase)), (.v (.int .i64 x0.arg.src)), (.sl (List.map Op.cl x0.arg.ops)), (.v (.int .i64 x0.deadline))]) :: caps1) s K) → K (.v (.int .i64 r)) σ → EC Try.prog 104 [(.sl (List.map Tell.cl a0)), (.fn fid1 [] caps1)] σ K
def Sat_slices_IndexFunc_Tell (F : (List Tell) → (Tell → Option Bool) → Option Int) : Prop := ∀ (a0 : (List Tell)) (a1 : (Tell → Option Bool)) (r : Int), F a0 a1 = some r → Sp_slices_IndexFunc_Tell a0 a1 r
def Sp_clock_All (a0 : Clock) (a1 : (List Op)) (r : (Clock × Int)) : Prop := ∀ (σ : Store) (K : PV → Store → Prop), K (.tu [(.ag (Clock.cl r.1)), (.v (.int .i64 r.2))]) σ → EC Try.prog 105 [(.ag (Clock.cl a0)), (.sl (List.map Op.cl a1))] σ K
def Sat_clock_All (F : Clock → (List Op) → Option (Clock × Int)) : Prop := ∀ (a0 : Clock) (a1 : (List Op)) (r : (Clock × Int)), F a0 a1 = some r → Sp_clock_All a0 a1 r
def Sp_lex_Words  (r : (List ByteArray)) : Prop := ∀ (σ : Store) (K : PV → Store → Prop), K (.sl (List.map C_s r)) σ → EC Try.prog 122 [] σ K
def Sat_lex_Words (F : Option (List ByteArray)) : Prop := ∀ (r : (List ByteArray)), F = some r → Sp_lex_Words r
def Sp_clock_factor (a0 : Op) (r : Int) : Prop := ∀ (σ : Store) (K : PV → Store → Prop), K (.v (.int .i64 r)) σ → EC Try.prog 123 [(.ag (Op.cl a0))] σ K
def Sat_clock_factor (F : Op → Option Int) : Prop := ∀ (a0 : Op) (r : Int), F a0 = some r → Sp_clock_factor a0 r
def Sp_slices_IndexFunc_Arg (a0 : (List Arg)) (a1 : (Arg → Option Bool)) (r : Int) : Prop := ∀ (σ : Store) (K : PV → Store → Prop) (fid1 : FuncId) (caps1 : List PV), (∀ (x0 : Arg) (b : Bool), a1 x0 = some b → ∀ (s : Store) (K : PV → Store → Prop), Pre σ s → K (.v (.bool b)) s → EC Try.prog fid1 ((.ag [(.v (.int .i64 x0.src)), (.sl (List.map Op.cl x0.ops))]) :: caps1) s K) → K (.v (.int .i64 r)) σ → EC Try.prog 124 [(.sl (List.map Arg.cl a0)), (.fn fid1 [] caps1)] σ K
def Sat_slices_IndexFunc_Arg (F : (List Arg) → (Arg → Option Bool) → Option Int) : Prop := ∀ (a0 : (List Arg)) (a1 : (Arg → Option Bool)) (r : Int), F a0 a1 = some r → Sp_slices_IndexFunc_Arg a0 a1 r
def Sp_check_finder_fail_in_check_solver (a0 : qc) (a1 : Int) (a2 : Int) (r : (Unit × qc)) : Prop := ∀ (σ : Store) (K : PV → Store → Prop) (j0 : Nat) (j0_2 : Nat), Gx σ j0 (AObj.box 123 [(.v (.int .i64 a0.finder.at_)), (.v (.int .i64 a0.finder.e)), (.mp j0_2)]) → Gx σ j0_2 (AObj.map .s (mpF (fun v : Clock => (PV.ag [(.v (.int .i64 v.period)), (.v (.int .i64 v.phase))])) (Mp.get a0.known)) (Mp.n a0.known)) → K (.tu []) (List.set (List.set σ j0 (some (AObj.box 123 [(.v (.int .i64 r.2.finder.at_)), (.v (.int .i64 r.2.finder.e)), (.mp j0_2)]))) j0_2 (some (AObj.map .s (mpF (fun v : Clock => (PV.ag [(.v (.int .i64 v.period)), (.v (.int .i64 v.phase))])) (Mp.get r.2.known)) (Mp.n r.2.known)))) → EC Try.prog 49 [(.pt j0 0), (.v (.int .i64 a1)), (.v (.int .i64 a2))] σ K
def Sat_check_finder_fail_in_check_solver (F : qc → Int → Int → Option (Unit × qc)) : Prop := ∀ (a0 : qc) (a1 : Int) (a2 : Int) (r : (Unit × qc)), F a0 a1 a2 = some r → Sp_check_finder_fail_in_check_solver a0 a1 a2 r
def Sp_flat_maker_clock_vec (a0 : qh) (a1 : Arg) (a2 : (List Task)) (r : (Clock × Bool)) : Prop := ∀ (σ : Store) (K : PV → Store → Prop) (j0 : Nat) (j0_4 : Nat) (j0_5 : Nat) (j0_6 : Nat) (j2 : Nat), Gx σ j0 (AObj.box 130 [(.sl (List.map Node.cl a0.p.nodes)), (.sl (List.map Input.cl a0.p.inputs)), (.sl (List.map Flow.cl a0.p.flows)), (.sl (List.map Output.cl a0.p.outputs)), (.mp j0_4), (.ow j0_5 (List.map qj.cl a0.calls)), (.mp j0_6), (.v (.int .i64 a0.error)), (.v (.int .i64 a0.e))]) → Gx σ j0_4 (AObj.map .s (mpF (fun v : Int => (PV.v (.int .i64 v))) (Mp.get a0.flows)) (Mp.n a0.flows)) → Gx σ j0_5 (tkO 164 3 (List.length a0.calls)) → Gx σ j0_6 (AObj.map .s (mpF (fun v : Int => (PV.v (.int .i64 v))) (Mp.get a0.at_)) (Mp.n a0.at_)) → Gx σ j2 (vcO 61 4 (List.map Task.cl a2)) → K (.tu [(.ag (Clock.cl r.1)), (.v (.bool r.2))]) σ → EC Try.prog 96 [(.pt j0 0), (.ag (Arg.cl a1)), (.vc j2 (List.length a2))] σ K
def Sat_flat_maker_clock_vec (F : qh → Arg → (List Task) → Option (Clock × Bool)) : Prop := ∀ (a0 : qh) (a1 : Arg) (a2 : (List Task)) (r : (Clock × Bool)), F a0 a1 a2 = some r → Sp_flat_maker_clock_vec a0 a1 a2 r
def I64 (n : Int) : Prop := -9223372036854775808 ≤ n ∧ n < 9223372036854775808
def U8 (n : Int) : Prop := 0 ≤ n ∧ n < 256
inductive Expr.ok : Expr → Prop
 | mk {e : Expr} : I64 e.kind → ByteArray.size e.name ≤ 140737488351232 → I64 e.n → I64 e.d → List.length e.args * 72 ≤ 140737488351232 → (∀ y ∈ e.args, Expr.ok y) → I64 e.at_ → Expr.ok e
theorem Expr.ok.kind {e : Expr} (h : e.ok) : I64 e.kind := by cases h; first | assumption | (constructor <;> assumption)
theorem Expr.ok.name {e : Expr} (h : e.ok) : ByteArray.size e.name ≤ 140737488351232 := by cases h; first | assumption | (constructor <;> assumption)
theorem Expr.ok.n {e : Expr} (h : e.ok) : I64 e.n := by cases h; first | assumption | (constructor <;> assumption)
theorem Expr.ok.d {e : Expr} (h : e.ok) : I64 e.d := by cases h; first | assumption | (constructor <;> assumption)
theorem Expr.ok.args {e : Expr} (h : e.ok) : List.length e.args * 72 ≤ 140737488351232 ∧ ∀ y ∈ e.args, Expr.ok y := by cases h; first | assumption | (constructor <;> assumption)
theorem Expr.ok.at_ {e : Expr} (h : e.ok) : I64 e.at_ := by cases h; first | assumption | (constructor <;> assumption)
structure Node.ok (x : Node) : Prop where
 name : ByteArray.size x.name ≤ 140737488351232
 params : List.length x.params * 16 ≤ 140737488351232 ∧ ∀ y ∈ x.params, ByteArray.size y ≤ 140737488351232
 budget : I64 x.budget
 body : Expr.ok x.body
 at_ : I64 x.at_
structure Input.ok (x : Input) : Prop where
 name : ByteArray.size x.name ≤ 140737488351232
 period : I64 x.period
 phase : I64 x.phase
 at_ : I64 x.at_
structure Flow.ok (x : Flow) : Prop where
 name : ByteArray.size x.name ≤ 140737488351232
 e : Expr.ok x.e
 at_ : I64 x.at_
structure Output.ok (x : Output) : Prop where
 name : ByteArray.size x.name ≤ 140737488351232
 flow : ByteArray.size x.flow ≤ 140737488351232
 deadline : I64 x.deadline
 at_ : I64 x.at_
structure Program.ok (x : Program) : Prop where
 nodes : List.length x.nodes * 128 ≤ 140737488351232 ∧ ∀ y ∈ x.nodes, Node.ok y
 inputs : List.length x.inputs * 40 ≤ 140737488351232 ∧ ∀ y ∈ x.inputs, Input.ok y
 flows : List.length x.flows * 96 ≤ 140737488351232 ∧ ∀ y ∈ x.flows, Flow.ok y
 outputs : List.length x.outputs * 48 ≤ 140737488351232 ∧ ∀ y ∈ x.outputs, Output.ok y
theorem maxLen_lt : maxLen < 9223372036854775808 := by unfold maxLen; decide
theorem qT {V W : Type} {f : V → Option (V ⊕ W)} (st : Nat → V → Prop) (n : Nat) (Z : W → Prop) (step : ∀ i v, i < n → st i v → (∃ v', f v = some (.inl v') ∧ st (i + 1) v') ∨ ∃ r, f v = some (.inr r) ∧ Z r)
  (fin : ∀ v, st n v → ∃ r, f v = some (.inr r) ∧ Z r) {v0 : V} (h0 : st 0 v0) : ∃ r, qy f v0 = some r ∧ Z r := by
 have main : ∀ k i v, i + k = n → st i v → ∃ r, qy f v = some r ∧ Z r := by
  intro k;induction k with
  | zero =>
   intro i v hi h;obtain rfl : i = n := by omega
   obtain ⟨r, h1, h2⟩ := fin v h;exact ⟨r, QO h1, h2⟩
  | succ k ih =>
   intro i v hi h;rcases step i v (by omega) h with ⟨v', h1, h2⟩ | ⟨r, h1, h2⟩
   ·rw [YN h1];exact ih (i + 1) v' (by omega) h2
   ·exact ⟨r, QO h1, h2⟩
 exact main n 0 v0 (by omega) h0
theorem qx {α : Type} {xs : List α} {i : Nat} (h : i < xs.length) : qC xs (i : Int) = some xs[i] := by
 unfold qC;rw [if_pos (by omega), Int.toNat_natCast, List.getElem?_eq_getElem h]
theorem dlt {i n : Nat} (h : i < n) : decide ((i : Int) < (n : Int)) = true := decide_eq_true (by omega)
theorem dge (n : Nat) : decide ((n : Int) < (n : Int)) = false := decide_eq_false (by omega)
theorem zA {i n : Nat} (h : i < n) (hn : n ≤ maxLen) : IntKind.i64.wrap ((i : Int) + 1) = ((i + 1 : Nat) : Int) := wrap_inc h (Nat.lt_of_le_of_lt hn maxLen_lt)
section
variable {α β : Type} {P : α → β → Prop} {a : α} {b : β}
open Classical in
noncomputable def pick (P : α → β → Prop) (a : α) : Option β := if h : ∃ b, P a b then some (Classical.choose h) else none
theorem Qt (h : pick P a = some b) : P a b := by
 unfold pick at h;split at h
 ·rename_i hx;obtain rfl := Option.some.inj h;exact Classical.choose_spec hx
 ·cases h
theorem QM (h : ∃ b, P a b) : ∃ b, pick P a = some b ∧ P a b := ⟨_, by unfold pick; rw [dif_pos h], Classical.choose_spec h⟩
end
theorem JW (s : ByteArray) : s.data.toList.length = s.size := by rw [Array.length_toList]; rfl
theorem getB_at {s : ByteArray} {i : Nat} (h : i < s.size) : ∃ b : UInt8, getB s (i : Int) = some (b.toNat : Int) := by
 unfold getB;rw [if_pos (by omega), Int.toNat_natCast, List.getElem?_eq_getElem (by rw [JW]; exact h)];exact ⟨_, rfl⟩
theorem zT {n : Int} (h1 : -9223372036854775808 ≤ n) (h2 : n < 9223372036854775808) : IntKind.i64.wrap n = n := wrap_id h1 h2
theorem ml {n : Nat} (h : n ≤ 140737488351232) : n ≤ maxLen := by unfold maxLen; omega
theorem mlB {n B : Nat} (h : n * B ≤ 140737488351232) (hB : 0 < B) : n ≤ maxLen := ml (Nat.le_trans (Nat.le_mul_of_pos_right n hB) h)
theorem Expr.ok.nm {e : Expr} (h : e.ok) : e.name.size ≤ maxLen := ml h.name
theorem Expr.ok.len {e : Expr} (h : e.ok) : e.args.length ≤ maxLen := mlB h.args.1 (by omega)
theorem Expr.ok.arg {e : Expr} (h : e.ok) : ∀ x ∈ e.args, x.ok := h.args.2
theorem Expr.induct {p : Expr → Prop} (h : ∀ e, (∀ x ∈ e.args, p x) → p e) (e : Expr) : p e := Expr.ind (fun k s n d xs a ih => h ⟨k, s, n, d, xs, a⟩ ih) e
end Go.Proofs.Ytohmmfimedgccaa.E
end
section
namespace Go.Proofs.Ytohmmfimedgccaa.E
set_option maxRecDepth 100000
set_option maxHeartbeats 4000000
set_option linter.unusedVariables false
set_option linter.unusedSimpArgs false
noncomputable def B_ref03_small (a0 : Int) : Option Bool :=
 some ((decide ((97 : Int) ≤ a0)) && (decide (a0 ≤ (122 : Int))))
theorem W_ref03_small : Sat_ref03_small (B_ref03_small) := by
 intro a0 r h σ K hK;refine qW Try.func86 rfl rfl (by kernel_rfl) ?_;unfold B_ref03_small at h;have hP := Pre.refl σ;have E0 : qz [(.v (.int .u8 a0))] 0 = (.v (.int .u8 a0)) := rfl;have TT := cj2 Expr.rlen T_5;refine qd (w_x Expr.rlen ?_);refine qf (qk (fun e s => eB e 2 ((decide ((97 : Int) ≤ a0)) && (decide (a0 ≤ (122 : Int)))) ∧ Pre σ s) ?_ ?_)
 ·cases hb1 : (decide ((97 : Int) ≤ a0))
  ·refine w_x (cj3 E0 hb1 TT) ?_;exact qe ⟨(xv (cj3 E0 hb1 TT)), hP⟩
  ·refine w_x (cj3 E0 hb1 TT) ?_;exact qe ⟨(xv (cj3 E0 hb1 TT)), hP⟩
 rintro e s ⟨E2, hP⟩
 refine qp ?_;obtain rfl := qa h;exact qt (fun _ => rfl) (xr (rs := #[.tmp 2]) (cj2 E2 TT)) hP (.refl _) (.v _) hK
noncomputable def B_ref03_digit (a0 : Int) : Option Bool :=
 some ((decide ((48 : Int) ≤ a0)) && (decide (a0 ≤ (57 : Int))))
theorem W_ref03_digit : Sat_ref03_digit (B_ref03_digit) := by
 intro a0 r h σ K hK;refine qW Try.func87 rfl rfl (by kernel_rfl) ?_;unfold B_ref03_digit at h;have hP := Pre.refl σ;have E0 : qz [(.v (.int .u8 a0))] 0 = (.v (.int .u8 a0)) := rfl;have TT := cj2 Expr.rlen T_5;refine qd (w_x Expr.rlen ?_);refine qf (qk (fun e s => eB e 2 ((decide ((48 : Int) ≤ a0)) && (decide (a0 ≤ (57 : Int)))) ∧ Pre σ s) ?_ ?_)
 ·cases hb1 : (decide ((48 : Int) ≤ a0))
  ·refine w_x (cj3 E0 hb1 TT) ?_;exact qe ⟨(xv (cj3 E0 hb1 TT)), hP⟩
  ·refine w_x (cj3 E0 hb1 TT) ?_;exact qe ⟨(xv (cj3 E0 hb1 TT)), hP⟩
 rintro e s ⟨E2, hP⟩
 refine qp ?_;obtain rfl := qa h;exact qt (fun _ => rfl) (xr (rs := #[.tmp 2]) (cj2 E2 TT)) hP (.refl _) (.v _) hK
noncomputable def ZO (y1 : (List ByteArray)) (a0 : ByteArray) : Int → Option (Int ⊕ (Bool ⊕ Unit))
 | v5 =>
  if (decide (v5 < ((List.length y1 : Nat) : Int))) then
   ((qC y1 v5).bind fun y11 =>
   if (decide (y11 = a0)) then
    some (.inl true)
   else
    some (.inr ()) : Option (Bool ⊕ Unit)).bind fun x => match x with
   | .inl r => some (.inr (.inl r))
   | .inr _ =>
    some (.inl (IntKind.i64.wrap (v5 + (1 : Int))))
  else
   some (.inr (.inr ()))
noncomputable def B_ref03_Word (f0 : Option (List ByteArray)) (a0 : ByteArray) : Option Bool :=
 (f0).bind fun y1 =>
 (qy (ZO y1 a0) (0 : Int) : Option (Bool ⊕ Unit)).bind fun x => match x with
 | .inl r => some r
 | .inr _ =>
  some false
theorem W_ref03_Word (f0) (S0 : Sat_lex_Words f0) : Sat_ref03_Word (B_ref03_Word f0) := by
 intro a0 r h σ K hK;refine qW Try.func88 rfl rfl (by kernel_rfl) ?_;unfold B_ref03_Word at h;have hP := Pre.refl σ;have E0 : qz [(.v (.string a0))] 0 = (.v (.string a0)) := rfl;have TT := cj4 Expr.rlen T_3 T_9 T_97;refine qd (w_x Expr.rlen ?_);refine qf (qd ?_);obtain ⟨y1, h2, h⟩ := qb h;refine w_x Expr.rlen ?_;refine S0 _ h2 _ _  ?_;refine w_y Expr.rlen ?_;refine qf (ql (qd (w_x Expr.rlen ?_)));refine qf ?_;obtain ⟨x3, h4, h⟩ := qb h;refine qk (fun e s => .inr () = x3 ∧ Pre σ s) ?_ ?_
 ·refine qn (qH h4 (fun v e s => ∃ v5, v5 = v ∧ eT e 0 a0 ∧ eS e 3 C_s y1 ∧ eI e 4 v5 ∧ Pre σ s) ⟨_, WkE.refl _, _, rfl, E0, (xv TT), (xv TT), hP⟩ ?_)
  rintro v x6 e s hf7 ⟨v5, rfl, E0, E3, E4, hP⟩
  unfold ZO at hf7;(try dsimp only at hf7);refine ql (qd (w_x (cj3 E3 E4 TT) ?_));refine qf (qd ?_);rcases qi hf7 with ⟨hb8, hf7⟩ | ⟨hb8, hf7⟩
  ·refine xt hb8 (qm (qf ?_));obtain ⟨x9, h10, hf7⟩ := qb hf7;refine qk (fun e s => .inr () = x9 ∧ eT e 0 a0 ∧ eS e 3 C_s y1 ∧ eI e 4 v5 ∧ Pre σ s) ?_ ?_
   ·refine qn (qd ?_);obtain ⟨y11, h12, h10⟩ := qb h10;have R13 : (List.map C_s y1)[(v5).toNat]? = some [(.v (.string y11))] := qA (qg h12).2;refine w_x (cj6 E0 E3 E4 R13 (qg h12).1 TT) ?_;refine qf ?_;rcases qi h10 with ⟨hb14, h10⟩ | ⟨hb14, h10⟩
    ·refine xt hb14 (qd (w_x Expr.rlen ?_));refine qf (qp (qw ?_));obtain rfl := qa h10;refine qB ?_;(try dsimp only at hf7);obtain rfl := qa hf7;refine zv rfl fun hr15 => ?_;obtain rfl := hr15;refine qw (qB ?_);(try dsimp only at h);obtain rfl := qa h;exact qt (fun _ => rfl) (xr (rs := #[.tmp 2]) TT) hP (.refl _) (.v _) hK
    ·refine xf hb14 (qm (qQ ?_));obtain rfl := qa h10;exact qe ⟨rfl, E0, E3, E4, hP⟩
   rintro e s ⟨rfl, E0, E3, E4, hP⟩
   (try dsimp only at hf7);refine w_x (cj2 E4 TT) ?_;obtain rfl := qa hf7;exact qZ rfl ⟨_, rfl, E0, E3, (xv (cj2 E4 TT)), hP⟩
  ·refine xf hb8 (qE (qM ?_));obtain rfl := qa hf7;refine qY rfl fun hr16 => ?_;obtain rfl := hr16;exact qK (qe ⟨rfl, hP⟩)
 rintro e s ⟨rfl, hP⟩
 (try dsimp only at h);refine qd (w_x Expr.rlen ?_);refine qf (qp ?_);obtain rfl := qa h;exact qt (fun _ => rfl) (xr (rs := #[.tmp 2]) TT) hP (.refl _) (.v _) hK
def qqm : (List ByteArray) := [(⟨#[110, 111, 100, 101]⟩ : ByteArray), (⟨#[98, 117, 100, 103, 101, 116]⟩ : ByteArray), (⟨#[105, 110, 112, 117, 116]⟩ : ByteArray), (⟨#[112, 101, 114, 105, 111, 100]⟩ : ByteArray), (⟨#[112, 104, 97, 115, 101]⟩ : ByteArray), (⟨#[102, 108, 111, 119]⟩ : ByteArray), (⟨#[102, 98, 121]⟩ : ByteArray), (⟨#[116, 97, 105, 108]⟩ : ByteArray), (⟨#[111, 117, 116, 112, 117, 116]⟩ : ByteArray), (⟨#[100, 101, 97, 100, 108, 105, 110, 101]⟩ : ByteArray)]
noncomputable def B_lex_Words : Option (List ByteArray) :=
 some qqm
theorem W_lex_Words : Sat_lex_Words (B_lex_Words) := by
 intro r h σ K hK;refine qW Try.func122 rfl rfl (by kernel_rfl) ?_;unfold B_lex_Words at h;have hP := Pre.refl σ;have TT := cj3 Expr.rlen T_9 T_97;refine qd (w_x Expr.rlen ?_);refine qf (qd (w_x TT ?_));refine qf (qp ?_);obtain rfl := qa h;exact qt (fun _ => rfl) (xr (rs := #[.tmp 0]) TT) hP (Wk.of_eq rfl) (Cn.rows (fun _ => CnL.cons (.v _) CnL.nil) _) hK
noncomputable def zW (a0 : ByteArray) (f1 : Int → Option Bool) (f0 : Int → Option Bool) : Int → Option (Int ⊕ (Bool ⊕ Unit))
 | v3 =>
  if (decide (v3 < ((ByteArray.size a0 : Nat) : Int))) then
   ((getB a0 v3).bind fun y9 =>
   (f0 y9).bind fun y11 =>
   (if (!y11) then
    (if (decide (v3 = (0 : Int))) then
     some false
    else
     (f1 y9).bind fun y13 =>
     some ((!y13) && (!decide (y9 = (95 : Int))))).bind fun w15 =>
    some ((decide (v3 = (0 : Int))) || w15)
   else
    some false).bind fun w17 =>
   if ((!y11) && w17) then
    some (.inl false)
   else
    some (.inr ()) : Option (Bool ⊕ Unit)).bind fun x => match x with
   | .inl r => some (.inr (.inl r))
   | .inr _ =>
    some (.inl (IntKind.i64.wrap (v3 + (1 : Int))))
  else
   some (.inr (.inr ()))
noncomputable def B_ref03_Right (f0 : Int → Option Bool) (f1 : Int → Option Bool) (f2 : ByteArray → Option Bool) (a0 : ByteArray) : Option Bool :=
 (qy (zW a0 f1 f0) (0 : Int) : Option (Bool ⊕ Unit)).bind fun x => match x with
 | .inl r => some r
 | .inr _ =>
  (if ((!decide (a0 = (⟨#[]⟩ : ByteArray))) && (decide (((ByteArray.size a0 : Nat) : Int) ≤ (100 : Int)))) then
   (f2 a0).bind fun y26 =>
   some (!y26)
  else
   some false).bind fun w28 =>
  some (((!decide (a0 = (⟨#[]⟩ : ByteArray))) && (decide (((ByteArray.size a0 : Nat) : Int) ≤ (100 : Int)))) && w28)
theorem W_ref03_Right (f0 f1 f2) (S0 : Sat_ref03_small f0) (S1 : Sat_ref03_digit f1) (S2 : Sat_ref03_Word f2) : Sat_ref03_Right (B_ref03_Right f0 f1 f2) := by
 intro a0 r h σ K hK;refine qW Try.func38 rfl rfl (by kernel_rfl) ?_;unfold B_ref03_Right at h;have hP := Pre.refl σ;have E0 : qz [(.v (.string a0))] 0 = (.v (.string a0)) := rfl;have TT := cj4 Expr.rlen T_3 T_5 T_9;refine qd (w_x Expr.rlen ?_);refine qf (ql (qd (w_x Expr.rlen ?_)));refine qf ?_;obtain ⟨x1, h2, h⟩ := qb h;refine qk (fun e s => .inr () = x1 ∧ eT e 0 a0 ∧ Pre σ s) ?_ ?_
 ·refine qn (qH h2 (fun v e s => ∃ v3, v3 = v ∧ eT e 0 a0 ∧ eI e 3 v3 ∧ Pre σ s) ⟨_, WkE.refl _, _, rfl, E0, (xv TT), hP⟩ ?_)
  rintro v x4 e s hf5 ⟨v3, rfl, E0, E3, hP⟩
  unfold zW at hf5;(try dsimp only at hf5);refine ql (qd (w_x (cj3 E0 E3 TT) ?_));refine qf (qd ?_);rcases qi hf5 with ⟨hb6, hf5⟩ | ⟨hb6, hf5⟩
  ·refine xt hb6 (qm (qf ?_));obtain ⟨x7, h8, hf5⟩ := qb hf5;refine qk (fun e s => .inr () = x7 ∧ eT e 0 a0 ∧ eI e 3 v3 ∧ Pre σ s) ?_ ?_
   ·refine qn ?_;obtain ⟨y9, h10, h8⟩ := qb h8;obtain ⟨y11, h12, h8⟩ := qb h8;obtain ⟨w17, h18, h8⟩ := qb h8;refine qk (fun e s => eT e 0 a0 ∧ eI e 3 v3 ∧ eB e 31 ((!y11) && w17) ∧ Pre σ s) ?_ ?_
    ·obtain ⟨k19a, k19b, k19c, k19d⟩ := getB_some h10;cases hb20 : (!y11)
     ·replace h18 := qU (by simp only [hb20, Bool.or_true, Bool.true_or, Bool.or_false, Bool.false_or, Bool.and_true, Bool.true_and, Bool.and_false, Bool.false_and, Bool.not_true, Bool.not_false, cond_true, cond_false]) h18;obtain rfl := qa h18;have q1 := cj7 E0 E3 k19a k19c k19d hb20 TT;refine w_x q1 ?_;refine S0 _ _ h12 _ _  ?_;refine w_y q1 ?_;exact qe ⟨E0, E3, (xv q1), hP⟩
     ·replace h18 := qO (by simp only [hb20, Bool.or_true, Bool.true_or, Bool.or_false, Bool.false_or, Bool.and_true, Bool.true_and, Bool.and_false, Bool.false_and, Bool.not_true, Bool.not_false, cond_true, cond_false]) h18;obtain ⟨w15, h16, h18⟩ := qb h18;obtain rfl := qa h18;cases hb21 : (decide (v3 = (0 : Int)))
      ·replace h16 := qU (by simp only [hb20, hb21, Bool.or_true, Bool.true_or, Bool.or_false, Bool.false_or, Bool.and_true, Bool.true_and, Bool.and_false, Bool.false_and, Bool.not_true, Bool.not_false, cond_true, cond_false]) h16;obtain ⟨y13, h14, h16⟩ := qb h16;obtain rfl := qa h16;cases hb22 : (!y13)
       ·have q2 := cj9 E0 E3 k19a k19c k19d hb20 hb21 hb22 TT;refine w_x q2 ?_;refine S0 _ _ h12 _ _  ?_;refine w_y q2 ?_;refine S1 _ _ h14 _ _  ?_;refine w_y q2 ?_;exact qe ⟨E0, E3, (xv q2), hP⟩
       ·have q3 := cj9 E0 E3 k19a k19c k19d hb20 hb21 hb22 TT;refine w_x q3 ?_;refine S0 _ _ h12 _ _  ?_;refine w_y q3 ?_;refine S1 _ _ h14 _ _  ?_;refine w_y q3 ?_;exact qe ⟨E0, E3, (xv q3), hP⟩
      ·replace h16 := qO (by simp only [hb20, hb21, Bool.or_true, Bool.true_or, Bool.or_false, Bool.false_or, Bool.and_true, Bool.true_and, Bool.and_false, Bool.false_and, Bool.not_true, Bool.not_false, cond_true, cond_false]) h16;obtain rfl := qa h16;have q4 := cj8 E0 E3 k19a k19c k19d hb20 hb21 TT;refine w_x q4 ?_;refine S0 _ _ h12 _ _  ?_;refine w_y q4 ?_;exact qe ⟨E0, E3, (xv q4), hP⟩
    rintro e s ⟨E0, E3, E31, hP⟩
    rcases qi h8 with ⟨hb23, h8⟩ | ⟨hb23, h8⟩
    ·refine xt (cj2 E31 hb23) (qd (w_x Expr.rlen ?_));refine qf (qp (qw ?_));obtain rfl := qa h8;refine qB ?_;(try dsimp only at hf5);obtain rfl := qa hf5;refine zv rfl fun hr24 => ?_;obtain rfl := hr24;refine qw (qB ?_);(try dsimp only at h);obtain rfl := qa h;exact qt (fun _ => rfl) (xr (rs := #[.tmp 2]) TT) hP (.refl _) (.v _) hK
    ·refine xf (cj2 E31 hb23) (qm (qQ ?_));obtain rfl := qa h8;exact qe ⟨rfl, E0, E3, hP⟩
   rintro e s ⟨rfl, E0, E3, hP⟩
   (try dsimp only at hf5);refine w_x (cj2 E3 TT) ?_;obtain rfl := qa hf5;exact qZ rfl ⟨_, rfl, E0, (xv (cj2 E3 TT)), hP⟩
  ·refine xf hb6 (qE (qM ?_));obtain rfl := qa hf5;refine qY rfl fun hr25 => ?_;obtain rfl := hr25;exact qK (qe ⟨rfl, E0, hP⟩)
 rintro e s ⟨rfl, E0, hP⟩
 (try dsimp only at h);obtain ⟨w28, h29, h⟩ := qb h;refine qk (fun e s => eB e 2 (((!decide (a0 = (⟨#[]⟩ : ByteArray))) && (decide (((ByteArray.size a0 : Nat) : Int) ≤ (100 : Int)))) && w28) ∧ Pre σ s) ?_ ?_
 ·cases hb30 : (!decide (a0 = (⟨#[]⟩ : ByteArray)))
  ·replace h29 := qU (by simp only [hb30, Bool.or_true, Bool.true_or, Bool.or_false, Bool.false_or, Bool.and_true, Bool.true_and, Bool.and_false, Bool.false_and, Bool.not_true, Bool.not_false, cond_true, cond_false]) h29;obtain rfl := qa h29;refine w_x (cj3 E0 hb30 TT) ?_;exact qe ⟨(xv (cj3 E0 hb30 TT)), hP⟩
  ·cases hb31 : (decide (((ByteArray.size a0 : Nat) : Int) ≤ (100 : Int)))
   ·replace h29 := qU (by simp only [hb30, hb31, Bool.or_true, Bool.true_or, Bool.or_false, Bool.false_or, Bool.and_true, Bool.true_and, Bool.and_false, Bool.false_and, Bool.not_true, Bool.not_false, cond_true, cond_false]) h29;obtain rfl := qa h29;refine w_x (cj4 E0 hb30 hb31 TT) ?_;exact qe ⟨(xv (cj4 E0 hb30 hb31 TT)), hP⟩
   ·replace h29 := qO (by simp only [hb30, hb31, Bool.or_true, Bool.true_or, Bool.or_false, Bool.false_or, Bool.and_true, Bool.true_and, Bool.and_false, Bool.false_and, Bool.not_true, Bool.not_false, cond_true, cond_false]) h29;obtain ⟨y26, h27, h29⟩ := qb h29;obtain rfl := qa h29;have q5 := cj4 E0 hb30 hb31 TT;refine w_x q5 ?_;refine S2 _ _ h27 _ _  ?_;refine w_y q5 ?_;exact qe ⟨(xv q5), hP⟩
 rintro e s ⟨E2, hP⟩
 refine qp ?_;obtain rfl := qa h;exact qt (fun _ => rfl) (xr (rs := #[.tmp 2]) (cj2 E2 TT)) hP (.refl _) (.v _) hK
noncomputable def B_ref04_number (a0 : Int) (a1 : Int) (a2 : Int) : Option Bool :=
 some ((decide (a1 ≤ a0)) && (decide (a0 ≤ a2)))
theorem W_ref04_number : Sat_ref04_number (B_ref04_number) := by
 intro a0 a1 a2 r h σ K hK;refine qW Try.func39 rfl rfl (by kernel_rfl) ?_;unfold B_ref04_number at h;have hP := Pre.refl σ;have E0 : qz [(.v (.int .i64 a0)), (.v (.int .i64 a1)), (.v (.int .i64 a2))] 0 = (.v (.int .i64 a0)) := rfl;have E1 : qz [(.v (.int .i64 a0)), (.v (.int .i64 a1)), (.v (.int .i64 a2))] 1 = (.v (.int .i64 a1)) := rfl;have E2 : qz [(.v (.int .i64 a0)), (.v (.int .i64 a1)), (.v (.int .i64 a2))] 2 = (.v (.int .i64 a2)) := rfl;have TT := cj2 Expr.rlen T_2;refine qd (w_x Expr.rlen ?_);refine qf (qk (fun e s => eB e 6 ((decide (a1 ≤ a0)) && (decide (a0 ≤ a2))) ∧ Pre σ s) ?_ ?_)
 ·cases hb1 : (decide (a1 ≤ a0))
  ·refine w_x (cj5 E0 E1 E2 hb1 TT) ?_;exact qe ⟨(xv (cj5 E0 E1 E2 hb1 TT)), hP⟩
  ·refine w_x (cj5 E0 E1 E2 hb1 TT) ?_;exact qe ⟨(xv (cj5 E0 E1 E2 hb1 TT)), hP⟩
 rintro e s ⟨E6, hP⟩
 refine qp ?_;obtain rfl := qa h;exact qt (fun _ => rfl) (xr (rs := #[.tmp 6]) (cj2 E6 TT)) hP (.refl _) (.v _) hK
noncomputable def ZL (a0 : Expr) (a1 : Int) (f0 : Expr → Int → Option Int) : (Int × Int) → Option ((Int × Int) ⊕ Int)
 | (v4, v5) =>
  if ((decide (v5 < ((List.length a0.args : Nat) : Int))) && (decide (v4 ≤ a1))) then
   ((qC a0.args v5).bind fun y13 =>
   (f0 y13 (IntKind.i64.wrap (a1 - v4))).bind fun y15 =>
   some (IntKind.i64.wrap (v4 + y15)) : Option Int).bind fun v12 =>
   some (.inl (v12, (IntKind.i64.wrap (v5 + (1 : Int)))))
  else
   some (.inr v4)
noncomputable def B_ref04_Size (f0 : Expr → Int → Option Int) (a0 : Expr) (a1 : Int) : Option Int :=
 (qy (ZL a0 a1 f0) ((1 : Int), (0 : Int)) : Option Int).bind fun v3 =>
 some v3
theorem W_ref04_Size (f0) (S0 : Sat_ref04_Size f0) : Sat_ref04_Size (B_ref04_Size f0) := by
 intro a0 a1 r h σ K hK;refine qW Try.func40 rfl rfl (by kernel_rfl) ?_;unfold B_ref04_Size at h;have hP := Pre.refl σ;have E0 : qz [(.ag (Expr.cl a0)), (.v (.int .i64 a1))] 0 = (.ag (Expr.cl a0)) := rfl;have E1 : qz [(.ag (Expr.cl a0)), (.v (.int .i64 a1))] 1 = (.v (.int .i64 a1)) := rfl;have TT := cj7 Expr.cle Expr.rlen T_2 T_3 T_37 T_39 T_9;refine qk (fun e s => ∃ i2 : Nat, Bx σ s i2 39 (Expr.cl a0) ∧ eI e 1 a1 ∧ eP e 2 i2 ∧ Pre σ s) ?_ ?_
 ·refine w_x (cj2 E0 TT) ?_;exact qe ⟨σ.length, (Bx.new hP _ _), E1, (xv (cj2 E0 TT)), (hP.app _)⟩
 rintro e s ⟨i2, X2, E1, E2, hP⟩
 refine qd (w_x Expr.rlen ?_);refine qf (ql (qd (w_x Expr.rlen ?_)));refine qf ?_;obtain ⟨x1, h2, h⟩ := qb h;refine qk (fun e s => ∃ v3, v3 = x1 ∧ eI e 5 v3 ∧ Pre σ s) ?_ ?_
 ·refine qn (qH h2 (fun v e s => ∃ v4 v5, (v4, v5) = v ∧ Bx σ s i2 39 (Expr.cl a0) ∧ eI e 1 a1 ∧ eP e 2 i2 ∧ eI e 5 v4 ∧ eI e 6 v5 ∧ Pre σ s) ⟨_, WkE.refl _, _, _, rfl, X2, E1, E2, (xv TT), (xv TT), hP⟩ ?_)
  rintro v x6 e s hf7 ⟨v4, v5, rfl, X2, E1, E2, E5, E6, hP⟩
  unfold ZL at hf7;(try dsimp only at hf7);refine ql (qk (fun e s => Bx σ s i2 39 (Expr.cl a0) ∧ eI e 1 a1 ∧ eP e 2 i2 ∧ eI e 5 v4 ∧ eI e 6 v5 ∧ eB e 16 ((decide (v5 < ((List.length a0.args : Nat) : Int))) && (decide (v4 ≤ a1))) ∧ Pre σ s) ?_ ?_)
  ·cases hb8 : (decide (v5 < ((List.length a0.args : Nat) : Int)))
   ·have q1 := cj7 E1 E2 E5 E6 X2.get hb8 TT;refine w_x q1 ?_;exact qe ⟨X2, E1, E2, E5, E6, (xv q1), hP⟩
   ·have q2 := cj7 E1 E2 E5 E6 X2.get hb8 TT;refine w_x q2 ?_;exact qe ⟨X2, E1, E2, E5, E6, (xv q2), hP⟩
  rintro e s ⟨X2, E1, E2, E5, E6, E16, hP⟩
  refine qd ?_;rcases qi hf7 with ⟨hb9, hf7⟩ | ⟨hb9, hf7⟩
  ·refine xt (cj2 E16 hb9) (qm (qf ?_));obtain ⟨x10, h11, hf7⟩ := qb hf7;refine qk (fun e s => ∃ v12, v12 = x10 ∧ Bx σ s i2 39 (Expr.cl a0) ∧ eI e 1 a1 ∧ eP e 2 i2 ∧ eI e 5 v12 ∧ eI e 6 v5 ∧ Pre σ s) ?_ ?_
   ·refine qn ?_;obtain ⟨y13, h14, h11⟩ := qb h11;obtain ⟨y15, h16, h11⟩ := qb h11;have R17 : (Expr.rows a0.args)[(v5).toNat]? = some (Expr.cl y13) := Expr.rget (qg h14).2;have q3 := cj8 E1 E2 E5 E6 X2.get R17 (qg h14).1 TT;refine w_x q3 ?_;refine S0 _ _ _ h16 _ _  ?_;refine w_y q3 ?_;refine qQ ?_;obtain rfl := qa h11;exact qe ⟨_, rfl, X2, E1, E2, (xv q3), E6, hP⟩
   rintro e s ⟨v12, rfl, X2, E1, E2, E5, E6, hP⟩
   (try dsimp only at hf7);refine w_x (cj2 E6 TT) ?_;obtain rfl := qa hf7;exact qZ rfl ⟨_, _, rfl, X2, E1, E2, E5, (xv (cj2 E6 TT)), hP⟩
  ·refine xf (cj2 E16 hb9) (qE (qM ?_));obtain rfl := qa hf7;refine qY rfl fun hr18 => ?_;obtain rfl := hr18;exact qK (qe ⟨_, rfl, E5, hP⟩)
 rintro e s ⟨v3, rfl, E5, hP⟩
 (try dsimp only at h);refine qd (w_x (cj2 E5 TT) ?_);refine qf (qp ?_);obtain rfl := qa h;exact qt (fun _ => rfl) (xr (rs := #[.tmp 4]) TT) hP (.refl _) (.v _) hK
noncomputable def Zm (a0 : Expr) (a1 : Int) (f0 : Expr → Int → Option Int) : (Int × Int) → Option ((Int × Int) ⊕ Int)
 | (v5, v6) =>
  if (decide (v6 < ((List.length a0.args : Nat) : Int))) then
   ((qC a0.args v6).bind fun y13 =>
   (f0 y13 (IntKind.i64.wrap (a1 - (1 : Int)))).bind fun y15 =>
   some (if v5 < y15 then y15 else v5) : Option Int).bind fun v12 =>
   some (.inl (v12, (IntKind.i64.wrap (v6 + (1 : Int)))))
  else
   some (.inr v5)
noncomputable def B_ref04_Depth (f0 : Expr → Int → Option Int) (a0 : Expr) (a1 : Int) : Option Int :=
 if (decide (a1 = (0 : Int))) then
  some (0 : Int)
 else
  (qy (Zm a0 a1 f0) ((0 : Int), (0 : Int)) : Option Int).bind fun v4 =>
  some (IntKind.i64.wrap (v4 + (1 : Int)))
theorem W_ref04_Depth (f0) (S0 : Sat_ref04_Depth f0) : Sat_ref04_Depth (B_ref04_Depth f0) := by
 intro a0 a1 r h σ K hK;refine qW Try.func41 rfl rfl (by kernel_rfl) ?_;unfold B_ref04_Depth at h;have hP := Pre.refl σ;have E0 : qz [(.ag (Expr.cl a0)), (.v (.int .i64 a1))] 0 = (.ag (Expr.cl a0)) := rfl;have E1 : qz [(.ag (Expr.cl a0)), (.v (.int .i64 a1))] 1 = (.v (.int .i64 a1)) := rfl;have TT := cj7 Expr.cle Expr.rlen T_2 T_3 T_37 T_39 T_9;refine qk (fun e s => ∃ i2 : Nat, Bx σ s i2 39 (Expr.cl a0) ∧ eI e 1 a1 ∧ eP e 2 i2 ∧ Pre σ s) ?_ ?_
 ·refine w_x (cj2 E0 TT) ?_;exact qe ⟨σ.length, (Bx.new hP _ _), E1, (xv (cj2 E0 TT)), (hP.app _)⟩
 rintro e s ⟨i2, X2, E1, E2, hP⟩
 refine ql (qd (w_x (cj2 E1 TT) ?_));refine qf (qd ?_);rcases qi h with ⟨hb1, h⟩ | ⟨hb1, h⟩
 ·refine xt hb1 (qd (w_x Expr.rlen ?_));refine qf (qp (zd ?_));obtain rfl := qa h;exact qt (fun _ => rfl) (xr (rs := #[.tmp 4]) TT) hP (.refl _) (.v _) hK
 ·refine xf hb1 (qm (qf (qd (w_x Expr.rlen ?_))));refine qf (ql (qd (w_x Expr.rlen ?_)));refine qf ?_;obtain ⟨x2, h3, h⟩ := qb h;refine qk (fun e s => ∃ v4, v4 = x2 ∧ eI e 5 v4 ∧ Pre σ s) ?_ ?_
  ·refine qn (qH h3 (fun v e s => ∃ v5 v6, (v5, v6) = v ∧ Bx σ s i2 39 (Expr.cl a0) ∧ eI e 1 a1 ∧ eP e 2 i2 ∧ eI e 5 v5 ∧ eI e 6 v6 ∧ Pre σ s) ⟨_, WkE.refl _, _, _, rfl, X2, E1, E2, (xv TT), (xv TT), hP⟩ ?_)
   rintro v x7 e s hf8 ⟨v5, v6, rfl, X2, E1, E2, E5, E6, hP⟩
   unfold Zm at hf8;(try dsimp only at hf8);refine ql (qd (w_x (cj4 E2 E6 X2.get TT) ?_));refine qf (qd ?_);rcases qi hf8 with ⟨hb9, hf8⟩ | ⟨hb9, hf8⟩
   ·refine xt hb9 (qm (qf ?_));obtain ⟨x10, h11, hf8⟩ := qb hf8;refine qk (fun e s => ∃ v12, v12 = x10 ∧ Bx σ s i2 39 (Expr.cl a0) ∧ eI e 1 a1 ∧ eP e 2 i2 ∧ eI e 5 v12 ∧ eI e 6 v6 ∧ Pre σ s) ?_ ?_
    ·refine qn ?_;obtain ⟨y13, h14, h11⟩ := qb h11;obtain ⟨y15, h16, h11⟩ := qb h11;have R17 : (Expr.rows a0.args)[(v6).toNat]? = some (Expr.cl y13) := Expr.rget (qg h14).2;have q1 := cj8 E1 E2 E5 E6 X2.get R17 (qg h14).1 TT;refine w_x q1 ?_;refine S0 _ _ _ h16 _ _  ?_;refine w_y q1 ?_;refine qQ ?_;obtain rfl := qa h11;exact qe ⟨_, rfl, X2, E1, E2, (xv q1), E6, hP⟩
    rintro e s ⟨v12, rfl, X2, E1, E2, E5, E6, hP⟩
    (try dsimp only at hf8);refine w_x (cj2 E6 TT) ?_;obtain rfl := qa hf8;exact qZ rfl ⟨_, _, rfl, X2, E1, E2, E5, (xv (cj2 E6 TT)), hP⟩
   ·refine xf hb9 (qE (qM ?_));obtain rfl := qa hf8;refine qY rfl fun hr18 => ?_;obtain rfl := hr18;exact qK (qe ⟨_, rfl, E5, hP⟩)
  rintro e s ⟨v4, rfl, E5, hP⟩
  (try dsimp only at h);refine qd (w_x (cj2 E5 TT) ?_);refine qf (qp ?_);obtain rfl := qa h;exact qt (fun _ => rfl) (xr (rs := #[.tmp 4]) TT) hP (.refl _) (.v _) hK
def Qz : (List ByteArray) := [(⟨#[43]⟩ : ByteArray), (⟨#[45]⟩ : ByteArray), (⟨#[42]⟩ : ByteArray), (⟨#[47]⟩ : ByteArray), (⟨#[37]⟩ : ByteArray), (⟨#[60]⟩ : ByteArray), (⟨#[61, 61]⟩ : ByteArray)]
noncomputable def QL (a0 : Expr) : Int → Option (Int ⊕ (Bool ⊕ Unit))
 | v37 =>
  if (decide (v37 < ((List.length Qz : Nat) : Int))) then
   ((qC Qz v37).bind fun y43 =>
   if (decide (y43 = a0.name)) then
    some (.inl (decide (((List.length a0.args : Nat) : Int) = (2 : Int))))
   else
    some (.inr ()) : Option (Bool ⊕ Unit)).bind fun x => match x with
   | .inl r => some (.inr (.inl r))
   | .inr _ =>
    some (.inl (IntKind.i64.wrap (v37 + (1 : Int))))
  else
   some (.inr (.inr ()))
noncomputable def ZN (a0 : Expr) (f2 : Expr → Option Bool) : Int → Option (Int ⊕ (Bool ⊕ Unit))
 | v3 =>
  if (decide (v3 < ((List.length a0.args : Nat) : Int))) then
   ((qC a0.args v3).bind fun y9 =>
   (f2 y9).bind fun y11 =>
   if (!y11) then
    some (.inl false)
   else
    some (.inr ()) : Option (Bool ⊕ Unit)).bind fun x => match x with
   | .inl r => some (.inr (.inl r))
   | .inr _ =>
    some (.inl (IntKind.i64.wrap (v3 + (1 : Int))))
  else
   some (.inr (.inr ()))
noncomputable def B_ref04_Body (f0 : ByteArray → Option Bool) (f1 : Int → Int → Int → Option Bool) (f2 : Expr → Option Bool) (a0 : Expr) : Option Bool :=
 (qy (ZN a0 f2) (0 : Int) : Option (Bool ⊕ Unit)).bind fun x => match x with
 | .inl r => some r
 | .inr _ =>
  if (!decide (a0.d = (0 : Int))) then
   some false
  else
   (if (decide (a0.kind = (11 : Int))) then
    (f0 a0.name).bind fun y21 =>
    some (.inl ((y21 && (decide (((List.length a0.args : Nat) : Int) = (0 : Int)))) && (decide (a0.n = (0 : Int)))))
   else
    if (decide (a0.kind = (12 : Int))) then
     (if ((decide (a0.name = (⟨#[]⟩ : ByteArray))) && (decide (((List.length a0.args : Nat) : Int) = (0 : Int)))) then
      (f1 a0.n (0 : Int) (1000000000 : Int)).bind fun y26 =>
      some y26
     else
      some false).bind fun w28 =>
     some (.inl (((decide (a0.name = (⟨#[]⟩ : ByteArray))) && (decide (((List.length a0.args : Nat) : Int) = (0 : Int)))) && w28))
    else
     some (.inr ()) : Option (Bool ⊕ Unit)).bind fun x => match x with
   | .inl r => some r
   | .inr _ =>
    if ((!decide (a0.kind = (13 : Int))) || (!decide (a0.n = (0 : Int)))) then
     some false
    else
     if (decide (a0.name = (⟨#[63]⟩ : ByteArray))) then
      some (decide (((List.length a0.args : Nat) : Int) = (3 : Int)))
     else
      (qy (QL a0) (0 : Int) : Option (Bool ⊕ Unit)).bind fun x => match x with
      | .inl r => some r
      | .inr _ =>
       some false
theorem W_ref04_Body (f0 f1 f2) (S0 : Sat_ref03_Right f0) (S1 : Sat_ref04_number f1) (S2 : Sat_ref04_Body f2) : Sat_ref04_Body (B_ref04_Body f0 f1 f2) := by
 intro a0 r h σ K hK;refine qW Try.func42 rfl rfl (by kernel_rfl) ?_;unfold B_ref04_Body at h;have hP := Pre.refl σ;have E0 : qz [(.ag (Expr.cl a0))] 0 = (.ag (Expr.cl a0)) := rfl;have TT := cj8 Expr.cle Expr.rlen T_2 T_3 T_37 T_39 T_9 T_97;refine qk (fun e s => ∃ i1 : Nat, Bx σ s i1 39 (Expr.cl a0) ∧ eP e 1 i1 ∧ Pre σ s) ?_ ?_
 ·refine w_x (cj2 E0 TT) ?_;exact qe ⟨σ.length, (Bx.new hP _ _), (xv (cj2 E0 TT)), (hP.app _)⟩
 rintro e s ⟨i1, X1, E1, hP⟩
 refine ql (qd (w_x Expr.rlen ?_));refine qf ?_;obtain ⟨x1, h2, h⟩ := qb h;refine qk (fun e s => .inr () = x1 ∧ Bx σ s i1 39 (Expr.cl a0) ∧ eP e 1 i1 ∧ Pre σ s) ?_ ?_
 ·refine qn (qH h2 (fun v e s => ∃ v3, v3 = v ∧ Bx σ s i1 39 (Expr.cl a0) ∧ eP e 1 i1 ∧ eI e 3 v3 ∧ Pre σ s) ⟨_, WkE.refl _, _, rfl, X1, E1, (xv TT), hP⟩ ?_)
  rintro v x4 e s hf5 ⟨v3, rfl, X1, E1, E3, hP⟩
  unfold ZN at hf5;(try dsimp only at hf5);refine ql (qd (w_x (cj4 E1 E3 X1.get TT) ?_));refine qf (qd ?_);rcases qi hf5 with ⟨hb6, hf5⟩ | ⟨hb6, hf5⟩
  ·refine xt hb6 (qm (qf ?_));obtain ⟨x7, h8, hf5⟩ := qb hf5;refine qk (fun e s => .inr () = x7 ∧ Bx σ s i1 39 (Expr.cl a0) ∧ eP e 1 i1 ∧ eI e 3 v3 ∧ Pre σ s) ?_ ?_
   ·refine qn (qd ?_);obtain ⟨y9, h10, h8⟩ := qb h8;obtain ⟨y11, h12, h8⟩ := qb h8;have R13 : (Expr.rows a0.args)[(v3).toNat]? = some (Expr.cl y9) := Expr.rget (qg h10).2;have q1 := cj6 E1 E3 X1.get R13 (qg h10).1 TT;refine w_x q1 ?_;refine S2 _ _ h12 _ _  ?_;refine w_y q1 ?_;refine qf ?_;rcases qi h8 with ⟨hb14, h8⟩ | ⟨hb14, h8⟩
    ·refine xt hb14 (qd (w_x Expr.rlen ?_));refine qf (qp (qw ?_));obtain rfl := qa h8;refine qB ?_;(try dsimp only at hf5);obtain rfl := qa hf5;refine zv rfl fun hr15 => ?_;obtain rfl := hr15;refine qw (qB ?_);(try dsimp only at h);obtain rfl := qa h;exact qt (fun _ => rfl) (xr (rs := #[.tmp 2]) TT) hP (.refl _) (.v _) hK
    ·refine xf hb14 (qm (qQ ?_));obtain rfl := qa h8;exact qe ⟨rfl, X1, E1, E3, hP⟩
   rintro e s ⟨rfl, X1, E1, E3, hP⟩
   (try dsimp only at hf5);refine w_x (cj2 E3 TT) ?_;obtain rfl := qa hf5;exact qZ rfl ⟨_, rfl, X1, E1, (xv (cj2 E3 TT)), hP⟩
  ·refine xf hb6 (qE (qM ?_));obtain rfl := qa hf5;refine qY rfl fun hr16 => ?_;obtain rfl := hr16;exact qK (qe ⟨rfl, X1, E1, hP⟩)
 rintro e s ⟨rfl, X1, E1, hP⟩
 (try dsimp only at h);refine ql (qd (w_x (cj3 E1 X1.get TT) ?_));refine qf (qd ?_);rcases qi h with ⟨hb17, h⟩ | ⟨hb17, h⟩
 ·refine xt hb17 (qd (w_x Expr.rlen ?_));refine qf (qp (zd ?_));obtain rfl := qa h;exact qt (fun _ => rfl) (xr (rs := #[.tmp 2]) TT) hP (.refl _) (.v _) hK
 ·refine xf hb17 (qm (qf (ql (qd (w_x (cj3 E1 X1.get TT) ?_)))));refine qf ?_;obtain ⟨x18, h19, h⟩ := qb h;refine qk (fun e s => .inr () = x18 ∧ Bx σ s i1 39 (Expr.cl a0) ∧ eP e 1 i1 ∧ Pre σ s) ?_ ?_
  ·refine qn (qd (w_x TT ?_));refine qf ?_;rcases qi h19 with ⟨hb20, h19⟩ | ⟨hb20, h19⟩
   ·refine xt hb20 ?_;obtain ⟨y21, h22, h19⟩ := qb h19;refine qk (fun e s => eB e 2 ((y21 && (decide (((List.length a0.args : Nat) : Int) = (0 : Int)))) && (decide (a0.n = (0 : Int)))) ∧ Pre σ s) ?_ ?_
    ·cases hb23 : y21
     ·have q2 := cj4 E1 X1.get hb23 TT;refine w_x q2 ?_;refine S0 _ _ h22 _ _  ?_;refine w_y q2 ?_;exact qe ⟨(xv q2), hP⟩
     ·cases hb24 : (decide (((List.length a0.args : Nat) : Int) = (0 : Int)))
      ·have q3 := cj5 E1 X1.get hb23 hb24 TT;refine w_x q3 ?_;refine S0 _ _ h22 _ _  ?_;refine w_y q3 ?_;exact qe ⟨(xv q3), hP⟩
      ·have q4 := cj5 E1 X1.get hb23 hb24 TT;refine w_x q4 ?_;refine S0 _ _ h22 _ _  ?_;refine w_y q4 ?_;exact qe ⟨(xv q4), hP⟩
    rintro e s ⟨E2, hP⟩
    refine qp (qw ?_);obtain rfl := qa h19;refine qB ?_;(try dsimp only at h);obtain rfl := qa h;exact qt (fun _ => rfl) (xr (rs := #[.tmp 2]) (cj2 E2 TT)) hP (.refl _) (.v _) hK
   ·refine xf hb20 (qd (w_x TT ?_));refine qf ?_;rcases qi h19 with ⟨hb25, h19⟩ | ⟨hb25, h19⟩
    ·refine xt hb25 ?_;obtain ⟨w28, h29, h19⟩ := qb h19;refine qk (fun e s => eB e 2 (((decide (a0.name = (⟨#[]⟩ : ByteArray))) && (decide (((List.length a0.args : Nat) : Int) = (0 : Int)))) && w28) ∧ Pre σ s) ?_ ?_
     ·cases hb30 : (decide (a0.name = (⟨#[]⟩ : ByteArray)))
      ·replace h29 := qU (by simp only [hb30, Bool.or_true, Bool.true_or, Bool.or_false, Bool.false_or, Bool.and_true, Bool.true_and, Bool.and_false, Bool.false_and, Bool.not_true, Bool.not_false, cond_true, cond_false]) h29;obtain rfl := qa h29;refine w_x (cj4 E1 X1.get hb30 TT) ?_;exact qe ⟨(xv (cj4 E1 X1.get hb30 TT)), hP⟩
      ·cases hb31 : (decide (((List.length a0.args : Nat) : Int) = (0 : Int)))
       ·replace h29 := qU (by simp only [hb30, hb31, Bool.or_true, Bool.true_or, Bool.or_false, Bool.false_or, Bool.and_true, Bool.true_and, Bool.and_false, Bool.false_and, Bool.not_true, Bool.not_false, cond_true, cond_false]) h29;obtain rfl := qa h29;refine w_x (cj5 E1 X1.get hb30 hb31 TT) ?_;exact qe ⟨(xv (cj5 E1 X1.get hb30 hb31 TT)), hP⟩
       ·replace h29 := qO (by simp only [hb30, hb31, Bool.or_true, Bool.true_or, Bool.or_false, Bool.false_or, Bool.and_true, Bool.true_and, Bool.and_false, Bool.false_and, Bool.not_true, Bool.not_false, cond_true, cond_false]) h29;obtain ⟨y26, h27, h29⟩ := qb h29;obtain rfl := qa h29;have q5 := cj5 E1 X1.get hb30 hb31 TT;refine w_x q5 ?_;refine S1 _ _ _ _ h27 _ _  ?_;refine w_y q5 ?_;exact qe ⟨(xv q5), hP⟩
     rintro e s ⟨E2, hP⟩
     refine qp (qw ?_);obtain rfl := qa h19;refine qB ?_;(try dsimp only at h);obtain rfl := qa h;exact qt (fun _ => rfl) (xr (rs := #[.tmp 2]) (cj2 E2 TT)) hP (.refl _) (.v _) hK
    ·refine xf hb25 (qm (qQ ?_));obtain rfl := qa h19;exact qe ⟨rfl, X1, E1, hP⟩
  rintro e s ⟨rfl, X1, E1, hP⟩
  (try dsimp only at h);refine ql (qk (fun e s => Bx σ s i1 39 (Expr.cl a0) ∧ eP e 1 i1 ∧ eB e 64 ((!decide (a0.kind = (13 : Int))) || (!decide (a0.n = (0 : Int)))) ∧ Pre σ s) ?_ ?_)
  ·cases hb32 : (!decide (a0.kind = (13 : Int)))
   ·refine w_x (cj4 E1 X1.get hb32 TT) ?_;exact qe ⟨X1, E1, (xv (cj4 E1 X1.get hb32 TT)), hP⟩
   ·refine w_x (cj4 E1 X1.get hb32 TT) ?_;exact qe ⟨X1, E1, (xv (cj4 E1 X1.get hb32 TT)), hP⟩
  rintro e s ⟨X1, E1, E64, hP⟩
  refine qd ?_;rcases qi h with ⟨hb33, h⟩ | ⟨hb33, h⟩
  ·refine xt (cj2 E64 hb33) (qd (w_x Expr.rlen ?_));refine qf (qp (zd ?_));obtain rfl := qa h;exact qt (fun _ => rfl) (xr (rs := #[.tmp 2]) TT) hP (.refl _) (.v _) hK
  ·refine xf (cj2 E64 hb33) (qm (qf (ql (qd (w_x (cj3 E1 X1.get TT) ?_)))));refine qf (qd ?_);rcases qi h with ⟨hb34, h⟩ | ⟨hb34, h⟩
   ·refine xt hb34 (qd (w_x (cj3 E1 X1.get TT) ?_));refine qf (qp (zd ?_));obtain rfl := qa h;exact qt (fun _ => rfl) (xr (rs := #[.tmp 2]) TT) hP (.refl _) (.v _) hK
   ·refine xf hb34 (qm (qf (qd (w_x TT ?_))));refine qf (ql (qd (w_x Expr.rlen ?_)));refine qf ?_;obtain ⟨x35, h36, h⟩ := qb h;refine qk (fun e s => .inr () = x35 ∧ Pre σ s) ?_ ?_
    ·refine qn (qH h36 (fun v e s => ∃ v37, v37 = v ∧ Bx σ s i1 39 (Expr.cl a0) ∧ eP e 1 i1 ∧ eS e 4 C_s Qz ∧ eI e 5 v37 ∧ Pre σ s) ⟨_, WkE.upd (WkE.refl _) (t := 4) (p := (.sl [[(.v (.string (⟨#[43]⟩ : ByteArray)))], [(.v (.string (⟨#[45]⟩ : ByteArray)))], [(.v (.string (⟨#[42]⟩ : ByteArray)))], [(.v (.string (⟨#[47]⟩ : ByteArray)))], [(.v (.string (⟨#[37]⟩ : ByteArray)))], [(.v (.string (⟨#[60]⟩ : ByteArray)))], [(.v (.string (⟨#[61, 61]⟩ : ByteArray)))]])) (q := (.sl (List.map C_s Qz))) (xv TT) (Wk.of_eq rfl), _, rfl, X1, E1, (xv TT), (xv TT), hP⟩ ?_)
     rintro v x38 e s hf39 ⟨v37, rfl, X1, E1, E4, E5, hP⟩
     unfold QL at hf39;(try dsimp only at hf39);refine ql (qd (w_x (cj3 E4 E5 TT) ?_));refine qf (qd ?_);rcases qi hf39 with ⟨hb40, hf39⟩ | ⟨hb40, hf39⟩
     ·refine xt hb40 (qm (qf ?_));obtain ⟨x41, h42, hf39⟩ := qb hf39;refine qk (fun e s => .inr () = x41 ∧ Bx σ s i1 39 (Expr.cl a0) ∧ eP e 1 i1 ∧ eS e 4 C_s Qz ∧ eI e 5 v37 ∧ Pre σ s) ?_ ?_
      ·refine qn (qd ?_);obtain ⟨y43, h44, h42⟩ := qb h42;have R45 : (List.map C_s Qz)[(v37).toNat]? = some [(.v (.string y43))] := qA (qg h44).2;refine ZX (cj7 E1 E4 E5 X1.get R45 (qg h44).1 TT) ?_;refine qf ?_;rcases qi h42 with ⟨hb46, h42⟩ | ⟨hb46, h42⟩
       ·refine xt hb46 (qd (w_x (cj3 E1 X1.get TT) ?_));refine qf (qp (qw ?_));obtain rfl := qa h42;refine qB ?_;(try dsimp only at hf39);obtain rfl := qa hf39;refine zv rfl fun hr47 => ?_;obtain rfl := hr47;refine qw (qB ?_);(try dsimp only at h);obtain rfl := qa h;exact qt (fun _ => rfl) (xr (rs := #[.tmp 2]) TT) hP (.refl _) (.v _) hK
       ·refine xf hb46 (qm (qQ ?_));obtain rfl := qa h42;exact qe ⟨rfl, X1, E1, E4, E5, hP⟩
      rintro e s ⟨rfl, X1, E1, E4, E5, hP⟩
      (try dsimp only at hf39);refine w_x (cj2 E5 TT) ?_;obtain rfl := qa hf39;exact qZ rfl ⟨_, rfl, X1, E1, E4, (xv (cj2 E5 TT)), hP⟩
     ·refine xf hb40 (qE (qM ?_));obtain rfl := qa hf39;refine qY rfl fun hr48 => ?_;obtain rfl := hr48;exact qK (qe ⟨rfl, hP⟩)
    rintro e s ⟨rfl, hP⟩
    (try dsimp only at h);refine qd (w_x Expr.rlen ?_);refine qf (qp ?_);obtain rfl := qa h;exact qt (fun _ => rfl) (xr (rs := #[.tmp 2]) TT) hP (.refl _) (.v _) hK
end Go.Proofs.Ytohmmfimedgccaa.E
end
