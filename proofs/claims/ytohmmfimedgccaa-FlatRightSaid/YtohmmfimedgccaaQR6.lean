import Derived.Test.YtohmmfimedgccaaQR5
/- FlatRight: what is right of a flat program is told alike by the program and its reference, its model's walk and the plain law behind it. PART 7 OF 8: FH FF G18 FJ G21 G62 G98 G99 G17 G30 G31 G63 G66 G69 G72 G100 G101 G104 FL G64 G67 G68 G70 G71 G73 -/
section
namespace Go.Proofs.Ytohmmfimedgccaa.E
set_option linter.unusedVariables false
set_option linter.unusedSimpArgs false
set_option maxRecDepth 10000
theorem spE_size (e : Expr) : ∀ to x, x ∈ spE to e → x.1.size + 2 * zJ x.2 ≤ to.size + 2 * zJ e := by
 induction e using Expr.induct with
 | h e ih =>
  intro to x hx;rw [QT] at hx;rcases List.mem_cons.1 hx with rfl | hx
  ·exact Nat.le_refl _
  ·obtain ⟨k, e', s, h1, h2, _⟩ := ZZ hx;have hm := List.mem_of_getElem? h1;have h3 := ih e' hm _ _ h2;rw [Yu] at h3;have := Zu hm;rw [Qx e];omega
theorem FW.psz {p : Program} {ρ : ByteArray → Clock} (w : FW p ρ) {to : ByteArray} {e : Expr} (h : (to, e) ∈ spP p.flows) : to.size + 2 * zJ e ≤ 300 := by
 obtain ⟨f, hf, h⟩ := List.mem_flatMap.1 h;have h1 := spE_size _ _ _ h;have h2 := w.fit.flow f hf;have h3 := h2.size;have h4 := h2.name.2;simp only at h1;omega
theorem FW.cat {p : Program} {ρ : ByteArray → Clock} (w : FW p ρ) {k : Nat} {x : ByteArray × Expr} (h : (cls (spP p.flows))[k]? = some x) : (x.1, x.2) ∈ spP p.flows ∧ x.2.kind = 2 := Ya.1 (List.mem_of_getElem? h)
theorem dge' (n : Nat) : ¬ (decide ((n : Int) < (n : Int)) = true) := by simp
noncomputable def zzL := B_flat_maker_tasks Jt Yp
theorem s_tasks : Sat_flat_maker_tasks zzL := W_flat_maker_tasks _ _ s_arg s_clk
theorem t_mkargs {m : qh} {ρ : ByteArray → Clock} (w : FW m.p ρ) (hm : MkOK m) {k : Nat} {x : ByteArray × Expr} (hk : (cls (spP m.p.flows))[k]? = some x) : qy (zS (Qo m.p x) m Jt) ((0 : Int), (Task.mk (Qo m.p x).node (Clock.mk (0 : Int) (0 : Int)) ([] : List Arg)), ([] : List Arg)) = some (zB m.p x ⟨0, 0⟩, Qj m.p x) := by
 have hbig : (1000000 : Nat) ≤ maxLen := by unfold maxLen; decide
 obtain ⟨hp, _⟩ := w.cat hk;have hsz := w.psz hp;have hpos := Zv x.2;have hargs : x.2.args.length ≤ 6 := by
  rcases (w.pfit hp).kinds with ⟨k, ha⟩ | ⟨k, h1, h2⟩ | ⟨h1, h2⟩
  ·rw [ha]; simp
  ·exact h2
  ·omega
 obtain ⟨r, h1, h2⟩ := qT (f := zS (Qo m.p x) m Jt) (fun i v => v = ((i : Int), Task.mk (JP m.p x.2.name) ⟨0, 0⟩ ((Qj m.p x).take i), (Qj m.p x).take i)) x.2.args.length (fun r : Task × List Arg => r = (zB m.p x ⟨0, 0⟩, Qj m.p x)) (fun i v hi hv => by
  subst hv;unfold zS;have hpi := JO hp hi;obtain ⟨n, hn, har⟩ := w.argOf hpi;have hv := v_arg w hm har (by omega) (by rw [Yu]; omega);have hw : qC ((List.range x.2.args.length).map (zG x.1)) (i : Int) = some (zG x.1 i) := by
   rw [qx (by simpa using hi)];simp
  have hat := zzD m.p x (List.getElem?_eq_getElem hi);have hal := JX m.p x;dsimp only;rw [if_pos (show decide ((i : Int) < (((Qo m.p x).args.length : Nat) : Int)) = true from dlt hi)];simp only [Qo, qx hi, Option.bind_some, hw];rw [hv];simp only [Option.bind_some];unfold Qk;rw [if_pos (by simp only [List.length_take, List.length_cons, List.length_nil]; omega)];refine .inl ⟨_, rfl, ?_⟩;rw [zA hi (by omega)];have ht : (Qj m.p x).take (i + 1) = (Qj m.p x).take i ++ [argOf m.p (zG x.1 i) x.2.args[i]] := by
   rw [List.take_add_one, hat];rfl
  rw [ht]) (fun v hv => by
  subst hv;unfold zS;dsimp only;rw [if_neg (show ¬ (decide ((x.2.args.length : Int) < (((Qo m.p x).args.length : Nat) : Int)) = true) from dge' _)];refine ⟨_, rfl, ?_⟩;rw [← JX m.p x, List.take_length];rfl) (v0 := ((0 : Int), (Task.mk (Qo m.p x).node (Clock.mk (0 : Int) (0 : Int)) ([] : List Arg)), ([] : List Arg))) rfl
 rw [h1, h2]
theorem dnb_t {T : List Task} {k : Nat} {t : Task} (h : T[k]? = some t) (hp : t.clock.period ≠ 0) : dnb T k = true := by
 unfold dnb;rw [h];show (!decide (t.clock.period = 0)) = true;rw [decide_eq_false hp];rfl
def Mono (T T' : List Task) : Prop := ∀ k, dnb T k = true → dnb T' k = true
def Rdy (p : Program) (T : List Task) (x : ByteArray × Expr) (j : Nat) : Prop := ∃ y, x.2.args[j]? = some y ∧ ∀ k' : Nat, (argOf p (zG x.1 j) y).src = ((p.inputs.length + k' : Nat) : Int) → dnb T k' = true
theorem Rdy.mono {p : Program} {T T' : List Task} {x : ByteArray × Expr} {j : Nat} (h : Rdy p T x j) (hm : Mono T T') : Rdy p T' x j := by
 obtain ⟨y, h1, h2⟩ := h;exact ⟨y, h1, fun k' hk => hm k' (h2 k' hk)⟩
theorem FW.callc {p : Program} {ρ : ByteArray → Clock} (w : FW p ρ) {k : Nat} {x : ByteArray × Expr} (hk : (cls (spP p.flows))[k]? = some x) {j : Nat} {y : Expr} (hy : x.2.args[j]? = some y) {c : Clock} (hc : RefC ρ y c) : RefC ρ x.2 c := by
 obtain ⟨hp, h2⟩ := w.cat hk;obtain ⟨d, hd⟩ := w.pclock hp;have hd' := hd;cases hd with
 | nm k => omega
 | call _ _ hall => rw [hc.of.det (hall y (List.mem_of_getElem? hy)).of]; exact hd'
 | op _ k2 _ _ _ => exact absurd h2 k2
theorem TaI.set {p : Program} {ρ : ByteArray → Clock} {T : List Task} (h : TaI p ρ T) {k : Nat} {x : ByteArray × Expr} (hk : (cls (spP p.flows))[k]? = some x) {c : Clock} (hc : RefC ρ x.2 c) : TaI p ρ (T.set k (zB p x c)) := by
 have hl : k < T.length := by rw [h.len]; exact (List.getElem?_eq_some_iff.1 hk).1
 refine ⟨by rw [List.length_set]; exact h.len, fun k' x' hk' => ?_⟩;by_cases e : k = k'
 ·subst e;rw [hk] at hk';obtain rfl := Option.some.inj hk';exact ⟨c, by rw [List.getElem?_set_self hl], .inr hc⟩
 ·obtain ⟨c', h1, h2⟩ := h.at_ k' x' hk';exact ⟨c', by rw [List.getElem?_set_ne e]; exact h1, h2⟩
theorem t_l4 {m : qh} {ρ : ByteArray → Clock} (w : FW m.p ρ) {T : List Task} (hT : TaI m.p ρ T) {k : Nat} {x : ByteArray × Expr} (hk : (cls (spP m.p.flows))[k]? = some x) (c0 : Clock) : ∃ T', qy (zP (k : Int) (zB m.p x c0) m Yp) ((0 : Int), T) = some T' ∧ TaI m.p ρ T' ∧ Mono T T' ∧ ∀ j, Rdy m.p T x j → dnb T' k = true := by
 have hbig : (1000000 : Nat) ≤ maxLen := by unfold maxLen; decide
 obtain ⟨hp, _⟩ := w.cat hk;have hargs : x.2.args.length ≤ 6 := by
  rcases (w.pfit hp).kinds with ⟨k, ha⟩ | ⟨k, h1, h2⟩ | ⟨h1, h2⟩
  ·rw [ha]; simp
  ·exact h2
  ·omega
 have hal := JX m.p x;obtain ⟨r, h1, h2⟩ := qT (f := zP (k : Int) (zB m.p x c0) m Yp) (fun j v => ∃ T', v = ((j : Int), T') ∧ TaI m.p ρ T' ∧ Mono T T' ∧ ∀ j', j' < j → Rdy m.p T x j' → dnb T' k = true) (Qj m.p x).length
  (fun T' : List Task => TaI m.p ρ T' ∧ Mono T T' ∧ ∀ j', j' < (Qj m.p x).length → Rdy m.p T x j' → dnb T' k = true) (fun j v hj hv => by
   obtain ⟨T', rfl, q1, q2, q3⟩ := hv;unfold zP;have hj' : j < x.2.args.length := by omega
   have hpj := JO hp hj';have hy := List.getElem?_eq_getElem hj';obtain ⟨c, ok, g1, g2, g3⟩ := t_clk w q1 hpj;have hga : qC (Qj m.p x) (j : Int) = some (argOf m.p (zG x.1 j) x.2.args[j]) := by
    have := zzD m.p x hy;rw [qx hj, ← List.getElem?_eq_getElem hj];exact this
   have hl : k < T'.length := by rw [q1.len]; exact (List.getElem?_eq_some_iff.1 hk).1
   obtain ⟨ck, g4, g5⟩ := q1.at_ k x hk;have hgk : qC T' (k : Int) = some (zB m.p x ck) := by
    rw [qx hl, ← List.getElem?_eq_getElem hl];exact g4
   have stay : (dnb T' k = true ∨ ok = false) → ∃ v', some (Sum.inl (IntKind.i64.wrap ((j : Int) + 1), T') : (Int × List Task) ⊕ List Task) = some (.inl v') ∧ ∃ T'', v' = (((j + 1 : Nat) : Int), T'') ∧ TaI m.p ρ T'' ∧ Mono T T'' ∧ ∀ j', j' < j + 1 → Rdy m.p T x j' → dnb T'' k = true := fun hs => by
    refine ⟨_, rfl, T', by rw [zA hj (by omega)], q1, q2, fun j' hlt hr => ?_⟩;by_cases he : j' = j
    ·subst he;rcases hs with hs | hs
     ·exact hs
     ·obtain ⟨y, e1, e2⟩ := hr.mono q2;rw [hy] at e1;obtain rfl := Option.some.inj e1;have := g3 e2;rw [hs] at this;cases this
    ·exact q3 j' (by omega) hr
   dsimp only;rw [if_pos (show decide ((j : Int) < (((zB m.p x c0).args.length : Nat) : Int)) = true from dlt hj)];rw [show qC (zB m.p x c0).args (j : Int) = some (argOf m.p (zG x.1 j) x.2.args[j]) from hga];simp only [Option.bind_some];rw [g1];simp only [Option.bind_some];cases ok with
   | false =>
    simp only [Bool.false_eq_true, if_false, Option.bind_some, Bool.false_and];exact .inl (stay (.inr rfl))
   | true =>
    simp only [if_true, hgk, Option.bind_some, Bool.true_and, zB];by_cases hz : ck.period = 0
    ·rw [if_pos (by rw [decide_eq_true hz])];have hset : Jw T' (k : Int) (zB m.p x c) = some (T'.set k (zB m.p x c)) := by
      unfold Jw;rw [if_pos ⟨by omega, by rw [Int.toNat_natCast]; exact hl⟩, Int.toNat_natCast]
     have hc := w.callc hk hy (g2 rfl);have hcp := cr_pos (w.cr hp hc);have hd : dnb (T'.set k (zB m.p x c)) k = true := by
      exact dnb_t (List.getElem?_set_self hl) (show c.period ≠ 0 by omega)
     have hmo : Mono T' (T'.set k (zB m.p x c)) := fun k' hk' => by
      by_cases e : k = k'
      ·subst e; exact hd
      ·unfold dnb at hk' ⊢;rw [List.getElem?_set_ne e];exact hk'
     have hset' : Jw T' (k : Int) (Task.mk (JP m.p x.2.name) c (Qj m.p x)) = some (T'.set k (zB m.p x c)) := hset;rw [hset'];simp only [Option.bind_some];exact .inl ⟨_, rfl, _, by rw [zA hj (by omega)], q1.set hk hc, fun k' hk' => hmo k' (q2 k' hk'), fun _ _ _ => hd⟩
    ·rw [if_neg (by rw [decide_eq_true_eq]; exact hz)];simp only [Option.bind_some];exact .inl (stay (.inl (dnb_t g4 hz)))) (fun v hv => by
   obtain ⟨T', rfl, q1, q2, q3⟩ := hv;unfold zP;dsimp only;rw [if_neg (show ¬ (decide (((Qj m.p x).length : Int) < (((zB m.p x c0).args.length : Nat) : Int)) = true) from dge' _)];exact ⟨_, rfl, q1, q2, q3⟩) (v0 := ((0 : Int), T)) ⟨T, rfl, hT, fun _ h => h, fun j' h => by omega⟩
 obtain ⟨q1, q2, q3⟩ := h2;exact ⟨r, h1, q1, q2, fun j hj => q3 j (by
  obtain ⟨y, e1, _⟩ := hj;have := (List.getElem?_eq_some_iff.1 e1).1;omega) hj⟩
theorem t_l3 {m : qh} {ρ : ByteArray → Clock} (w : FW m.p ρ) {T : List Task} (hT : TaI m.p ρ T) : ∃ T', qy (zQ T m Yp) ((0 : Int), T) = some T' ∧ TaI m.p ρ T' ∧ Mono T T' ∧ ∀ k x, (cls (spP m.p.flows))[k]? = some x → ∀ j, Rdy m.p T x j → dnb T' k = true := by
 have hbig : (1000000 : Nat) ≤ maxLen := by unfold maxLen; decide
 have hcs := JM w.fit;obtain ⟨r, h1, h2⟩ := qT (f := zQ T m Yp) (fun i v => ∃ T', v = ((i : Int), T') ∧ TaI m.p ρ T' ∧ Mono T T' ∧ ∀ k x, k < i → (cls (spP m.p.flows))[k]? = some x → ∀ j, Rdy m.p T x j → dnb T' k = true) T.length
  (fun T' : List Task => TaI m.p ρ T' ∧ Mono T T' ∧ ∀ k x, k < T.length → (cls (spP m.p.flows))[k]? = some x → ∀ j, Rdy m.p T x j → dnb T' k = true) (fun i v hi hv => by
   obtain ⟨T', rfl, q1, q2, q3⟩ := hv;have hic : i < (cls (spP m.p.flows)).length := by rw [← hT.len]; exact hi
   have hx := List.getElem?_eq_getElem hic;obtain ⟨c, g1, g2⟩ := q1.at_ i _ hx;have hl : i < T'.length := by rw [q1.len]; exact hic
   have hg : qC T' (i : Int) = some (zB m.p (cls (spP m.p.flows))[i] c) := by
    rw [qx hl, ← List.getElem?_eq_getElem hl];exact g1
   obtain ⟨T2, g3, g4, g5, g6⟩ := t_l4 w q1 hx c;unfold zQ;simp only [dlt hi, if_true];rw [hg];simp only [Option.bind_some];rw [g3];simp only [Option.bind_some];refine .inl ⟨_, rfl, T2, by rw [zA hi (by have := hT.len; omega)], g4, fun k' hk' => g5 k' (q2 k' hk'), fun k' x' hk' hx' j hr => ?_⟩;by_cases e : k' = i
   ·subst e;rw [hx] at hx';obtain rfl := Option.some.inj hx';exact g6 j (hr.mono q2)
   ·exact g5 k' (q3 k' x' (by omega) hx' j hr)) (fun v hv => by
   obtain ⟨T', rfl, q1, q2, q3⟩ := hv;unfold zQ;simp only [dge, Bool.false_eq_true, if_false];exact ⟨_, rfl, q1, q2, q3⟩) (v0 := ((0 : Int), T)) ⟨T, rfl, hT, fun _ h => h, fun k x h => by omega⟩
 obtain ⟨q1, q2, q3⟩ := h2;exact ⟨r, h1, q1, q2, fun k x hx => q3 k x (by rw [hT.len]; exact (List.getElem?_eq_some_iff.1 hx).1) hx⟩
def UT (N : Nat) (T : List Task) : Nat := (List.range N).countP fun k => !dnb T k
theorem UT_le {N : Nat} {T T' : List Task} (h : Mono T T') : UT N T' ≤ UT N T := YQ fun k _ hk => by
 cases hd : dnb T k with
 | false => rfl
 | true => rw [h k hd] at hk; cases hk
theorem UT_lt {N : Nat} {T T' : List Task} (h : Mono T T') {k : Nat} (hk : k < N) (h1 : dnb T k = false) (h2 : dnb T' k = true) : UT N T' < UT N T := YP (fun k _ hk => by
 cases hd : dnb T k with
 | false => rfl
 | true => rw [h k hd] at hk; cases hk) ⟨k, List.mem_range.2 hk, by rw [h1]; rfl, by rw [h2]; rfl⟩
theorem FW.done {p : Program} {ρ : ByteArray → Clock} (w : FW p ρ) {T : List Task} (h : ∀ k x, (cls (spP p.flows))[k]? = some x → ∀ j, Rdy p T x j → dnb T k = true) {k : Nat} {x : ByteArray × Expr} (hk : (cls (spP p.flows))[k]? = some x) : dnb T k = true := by
 refine w.reach (E := fun k => dnb T k = true) (fun k to e hk ⟨j, y, n, a, hj, ha, hs⟩ => ?_) (k := k) (to := x.1) (e := x.2) hk;refine h k _ hk j ⟨y, hj, ?_⟩;obtain ⟨hp, _⟩ := w.cat hk;obtain ⟨hjl, hje⟩ := List.getElem?_eq_some_iff.1 hj;have hpj := JO hp hjl;have hje' : e.args[j] = y := hje;simp only at hpj;rw [hje'] at hpj;rw [← w.argEq hpj ha];exact hs
theorem t_l2 {m : qh} {ρ : ByteArray → Clock} (w : FW m.p ρ) {T : List Task} (hT : TaI m.p ρ T) : ∃ T', qy (zR T m Yp) ((0 : Int), T) = some T' ∧ TaI m.p ρ T' ∧ ∀ k x, (cls (spP m.p.flows))[k]? = some x → dnb T' k = true := by
 have hbig : (1000000 : Nat) ≤ maxLen := by unfold maxLen; decide
 have hcs := JM w.fit;have hTl := hT.len;obtain ⟨r, h1, h2⟩ := qT (f := zR T m Yp) (fun i v => ∃ T', v = ((i : Int), T') ∧ TaI m.p ρ T' ∧ (UT T.length T' + i ≤ T.length ∨ UT T.length T' = 0)) T.length
  (fun T' : List Task => TaI m.p ρ T' ∧ UT T.length T' = 0) (fun i v hi hv => by
   obtain ⟨T', rfl, q1, q2⟩ := hv;obtain ⟨T2, g1, g2, g3, g4⟩ := t_l3 w q1;unfold zR;simp only [dlt hi, if_true];rw [g1];simp only [Option.bind_some];refine .inl ⟨_, rfl, T2, by rw [zA hi (by omega)], g2, ?_⟩;have hle := UT_le (N := T.length) g3;by_cases hz : ∀ k x, (cls (spP m.p.flows))[k]? = some x → ∀ j, Rdy m.p T' x j → dnb T' k = true
   ·right;have : UT T.length T' = 0 := by
     unfold UT;rw [List.countP_eq_zero];intro k hk;have hk := List.mem_range.1 hk;have := w.done hz (List.getElem?_eq_getElem (show k < (cls (spP m.p.flows)).length by omega));rw [this];decide
    omega
   ·simp only [Classical.not_forall] at hz;obtain ⟨k, x, hk, j, hr, hd⟩ := hz;have hkl := (List.getElem?_eq_some_iff.1 hk).1;have := UT_lt (N := T.length) g3 (by omega : k < T.length) (by simpa using hd) (g4 k x hk j hr);rcases q2 with q2 | q2
    ·left; omega
    ·omega) (fun v hv => by
   obtain ⟨T', rfl, q1, q2⟩ := hv;unfold zR;simp only [dge, Bool.false_eq_true, if_false];exact ⟨_, rfl, q1, by omega⟩) (v0 := ((0 : Int), T)) ⟨T, rfl, hT, .inl (by
    have : UT T.length T ≤ (List.range T.length).length := List.countP_le_length;rw [List.length_range] at this;omega)⟩
 obtain ⟨q1, q2⟩ := h2;refine ⟨r, h1, q1, fun k x hk => ?_⟩;have hkl := (List.getElem?_eq_some_iff.1 hk).1;unfold UT at q2;rw [List.countP_eq_zero] at q2;have := q2 k (List.mem_range.2 (by omega));simpa using this
theorem t_tasks {m : qh} {ρ : ByteArray → Clock} (w : FW m.p ρ) (hm : MkOK m) (hc : m.calls = (cls (spP m.p.flows)).map (Qo m.p)) : ∃ T, zzL m = some T ∧ T.length = (cls (spP m.p.flows)).length ∧ ∀ (k : Nat) (x : ByteArray × Expr), (cls (spP m.p.flows))[k]? = some x → ∃ c : Clock, T[k]? = some (zB m.p x c) ∧ RefC ρ x.2 c := by
 have hbig : (1000000 : Nat) ≤ maxLen := by unfold maxLen; decide
 have hcs := JM w.fit;have hcl : m.calls.length = (cls (spP m.p.flows)).length := by rw [hc, List.length_map]
 obtain ⟨r, h1, h2⟩ := qT (f := Qn m Jt) (fun i v => v = ((i : Int), ((cls (spP m.p.flows)).take i).map fun x => zB m.p x ⟨0, 0⟩)) m.calls.length (fun r : List Task => r = (cls (spP m.p.flows)).map fun x => zB m.p x ⟨0, 0⟩) (fun i v hi hv => by
  subst hv;unfold Qn;have hi' : i < (cls (spP m.p.flows)).length := by omega
  have hx := List.getElem?_eq_getElem hi';have hg : qC m.calls (i : Int) = some (Qo m.p (cls (spP m.p.flows))[i]) := by
   rw [qx hi];simp [hc]
  simp only [dlt hi, if_true, hg, Option.bind_some];rw [t_mkargs w hm hx];simp only [Option.bind_some];unfold Qk;rw [if_pos (by simp only [List.length_map, List.length_take, List.length_cons, List.length_nil]; omega)];refine .inl ⟨_, rfl, ?_⟩;rw [zA hi (by omega), List.take_succ_eq_append_getElem hi', List.map_append];rfl) (fun v hv => by
  subst hv;unfold Qn;simp only [dge, Bool.false_eq_true, if_false];exact ⟨_, rfl, by rw [hcl, List.take_length]⟩) (v0 := ((0 : Int), ([] : List Task))) rfl
 subst h2;have hT : TaI m.p ρ ((cls (spP m.p.flows)).map fun x => zB m.p x ⟨0, 0⟩) := ⟨by simp, fun k x hk => ⟨⟨0, 0⟩, by rw [List.getElem?_map, hk]; rfl, .inl rfl⟩⟩;obtain ⟨T, g1, g2, g3⟩ := t_l2 w hT;refine ⟨T, ?_, g2.len, fun k x hk => ?_⟩
 ·unfold zzL B_flat_maker_tasks;rw [h1];simp only [Option.bind_some];rw [g1];rfl
 ·obtain ⟨c, e1, e2⟩ := g2.at_ k x hk;refine ⟨c, e1, e2.resolve_left fun h => ?_⟩;have := g3 k x hk;subst h;simp [dnb, e1, zB] at this
def Big (p : Program) (to : ByteArray) (e : Expr) : Prop := ∃ n a, ArgR p n to e a ∧ 20 < a.ops.length
def LongC (p : Program) (l : List (ByteArray × Expr)) : Prop := ∃ x ∈ cls l, ∃ (j : Nat) (y : Expr), x.2.args[j]? = some y ∧ Big p (zG x.1 j) y
theorem big_iff {p : Program} {ρ : ByteArray → Clock} (w : FW p ρ) {n : Nat} {to : ByteArray} {e : Expr} {a : Arg} (h : ArgR p n to e a) : Big p to e ↔ 20 < a.ops.length :=
 ⟨fun ⟨m, b, h1, h2⟩ => by rw [h.det w h1]; exact h2, fun h2 => ⟨n, a, h, h2⟩⟩
theorem LongC.app {p : Program} {a b : List (ByteArray × Expr)} : LongC p (a ++ b) ↔ LongC p a ∨ LongC p b := by
 unfold LongC;rw [qqM];constructor
 ·rintro ⟨x, hx, h⟩
  rcases List.mem_append.1 hx with hx | hx
  ·exact .inl ⟨x, hx, h⟩
  ·exact .inr ⟨x, hx, h⟩
 ·rintro (⟨x, hx, h⟩ | ⟨x, hx, h⟩)
  ·exact ⟨x, List.mem_append.2 (.inl hx), h⟩
  ·exact ⟨x, List.mem_append.2 (.inr hx), h⟩
theorem LongC.spL {p : Program} {to : ByteArray} : ∀ {l : List Expr} {i : Nat}, LongC p (spL to i l) ↔ ∃ (j : Nat) (e : Expr), l[j]? = some e ∧ LongC p (spE (zG to (i + j)) e)
 | [], i => by simp [E.spL, LongC, cls]
 | e :: l, i => by
  rw [E.spL, LongC.app, LongC.spL (l := l) (i := i + 1)];constructor
  ·rintro (h | ⟨j, e', h1, h2⟩)
   ·exact ⟨0, e, rfl, h⟩
   ·exact ⟨j + 1, e', h1, by rw [show i + (j + 1) = i + 1 + j by omega]; exact h2⟩
  ·rintro ⟨j, e', h1, h2⟩
   cases j with
   | zero =>
    simp at h1;subst h1;exact .inl h2
   | succ j => exact .inr ⟨j, e', h1, by rw [show i + 1 + j = i + (j + 1) by omega]; exact h2⟩
theorem LongC.spE {p : Program} {to : ByteArray} {e : Expr} : LongC p (spE to e) ↔ ∃ (j : Nat) (x : Expr), e.args[j]? = some x ∧ ((e.kind = 2 ∧ Big p (zG to j) x) ∨ LongC p (E.spE (zG to j) x)) := by
 rw [QT];have h1 : LongC p ((to, e) :: E.spL to 0 e.args) ↔ LongC p [(to, e)] ∨ LongC p (E.spL to 0 e.args) := LongC.app (a := [(to, e)]);rw [h1, LongC.spL];simp only [Nat.zero_add];have h2 : LongC p [(to, e)] ↔ ∃ (j : Nat) (x : Expr), e.args[j]? = some x ∧ e.kind = 2 ∧ Big p (zG to j) x := by
  unfold LongC;constructor
  ·rintro ⟨x, hx, j, y, h, hb⟩
   obtain ⟨hx, hk⟩ := Ya.1 hx;obtain rfl := List.mem_singleton.1 hx;exact ⟨j, y, h, hk, hb⟩
  ·rintro ⟨j, y, h, hk, hb⟩
   exact ⟨(to, e), Ya.2 ⟨List.mem_singleton.2 rfl, hk⟩, j, y, h, hb⟩
 rw [h2];constructor
 ·rintro (⟨j, x, h, hb⟩ | ⟨j, x, h, hb⟩)
  ·exact ⟨j, x, h, .inl hb⟩
  ·exact ⟨j, x, h, .inr hb⟩
 ·rintro ⟨j, x, h, hb | hb⟩
  ·exact .inl ⟨j, x, h, hb⟩
  ·exact .inr ⟨j, x, h, hb⟩
def LongS (p : Program) (to : ByteArray) (e : Expr) (top : Bool) : Prop := (top = true ∧ Big p to e) ∨ LongC p (spE to e)
def pLong (x : qh × Expr × ByteArray × Bool) (r : Bool) : Prop := Sp_flat_maker_long x.1 x.2.1 x.2.2.1 x.2.2.2 r ∧ (r = true ↔ LongS x.1.p x.2.2.1 x.2.1 x.2.2.2)
noncomputable def YA (m : qh) (e : Expr) (to : ByteArray) (top : Bool) : Option Bool := pick pLong (m, e, to, top)
theorem s_long : Sat_flat_maker_long YA := fun _ _ _ _ _ h => (Qt h).1
theorem t_long {m : qh} {ρ : ByteArray → Clock} (w : FW m.p ρ) (hm : MkOK m) (e : Expr) : ∀ to top, (to, e) ∈ spP m.p.flows → to.size + 2 * zJ e ≤ 900000 → ∃ b, YA m e to top = some b ∧ (b = true ↔ LongS m.p to e top) := by
 induction e using Expr.induct with
 | h e ih =>
  intro to top hp hs;have hbig : (1000000 : Nat) ≤ maxLen := by unfold maxLen; decide
  have hse := Qx e;have hargs : e.args.length ≤ 6 := by
   rcases (w.pfit hp).kinds with ⟨k, ha⟩ | ⟨k, h1, h2⟩ | ⟨h1, h2⟩
   ·rw [ha]; simp
   ·exact h2
   ·omega
  suffices hB : ∃ b, B_flat_maker_long YA Jt JQ m e to top = some b ∧ (b = true ↔ LongS m.p to e top) by
   obtain ⟨b, h1, h2⟩ := hB;obtain ⟨r, h3, _, h4⟩ := QM (P := pLong) (a := (m, e, to, top)) ⟨b, W_flat_maker_long _ _ _ s_long s_arg s_way _ _ _ _ _ h1, h2⟩;exact ⟨r, h3, h4⟩
  obtain ⟨n, a, hn, har⟩ := w.ar hp;have hva := v_arg w hm har (by omega) (by omega);have hbi := big_iff w har;obtain ⟨r, h1, h2⟩ := zZ (n := e.args.length) (by omega) (f := Qa m e to YA JQ) (fun i => ∃ x, e.args[i]? = some x ∧ LongS m.p (zG to i) x (decide (e.kind = 2))) (fun _ => true) (fun i hi => by
   unfold Qa;have hmem := List.getElem_mem hi;have hsm := Zu hmem;obtain ⟨b, h5, h6⟩ := ih _ hmem (zG to i) (decide (e.kind = 2)) (JO hp hi) (by rw [Yu]; omega);simp only [dlt hi, if_true, qx hi, Option.bind_some, v_way (to := to) (i := i) (by omega) (by omega), List.getElem?_eq_getElem hi, Option.some.injEq];rw [h5];cases b with
   | true => exact .inl ⟨rfl, _, rfl, h6.1 rfl⟩
   | false => exact .inr ⟨rfl, fun ⟨x, hx, h⟩ => by subst hx; have := h6.2 h; cases this⟩) (by
   unfold Qa;simp only [dge, Bool.false_eq_true, if_false])
  have hL : LongC m.p (spE to e) ↔ ∃ i, ∃ x, e.args[i]? = some x ∧ LongS m.p (zG to i) x (decide (e.kind = 2)) := by
   rw [LongC.spE];simp only [LongS, decide_eq_true_eq]
  have rest : ∃ b, ((qy (Qa m e to YA JQ) (0 : Int) : Option (Bool ⊕ Unit)).bind fun x => match x with
    | .inl r => some r
    | .inr _ => some false) = some b ∧ (b = true ↔ LongC m.p (spE to e)) := by
   rw [h1];rcases h2 with ⟨i, hi, rfl, hq, _⟩ | ⟨rfl, hq⟩
   ·exact ⟨true, rfl, fun _ => hL.2 ⟨i, hq⟩, fun _ => rfl⟩
   ·refine ⟨false, rfl, fun h => (by cases h), fun h => ?_⟩;obtain ⟨i, x, h, hh⟩ := hL.1 h;exact absurd ⟨x, h, hh⟩ (hq i (List.getElem?_eq_some_iff.1 h).1)
  obtain ⟨b, hb1, hb2⟩ := rest;unfold B_flat_maker_long;cases top with
  | false =>
   simp only [Bool.false_eq_true, if_false, Option.bind_some, Bool.false_and];refine ⟨b, hb1, ?_⟩;rw [hb2, LongS];simp
  | true =>
   simp only [if_true, Bool.true_and];rw [hva];simp only [Option.bind_some];by_cases hc : 20 < a.ops.length
   ·rw [if_pos (by rw [decide_eq_true_eq]; omega)];exact ⟨true, rfl, fun _ => .inl ⟨rfl, hbi.2 hc⟩, fun _ => rfl⟩
   ·rw [if_neg (by rw [decide_eq_true_eq]; omega)];refine ⟨b, hb1, ?_⟩;rw [hb2, LongS];exact ⟨.inr, fun h => h.elim (fun h => absurd (hbi.1 h.2) hc) id⟩
end Go.Proofs.Ytohmmfimedgccaa.E
end
section
namespace Go.Proofs.Ytohmmfimedgccaa.E
set_option maxRecDepth 100000
set_option maxHeartbeats 4000000
set_option linter.unusedVariables false
set_option linter.unusedSimpArgs false
noncomputable def Zo (v72 : (Mp Int)) (v73 : (Mp Int)) (v75 : (List qj)) (v74 : qh) (a0 : Program) (a1 : (List Clock)) (f3 : qh → Expr → ByteArray → Option Arg) : (Int × Flat × (List Clock) × (List Tell)) → Option ((Int × Flat × (List Clock) × (List Tell)) ⊕ (Flat × (List Clock) × (List Tell)))
 | (v114, v115, v116, v117) =>
  if (decide (v114 < ((List.length a0.outputs : Nat) : Int))) then
   ((qC a0.outputs v114).bind fun y126 =>
   (qC a1 (Option.getD (Mp.get v72 y126.flow) (0 : Int))).bind fun y130 =>
   (qC a0.flows (Option.getD (Mp.get v72 y126.flow) (0 : Int))).bind fun y132 =>
   (f3 (qh.mk v74.p v72 v75 v73 v74.error v74.e) y132.e y126.flow).bind fun y134 =>
   (Qk 56 v117 ([(Tell.mk y130 y134 y126.deadline)])).bind fun y136 =>
   some ((Flat.mk v116 v115.nodes v115.tasks y136), v116, y136) : Option (Flat × (List Clock) × (List Tell))).bind fun (v123, v124, v125) =>
   some (.inl ((IntKind.i64.wrap (v114 + (1 : Int))), (Flat.mk v124 v123.nodes v123.tasks v125), v124, v125))
  else
   some (.inr ((Flat.mk v116 v115.nodes v115.tasks v117), v116, v117))
noncomputable def Zp (a0 : Program) (f1 : qh → Expr → ByteArray → Bool → Option Bool) : (Int × (Mp Int) × (Mp Int) × qh × (List qj)) → Option ((Int × (Mp Int) × (Mp Int) × qh × (List qj)) ⊕ ((Mp Int) × (Mp Int) × qh × (List qj)))
 | (v76, v77, v78, v79, v80) =>
  if (decide (v76 < ((List.length a0.flows : Nat) : Int))) then
   ((qC a0.flows v76).bind fun y90 =>
   (if (decide (v79.e = (0 : Int))) then
    (f1 (qh.mk v79.p v77 v80 v78 v79.error v79.e) y90.e y90.name true).bind fun y93 =>
    some y93
   else
    some false).bind fun w95 =>
   (if ((decide (v79.e = (0 : Int))) && w95) then
    some (v77, v78, (qh.mk v79.p v77 v80 v78 y90.at_ (8 : Int)), v80)
   else
    some (v77, v78, (qh.mk v79.p v77 v80 v78 v79.error v79.e), v80) : Option ((Mp Int) × (Mp Int) × qh × (List qj))).bind fun (v100, v101, v102, v103) =>
   some (v100, v101, (qh.mk v102.p v100 v103 v101 v102.error v102.e), v103) : Option ((Mp Int) × (Mp Int) × qh × (List qj))).bind fun (v86, v87, v88, v89) =>
   some (.inl ((IntKind.i64.wrap (v76 + (1 : Int))), v86, v87, (qh.mk v88.p v86 v89 v87 v88.error v88.e), v89))
  else
   some (.inr (v77, v78, (qh.mk v79.p v77 v80 v78 v79.error v79.e), v80))
noncomputable def Zq (a0 : Program) (f0 : qh → Expr → ByteArray → Option (Unit × qh)) : (Int × (Mp Int) × (Mp Int) × qh × (List qj)) → Option ((Int × (Mp Int) × (Mp Int) × qh × (List qj)) ⊕ ((Mp Int) × (Mp Int) × qh × (List qj)))
 | (v48, v49, v50, v51, v52) =>
  if (decide (v48 < ((List.length a0.flows : Nat) : Int))) then
   ((qC a0.flows v48).bind fun y62 =>
   (Jm v49 y62.name v48).bind fun y65 =>
   (f0 (qh.mk v51.p y65 v52 v50 v51.error v51.e) y62.e y62.name).bind fun y67 =>
   some (y67.2.flows, y67.2.at_, (qh.mk y67.2.p y67.2.flows y67.2.calls y67.2.at_ y67.2.error y67.2.e), y67.2.calls) : Option ((Mp Int) × (Mp Int) × qh × (List qj))).bind fun (v58, v59, v60, v61) =>
   some (.inl ((IntKind.i64.wrap (v48 + (1 : Int))), v58, v59, (qh.mk v60.p v58 v61 v59 v60.error v60.e), v61))
  else
   some (.inr (v49, v50, (qh.mk v51.p v49 v52 v50 v51.error v51.e), v52))
noncomputable def Zr (a0 : Program) : (Int × (Mp Int) × (Mp Int) × qh × (List qj) × Flat × (List Clock) × (List Tell)) → Option ((Int × (Mp Int) × (Mp Int) × qh × (List qj) × Flat × (List Clock) × (List Tell)) ⊕ ((Mp Int) × (Mp Int) × qh × (List qj) × Flat × (List Clock) × (List Tell)))
 | (v10, v11, v12, v13, v14, v15, v16, v17) =>
  if (decide (v10 < ((List.length a0.inputs : Nat) : Int))) then
   ((qC a0.inputs v10).bind fun y30 =>
   (Jm v11 y30.name (IntKind.i64.wrap ((-1 : Int) - v10))).bind fun y33 =>
   (Qk 16 v16 ([(Clock.mk y30.period y30.phase)])).bind fun y35 =>
   some (y33, v12, (qh.mk v13.p y33 v14 v12 v13.error v13.e), v14, (Flat.mk y35 v15.nodes v15.tasks v17), y35, v17) : Option ((Mp Int) × (Mp Int) × qh × (List qj) × Flat × (List Clock) × (List Tell))).bind fun (v23, v24, v25, v26, v27, v28, v29) =>
   some (.inl ((IntKind.i64.wrap (v10 + (1 : Int))), v23, v24, (qh.mk v25.p v23 v26 v24 v25.error v25.e), v26, (Flat.mk v28 v27.nodes v27.tasks v29), v28, v29))
  else
   some (.inr (v11, v12, (qh.mk v13.p v11 v14 v12 v13.error v13.e), v14, (Flat.mk v16 v15.nodes v15.tasks v17), v16, v17))
noncomputable def B_flat_Make (f0 : qh → Expr → ByteArray → Option (Unit × qh)) (f1 : qh → Expr → ByteArray → Bool → Option Bool) (f2 : qh → Option (List Task)) (f3 : qh → Expr → ByteArray → Option Arg) (a0 : Program) (a1 : (List Clock)) : Option (Flat × Int × Int) :=
 (qy (Zr a0) ((0 : Int), (Mp.emp : Mp Int), (Mp.emp : Mp Int), (qh.mk a0 (Mp.emp : Mp Int) ([] : List qj) (Mp.emp : Mp Int) (0 : Int) (0 : Int)), ([] : List qj), (Flat.mk ([] : List Clock) a0.nodes ([]) ([] : List Tell)), ([] : List Clock), ([] : List Tell)) : Option ((Mp Int) × (Mp Int) × qh × (List qj) × Flat × (List Clock) × (List Tell))).bind fun (v3, v4, v5, v6, v7, v8, v9) =>
 (qy (Zq a0 f0) ((0 : Int), v3, v4, (qh.mk v5.p v3 v6 v4 v5.error v5.e), v6) : Option ((Mp Int) × (Mp Int) × qh × (List qj))).bind fun (v44, v45, v46, v47) =>
 (qy (Zp a0 f1) ((0 : Int), v44, v45, (qh.mk v46.p v44 v47 v45 v46.error v46.e), v47) : Option ((Mp Int) × (Mp Int) × qh × (List qj))).bind fun (v72, v73, v74, v75) =>
 if (!decide (v74.e = (0 : Int))) then
  some ((Flat.mk ([]) ([]) ([]) ([])), v74.error, v74.e)
 else
  (f2 (qh.mk v74.p v72 v75 v73 v74.error v74.e)).bind fun y107 =>
  (qy (Zo v72 v73 v75 v74 a0 a1 f3) ((0 : Int), (Flat.mk v8 v7.nodes y107 v9), v8, v9) : Option (Flat × (List Clock) × (List Tell))).bind fun (v111, v112, v113) =>
  some ((Flat.mk v112 v111.nodes v111.tasks v113), (0 : Int), (0 : Int))
abbrev qG : Int → PV := fun v : Int => (PV.v (.int .i64 v))
abbrev C18_0 (z0 z1 : Store) (z2 : Nat) (z3 : qh) (z4 z5 : Nat) (z6 : (List qj)) (z7 : Nat) : Prop := Bx z0 z1 z2 130 [(.sl (List.map Node.cl z3.p.nodes)), (.sl (List.map Input.cl z3.p.inputs)), (.sl (List.map Flow.cl z3.p.flows)), (.sl (List.map Output.cl z3.p.outputs)), (.mp z4), (.ow z5 (List.map qj.cl z6)), (.mp z7), (.v (.int .i64 z3.error)), (.v (.int .i64 z3.e))]
abbrev C18_1 (z0 : Store) (z1 : Nat) (z2 : (Mp Int)) : Prop := Gx z0 z1 (AObj.map .s (mpF (fun v : Int => (PV.v (.int .i64 v))) (Mp.get z2)) (Mp.n z2))
abbrev C18_2 (z0 z1 : Store) (z2 z3 : Nat) (z4 : (List Clock)) (z5 : Flat) (z6 : Nat) (z7 : (List Tell)) : Prop := Bx z0 z1 z2 49 [(.ow z3 (List.map Clock.cl z4)), (.sl (List.map Node.cl z5.nodes)), (.sl (List.map Task.cl z5.tasks)), (.ow z6 (List.map Tell.cl z7))]
abbrev C18_3 (z0 : Store) (z1 : Nat) (z2 : (List qj)) : Prop := Gx z0 z1 (tkO 164 3 (List.length z2))
abbrev C18_4 (z0 : Store) (z1 : Nat) (z2 : (List Clock)) : Prop := Gx z0 z1 (tkO 43 2 (List.length z2))
abbrev C18_5 (z0 : Store) (z1 : Nat) (z2 : (List Tell)) : Prop := Gx z0 z1 (tkO 73 5 (List.length z2))
abbrev C18_6 (z0 z1 : Store) (z2 : Nat) : Prop := Bx z0 z1 z2 49 [.e0, .e0, .e0, .e0]
abbrev C18_7 (z0 z1 : Store) (z2 : Nat) (z3 : Program) : Prop := Bx z0 z1 z2 27 (Program.cl z3)
abbrev C18_8 (z0 z1 : Store) (z2 : Nat) (z3 : Program) (z4 z5 z6 : Nat) : Prop := Bx z0 z1 z2 130 [(.sl (List.map Node.cl z3.nodes)), (.sl (List.map Input.cl z3.inputs)), (.sl (List.map Flow.cl z3.flows)), (.sl (List.map Output.cl z3.outputs)), (.mp z4), (.ow z5 (List.map qj.cl ([] : List qj))), (.mp z6), (.v (.int .i64 (0 : Int))), (.v (.int .i64 (0 : Int)))]
abbrev C18_9 (z0 : Store) (z1 : Nat) : Prop := Gx z0 z1 (AObj.map .s (mpF (fun v : Int => (PV.v (.int .i64 v))) (Mp.get (Mp.emp : Mp Int))) (Mp.n (Mp.emp : Mp Int)))
theorem W_flat_Make (f0 f1 f2 f3) (S0 : Sat_flat_maker_number f0) (S1 : Sat_flat_maker_long f1) (S2 : Sat_flat_maker_tasks f2) (S3 : Sat_flat_maker_arg f3) : Sat_flat_Make (B_flat_Make f0 f1 f2 f3) := by
 intro a0 a1 r h σ K hK;refine qW Try.func18 rfl rfl (by kernel_rfl) ?_;unfold B_flat_Make at h;have hP := Pre.refl σ;have E0 : qz [(.ag (Program.cl a0)), (.sl (List.map Clock.cl a1))] 0 = (.ag (Program.cl a0)) := rfl;have E1 : qz [(.ag (Program.cl a0)), (.sl (List.map Clock.cl a1))] 1 = (.sl (List.map Clock.cl a1)) := rfl;have TT := JV Arg.cle Clock.cle Expr.rlen Flow.cle Input.cle Output.cle Program.cle T_107 T_127 T_128 T_130 T_2 T_22 T_23 T_24 (ZC T_25 T_27 T_3 T_30 T_33 T_37 T_39 T_4 T_41 T_43 T_46 T_47 T_49 T_61 T_65 T_68 T_73 T_9 T_96 T_99);refine qk (fun e s => ∃ i2 i4 : Nat, C18_7 σ s i2 a0 ∧ C18_6 σ s i4 ∧ eS e 1 Clock.cl a1 ∧ eP e 2 i2 ∧ eP e 4 i4 ∧ i2 ≠ i4 ∧ Pre σ s) ?_ ?_
 ·refine w_x (cj2 E0 TT) ?_;have q1 := Bx.new hP 27 (Program.cl a0);exact qe ⟨σ.length, (σ ++ [some (AObj.box 27 (Program.cl a0))]).length, (q1.app _), (Bx.new (hP.app _) 49 [.e0, .e0, .e0, .e0]), E1, (xv (cj2 E0 TT)), (xv (cj2 E0 TT)), (Nat.ne_of_lt q1.lt), ((hP.app _).app _)⟩
 rintro e s ⟨i2, i4, X2, X4, E1, E2, E4, N2__4, hP⟩
 refine qk (fun e s => ∃ i19 i20 i22 i22_5 : Nat, C18_9 s i19 ∧ σ.length ≤ i19 ∧ C18_7 σ s i2 a0 ∧ C18_9 s i20 ∧ σ.length ≤ i20 ∧ C18_8 σ s i22 a0 i19 i22_5 i20 ∧ Gx s i22_5 (tkO 164 3 (List.length ([] : List qj))) ∧ σ.length ≤ i22_5 ∧ C18_6 σ s i4 ∧ eS e 1 Clock.cl a1 ∧ eP e 2 i2 ∧ eP e 4 i4 ∧ eP e 7 i22 ∧ i19 ≠ i20 ∧ i2 ≠ i22 ∧ i2 ≠ i4 ∧ i22 ≠ i4 ∧ Pre σ s) ?_ ?_
 ·have q2 := cj4 E2 X2.g3 (Program.clu a0) TT;refine w_x q2 ?_;exact ZU (((Gh.refl _ _).tr Gh.hole).tr (Gh.boxq ((Bx.new ((hP.app _).app _) _ _).app _).get (.cons (.refl _) (.cons (.refl _) (.cons (.refl _) (.cons (.refl _) (.cons (.refl _) (.cons (Wq.holw (Gx.cast (o' := (tkO 164 3 (List.length ([] : List qj)))) (Gx.new _ _) rfl).get Nilp.e0) (.cons (.refl _) (.cons (.refl _) (.cons (.refl _) .nil))))))))))) ⟨_, _, _, _, (((((Gx.cast (Gx.new _ _) (YU qG)).app _).app _).app _).ne (Ne.symm (Nat.ne_of_lt ((Gx.cast (Gx.new _ _) (YU qG)).app _).lt)) _), (Pre.le hP), (((((X2.app _).app _).app _).app _).ne (Ne.symm (Nat.ne_of_lt ((X2.app _).app _).lt)) _), ((((Gx.cast (Gx.new _ _) (YU qG)).app _).app _).ne (Ne.symm (Nat.ne_of_lt (Gx.cast (Gx.new _ _) (YU qG)).lt)) _), (Pre.le (hP.app _)), (((Bx.new ((hP.app _).app _) _ _).app _).same _ _), ((Gx.cast (o' := (tkO 164 3 (List.length ([] : List qj)))) (Gx.new _ _) rfl).ne (Nat.ne_of_lt (Bx.new ((hP.app _).app _) _ _).lt) _), (Pre.le (((hP.app _).app _).app _)), (((((X4.app _).app _).app _).app _).ne (Ne.symm (Nat.ne_of_lt ((X4.app _).app _).lt)) _), E1, E2, E4, (xv q2), (Nat.ne_of_lt (Gx.cast (Gx.new _ _) (YU qG)).lt), (Nat.ne_of_lt ((X2.app _).app _).lt), N2__4, (Ne.symm (Nat.ne_of_lt ((X4.app _).app _).lt)), (((((hP.app _).app _).app _).app _).set (Pre.le ((hP.app _).app _)) _)⟩
 rintro e s ⟨i19, i20, i22, i22_5, X19, L19, X2, X20, L20, X22, X22_5, L22_5, X4, E1, E2, E4, E7, N19__20, N2__22, N2__4, N22__4, hP⟩
 refine qk (fun e s => ∃ i8 i8_0 i8_3 : Nat, C18_9 s i19 ∧ σ.length ≤ i19 ∧ C18_7 σ s i2 a0 ∧ C18_9 s i20 ∧ σ.length ≤ i20 ∧ C18_8 σ s i22 a0 i19 i22_5 i20 ∧ Gx s i22_5 (tkO 164 3 (List.length ([] : List qj))) ∧ σ.length ≤ i22_5 ∧ C18_6 σ s i4 ∧ Bx σ s i8 49 [(.ow i8_0 (List.map Clock.cl ([] : List Clock))), (.sl (List.map Node.cl a0.nodes)), .e0, (.ow i8_3 (List.map Tell.cl ([] : List Tell)))] ∧ Gx s i8_0 (tkO 43 2 (List.length ([] : List Clock))) ∧ σ.length ≤ i8_0 ∧ Gx s i8_3 (tkO 73 5 (List.length ([] : List Tell))) ∧ σ.length ≤ i8_3 ∧ eS e 1 Clock.cl a1 ∧ eP e 2 i2 ∧ eP e 4 i4 ∧ eP e 7 i22 ∧ eP e 8 i8 ∧ i19 ≠ i20 ∧ i2 ≠ i22 ∧ i2 ≠ i4 ∧ i2 ≠ i8 ∧ i22 ≠ i4 ∧ i22 ≠ i8 ∧ i22_5 ≠ i8_0 ∧ i22_5 ≠ i8_3 ∧ i4 ≠ i8 ∧ i8_0 ≠ i8_3 ∧ Pre σ s) ?_ ?_
 ·refine w_x (cj3 E2 X2.g3 TT) ?_;exact ZU (((((Gh.refl _ _).tr Gh.hole).tr (Gh.boxq ((Bx.new hP _ _).app _).get (.cons (Wq.holw (Gx.cast (o' := (tkO 43 2 (List.length ([] : List Clock)))) (Gx.new _ _) rfl).get Nilp.e0) (.cons (.refl _) (.cons (.refl _) (.cons (.refl _) .nil)))))).tr Gh.hole).tr (Gh.boxq ((((Bx.new hP _ _).app _).same _ _).app _).get (.cons (.refl _) (.cons (.refl _) (.cons (.refl _) (.cons (Wq.holw (Gx.cast (o' := (tkO 73 5 (List.length ([] : List Tell)))) (Gx.new _ _) rfl).get Nilp.e0) .nil)))))) ⟨_, _, _, (((((X19.app _).app _).ne (Ne.symm (Nat.ne_of_lt X19.lt)) _).app _).ne (Ne.symm (Nat.ne_of_lt X19.lt)) _), L19, (((((X2.app _).app _).ne (Ne.symm (Nat.ne_of_lt X2.lt)) _).app _).ne (Ne.symm (Nat.ne_of_lt X2.lt)) _), (((((X20.app _).app _).ne (Ne.symm (Nat.ne_of_lt X20.lt)) _).app _).ne (Ne.symm (Nat.ne_of_lt X20.lt)) _), L20, (((((X22.app _).app _).ne (Ne.symm (Nat.ne_of_lt X22.lt)) _).app _).ne (Ne.symm (Nat.ne_of_lt X22.lt)) _), (((((X22_5.app _).app _).ne (Ne.symm (Nat.ne_of_lt X22_5.lt)) _).app _).ne (Ne.symm (Nat.ne_of_lt X22_5.lt)) _), L22_5, (((((X4.app _).app _).ne (Ne.symm (Nat.ne_of_lt X4.lt)) _).app _).ne (Ne.symm (Nat.ne_of_lt X4.lt)) _), (((((Bx.new hP _ _).app _).same _ _).app _).same _ _), ((((Gx.cast (o' := (tkO 43 2 (List.length ([] : List Clock)))) (Gx.new _ _) rfl).ne (Nat.ne_of_lt (Bx.new hP _ _).lt) _).app _).ne (Nat.ne_of_lt (Bx.new hP _ _).lt) _), (Pre.le (hP.app _)), ((Gx.cast (o' := (tkO 73 5 (List.length ([] : List Tell)))) (Gx.new _ _) rfl).ne (Nat.ne_of_lt (((Bx.new hP _ _).app _).same _ _).lt) _), (Pre.le (((hP.app _).app _).set (Pre.le hP) _)), E1, E2, E4, E7, (xv (cj3 E2 X2.g3 TT)), N19__20, N2__22, N2__4, (Nat.ne_of_lt X2.lt), N22__4, (Nat.ne_of_lt X22.lt), (Nat.ne_of_lt (X22_5.app _).lt), (Nat.ne_of_lt (((X22_5.app _).app _).ne (Ne.symm (Nat.ne_of_lt X22_5.lt)) _).lt), (Nat.ne_of_lt X4.lt), (Nat.ne_of_lt ((Gx.cast (o' := (tkO 43 2 (List.length ([] : List Clock)))) (Gx.new _ _) rfl).ne (Nat.ne_of_lt (Bx.new hP _ _).lt) _).lt), (((((hP.app _).app _).set (Pre.le hP) _).app _).set (Pre.le hP) _)⟩
 rintro e s ⟨i8, i8_0, i8_3, X19, L19, X2, X20, L20, X22, X22_5, L22_5, X4, X8, X8_0, L8_0, X8_3, L8_3, E1, E2, E4, E7, E8, N19__20, N2__22, N2__4, N2__8, N22__4, N22__8, N22_5__8_0, N22_5__8_3, N4__8, N8_0__8_3, hP⟩
 refine ql (qd (w_x (cj3 E2 X2.get TT) ?_));refine qf ?_;obtain ⟨x1, h2, h⟩ := qb h;refine qk (fun e s => ∃ v3 v4 v5 v6 v7 v8 v9, (v3, v4, v5, v6, v7, v8, v9) = x1 ∧ C18_1 s i19 v3 ∧ σ.length ≤ i19 ∧ C18_7 σ s i2 a0 ∧ C18_1 s i20 v4 ∧ σ.length ≤ i20 ∧ C18_0 σ s i22 v5 i19 i22_5 v6 i20 ∧ C18_3 s i22_5 v6 ∧ σ.length ≤ i22_5 ∧ C18_6 σ s i4 ∧ C18_2 σ s i8 i8_0 v8 v7 i8_3 v9 ∧ C18_4 s i8_0 v8 ∧ σ.length ≤ i8_0 ∧ C18_5 s i8_3 v9 ∧ σ.length ≤ i8_3 ∧ eS e 1 Clock.cl a1 ∧ eP e 2 i2 ∧ eP e 4 i4 ∧ eP e 7 i22 ∧ eP e 8 i8 ∧ i19 ≠ i20 ∧ i2 ≠ i22 ∧ i2 ≠ i4 ∧ i2 ≠ i8 ∧ i22 ≠ i4 ∧ i22 ≠ i8 ∧ i22_5 ≠ i8_0 ∧ i22_5 ≠ i8_3 ∧ i4 ≠ i8 ∧ i8_0 ≠ i8_3 ∧ Pre σ s) ?_ ?_
 ·refine qn (w_iterg h2 (fun v e s => ∃ v10 v11 v12 v13 v14 v15 v16 v17, (v10, v11, v12, v13, v14, v15, v16, v17) = v ∧ C18_1 s i19 v11 ∧ σ.length ≤ i19 ∧ C18_7 σ s i2 a0 ∧ C18_1 s i20 v12 ∧ σ.length ≤ i20 ∧ C18_0 σ s i22 v13 i19 i22_5 v14 i20 ∧ C18_3 s i22_5 v14 ∧ σ.length ≤ i22_5 ∧ C18_6 σ s i4 ∧ C18_2 σ s i8 i8_0 v16 v15 i8_3 v17 ∧ C18_4 s i8_0 v16 ∧ σ.length ≤ i8_0 ∧ C18_5 s i8_3 v17 ∧ σ.length ≤ i8_3 ∧ eS e 1 Clock.cl a1 ∧ eP e 2 i2 ∧ eP e 4 i4 ∧ eP e 7 i22 ∧ eP e 8 i8 ∧ eS e 27 Input.cl a0.inputs ∧ eL e 28 a0.inputs ∧ eI e 29 v10 ∧ i19 ≠ i20 ∧ i2 ≠ i22 ∧ i2 ≠ i4 ∧ i2 ≠ i8 ∧ i22 ≠ i4 ∧ i22 ≠ i8 ∧ i22_5 ≠ i8_0 ∧ i22_5 ≠ i8_3 ∧ i4 ≠ i8 ∧ i8_0 ≠ i8_3 ∧ Pre σ s) ⟨_, _, ((Gh.refl _ _).tr (Gh.box (c' := [(.ow i8_0 (List.map Clock.cl ([] : List Clock))), (.sl (List.map Node.cl a0.nodes)), (.sl []), (.ow i8_3 (List.map Tell.cl ([] : List Tell)))]) X8.get (.cons (.refl _) (.cons (.refl _) (.cons .e0 (.cons (.refl _) .nil)))))), _, _, _, _, _, _, _, _, rfl, (X19.ne (Gx.ap X8.gx X19) (some (AObj.box 49 [(.ow i8_0 (List.map Clock.cl ([] : List Clock))), (.sl (List.map Node.cl a0.nodes)), (.sl []), (.ow i8_3 (List.map Tell.cl ([] : List Tell)))]))), L19, (X2.ne (Ne.symm N2__8) (some (AObj.box 49 [(.ow i8_0 (List.map Clock.cl ([] : List Clock))), (.sl (List.map Node.cl a0.nodes)), (.sl []), (.ow i8_3 (List.map Tell.cl ([] : List Tell)))]))), (X20.ne (Gx.ap X8.gx X20) (some (AObj.box 49 [(.ow i8_0 (List.map Clock.cl ([] : List Clock))), (.sl (List.map Node.cl a0.nodes)), (.sl []), (.ow i8_3 (List.map Tell.cl ([] : List Tell)))]))), L20, (X22.ne (Ne.symm N22__8) (some (AObj.box 49 [(.ow i8_0 (List.map Clock.cl ([] : List Clock))), (.sl (List.map Node.cl a0.nodes)), (.sl []), (.ow i8_3 (List.map Tell.cl ([] : List Tell)))]))), (X22_5.ne (Gx.ap X8.gx X22_5) (some (AObj.box 49 [(.ow i8_0 (List.map Clock.cl ([] : List Clock))), (.sl (List.map Node.cl a0.nodes)), (.sl []), (.ow i8_3 (List.map Tell.cl ([] : List Tell)))]))), L22_5, (X4.ne (Ne.symm N4__8) (some (AObj.box 49 [(.ow i8_0 (List.map Clock.cl ([] : List Clock))), (.sl (List.map Node.cl a0.nodes)), (.sl []), (.ow i8_3 (List.map Tell.cl ([] : List Tell)))]))), (X8.same 49 [(.ow i8_0 (List.map Clock.cl ([] : List Clock))), (.sl (List.map Node.cl a0.nodes)), (.sl []), (.ow i8_3 (List.map Tell.cl ([] : List Tell)))]), (X8_0.ne (Gx.ap X8.gx X8_0) (some (AObj.box 49 [(.ow i8_0 (List.map Clock.cl ([] : List Clock))), (.sl (List.map Node.cl a0.nodes)), (.sl []), (.ow i8_3 (List.map Tell.cl ([] : List Tell)))]))), L8_0, (X8_3.ne (Gx.ap X8.gx X8_3) (some (AObj.box 49 [(.ow i8_0 (List.map Clock.cl ([] : List Clock))), (.sl (List.map Node.cl a0.nodes)), (.sl []), (.ow i8_3 (List.map Tell.cl ([] : List Tell)))]))), L8_3, E1, E2, E4, E7, E8, (xv TT), (xv TT), (xv TT), N19__20, N2__22, N2__4, N2__8, N22__4, N22__8, N22_5__8_0, N22_5__8_3, N4__8, N8_0__8_3, (hP.set X8.le (some (AObj.box 49 [(.ow i8_0 (List.map Clock.cl ([] : List Clock))), (.sl (List.map Node.cl a0.nodes)), (.sl []), (.ow i8_3 (List.map Tell.cl ([] : List Tell)))])))⟩ ?_)
  rintro v x18 e s hf19 ⟨v10, v11, v12, v13, v14, v15, v16, v17, rfl, X19, L19, X2, X20, L20, X22, X22_5, L22_5, X4, X8, X8_0, L8_0, X8_3, L8_3, E1, E2, E4, E7, E8, E27, E28, E29, N19__20, N2__22, N2__4, N2__8, N22__4, N22__8, N22_5__8_0, N22_5__8_3, N4__8, N8_0__8_3, hP⟩
  unfold Zr at hf19;(try dsimp only at hf19);refine qd (w_x (cj3 E28 E29 TT) ?_);refine qf (qd ?_);rcases qi hf19 with ⟨hb20, hf19⟩ | ⟨hb20, hf19⟩
  ·refine xt hb20 (qm (qf ?_));obtain ⟨x21, h22, hf19⟩ := qb hf19;refine qk (fun e s => ∃ v23 v24 v25 v26 v27 v28 v29, (v23, v24, v25, v26, v27, v28, v29) = x21 ∧ C18_1 s i19 v23 ∧ σ.length ≤ i19 ∧ C18_7 σ s i2 a0 ∧ C18_1 s i20 v24 ∧ σ.length ≤ i20 ∧ C18_0 σ s i22 v25 i19 i22_5 v26 i20 ∧ C18_3 s i22_5 v26 ∧ σ.length ≤ i22_5 ∧ C18_6 σ s i4 ∧ C18_2 σ s i8 i8_0 v28 v27 i8_3 v29 ∧ C18_4 s i8_0 v28 ∧ σ.length ≤ i8_0 ∧ C18_5 s i8_3 v29 ∧ σ.length ≤ i8_3 ∧ eS e 1 Clock.cl a1 ∧ eP e 2 i2 ∧ eP e 4 i4 ∧ eP e 7 i22 ∧ eP e 8 i8 ∧ eS e 27 Input.cl a0.inputs ∧ eL e 28 a0.inputs ∧ eI e 29 v10 ∧ i19 ≠ i20 ∧ i2 ≠ i22 ∧ i2 ≠ i4 ∧ i2 ≠ i8 ∧ i22 ≠ i4 ∧ i22 ≠ i8 ∧ i22_5 ≠ i8_0 ∧ i22_5 ≠ i8_3 ∧ i4 ≠ i8 ∧ i8_0 ≠ i8_3 ∧ Pre σ s) ?_ ?_
   ·refine qn ?_;obtain ⟨y30, h31, h22⟩ := qb h22;refine qk (fun e s => ∃ i10 : Nat, Bx σ s i10 96 (Input.cl y30) ∧ C18_1 s i19 v11 ∧ σ.length ≤ i19 ∧ C18_7 σ s i2 a0 ∧ C18_1 s i20 v12 ∧ σ.length ≤ i20 ∧ C18_0 σ s i22 v13 i19 i22_5 v14 i20 ∧ C18_3 s i22_5 v14 ∧ σ.length ≤ i22_5 ∧ C18_6 σ s i4 ∧ C18_2 σ s i8 i8_0 v16 v15 i8_3 v17 ∧ C18_4 s i8_0 v16 ∧ σ.length ≤ i8_0 ∧ C18_5 s i8_3 v17 ∧ σ.length ≤ i8_3 ∧ eS e 1 Clock.cl a1 ∧ eP e 2 i2 ∧ eP e 4 i4 ∧ eP e 7 i22 ∧ eP e 8 i8 ∧ eI e 9 v10 ∧ eP e 10 i10 ∧ eS e 27 Input.cl a0.inputs ∧ eL e 28 a0.inputs ∧ eI e 29 v10 ∧ i10 ≠ i22 ∧ i10 ≠ i4 ∧ i10 ≠ i8 ∧ i19 ≠ i20 ∧ i2 ≠ i22 ∧ i2 ≠ i4 ∧ i2 ≠ i8 ∧ i22 ≠ i4 ∧ i22 ≠ i8 ∧ i22_5 ≠ i8_0 ∧ i22_5 ≠ i8_3 ∧ i4 ≠ i8 ∧ i8_0 ≠ i8_3 ∧ Pre σ s) ?_ ?_
    ·have R32 := qA (f := Input.cl) (qg h31).2;have q3 := cj5 E27 E29 R32 (qg h31).1 TT;refine w_x q3 ?_;exact qe ⟨s.length, (Bx.new hP _ _), (X19.app _), L19, (X2.app _), (X20.app _), L20, (X22.app _), (X22_5.app _), L22_5, (X4.app _), (X8.app _), (X8_0.app _), L8_0, (X8_3.app _), L8_3, E1, E2, E4, E7, E8, (xv q3), (xv q3), E27, E28, E29, (Ne.symm (Nat.ne_of_lt X22.lt)), (Ne.symm (Nat.ne_of_lt X4.lt)), (Ne.symm (Nat.ne_of_lt X8.lt)), N19__20, N2__22, N2__4, N2__8, N22__4, N22__8, N22_5__8_0, N22_5__8_3, N4__8, N8_0__8_3, (hP.app _)⟩
    rintro e s ⟨i10, X10, X19, L19, X2, X20, L20, X22, X22_5, L22_5, X4, X8, X8_0, L8_0, X8_3, L8_3, E1, E2, E4, E7, E8, E9, E10, E27, E28, E29, N10__22, N10__4, N10__8, N19__20, N2__22, N2__4, N2__8, N22__4, N22__8, N22_5__8_0, N22_5__8_3, N4__8, N8_0__8_3, hP⟩
    obtain ⟨y33, h34, h22⟩ := qb h22;refine qk (fun e s => Bx σ s i10 96 (Input.cl y30) ∧ C18_1 s i19 y33 ∧ σ.length ≤ i19 ∧ C18_7 σ s i2 a0 ∧ C18_1 s i20 v12 ∧ σ.length ≤ i20 ∧ C18_0 σ s i22 v13 i19 i22_5 v14 i20 ∧ C18_3 s i22_5 v14 ∧ σ.length ≤ i22_5 ∧ C18_6 σ s i4 ∧ C18_2 σ s i8 i8_0 v16 v15 i8_3 v17 ∧ C18_4 s i8_0 v16 ∧ σ.length ≤ i8_0 ∧ C18_5 s i8_3 v17 ∧ σ.length ≤ i8_3 ∧ eS e 1 Clock.cl a1 ∧ eP e 2 i2 ∧ eP e 4 i4 ∧ eP e 7 i22 ∧ eP e 8 i8 ∧ eP e 10 i10 ∧ eS e 27 Input.cl a0.inputs ∧ eL e 28 a0.inputs ∧ eI e 29 v10 ∧ i10 ≠ i22 ∧ i10 ≠ i4 ∧ i10 ≠ i8 ∧ i19 ≠ i20 ∧ i2 ≠ i22 ∧ i2 ≠ i4 ∧ i2 ≠ i8 ∧ i22 ≠ i4 ∧ i22 ≠ i8 ∧ i22_5 ≠ i8_0 ∧ i22_5 ≠ i8_3 ∧ i4 ≠ i8 ∧ i8_0 ≠ i8_3 ∧ Pre σ s) ?_ ?_
    ·have q4 := Gx.ap X19 X22_5;have q5 := Gx.ap X19 X10.gx;have q6 := Gx.ap X19 X22.gx;have q7 := Gx.same X19 (AObj.map .s (upm (mpF qG (Mp.get v11)) (.string y30.name) (.v (.int .i64 (IntKind.i64.wrap ((-1 : Int) - v10))))) (Mp.n v11 + 1));have q8 := Gx.cast q7 (qqF (f := qG) h34);have q9 := cj15 E7 E9 E10 X10.get X19.get X20.get X22.get X22_5.get (JE h34).1 (X10.nea q5) q8.get (X20.nea N19__20) (X22.nea q6) (X22_5.nea q4) TT;refine zn 8 0 q9 ?_;refine za q9 ?_;exact qe ⟨(X10.ne q5 _), q8, L19, (X2.ne (Gx.ap X19 X2.gx) _), (X20.ne N19__20 _), L20, (X22.ne q6 _), (X22_5.ne q4 _), L22_5, (X4.ne (Gx.ap X19 X4.gx) _), (X8.ne (Gx.ap X19 X8.gx) _), (X8_0.ne (Gx.ap X19 X8_0) _), L8_0, (X8_3.ne (Gx.ap X19 X8_3) _), L8_3, E1, E2, E4, E7, E8, E10, E27, E28, E29, N10__22, N10__4, N10__8, N19__20, N2__22, N2__4, N2__8, N22__4, N22__8, N22_5__8_0, N22_5__8_3, N4__8, N8_0__8_3, (hP.set L19 (some (AObj.map .s (upm (mpF qG (Mp.get v11)) (.string y30.name) (.v (.int .i64 (IntKind.i64.wrap ((-1 : Int) - v10))))) (Mp.n v11 + 1))))⟩
    rintro e s ⟨X10, X19, L19, X2, X20, L20, X22, X22_5, L22_5, X4, X8, X8_0, L8_0, X8_3, L8_3, E1, E2, E4, E7, E8, E10, E27, E28, E29, N10__22, N10__4, N10__8, N19__20, N2__22, N2__4, N2__8, N22__4, N22__8, N22_5__8_0, N22_5__8_3, N4__8, N8_0__8_3, hP⟩
    obtain ⟨y35, h36, h22⟩ := qb h22;have hv38 : (List.map Clock.cl v16) ++ ([[(.v (.int .i64 y30.period)), (.v (.int .i64 y30.phase))]] : List (List PV)) = (List.map Clock.cl y35) := by rw [← (qN h36).2, List.map_append]; rfl
    have hb39 : ((List.map Clock.cl v16).length + ([[(.v (.int .i64 y30.period)), (.v (.int .i64 y30.phase))]] : List (List PV)).length) * 16 ≤ 140737488355328 ∧ (List.map Clock.cl v16).length + ([[(.v (.int .i64 y30.period)), (.v (.int .i64 y30.phase))]] : List (List PV)).length ≤ 140737488355328 := by simpa [Expr.rlen] using (qN h36).1
    have ha40 := qqc (i := i8_0) (s := s) (n := List.length v16) (k := List.length y35) (x := (.sl [[(.v (.int .i64 y30.period)), (.v (.int .i64 y30.phase))]])) (rows := (List.map Clock.cl v16)) (ns := ([[(.v (.int .i64 y30.period)), (.v (.int .i64 y30.phase))]] : List (List PV))) (vr := (List.map Clock.cl y35)) T_33 T_43 X8_0.get (by simp [Expr.rlen]) (qI (f := Clock.cl) (n := 2) (fun _ => rfl) _) (JG rfl) (by simp) (by decide) hb39 hv38 (by simp [Expr.rlen]) rfl;have q10 := Gx.ap X8_0 X8.gx;have q11 := Gx.same X8_0 (tkO 43 2 (List.length y35));have q12 := X8.ne q10 (some (tkO 43 2 (List.length y35)));have q13 := X8_3.ne N8_0__8_3 (some (tkO 43 2 (List.length y35)));have q14 := X10.ne (Gx.ap X8_0 X10.gx) (some (tkO 43 2 (List.length y35)));refine w_x (JV E8 E10 X10.get X8.get X8_0.get X8_3.get ha40 q14.get q12.get q11.get q13.get (q14.ne (Ne.symm N10__8) (some (AObj.box 49 [(.ow i8_0 (List.map Clock.cl y35)), (.sl (List.map Node.cl v15.nodes)), (.sl (List.map Task.cl v15.tasks)), (.ow i8_3 (List.map Tell.cl v17))]))).get (q12.same 49 [(.ow i8_0 (List.map Clock.cl y35)), (.sl (List.map Node.cl v15.nodes)), (.sl (List.map Task.cl v15.tasks)), (.ow i8_3 (List.map Tell.cl v17))]).get (q11.ne (Gx.ap X8.gx X8_0) (some (AObj.box 49 [(.ow i8_0 (List.map Clock.cl y35)), (.sl (List.map Node.cl v15.nodes)), (.sl (List.map Task.cl v15.tasks)), (.ow i8_3 (List.map Tell.cl v17))]))).get (q13.ne (Gx.ap X8.gx X8_3) (some (AObj.box 49 [(.ow i8_0 (List.map Clock.cl y35)), (.sl (List.map Node.cl v15.nodes)), (.sl (List.map Task.cl v15.tasks)), (.ow i8_3 (List.map Tell.cl v17))]))).get TT) ?_;refine qQ ?_;obtain rfl := qa h22;exact qe ⟨_, _, _, _, _, _, _, rfl, ((X19.ne (Gx.ap X8_0 X19) _).ne (Gx.ap X8.gx X19) _), L19, ((X2.ne (Gx.ap X8_0 X2.gx) _).ne (Ne.symm N2__8) _), ((X20.ne (Gx.ap X8_0 X20) _).ne (Gx.ap X8.gx X20) _), L20, ((X22.ne (Gx.ap X8_0 X22.gx) _).ne (Ne.symm N22__8) _), ((X22_5.ne (Ne.symm N22_5__8_0) _).ne (Gx.ap X8.gx X22_5) _), L22_5, ((X4.ne (Gx.ap X8_0 X4.gx) _).ne (Ne.symm N4__8) _), (q12.same _ _), (q11.ne (Gx.ap X8.gx X8_0) _), L8_0, (q13.ne (Gx.ap X8.gx X8_3) _), L8_3, E1, E2, E4, E7, E8, E27, E28, E29, N19__20, N2__22, N2__4, N2__8, N22__4, N22__8, N22_5__8_0, N22_5__8_3, N4__8, N8_0__8_3, ((hP.set L8_0 (some (tkO 43 2 (List.length y35)))).set q12.le (some (AObj.box 49 [(.ow i8_0 (List.map Clock.cl y35)), (.sl (List.map Node.cl v15.nodes)), (.sl (List.map Task.cl v15.tasks)), (.ow i8_3 (List.map Tell.cl v17))])))⟩
   rintro e s ⟨v23, v24, v25, v26, v27, v28, v29, rfl, X19, L19, X2, X20, L20, X22, X22_5, L22_5, X4, X8, X8_0, L8_0, X8_3, L8_3, E1, E2, E4, E7, E8, E27, E28, E29, N19__20, N2__22, N2__4, N2__8, N22__4, N22__8, N22_5__8_0, N22_5__8_3, N4__8, N8_0__8_3, hP⟩
   (try dsimp only at hf19);refine w_x (cj2 E29 TT) ?_;obtain rfl := qa hf19;exact qZ rfl ⟨_, _, _, _, _, _, _, _, rfl, X19, L19, X2, X20, L20, X22, X22_5, L22_5, X4, X8, X8_0, L8_0, X8_3, L8_3, E1, E2, E4, E7, E8, E27, E28, (xv (cj2 E29 TT)), N19__20, N2__22, N2__4, N2__8, N22__4, N22__8, N22_5__8_0, N22_5__8_3, N4__8, N8_0__8_3, hP⟩
  ·refine xf hb20 (qE (qM ?_));obtain rfl := qa hf19;refine qY rfl fun hr41 => ?_;obtain rfl := hr41;exact qK (qe ⟨_, _, _, _, _, _, _, rfl, X19, L19, X2, X20, L20, X22, X22_5, L22_5, X4, X8, X8_0, L8_0, X8_3, L8_3, E1, E2, E4, E7, E8, N19__20, N2__22, N2__4, N2__8, N22__4, N22__8, N22_5__8_0, N22_5__8_3, N4__8, N8_0__8_3, hP⟩)
 rintro e s ⟨v3, v4, v5, v6, v7, v8, v9, rfl, X19, L19, X2, X20, L20, X22, X22_5, L22_5, X4, X8, X8_0, L8_0, X8_3, L8_3, E1, E2, E4, E7, E8, N19__20, N2__22, N2__4, N2__8, N22__4, N22__8, N22_5__8_0, N22_5__8_3, N4__8, N8_0__8_3, hP⟩
 (try dsimp only at h);refine ql (qd (w_x (cj3 E2 X2.get TT) ?_));refine qf ?_;obtain ⟨x42, h43, h⟩ := qb h;refine qk (fun e s => ∃ v44 v45 v46 v47, (v44, v45, v46, v47) = x42 ∧ C18_1 s i19 v44 ∧ σ.length ≤ i19 ∧ C18_7 σ s i2 a0 ∧ C18_1 s i20 v45 ∧ σ.length ≤ i20 ∧ C18_0 σ s i22 v46 i19 i22_5 v47 i20 ∧ C18_3 s i22_5 v47 ∧ σ.length ≤ i22_5 ∧ C18_6 σ s i4 ∧ C18_2 σ s i8 i8_0 v8 v7 i8_3 v9 ∧ C18_4 s i8_0 v8 ∧ σ.length ≤ i8_0 ∧ C18_5 s i8_3 v9 ∧ σ.length ≤ i8_3 ∧ eS e 1 Clock.cl a1 ∧ eP e 2 i2 ∧ eP e 4 i4 ∧ eP e 7 i22 ∧ eP e 8 i8 ∧ i19 ≠ i20 ∧ i2 ≠ i22 ∧ i2 ≠ i4 ∧ i2 ≠ i8 ∧ i22 ≠ i4 ∧ i22 ≠ i8 ∧ i22_5 ≠ i8_0 ∧ i22_5 ≠ i8_3 ∧ i4 ≠ i8 ∧ i8_0 ≠ i8_3 ∧ Pre σ s) ?_ ?_
 ·refine qn (qH h43 (fun v e s => ∃ v48 v49 v50 v51 v52, (v48, v49, v50, v51, v52) = v ∧ C18_1 s i19 v49 ∧ σ.length ≤ i19 ∧ C18_7 σ s i2 a0 ∧ C18_1 s i20 v50 ∧ σ.length ≤ i20 ∧ C18_0 σ s i22 v51 i19 i22_5 v52 i20 ∧ C18_3 s i22_5 v52 ∧ σ.length ≤ i22_5 ∧ C18_6 σ s i4 ∧ C18_2 σ s i8 i8_0 v8 v7 i8_3 v9 ∧ C18_4 s i8_0 v8 ∧ σ.length ≤ i8_0 ∧ C18_5 s i8_3 v9 ∧ σ.length ≤ i8_3 ∧ eS e 1 Clock.cl a1 ∧ eP e 2 i2 ∧ eP e 4 i4 ∧ eP e 7 i22 ∧ eP e 8 i8 ∧ eS e 54 Flow.cl a0.flows ∧ eL e 55 a0.flows ∧ eI e 56 v48 ∧ i19 ≠ i20 ∧ i2 ≠ i22 ∧ i2 ≠ i4 ∧ i2 ≠ i8 ∧ i22 ≠ i4 ∧ i22 ≠ i8 ∧ i22_5 ≠ i8_0 ∧ i22_5 ≠ i8_3 ∧ i4 ≠ i8 ∧ i8_0 ≠ i8_3 ∧ Pre σ s) ⟨_, WkE.refl _, _, _, _, _, _, rfl, X19, L19, X2, X20, L20, X22, X22_5, L22_5, X4, X8, X8_0, L8_0, X8_3, L8_3, E1, E2, E4, E7, E8, (xv TT), (xv TT), (xv TT), N19__20, N2__22, N2__4, N2__8, N22__4, N22__8, N22_5__8_0, N22_5__8_3, N4__8, N8_0__8_3, hP⟩ ?_)
  rintro v x53 e s hf54 ⟨v48, v49, v50, v51, v52, rfl, X19, L19, X2, X20, L20, X22, X22_5, L22_5, X4, X8, X8_0, L8_0, X8_3, L8_3, E1, E2, E4, E7, E8, E54, E55, E56, N19__20, N2__22, N2__4, N2__8, N22__4, N22__8, N22_5__8_0, N22_5__8_3, N4__8, N8_0__8_3, hP⟩
  unfold Zq at hf54;(try dsimp only at hf54);refine qd (w_x (cj3 E55 E56 TT) ?_);refine qf (qd ?_);rcases qi hf54 with ⟨hb55, hf54⟩ | ⟨hb55, hf54⟩
  ·refine xt hb55 (qm (qf ?_));obtain ⟨x56, h57, hf54⟩ := qb hf54;refine qk (fun e s => ∃ v58 v59 v60 v61, (v58, v59, v60, v61) = x56 ∧ C18_1 s i19 v58 ∧ σ.length ≤ i19 ∧ C18_7 σ s i2 a0 ∧ C18_1 s i20 v59 ∧ σ.length ≤ i20 ∧ C18_0 σ s i22 v60 i19 i22_5 v61 i20 ∧ C18_3 s i22_5 v61 ∧ σ.length ≤ i22_5 ∧ C18_6 σ s i4 ∧ C18_2 σ s i8 i8_0 v8 v7 i8_3 v9 ∧ C18_4 s i8_0 v8 ∧ σ.length ≤ i8_0 ∧ C18_5 s i8_3 v9 ∧ σ.length ≤ i8_3 ∧ eS e 1 Clock.cl a1 ∧ eP e 2 i2 ∧ eP e 4 i4 ∧ eP e 7 i22 ∧ eP e 8 i8 ∧ eS e 54 Flow.cl a0.flows ∧ eL e 55 a0.flows ∧ eI e 56 v48 ∧ i19 ≠ i20 ∧ i2 ≠ i22 ∧ i2 ≠ i4 ∧ i2 ≠ i8 ∧ i22 ≠ i4 ∧ i22 ≠ i8 ∧ i22_5 ≠ i8_0 ∧ i22_5 ≠ i8_3 ∧ i4 ≠ i8 ∧ i8_0 ≠ i8_3 ∧ Pre σ s) ?_ ?_
   ·refine qn ?_;obtain ⟨y62, h63, h57⟩ := qb h57;refine qk (fun e s => ∃ i12 : Nat, Bx σ s i12 41 (Flow.cl y62) ∧ C18_1 s i19 v49 ∧ σ.length ≤ i19 ∧ C18_7 σ s i2 a0 ∧ C18_1 s i20 v50 ∧ σ.length ≤ i20 ∧ C18_0 σ s i22 v51 i19 i22_5 v52 i20 ∧ C18_3 s i22_5 v52 ∧ σ.length ≤ i22_5 ∧ C18_6 σ s i4 ∧ C18_2 σ s i8 i8_0 v8 v7 i8_3 v9 ∧ C18_4 s i8_0 v8 ∧ σ.length ≤ i8_0 ∧ C18_5 s i8_3 v9 ∧ σ.length ≤ i8_3 ∧ eS e 1 Clock.cl a1 ∧ eP e 2 i2 ∧ eP e 4 i4 ∧ eP e 7 i22 ∧ eP e 8 i8 ∧ eI e 11 v48 ∧ eP e 12 i12 ∧ eS e 54 Flow.cl a0.flows ∧ eL e 55 a0.flows ∧ eI e 56 v48 ∧ i12 ≠ i22 ∧ i12 ≠ i4 ∧ i12 ≠ i8 ∧ i19 ≠ i20 ∧ i2 ≠ i22 ∧ i2 ≠ i4 ∧ i2 ≠ i8 ∧ i22 ≠ i4 ∧ i22 ≠ i8 ∧ i22_5 ≠ i8_0 ∧ i22_5 ≠ i8_3 ∧ i4 ≠ i8 ∧ i8_0 ≠ i8_3 ∧ Pre σ s) ?_ ?_
    ·have R64 := qA (f := Flow.cl) (qg h63).2;have q15 := cj5 E54 E56 R64 (qg h63).1 TT;refine w_x q15 ?_;exact qe ⟨s.length, (Bx.new hP _ _), (X19.app _), L19, (X2.app _), (X20.app _), L20, (X22.app _), (X22_5.app _), L22_5, (X4.app _), (X8.app _), (X8_0.app _), L8_0, (X8_3.app _), L8_3, E1, E2, E4, E7, E8, (xv q15), (xv q15), E54, E55, E56, (Ne.symm (Nat.ne_of_lt X22.lt)), (Ne.symm (Nat.ne_of_lt X4.lt)), (Ne.symm (Nat.ne_of_lt X8.lt)), N19__20, N2__22, N2__4, N2__8, N22__4, N22__8, N22_5__8_0, N22_5__8_3, N4__8, N8_0__8_3, (hP.app _)⟩
    rintro e s ⟨i12, X12, X19, L19, X2, X20, L20, X22, X22_5, L22_5, X4, X8, X8_0, L8_0, X8_3, L8_3, E1, E2, E4, E7, E8, E11, E12, E54, E55, E56, N12__22, N12__4, N12__8, N19__20, N2__22, N2__4, N2__8, N22__4, N22__8, N22_5__8_0, N22_5__8_3, N4__8, N8_0__8_3, hP⟩
    obtain ⟨y65, h66, h57⟩ := qb h57;refine qk (fun e s => Bx σ s i12 41 (Flow.cl y62) ∧ C18_1 s i19 y65 ∧ σ.length ≤ i19 ∧ C18_7 σ s i2 a0 ∧ C18_1 s i20 v50 ∧ σ.length ≤ i20 ∧ C18_0 σ s i22 v51 i19 i22_5 v52 i20 ∧ C18_3 s i22_5 v52 ∧ σ.length ≤ i22_5 ∧ C18_6 σ s i4 ∧ C18_2 σ s i8 i8_0 v8 v7 i8_3 v9 ∧ C18_4 s i8_0 v8 ∧ σ.length ≤ i8_0 ∧ C18_5 s i8_3 v9 ∧ σ.length ≤ i8_3 ∧ eS e 1 Clock.cl a1 ∧ eP e 2 i2 ∧ eP e 4 i4 ∧ eP e 7 i22 ∧ eP e 8 i8 ∧ eP e 12 i12 ∧ eS e 54 Flow.cl a0.flows ∧ eL e 55 a0.flows ∧ eI e 56 v48 ∧ i12 ≠ i22 ∧ i12 ≠ i4 ∧ i12 ≠ i8 ∧ i19 ≠ i20 ∧ i2 ≠ i22 ∧ i2 ≠ i4 ∧ i2 ≠ i8 ∧ i22 ≠ i4 ∧ i22 ≠ i8 ∧ i22_5 ≠ i8_0 ∧ i22_5 ≠ i8_3 ∧ i4 ≠ i8 ∧ i8_0 ≠ i8_3 ∧ Pre σ s) ?_ ?_
    ·have q16 := Gx.ap X19 X22_5;have q17 := Gx.ap X19 X12.gx;have q18 := Gx.ap X19 X22.gx;have q19 := Gx.same X19 (AObj.map .s (upm (mpF qG (Mp.get v49)) (.string y62.name) (.v (.int .i64 v48))) (Mp.n v49 + 1));have q20 := Gx.cast q19 (qqF (f := qG) h66);have q21 := cj15 E7 E11 E12 X12.get X19.get X20.get X22.get X22_5.get (JE h66).1 (X12.nea q17) q20.get (X20.nea N19__20) (X22.nea q18) (X22_5.nea q16) TT;refine zn 7 0 q21 ?_;refine za q21 ?_;exact qe ⟨(X12.ne q17 _), q20, L19, (X2.ne (Gx.ap X19 X2.gx) _), (X20.ne N19__20 _), L20, (X22.ne q18 _), (X22_5.ne q16 _), L22_5, (X4.ne (Gx.ap X19 X4.gx) _), (X8.ne (Gx.ap X19 X8.gx) _), (X8_0.ne (Gx.ap X19 X8_0) _), L8_0, (X8_3.ne (Gx.ap X19 X8_3) _), L8_3, E1, E2, E4, E7, E8, E12, E54, E55, E56, N12__22, N12__4, N12__8, N19__20, N2__22, N2__4, N2__8, N22__4, N22__8, N22_5__8_0, N22_5__8_3, N4__8, N8_0__8_3, (hP.set L19 (some (AObj.map .s (upm (mpF qG (Mp.get v49)) (.string y62.name) (.v (.int .i64 v48))) (Mp.n v49 + 1))))⟩
    rintro e s ⟨X12, X19, L19, X2, X20, L20, X22, X22_5, L22_5, X4, X8, X8_0, L8_0, X8_3, L8_3, E1, E2, E4, E7, E8, E12, E54, E55, E56, N12__22, N12__4, N12__8, N19__20, N2__22, N2__4, N2__8, N22__4, N22__8, N22_5__8_0, N22_5__8_3, N4__8, N8_0__8_3, hP⟩
    obtain ⟨y67, h68, h57⟩ := qb h57;have q22 := Gx.ap X22_5 X20;have q23 := Gx.ap X19 X22_5;have q24 := Gx.ap X20 X22_5;have q25 := Gx.ap X22_5 X19;have q26 := Gx.ap X22.gx X20;have q27 := Gx.ap X19 X12.gx;have q28 := Gx.ap X19 X22.gx;have q29 := Gx.ap X20 X22.gx;have q30 := Gx.ap X22.gx X19;have q31 := Gx.ap X22_5 X12.gx;have q32 := Gx.ap X22_5 X22.gx;have q33 := Gx.ap X22.gx X22_5;have q34 := X22.same 130 [(.sl (List.map Node.cl y67.2.p.nodes)), (.sl (List.map Input.cl y67.2.p.inputs)), (.sl (List.map Flow.cl y67.2.p.flows)), (.sl (List.map Output.cl y67.2.p.outputs)), (.mp i19), (.ow i22_5 (List.map qj.cl y67.2.calls)), (.mp i20), (.v (.int .i64 y67.2.error)), (.v (.int .i64 y67.2.e))];have q35 := X20.ne q26 (some (AObj.box 130 [(.sl (List.map Node.cl y67.2.p.nodes)), (.sl (List.map Input.cl y67.2.p.inputs)), (.sl (List.map Flow.cl y67.2.p.flows)), (.sl (List.map Output.cl y67.2.p.outputs)), (.mp i19), (.ow i22_5 (List.map qj.cl y67.2.calls)), (.mp i20), (.v (.int .i64 y67.2.error)), (.v (.int .i64 y67.2.e))]));have q36 := Gx.same ((q35.ne N19__20 (some (AObj.map .s (mpF qG (Mp.get y67.2.flows)) (Mp.n y67.2.flows)))).ne q22 (some (tkO 164 3 (List.length y67.2.calls)))) (AObj.map .s (mpF qG (Mp.get y67.2.at_)) (Mp.n y67.2.at_));have q37 := X19.ne q30 (some (AObj.box 130 [(.sl (List.map Node.cl y67.2.p.nodes)), (.sl (List.map Input.cl y67.2.p.inputs)), (.sl (List.map Flow.cl y67.2.p.flows)), (.sl (List.map Output.cl y67.2.p.outputs)), (.mp i19), (.ow i22_5 (List.map qj.cl y67.2.calls)), (.mp i20), (.v (.int .i64 y67.2.error)), (.v (.int .i64 y67.2.e))]));have q38 := Gx.same q37 (AObj.map .s (mpF qG (Mp.get y67.2.flows)) (Mp.n y67.2.flows));have q39 := X22_5.ne q33 (some (AObj.box 130 [(.sl (List.map Node.cl y67.2.p.nodes)), (.sl (List.map Input.cl y67.2.p.inputs)), (.sl (List.map Flow.cl y67.2.p.flows)), (.sl (List.map Output.cl y67.2.p.outputs)), (.mp i19), (.ow i22_5 (List.map qj.cl y67.2.calls)), (.mp i20), (.v (.int .i64 y67.2.error)), (.v (.int .i64 y67.2.e))]));have q40 := Gx.same (q39.ne q23 (some (AObj.map .s (mpF qG (Mp.get y67.2.flows)) (Mp.n y67.2.flows)))) (tkO 164 3 (List.length y67.2.calls));have q41 := X12.ne (Ne.symm N12__22) (some (AObj.box 130 [(.sl (List.map Node.cl y67.2.p.nodes)), (.sl (List.map Input.cl y67.2.p.inputs)), (.sl (List.map Flow.cl y67.2.p.flows)), (.sl (List.map Output.cl y67.2.p.outputs)), (.mp i19), (.ow i22_5 (List.map qj.cl y67.2.calls)), (.mp i20), (.v (.int .i64 y67.2.error)), (.v (.int .i64 y67.2.e))]));have q42 := ZC q37.get q35.get q34.get q39.get (q41.ne q27 (some (AObj.map .s (mpF qG (Mp.get y67.2.flows)) (Mp.n y67.2.flows)))).get q38.get (q35.ne N19__20 (some (AObj.map .s (mpF qG (Mp.get y67.2.flows)) (Mp.n y67.2.flows)))).get (q34.ne q28 (some (AObj.map .s (mpF qG (Mp.get y67.2.flows)) (Mp.n y67.2.flows)))).get (q39.ne q23 (some (AObj.map .s (mpF qG (Mp.get y67.2.flows)) (Mp.n y67.2.flows)))).get ((q41.ne q27 (some (AObj.map .s (mpF qG (Mp.get y67.2.flows)) (Mp.n y67.2.flows)))).ne q31 (some (tkO 164 3 (List.length y67.2.calls)))).get (q38.ne q25 (some (tkO 164 3 (List.length y67.2.calls)))).get ((q35.ne N19__20 (some (AObj.map .s (mpF qG (Mp.get y67.2.flows)) (Mp.n y67.2.flows)))).ne q22 (some (tkO 164 3 (List.length y67.2.calls)))).get ((q34.ne q28 (some (AObj.map .s (mpF qG (Mp.get y67.2.flows)) (Mp.n y67.2.flows)))).ne q32 (some (tkO 164 3 (List.length y67.2.calls)))).get q40.get (((q41.ne q27 (some (AObj.map .s (mpF qG (Mp.get y67.2.flows)) (Mp.n y67.2.flows)))).ne q31 (some (tkO 164 3 (List.length y67.2.calls)))).ne (Gx.ap X20 X12.gx) (some (AObj.map .s (mpF qG (Mp.get y67.2.at_)) (Mp.n y67.2.at_)))).get ((q38.ne q25 (some (tkO 164 3 (List.length y67.2.calls)))).ne (Ne.symm N19__20) (some (AObj.map .s (mpF qG (Mp.get y67.2.at_)) (Mp.n y67.2.at_)))).get q36.get (((q34.ne q28 (some (AObj.map .s (mpF qG (Mp.get y67.2.flows)) (Mp.n y67.2.flows)))).ne q32 (some (tkO 164 3 (List.length y67.2.calls)))).ne q29 (some (AObj.map .s (mpF qG (Mp.get y67.2.at_)) (Mp.n y67.2.at_)))).get (q40.ne q24 (some (AObj.map .s (mpF qG (Mp.get y67.2.at_)) (Mp.n y67.2.at_)))).get TT;have q43 := cj9 E7 E12 X12.get X19.get X20.get X22.get X22_5.get q41.get q42;refine w_x q43 ?_;refine S0 _ _ _ _ h68 _ _ _ _ _ _ X22.gx X19 X22_5 X20 N19__20 ?_;refine w_y q43 ?_;refine qQ ?_;obtain rfl := qa h57;exact qe ⟨_, _, _, _, rfl, ((q38.ne q25 _).ne (Ne.symm N19__20) _), L19, ((((X2.ne (Ne.symm N2__22) _).ne (Gx.ap X19 X2.gx) _).ne (Gx.ap X22_5 X2.gx) _).ne (Gx.ap X20 X2.gx) _), q36, L20, (((q34.ne q28 _).ne q32 _).ne q29 _), (q40.ne q24 _), L22_5, ((((X4.ne N22__4 _).ne (Gx.ap X19 X4.gx) _).ne (Gx.ap X22_5 X4.gx) _).ne (Gx.ap X20 X4.gx) _), ((((X8.ne N22__8 _).ne (Gx.ap X19 X8.gx) _).ne (Gx.ap X22_5 X8.gx) _).ne (Gx.ap X20 X8.gx) _), ((((X8_0.ne (Gx.ap X22.gx X8_0) _).ne (Gx.ap X19 X8_0) _).ne N22_5__8_0 _).ne (Gx.ap X20 X8_0) _), L8_0, ((((X8_3.ne (Gx.ap X22.gx X8_3) _).ne (Gx.ap X19 X8_3) _).ne N22_5__8_3 _).ne (Gx.ap X20 X8_3) _), L8_3, E1, E2, E4, E7, E8, E54, E55, E56, N19__20, N2__22, N2__4, N2__8, N22__4, N22__8, N22_5__8_0, N22_5__8_3, N4__8, N8_0__8_3, ((((hP.set X22.le (some (AObj.box 130 [(.sl (List.map Node.cl y67.2.p.nodes)), (.sl (List.map Input.cl y67.2.p.inputs)), (.sl (List.map Flow.cl y67.2.p.flows)), (.sl (List.map Output.cl y67.2.p.outputs)), (.mp i19), (.ow i22_5 (List.map qj.cl y67.2.calls)), (.mp i20), (.v (.int .i64 y67.2.error)), (.v (.int .i64 y67.2.e))]))).set L19 (some (AObj.map .s (mpF qG (Mp.get y67.2.flows)) (Mp.n y67.2.flows)))).set L22_5 (some (tkO 164 3 (List.length y67.2.calls)))).set L20 (some (AObj.map .s (mpF qG (Mp.get y67.2.at_)) (Mp.n y67.2.at_))))⟩
   rintro e s ⟨v58, v59, v60, v61, rfl, X19, L19, X2, X20, L20, X22, X22_5, L22_5, X4, X8, X8_0, L8_0, X8_3, L8_3, E1, E2, E4, E7, E8, E54, E55, E56, N19__20, N2__22, N2__4, N2__8, N22__4, N22__8, N22_5__8_0, N22_5__8_3, N4__8, N8_0__8_3, hP⟩
   (try dsimp only at hf54);refine w_x (cj2 E56 TT) ?_;obtain rfl := qa hf54;exact qZ rfl ⟨_, _, _, _, _, rfl, X19, L19, X2, X20, L20, X22, X22_5, L22_5, X4, X8, X8_0, L8_0, X8_3, L8_3, E1, E2, E4, E7, E8, E54, E55, (xv (cj2 E56 TT)), N19__20, N2__22, N2__4, N2__8, N22__4, N22__8, N22_5__8_0, N22_5__8_3, N4__8, N8_0__8_3, hP⟩
  ·refine xf hb55 (qE (qM ?_));obtain rfl := qa hf54;refine qY rfl fun hr69 => ?_;obtain rfl := hr69;exact qK (qe ⟨_, _, _, _, rfl, X19, L19, X2, X20, L20, X22, X22_5, L22_5, X4, X8, X8_0, L8_0, X8_3, L8_3, E1, E2, E4, E7, E8, N19__20, N2__22, N2__4, N2__8, N22__4, N22__8, N22_5__8_0, N22_5__8_3, N4__8, N8_0__8_3, hP⟩)
 rintro e s ⟨v44, v45, v46, v47, rfl, X19, L19, X2, X20, L20, X22, X22_5, L22_5, X4, X8, X8_0, L8_0, X8_3, L8_3, E1, E2, E4, E7, E8, N19__20, N2__22, N2__4, N2__8, N22__4, N22__8, N22_5__8_0, N22_5__8_3, N4__8, N8_0__8_3, hP⟩
 (try dsimp only at h);refine ql (qd (w_x (cj3 E2 X2.get TT) ?_));refine qf ?_;obtain ⟨x70, h71, h⟩ := qb h;refine qk (fun e s => ∃ v72 v73 v74 v75, (v72, v73, v74, v75) = x70 ∧ C18_1 s i19 v72 ∧ σ.length ≤ i19 ∧ C18_7 σ s i2 a0 ∧ C18_1 s i20 v73 ∧ σ.length ≤ i20 ∧ C18_0 σ s i22 v74 i19 i22_5 v75 i20 ∧ C18_3 s i22_5 v75 ∧ σ.length ≤ i22_5 ∧ C18_6 σ s i4 ∧ C18_2 σ s i8 i8_0 v8 v7 i8_3 v9 ∧ C18_4 s i8_0 v8 ∧ σ.length ≤ i8_0 ∧ C18_5 s i8_3 v9 ∧ σ.length ≤ i8_3 ∧ eS e 1 Clock.cl a1 ∧ eP e 2 i2 ∧ eP e 4 i4 ∧ eP e 7 i22 ∧ eP e 8 i8 ∧ i19 ≠ i20 ∧ i2 ≠ i22 ∧ i2 ≠ i4 ∧ i2 ≠ i8 ∧ i22 ≠ i4 ∧ i22 ≠ i8 ∧ i22_5 ≠ i8_0 ∧ i22_5 ≠ i8_3 ∧ i4 ≠ i8 ∧ i8_0 ≠ i8_3 ∧ Pre σ s) ?_ ?_
 ·refine qn (qH h71 (fun v e s => ∃ v76 v77 v78 v79 v80, (v76, v77, v78, v79, v80) = v ∧ C18_1 s i19 v77 ∧ σ.length ≤ i19 ∧ C18_7 σ s i2 a0 ∧ C18_1 s i20 v78 ∧ σ.length ≤ i20 ∧ C18_0 σ s i22 v79 i19 i22_5 v80 i20 ∧ C18_3 s i22_5 v80 ∧ σ.length ≤ i22_5 ∧ C18_6 σ s i4 ∧ C18_2 σ s i8 i8_0 v8 v7 i8_3 v9 ∧ C18_4 s i8_0 v8 ∧ σ.length ≤ i8_0 ∧ C18_5 s i8_3 v9 ∧ σ.length ≤ i8_3 ∧ eS e 1 Clock.cl a1 ∧ eP e 2 i2 ∧ eP e 4 i4 ∧ eP e 7 i22 ∧ eP e 8 i8 ∧ eS e 76 Flow.cl a0.flows ∧ eL e 77 a0.flows ∧ eI e 78 v76 ∧ i19 ≠ i20 ∧ i2 ≠ i22 ∧ i2 ≠ i4 ∧ i2 ≠ i8 ∧ i22 ≠ i4 ∧ i22 ≠ i8 ∧ i22_5 ≠ i8_0 ∧ i22_5 ≠ i8_3 ∧ i4 ≠ i8 ∧ i8_0 ≠ i8_3 ∧ Pre σ s) ⟨_, WkE.refl _, _, _, _, _, _, rfl, X19, L19, X2, X20, L20, X22, X22_5, L22_5, X4, X8, X8_0, L8_0, X8_3, L8_3, E1, E2, E4, E7, E8, (xv TT), (xv TT), (xv TT), N19__20, N2__22, N2__4, N2__8, N22__4, N22__8, N22_5__8_0, N22_5__8_3, N4__8, N8_0__8_3, hP⟩ ?_)
  rintro v x81 e s hf82 ⟨v76, v77, v78, v79, v80, rfl, X19, L19, X2, X20, L20, X22, X22_5, L22_5, X4, X8, X8_0, L8_0, X8_3, L8_3, E1, E2, E4, E7, E8, E76, E77, E78, N19__20, N2__22, N2__4, N2__8, N22__4, N22__8, N22_5__8_0, N22_5__8_3, N4__8, N8_0__8_3, hP⟩
  unfold Zp at hf82;(try dsimp only at hf82);refine qd (w_x (cj3 E77 E78 TT) ?_);refine qf (qd ?_);rcases qi hf82 with ⟨hb83, hf82⟩ | ⟨hb83, hf82⟩
  ·refine xt hb83 (qm (qf ?_));obtain ⟨x84, h85, hf82⟩ := qb hf82;refine qk (fun e s => ∃ v86 v87 v88 v89, (v86, v87, v88, v89) = x84 ∧ C18_1 s i19 v86 ∧ σ.length ≤ i19 ∧ C18_7 σ s i2 a0 ∧ C18_1 s i20 v87 ∧ σ.length ≤ i20 ∧ C18_0 σ s i22 v88 i19 i22_5 v89 i20 ∧ C18_3 s i22_5 v89 ∧ σ.length ≤ i22_5 ∧ C18_6 σ s i4 ∧ C18_2 σ s i8 i8_0 v8 v7 i8_3 v9 ∧ C18_4 s i8_0 v8 ∧ σ.length ≤ i8_0 ∧ C18_5 s i8_3 v9 ∧ σ.length ≤ i8_3 ∧ eS e 1 Clock.cl a1 ∧ eP e 2 i2 ∧ eP e 4 i4 ∧ eP e 7 i22 ∧ eP e 8 i8 ∧ eS e 76 Flow.cl a0.flows ∧ eL e 77 a0.flows ∧ eI e 78 v76 ∧ i19 ≠ i20 ∧ i2 ≠ i22 ∧ i2 ≠ i4 ∧ i2 ≠ i8 ∧ i22 ≠ i4 ∧ i22 ≠ i8 ∧ i22_5 ≠ i8_0 ∧ i22_5 ≠ i8_3 ∧ i4 ≠ i8 ∧ i8_0 ≠ i8_3 ∧ Pre σ s) ?_ ?_
   ·refine qn ?_;obtain ⟨y90, h91, h85⟩ := qb h85;refine qk (fun e s => ∃ i14 : Nat, Bx σ s i14 41 (Flow.cl y90) ∧ C18_1 s i19 v77 ∧ σ.length ≤ i19 ∧ C18_7 σ s i2 a0 ∧ C18_1 s i20 v78 ∧ σ.length ≤ i20 ∧ C18_0 σ s i22 v79 i19 i22_5 v80 i20 ∧ C18_3 s i22_5 v80 ∧ σ.length ≤ i22_5 ∧ C18_6 σ s i4 ∧ C18_2 σ s i8 i8_0 v8 v7 i8_3 v9 ∧ C18_4 s i8_0 v8 ∧ σ.length ≤ i8_0 ∧ C18_5 s i8_3 v9 ∧ σ.length ≤ i8_3 ∧ eS e 1 Clock.cl a1 ∧ eP e 2 i2 ∧ eP e 4 i4 ∧ eP e 7 i22 ∧ eP e 8 i8 ∧ eP e 14 i14 ∧ eS e 76 Flow.cl a0.flows ∧ eL e 77 a0.flows ∧ eI e 78 v76 ∧ i14 ≠ i22 ∧ i14 ≠ i4 ∧ i14 ≠ i8 ∧ i19 ≠ i20 ∧ i2 ≠ i22 ∧ i2 ≠ i4 ∧ i2 ≠ i8 ∧ i22 ≠ i4 ∧ i22 ≠ i8 ∧ i22_5 ≠ i8_0 ∧ i22_5 ≠ i8_3 ∧ i4 ≠ i8 ∧ i8_0 ≠ i8_3 ∧ Pre σ s) ?_ ?_
    ·have R92 := qA (f := Flow.cl) (qg h91).2;have q44 := cj5 E76 E78 R92 (qg h91).1 TT;refine w_x q44 ?_;exact qe ⟨s.length, (Bx.new hP _ _), (X19.app _), L19, (X2.app _), (X20.app _), L20, (X22.app _), (X22_5.app _), L22_5, (X4.app _), (X8.app _), (X8_0.app _), L8_0, (X8_3.app _), L8_3, E1, E2, E4, E7, E8, (xv q44), E76, E77, E78, (Ne.symm (Nat.ne_of_lt X22.lt)), (Ne.symm (Nat.ne_of_lt X4.lt)), (Ne.symm (Nat.ne_of_lt X8.lt)), N19__20, N2__22, N2__4, N2__8, N22__4, N22__8, N22_5__8_0, N22_5__8_3, N4__8, N8_0__8_3, (hP.app _)⟩
    rintro e s ⟨i14, X14, X19, L19, X2, X20, L20, X22, X22_5, L22_5, X4, X8, X8_0, L8_0, X8_3, L8_3, E1, E2, E4, E7, E8, E14, E76, E77, E78, N14__22, N14__4, N14__8, N19__20, N2__22, N2__4, N2__8, N22__4, N22__8, N22_5__8_0, N22_5__8_3, N4__8, N8_0__8_3, hP⟩
    obtain ⟨w95, h96, h85⟩ := qb h85;refine qk (fun e s => Bx σ s i14 41 (Flow.cl y90) ∧ C18_1 s i19 v77 ∧ σ.length ≤ i19 ∧ C18_7 σ s i2 a0 ∧ C18_1 s i20 v78 ∧ σ.length ≤ i20 ∧ C18_0 σ s i22 v79 i19 i22_5 v80 i20 ∧ C18_3 s i22_5 v80 ∧ σ.length ≤ i22_5 ∧ C18_6 σ s i4 ∧ C18_2 σ s i8 i8_0 v8 v7 i8_3 v9 ∧ C18_4 s i8_0 v8 ∧ σ.length ≤ i8_0 ∧ C18_5 s i8_3 v9 ∧ σ.length ≤ i8_3 ∧ eS e 1 Clock.cl a1 ∧ eP e 2 i2 ∧ eP e 4 i4 ∧ eP e 7 i22 ∧ eP e 8 i8 ∧ eP e 14 i14 ∧ eS e 76 Flow.cl a0.flows ∧ eL e 77 a0.flows ∧ eI e 78 v76 ∧ eB e 94 ((decide (v79.e = (0 : Int))) && w95) ∧ i14 ≠ i22 ∧ i14 ≠ i4 ∧ i14 ≠ i8 ∧ i19 ≠ i20 ∧ i2 ≠ i22 ∧ i2 ≠ i4 ∧ i2 ≠ i8 ∧ i22 ≠ i4 ∧ i22 ≠ i8 ∧ i22_5 ≠ i8_0 ∧ i22_5 ≠ i8_3 ∧ i4 ≠ i8 ∧ i8_0 ≠ i8_3 ∧ Pre σ s) ?_ ?_
    ·cases hb97 : (decide (v79.e = (0 : Int)))
     ·replace h96 := qU (by simp only [hb97, Bool.or_true, Bool.true_or, Bool.or_false, Bool.false_or, Bool.and_true, Bool.true_and, Bool.and_false, Bool.false_and, Bool.not_true, Bool.not_false, cond_true, cond_false]) h96;obtain rfl := qa h96;have q45 := cj9 E7 E14 X14.get X19.get X20.get X22.get X22_5.get hb97 TT;refine w_x q45 ?_;exact qe ⟨X14, X19, L19, X2, X20, L20, X22, X22_5, L22_5, X4, X8, X8_0, L8_0, X8_3, L8_3, E1, E2, E4, E7, E8, E14, E76, E77, E78, (xv q45), N14__22, N14__4, N14__8, N19__20, N2__22, N2__4, N2__8, N22__4, N22__8, N22_5__8_0, N22_5__8_3, N4__8, N8_0__8_3, hP⟩
     ·replace h96 := qO (by simp only [hb97, Bool.or_true, Bool.true_or, Bool.or_false, Bool.false_or, Bool.and_true, Bool.true_and, Bool.and_false, Bool.false_and, Bool.not_true, Bool.not_false, cond_true, cond_false]) h96;obtain ⟨y93, h94, h96⟩ := qb h96;obtain rfl := qa h96;have q46 := cj9 E7 E14 X14.get X19.get X20.get X22.get X22_5.get hb97 TT;refine w_x q46 ?_;refine S1 _ _ _ _ _ h94 _ _ _ _ _ _ X22.gx X19 X22_5 X20 ?_;refine w_y q46 ?_;exact qe ⟨X14, X19, L19, X2, X20, L20, X22, X22_5, L22_5, X4, X8, X8_0, L8_0, X8_3, L8_3, E1, E2, E4, E7, E8, E14, E76, E77, E78, (xv q46), N14__22, N14__4, N14__8, N19__20, N2__22, N2__4, N2__8, N22__4, N22__8, N22_5__8_0, N22_5__8_3, N4__8, N8_0__8_3, hP⟩
    rintro e s ⟨X14, X19, L19, X2, X20, L20, X22, X22_5, L22_5, X4, X8, X8_0, L8_0, X8_3, L8_3, E1, E2, E4, E7, E8, E14, E76, E77, E78, E94, N14__22, N14__4, N14__8, N19__20, N2__22, N2__4, N2__8, N22__4, N22__8, N22_5__8_0, N22_5__8_3, N4__8, N8_0__8_3, hP⟩
    obtain ⟨x98, h99, h85⟩ := qb h85;refine zE (fun e s => ∃ v100 v101 v102 v103, (v100, v101, v102, v103) = x98 ∧ C18_1 s i19 v100 ∧ σ.length ≤ i19 ∧ C18_7 σ s i2 a0 ∧ C18_1 s i20 v101 ∧ σ.length ≤ i20 ∧ C18_0 σ s i22 v102 i19 i22_5 v103 i20 ∧ C18_3 s i22_5 v103 ∧ σ.length ≤ i22_5 ∧ C18_6 σ s i4 ∧ C18_2 σ s i8 i8_0 v8 v7 i8_3 v9 ∧ C18_4 s i8_0 v8 ∧ σ.length ≤ i8_0 ∧ C18_5 s i8_3 v9 ∧ σ.length ≤ i8_3 ∧ eS e 1 Clock.cl a1 ∧ eP e 2 i2 ∧ eP e 4 i4 ∧ eP e 7 i22 ∧ eP e 8 i8 ∧ eS e 76 Flow.cl a0.flows ∧ eL e 77 a0.flows ∧ eI e 78 v76 ∧ i19 ≠ i20 ∧ i2 ≠ i22 ∧ i2 ≠ i4 ∧ i2 ≠ i8 ∧ i22 ≠ i4 ∧ i22 ≠ i8 ∧ i22_5 ≠ i8_0 ∧ i22_5 ≠ i8_3 ∧ i4 ≠ i8 ∧ i8_0 ≠ i8_3 ∧ Pre σ s) ?_ ?_
    ·rcases qi h99 with ⟨hb104, h99⟩ | ⟨hb104, h99⟩
     ·refine xt (cj2 E94 hb104) ?_;have q47 := Gx.ap X22.gx X20;have q48 := Gx.ap X22.gx X19;have q49 := Gx.ap X22.gx X22_5;have q50 := X22.same 130 [(.sl (List.map Node.cl v79.p.nodes)), (.sl (List.map Input.cl v79.p.inputs)), (.sl (List.map Flow.cl v79.p.flows)), (.sl (List.map Output.cl v79.p.outputs)), (.mp i19), (.ow i22_5 (List.map qj.cl v80)), (.mp i20), (.v (.int .i64 y90.at_)), (.v (.int .i64 v79.e))];have q51 := X19.ne q48 (some (AObj.box 130 [(.sl (List.map Node.cl v79.p.nodes)), (.sl (List.map Input.cl v79.p.inputs)), (.sl (List.map Flow.cl v79.p.flows)), (.sl (List.map Output.cl v79.p.outputs)), (.mp i19), (.ow i22_5 (List.map qj.cl v80)), (.mp i20), (.v (.int .i64 y90.at_)), (.v (.int .i64 v79.e))]));have q52 := X20.ne q47 (some (AObj.box 130 [(.sl (List.map Node.cl v79.p.nodes)), (.sl (List.map Input.cl v79.p.inputs)), (.sl (List.map Flow.cl v79.p.flows)), (.sl (List.map Output.cl v79.p.outputs)), (.mp i19), (.ow i22_5 (List.map qj.cl v80)), (.mp i20), (.v (.int .i64 y90.at_)), (.v (.int .i64 v79.e))]));have q53 := X22_5.ne q49 (some (AObj.box 130 [(.sl (List.map Node.cl v79.p.nodes)), (.sl (List.map Input.cl v79.p.inputs)), (.sl (List.map Flow.cl v79.p.flows)), (.sl (List.map Output.cl v79.p.outputs)), (.mp i19), (.ow i22_5 (List.map qj.cl v80)), (.mp i20), (.v (.int .i64 y90.at_)), (.v (.int .i64 v79.e))]));have q54 := X14.ne (Ne.symm N14__22) (some (AObj.box 130 [(.sl (List.map Node.cl v79.p.nodes)), (.sl (List.map Input.cl v79.p.inputs)), (.sl (List.map Flow.cl v79.p.flows)), (.sl (List.map Output.cl v79.p.outputs)), (.mp i19), (.ow i22_5 (List.map qj.cl v80)), (.mp i20), (.v (.int .i64 y90.at_)), (.v (.int .i64 v79.e))]));refine w_x (cj18 E7 E14 X14.get X19.get X20.get X22.get X22_5.get q54.get q51.get q52.get q50.get q53.get (q54.ne (Ne.symm N14__22) (some (AObj.box 130 [(.sl (List.map Node.cl v79.p.nodes)), (.sl (List.map Input.cl v79.p.inputs)), (.sl (List.map Flow.cl v79.p.flows)), (.sl (List.map Output.cl v79.p.outputs)), (.mp i19), (.ow i22_5 (List.map qj.cl v80)), (.mp i20), (.v (.int .i64 y90.at_)), (.v (.int .i64 (8 : Int)))]))).get (q51.ne q48 (some (AObj.box 130 [(.sl (List.map Node.cl v79.p.nodes)), (.sl (List.map Input.cl v79.p.inputs)), (.sl (List.map Flow.cl v79.p.flows)), (.sl (List.map Output.cl v79.p.outputs)), (.mp i19), (.ow i22_5 (List.map qj.cl v80)), (.mp i20), (.v (.int .i64 y90.at_)), (.v (.int .i64 (8 : Int)))]))).get (q52.ne q47 (some (AObj.box 130 [(.sl (List.map Node.cl v79.p.nodes)), (.sl (List.map Input.cl v79.p.inputs)), (.sl (List.map Flow.cl v79.p.flows)), (.sl (List.map Output.cl v79.p.outputs)), (.mp i19), (.ow i22_5 (List.map qj.cl v80)), (.mp i20), (.v (.int .i64 y90.at_)), (.v (.int .i64 (8 : Int)))]))).get (q50.same 130 [(.sl (List.map Node.cl v79.p.nodes)), (.sl (List.map Input.cl v79.p.inputs)), (.sl (List.map Flow.cl v79.p.flows)), (.sl (List.map Output.cl v79.p.outputs)), (.mp i19), (.ow i22_5 (List.map qj.cl v80)), (.mp i20), (.v (.int .i64 y90.at_)), (.v (.int .i64 (8 : Int)))]).get (q53.ne q49 (some (AObj.box 130 [(.sl (List.map Node.cl v79.p.nodes)), (.sl (List.map Input.cl v79.p.inputs)), (.sl (List.map Flow.cl v79.p.flows)), (.sl (List.map Output.cl v79.p.outputs)), (.mp i19), (.ow i22_5 (List.map qj.cl v80)), (.mp i20), (.v (.int .i64 y90.at_)), (.v (.int .i64 (8 : Int)))]))).get TT) ?_;obtain rfl := qa h99;exact qS ⟨_, _, _, _, rfl, (q51.ne q48 _), L19, ((X2.ne (Ne.symm N2__22) _).ne (Ne.symm N2__22) _), (q52.ne q47 _), L20, (q50.same _ _), (q53.ne q49 _), L22_5, ((X4.ne N22__4 _).ne N22__4 _), ((X8.ne N22__8 _).ne N22__8 _), ((X8_0.ne (Gx.ap X22.gx X8_0) _).ne (Gx.ap X22.gx X8_0) _), L8_0, ((X8_3.ne (Gx.ap X22.gx X8_3) _).ne (Gx.ap X22.gx X8_3) _), L8_3, E1, E2, E4, E7, E8, E76, E77, E78, N19__20, N2__22, N2__4, N2__8, N22__4, N22__8, N22_5__8_0, N22_5__8_3, N4__8, N8_0__8_3, ((hP.set X22.le (some (AObj.box 130 [(.sl (List.map Node.cl v79.p.nodes)), (.sl (List.map Input.cl v79.p.inputs)), (.sl (List.map Flow.cl v79.p.flows)), (.sl (List.map Output.cl v79.p.outputs)), (.mp i19), (.ow i22_5 (List.map qj.cl v80)), (.mp i20), (.v (.int .i64 y90.at_)), (.v (.int .i64 v79.e))]))).set q50.le (some (AObj.box 130 [(.sl (List.map Node.cl v79.p.nodes)), (.sl (List.map Input.cl v79.p.inputs)), (.sl (List.map Flow.cl v79.p.flows)), (.sl (List.map Output.cl v79.p.outputs)), (.mp i19), (.ow i22_5 (List.map qj.cl v80)), (.mp i20), (.v (.int .i64 y90.at_)), (.v (.int .i64 (8 : Int)))])))⟩
     ·refine xf (cj2 E94 hb104) (qm ?_);obtain rfl := qa h99;exact qS ⟨_, _, _, _, rfl, X19, L19, X2, X20, L20, X22, X22_5, L22_5, X4, X8, X8_0, L8_0, X8_3, L8_3, E1, E2, E4, E7, E8, E76, E77, E78, N19__20, N2__22, N2__4, N2__8, N22__4, N22__8, N22_5__8_0, N22_5__8_3, N4__8, N8_0__8_3, hP⟩
    rintro e s ⟨v100, v101, v102, v103, rfl, X19, L19, X2, X20, L20, X22, X22_5, L22_5, X4, X8, X8_0, L8_0, X8_3, L8_3, E1, E2, E4, E7, E8, E76, E77, E78, N19__20, N2__22, N2__4, N2__8, N22__4, N22__8, N22_5__8_0, N22_5__8_3, N4__8, N8_0__8_3, hP⟩
    (try dsimp only at h85);refine qQ ?_;obtain rfl := qa h85;exact qe ⟨_, _, _, _, rfl, X19, L19, X2, X20, L20, X22, X22_5, L22_5, X4, X8, X8_0, L8_0, X8_3, L8_3, E1, E2, E4, E7, E8, E76, E77, E78, N19__20, N2__22, N2__4, N2__8, N22__4, N22__8, N22_5__8_0, N22_5__8_3, N4__8, N8_0__8_3, hP⟩
   rintro e s ⟨v86, v87, v88, v89, rfl, X19, L19, X2, X20, L20, X22, X22_5, L22_5, X4, X8, X8_0, L8_0, X8_3, L8_3, E1, E2, E4, E7, E8, E76, E77, E78, N19__20, N2__22, N2__4, N2__8, N22__4, N22__8, N22_5__8_0, N22_5__8_3, N4__8, N8_0__8_3, hP⟩
   (try dsimp only at hf82);refine w_x (cj2 E78 TT) ?_;obtain rfl := qa hf82;exact qZ rfl ⟨_, _, _, _, _, rfl, X19, L19, X2, X20, L20, X22, X22_5, L22_5, X4, X8, X8_0, L8_0, X8_3, L8_3, E1, E2, E4, E7, E8, E76, E77, (xv (cj2 E78 TT)), N19__20, N2__22, N2__4, N2__8, N22__4, N22__8, N22_5__8_0, N22_5__8_3, N4__8, N8_0__8_3, hP⟩
  ·refine xf hb83 (qE (qM ?_));obtain rfl := qa hf82;refine qY rfl fun hr105 => ?_;obtain rfl := hr105;exact qK (qe ⟨_, _, _, _, rfl, X19, L19, X2, X20, L20, X22, X22_5, L22_5, X4, X8, X8_0, L8_0, X8_3, L8_3, E1, E2, E4, E7, E8, N19__20, N2__22, N2__4, N2__8, N22__4, N22__8, N22_5__8_0, N22_5__8_3, N4__8, N8_0__8_3, hP⟩)
 rintro e s ⟨v72, v73, v74, v75, rfl, X19, L19, X2, X20, L20, X22, X22_5, L22_5, X4, X8, X8_0, L8_0, X8_3, L8_3, E1, E2, E4, E7, E8, N19__20, N2__22, N2__4, N2__8, N22__4, N22__8, N22_5__8_0, N22_5__8_3, N4__8, N8_0__8_3, hP⟩
 (try dsimp only at h);refine ql (qd (w_x (cj6 E7 X19.get X20.get X22.get X22_5.get TT) ?_));refine qf (qd ?_);rcases qi h with ⟨hb106, h⟩ | ⟨hb106, h⟩
 ·refine xt hb106 (qk (fun e s => C18_6 σ s i4 ∧ eP e 4 i4 ∧ eI e 5 v74.error ∧ eI e 6 v74.e ∧ Pre σ s) ?_ ?_)
  ·have q55 := Gx.ap X4.gx X19;have q56 := Gx.ap X4.gx X20;have q57 := hget X19.get q55;have q58 := hget X20.get q56;have q59 := Gx.ap X4.gx X22_5;have q60 := hget X22_5.get q59;have q61 := hget X22.get (Ne.symm N22__4);have q62 := X4.same 49 [.e0, .e0, .e0, .e0];have q63 := X20.ne q56 (some (AObj.box 49 [.e0, .e0, .e0, .e0]));have q64 := X19.ne q55 (some (AObj.box 49 [.e0, .e0, .e0, .e0]));have q65 := X22_5.ne q59 (some (AObj.box 49 [.e0, .e0, .e0, .e0]));have q66 := X22.ne (Ne.symm N22__4) (some (AObj.box 49 [.e0, .e0, .e0, .e0]));have q67 := cj17 E4 E7 q57 q58 q61 q60 X19.get X20.get X22.get X22_5.get X4.get q64.get q63.get q66.get q65.get q62.get TT;refine w_xh i4 11 0 q67 ?_;refine za q67 ?_;exact qe ⟨q62, E4, (xv q67), (xv q67), (hP.set X4.le (some (AObj.box 49 [.e0, .e0, .e0, .e0])))⟩
  rintro e s ⟨X4, E4, E5, E6, hP⟩
  refine qp (zd ?_);obtain rfl := qa h;exact qt (fun _ => rfl) (xr (rs := #[.cell 4 49, .tmp 5, .tmp 6]) (cj5 X4.get E4 E5 E6 TT)) hP (Wk.tul (.cons (Wk.agl (.cons .e0 (.cons .e0 (.cons .e0 (.cons .e0 .nil))))) (.cons (.refl _) (.cons (.refl _) .nil)))) (.tu (CnL.cons (.ag (CnL.cons Cn.sl0 (CnL.cons Cn.sl0 (CnL.cons Cn.sl0 (CnL.cons Cn.sl0 CnL.nil))))) (CnL.cons (.v _) (CnL.cons (.v _) CnL.nil)))) hK
 ·refine xf hb106 (qm (qf ?_));obtain ⟨y107, h108, h⟩ := qb h;refine qk (fun e s => C18_1 s i19 v72 ∧ σ.length ≤ i19 ∧ C18_7 σ s i2 a0 ∧ C18_1 s i20 v73 ∧ σ.length ≤ i20 ∧ C18_0 σ s i22 v74 i19 i22_5 v75 i20 ∧ C18_3 s i22_5 v75 ∧ σ.length ≤ i22_5 ∧ C18_6 σ s i4 ∧ Bx σ s i8 49 [(.ow i8_0 (List.map Clock.cl v8)), (.sl (List.map Node.cl v7.nodes)), (.sl (List.map Task.cl y107)), (.ow i8_3 (List.map Tell.cl v9))] ∧ C18_4 s i8_0 v8 ∧ σ.length ≤ i8_0 ∧ C18_5 s i8_3 v9 ∧ σ.length ≤ i8_3 ∧ eS e 1 Clock.cl a1 ∧ eP e 2 i2 ∧ eP e 4 i4 ∧ eP e 7 i22 ∧ eP e 8 i8 ∧ i19 ≠ i20 ∧ i2 ≠ i22 ∧ i2 ≠ i4 ∧ i2 ≠ i8 ∧ i22 ≠ i4 ∧ i22 ≠ i8 ∧ i22_5 ≠ i8_0 ∧ i22_5 ≠ i8_3 ∧ i4 ≠ i8 ∧ i8_0 ≠ i8_3 ∧ Pre σ s) ?_ ?_
  ·have q68 := Gx.ap X8.gx X19;have q69 := Gx.ap X8.gx X20;have q70 := Gx.ap X8.gx X8_0;have q71 := Gx.ap X8.gx X8_3;have q72 := Gx.ap X8.gx X22_5;have q73 := cj17 E7 E8 X19.get X20.get X22.get X22_5.get X8.get X8_0.get X8_3.get (X19.nea q68) (X20.nea q69) (X22.nea (Ne.symm N22__8)) (X22_5.nea q72) X8.samea (X8_0.nea q70) (X8_3.nea q71) TT;refine w_x q73 ?_;refine S2 _ _ h108 _ _ _ _ _ _ X22.gx X19 X22_5 X20 ?_;refine w_y q73 ?_;exact qe ⟨(X19.ne q68 _), L19, (X2.ne (Ne.symm N2__8) _), (X20.ne q69 _), L20, (X22.ne (Ne.symm N22__8) _), (X22_5.ne q72 _), L22_5, (X4.ne (Ne.symm N4__8) _), (X8.same _ _), (X8_0.ne q70 _), L8_0, (X8_3.ne q71 _), L8_3, E1, E2, E4, E7, E8, N19__20, N2__22, N2__4, N2__8, N22__4, N22__8, N22_5__8_0, N22_5__8_3, N4__8, N8_0__8_3, (hP.set X8.le (some (AObj.box 49 [(.ow i8_0 (List.map Clock.cl v8)), (.sl (List.map Node.cl v7.nodes)), (.sl (List.map Task.cl y107)), (.ow i8_3 (List.map Tell.cl v9))])))⟩
  rintro e s ⟨X19, L19, X2, X20, L20, X22, X22_5, L22_5, X4, X8, X8_0, L8_0, X8_3, L8_3, E1, E2, E4, E7, E8, N19__20, N2__22, N2__4, N2__8, N22__4, N22__8, N22_5__8_0, N22_5__8_3, N4__8, N8_0__8_3, hP⟩
  refine ql (qd (w_x (cj3 E2 X2.get TT) ?_));refine qf ?_;obtain ⟨x109, h110, h⟩ := qb h;refine qk (fun e s => ∃ v111 v112 v113, (v111, v112, v113) = x109 ∧ C18_6 σ s i4 ∧ C18_2 σ s i8 i8_0 v112 v111 i8_3 v113 ∧ C18_4 s i8_0 v112 ∧ σ.length ≤ i8_0 ∧ C18_5 s i8_3 v113 ∧ σ.length ≤ i8_3 ∧ eP e 4 i4 ∧ eP e 8 i8 ∧ i4 ≠ i8 ∧ i8_0 ≠ i8_3 ∧ Pre σ s) ?_ ?_
  ·refine qn (qH h110 (fun v e s => ∃ v114 v115 v116 v117, (v114, v115, v116, v117) = v ∧ C18_1 s i19 v72 ∧ σ.length ≤ i19 ∧ C18_7 σ s i2 a0 ∧ C18_1 s i20 v73 ∧ σ.length ≤ i20 ∧ C18_0 σ s i22 v74 i19 i22_5 v75 i20 ∧ C18_3 s i22_5 v75 ∧ σ.length ≤ i22_5 ∧ C18_6 σ s i4 ∧ C18_2 σ s i8 i8_0 v116 v115 i8_3 v117 ∧ C18_4 s i8_0 v116 ∧ σ.length ≤ i8_0 ∧ C18_5 s i8_3 v117 ∧ σ.length ≤ i8_3 ∧ eS e 1 Clock.cl a1 ∧ eP e 2 i2 ∧ eP e 4 i4 ∧ eP e 7 i22 ∧ eP e 8 i8 ∧ eS e 122 Output.cl a0.outputs ∧ eL e 123 a0.outputs ∧ eI e 124 v114 ∧ i19 ≠ i20 ∧ i2 ≠ i22 ∧ i2 ≠ i4 ∧ i2 ≠ i8 ∧ i22 ≠ i4 ∧ i22 ≠ i8 ∧ i22_5 ≠ i8_0 ∧ i22_5 ≠ i8_3 ∧ i4 ≠ i8 ∧ i8_0 ≠ i8_3 ∧ Pre σ s) ⟨_, WkE.refl _, _, _, _, _, rfl, X19, L19, X2, X20, L20, X22, X22_5, L22_5, X4, X8, X8_0, L8_0, X8_3, L8_3, E1, E2, E4, E7, E8, (xv TT), (xv TT), (xv TT), N19__20, N2__22, N2__4, N2__8, N22__4, N22__8, N22_5__8_0, N22_5__8_3, N4__8, N8_0__8_3, hP⟩ ?_)
   rintro v x118 e s hf119 ⟨v114, v115, v116, v117, rfl, X19, L19, X2, X20, L20, X22, X22_5, L22_5, X4, X8, X8_0, L8_0, X8_3, L8_3, E1, E2, E4, E7, E8, E122, E123, E124, N19__20, N2__22, N2__4, N2__8, N22__4, N22__8, N22_5__8_0, N22_5__8_3, N4__8, N8_0__8_3, hP⟩
   unfold Zo at hf119;(try dsimp only at hf119);refine qd (w_x (cj3 E123 E124 TT) ?_);refine qf (qd ?_);rcases qi hf119 with ⟨hb120, hf119⟩ | ⟨hb120, hf119⟩
   ·refine xt hb120 (qm (qf ?_));obtain ⟨x121, h122, hf119⟩ := qb hf119;refine qk (fun e s => ∃ v123 v124 v125, (v123, v124, v125) = x121 ∧ C18_1 s i19 v72 ∧ σ.length ≤ i19 ∧ C18_7 σ s i2 a0 ∧ C18_1 s i20 v73 ∧ σ.length ≤ i20 ∧ C18_0 σ s i22 v74 i19 i22_5 v75 i20 ∧ C18_3 s i22_5 v75 ∧ σ.length ≤ i22_5 ∧ C18_6 σ s i4 ∧ C18_2 σ s i8 i8_0 v124 v123 i8_3 v125 ∧ C18_4 s i8_0 v124 ∧ σ.length ≤ i8_0 ∧ C18_5 s i8_3 v125 ∧ σ.length ≤ i8_3 ∧ eS e 1 Clock.cl a1 ∧ eP e 2 i2 ∧ eP e 4 i4 ∧ eP e 7 i22 ∧ eP e 8 i8 ∧ eS e 122 Output.cl a0.outputs ∧ eL e 123 a0.outputs ∧ eI e 124 v114 ∧ i19 ≠ i20 ∧ i2 ≠ i22 ∧ i2 ≠ i4 ∧ i2 ≠ i8 ∧ i22 ≠ i4 ∧ i22 ≠ i8 ∧ i22_5 ≠ i8_0 ∧ i22_5 ≠ i8_3 ∧ i4 ≠ i8 ∧ i8_0 ≠ i8_3 ∧ Pre σ s) ?_ ?_
    ·refine qn ?_;obtain ⟨y126, h127, h122⟩ := qb h122;refine qk (fun e s => ∃ i16 : Nat, Bx σ s i16 65 (Output.cl y126) ∧ C18_1 s i19 v72 ∧ σ.length ≤ i19 ∧ C18_7 σ s i2 a0 ∧ C18_1 s i20 v73 ∧ σ.length ≤ i20 ∧ C18_0 σ s i22 v74 i19 i22_5 v75 i20 ∧ C18_3 s i22_5 v75 ∧ σ.length ≤ i22_5 ∧ C18_6 σ s i4 ∧ C18_2 σ s i8 i8_0 v116 v115 i8_3 v117 ∧ C18_4 s i8_0 v116 ∧ σ.length ≤ i8_0 ∧ C18_5 s i8_3 v117 ∧ σ.length ≤ i8_3 ∧ eS e 1 Clock.cl a1 ∧ eP e 2 i2 ∧ eP e 4 i4 ∧ eP e 7 i22 ∧ eP e 8 i8 ∧ eP e 16 i16 ∧ eS e 122 Output.cl a0.outputs ∧ eL e 123 a0.outputs ∧ eI e 124 v114 ∧ i16 ≠ i22 ∧ i16 ≠ i4 ∧ i16 ≠ i8 ∧ i19 ≠ i20 ∧ i2 ≠ i22 ∧ i2 ≠ i4 ∧ i2 ≠ i8 ∧ i22 ≠ i4 ∧ i22 ≠ i8 ∧ i22_5 ≠ i8_0 ∧ i22_5 ≠ i8_3 ∧ i4 ≠ i8 ∧ i8_0 ≠ i8_3 ∧ Pre σ s) ?_ ?_
     ·have R128 := qA (f := Output.cl) (qg h127).2;have q74 := cj5 E122 E124 R128 (qg h127).1 TT;refine w_x q74 ?_;exact qe ⟨s.length, (Bx.new hP _ _), (X19.app _), L19, (X2.app _), (X20.app _), L20, (X22.app _), (X22_5.app _), L22_5, (X4.app _), (X8.app _), (X8_0.app _), L8_0, (X8_3.app _), L8_3, E1, E2, E4, E7, E8, (xv q74), E122, E123, E124, (Ne.symm (Nat.ne_of_lt X22.lt)), (Ne.symm (Nat.ne_of_lt X4.lt)), (Ne.symm (Nat.ne_of_lt X8.lt)), N19__20, N2__22, N2__4, N2__8, N22__4, N22__8, N22_5__8_0, N22_5__8_3, N4__8, N8_0__8_3, (hP.app _)⟩
     rintro e s ⟨i16, X16, X19, L19, X2, X20, L20, X22, X22_5, L22_5, X4, X8, X8_0, L8_0, X8_3, L8_3, E1, E2, E4, E7, E8, E16, E122, E123, E124, N16__22, N16__4, N16__8, N19__20, N2__22, N2__4, N2__8, N22__4, N22__8, N22_5__8_0, N22_5__8_3, N4__8, N8_0__8_3, hP⟩
     refine qd ?_;have R129 : Option.getD (Option.map qG (Mp.get v72 y126.flow)) (.v (.int .i64 (0 : Int))) = (.v (.int .i64 (Option.getD (Mp.get v72 y126.flow) (0 : Int)))) := by cases Mp.get v72 y126.flow <;> rfl
     refine ZX (cj9 E7 E16 X16.get X19.get X20.get X22.get X22_5.get R129 TT) ?_;refine qf ?_;obtain ⟨y130, h131, h122⟩ := qb h122;obtain ⟨y132, h133, h122⟩ := qb h122;obtain ⟨y134, h135, h122⟩ := qb h122;obtain ⟨y136, h137, h122⟩ := qb h122;have R139 := qA (f := Clock.cl) (qg h131).2;have R140 := qA (f := Flow.cl) (qg h133).2;have hv141 : (List.map Tell.cl v117) ++ ([[(.v (.int .i64 y130.period)), (.v (.int .i64 y130.phase)), (.v (.int .i64 y134.src)), (.sl (List.map Op.cl y134.ops)), (.v (.int .i64 y126.deadline))]] : List (List PV)) = (List.map Tell.cl y136) := by rw [← (qN h137).2, List.map_append]; rfl
     have hb142 : ((List.map Tell.cl v117).length + ([[(.v (.int .i64 y130.period)), (.v (.int .i64 y130.phase)), (.v (.int .i64 y134.src)), (.sl (List.map Op.cl y134.ops)), (.v (.int .i64 y126.deadline))]] : List (List PV)).length) * 56 ≤ 140737488355328 ∧ (List.map Tell.cl v117).length + ([[(.v (.int .i64 y130.period)), (.v (.int .i64 y130.phase)), (.v (.int .i64 y134.src)), (.sl (List.map Op.cl y134.ops)), (.v (.int .i64 y126.deadline))]] : List (List PV)).length ≤ 140737488355328 := by simpa [Expr.rlen] using (qN h137).1
     have ha143 := qqc (i := i8_3) (s := s) (n := List.length v117) (k := List.length y136) (x := (.sl [[(.v (.int .i64 y130.period)), (.v (.int .i64 y130.phase)), (.v (.int .i64 y134.src)), (.sl (List.map Op.cl y134.ops)), (.v (.int .i64 y126.deadline))]])) (rows := (List.map Tell.cl v117)) (ns := ([[(.v (.int .i64 y130.period)), (.v (.int .i64 y130.phase)), (.v (.int .i64 y134.src)), (.sl (List.map Op.cl y134.ops)), (.v (.int .i64 y126.deadline))]] : List (List PV))) (vr := (List.map Tell.cl y136)) T_47 T_73 X8_3.get (by simp [Expr.rlen]) (qI (f := Tell.cl) (n := 5) (fun _ => rfl) _) (JG rfl) (by simp) (by decide) hb142 hv141 (by simp [Expr.rlen]) rfl;have q75 := Gx.ap X8_3 X20;have q76 := Gx.ap X8_3 X19;have q77 := Gx.ap X8.gx X19;have q78 := Gx.ap X8.gx X20;have q79 := Gx.ap X8.gx X8_3;have q80 := Gx.ap X8_3 X2.gx;have q81 := Gx.ap X8_3 X8.gx;have q82 := Gx.ap X8.gx X8_0;have q83 := Gx.ap X8.gx X22_5;have q84 := Gx.ap X8_3 X16.gx;have q85 := Gx.ap X8_3 X22.gx;have q86 := Gx.same X8_3 (tkO 73 5 (List.length y136));have q87 := X8.ne q81 (some (tkO 73 5 (List.length y136)));have q88 := X2.ne q80 (some (tkO 73 5 (List.length y136)));have q89 := X19.ne q76 (some (tkO 73 5 (List.length y136)));have q90 := X20.ne q75 (some (tkO 73 5 (List.length y136)));have q91 := X16.ne q84 (some (tkO 73 5 (List.length y136)));have q92 := X22.ne q85 (some (tkO 73 5 (List.length y136)));have q93 := X8_0.ne (Ne.symm N8_0__8_3) (some (tkO 73 5 (List.length y136)));have q94 := X22_5.ne (Ne.symm N22_5__8_3) (some (tkO 73 5 (List.length y136)));have q95 := ZC ha143 q91.get q89.get q88.get q90.get q92.get q94.get q87.get q93.get q86.get (q91.ne (Ne.symm N16__8) (some (AObj.box 49 [(.ow i8_0 (List.map Clock.cl v116)), (.sl (List.map Node.cl v115.nodes)), (.sl (List.map Task.cl v115.tasks)), (.ow i8_3 (List.map Tell.cl y136))]))).get (q89.ne q77 (some (AObj.box 49 [(.ow i8_0 (List.map Clock.cl v116)), (.sl (List.map Node.cl v115.nodes)), (.sl (List.map Task.cl v115.tasks)), (.ow i8_3 (List.map Tell.cl y136))]))).get (q88.ne (Ne.symm N2__8) (some (AObj.box 49 [(.ow i8_0 (List.map Clock.cl v116)), (.sl (List.map Node.cl v115.nodes)), (.sl (List.map Task.cl v115.tasks)), (.ow i8_3 (List.map Tell.cl y136))]))).get (q90.ne q78 (some (AObj.box 49 [(.ow i8_0 (List.map Clock.cl v116)), (.sl (List.map Node.cl v115.nodes)), (.sl (List.map Task.cl v115.tasks)), (.ow i8_3 (List.map Tell.cl y136))]))).get (q92.ne (Ne.symm N22__8) (some (AObj.box 49 [(.ow i8_0 (List.map Clock.cl v116)), (.sl (List.map Node.cl v115.nodes)), (.sl (List.map Task.cl v115.tasks)), (.ow i8_3 (List.map Tell.cl y136))]))).get (q94.ne q83 (some (AObj.box 49 [(.ow i8_0 (List.map Clock.cl v116)), (.sl (List.map Node.cl v115.nodes)), (.sl (List.map Task.cl v115.tasks)), (.ow i8_3 (List.map Tell.cl y136))]))).get (q87.same 49 [(.ow i8_0 (List.map Clock.cl v116)), (.sl (List.map Node.cl v115.nodes)), (.sl (List.map Task.cl v115.tasks)), (.ow i8_3 (List.map Tell.cl y136))]).get (q93.ne q82 (some (AObj.box 49 [(.ow i8_0 (List.map Clock.cl v116)), (.sl (List.map Node.cl v115.nodes)), (.sl (List.map Task.cl v115.tasks)), (.ow i8_3 (List.map Tell.cl y136))]))).get (q86.ne q79 (some (AObj.box 49 [(.ow i8_0 (List.map Clock.cl v116)), (.sl (List.map Node.cl v115.nodes)), (.sl (List.map Task.cl v115.tasks)), (.ow i8_3 (List.map Tell.cl y136))]))).get TT;have q96 := ZC E2 E7 E8 E16 X16.get X19.get X2.get X20.get X22.get X22_5.get X8.get X8_0.get X8_3.get R139 (qg h131).1 R140 (qg h133).1 (Clock.clu y130) (Arg.clu y134) q95;refine zn 20 0 (cj2 E1 q96) ?_;refine S3 _ _ _ _ h135 _ _ _ _ _ _ X22.gx X19 X22_5 X20 ?_;refine Jv (cj2 E1 q96) ?_ ;refine za (cj2 E1 q96) ?_;refine qQ ?_;obtain rfl := qa h122;exact qe ⟨_, _, _, rfl, (q89.ne q77 _), L19, (q88.ne (Ne.symm N2__8) _), (q90.ne q78 _), L20, (q92.ne (Ne.symm N22__8) _), (q94.ne q83 _), L22_5, ((X4.ne (Gx.ap X8_3 X4.gx) _).ne (Ne.symm N4__8) _), (q87.same _ _), (q93.ne q82 _), L8_0, (q86.ne q79 _), L8_3, E1, E2, E4, E7, E8, E122, E123, E124, N19__20, N2__22, N2__4, N2__8, N22__4, N22__8, N22_5__8_0, N22_5__8_3, N4__8, N8_0__8_3, ((hP.set L8_3 (some (tkO 73 5 (List.length y136)))).set q87.le (some (AObj.box 49 [(.ow i8_0 (List.map Clock.cl v116)), (.sl (List.map Node.cl v115.nodes)), (.sl (List.map Task.cl v115.tasks)), (.ow i8_3 (List.map Tell.cl y136))])))⟩
    rintro e s ⟨v123, v124, v125, rfl, X19, L19, X2, X20, L20, X22, X22_5, L22_5, X4, X8, X8_0, L8_0, X8_3, L8_3, E1, E2, E4, E7, E8, E122, E123, E124, N19__20, N2__22, N2__4, N2__8, N22__4, N22__8, N22_5__8_0, N22_5__8_3, N4__8, N8_0__8_3, hP⟩
    (try dsimp only at hf119);refine w_x (cj2 E124 TT) ?_;obtain rfl := qa hf119;exact qZ rfl ⟨_, _, _, _, rfl, X19, L19, X2, X20, L20, X22, X22_5, L22_5, X4, X8, X8_0, L8_0, X8_3, L8_3, E1, E2, E4, E7, E8, E122, E123, (xv (cj2 E124 TT)), N19__20, N2__22, N2__4, N2__8, N22__4, N22__8, N22_5__8_0, N22_5__8_3, N4__8, N8_0__8_3, hP⟩
   ·refine xf hb120 (qE (qM ?_));obtain rfl := qa hf119;refine qY rfl fun hr144 => ?_;obtain rfl := hr144;exact qK (qe ⟨_, _, _, rfl, X4, X8, X8_0, L8_0, X8_3, L8_3, E4, E8, N4__8, N8_0__8_3, hP⟩)
  rintro e s ⟨v111, v112, v113, rfl, X4, X8, X8_0, L8_0, X8_3, L8_3, E4, E8, N4__8, N8_0__8_3, hP⟩
  (try dsimp only at h);refine qk (fun e s => Bx σ s i4 49 [(.sl (List.map Clock.cl v112)), (.sl (List.map Node.cl v111.nodes)), (.sl (List.map Task.cl v111.tasks)), (.sl (List.map Tell.cl v113))] ∧ eP e 4 i4 ∧ eI e 5 (0 : Int) ∧ eI e 6 (0 : Int) ∧ Pre σ s) ?_ ?_
  ·have q97 := Gx.ap X4.gx X8_0;have q98 := Gx.ap X4.gx X8_3;have q99 := X4.same 49 [(.ow i8_0 (List.map Clock.cl v112)), (.sl (List.map Node.cl v111.nodes)), (.sl (List.map Task.cl v111.tasks)), (.ow i8_3 (List.map Tell.cl v113))];have q100 := X8.ne N4__8 (some (AObj.box 49 [(.ow i8_0 (List.map Clock.cl v112)), (.sl (List.map Node.cl v111.nodes)), (.sl (List.map Task.cl v111.tasks)), (.ow i8_3 (List.map Tell.cl v113))]));have q101 := X8_3.ne q98 (some (AObj.box 49 [(.ow i8_0 (List.map Clock.cl v112)), (.sl (List.map Node.cl v111.nodes)), (.sl (List.map Task.cl v111.tasks)), (.ow i8_3 (List.map Tell.cl v113))]));have q102 := X8_0.ne q97 (some (AObj.box 49 [(.ow i8_0 (List.map Clock.cl v112)), (.sl (List.map Node.cl v111.nodes)), (.sl (List.map Task.cl v111.tasks)), (.ow i8_3 (List.map Tell.cl v113))]));have q103 := YH E4 E8 X4.get X8.get X8_0.get X8_3.get q99.get q100.get q102.get q101.get TT;refine w_x q103 ?_;exact ZU ((Gh.refl _ _).tr (Gh.box (c' := [(.sl (List.map Clock.cl v112)), (.sl (List.map Node.cl v111.nodes)), (.sl (List.map Task.cl v111.tasks)), (.sl (List.map Tell.cl v113))]) (X4.same _ _).get (.cons Wk.owr (.cons (.refl _) (.cons (.refl _) (.cons Wk.owr .nil)))))) ⟨((X4.same _ _).same _ _), E4, (xv q103), (xv q103), ((hP.set X4.le _).set X4.le _)⟩
  rintro e s ⟨X4, E4, E5, E6, hP⟩
  refine qp ?_;obtain rfl := qa h;exact qt (fun _ => rfl) (xr (rs := #[.cell 4 49, .tmp 5, .tmp 6]) (cj5 X4.get E4 E5 E6 TT)) hP (.refl _) (.tu (CnL.cons (.ag (CnL.cons (Cn.rows Clock.cn _) (CnL.cons (Cn.rows Node.cn _) (CnL.cons (Cn.rows Task.cn _) (CnL.cons (Cn.rows Tell.cn _) CnL.nil))))) (CnL.cons (.v _) (CnL.cons (.v _) CnL.nil)))) hK
end Go.Proofs.Ytohmmfimedgccaa.E
end
section
namespace Go.Proofs.Ytohmmfimedgccaa.E
set_option linter.unusedVariables false
set_option linter.unusedSimpArgs false
set_option maxRecDepth 10000
def Jg (x : Input) : Clock := ⟨x.period, x.phase⟩
structure FlK (p : Program) (i : Nat) (F : Mp Int) : Prop where
 inp : ∀ (k : Nat) x, p.inputs[k]? = some x → F.get x.name = some (-1 - (k : Int))
 flow : ∀ (k : Nat) f, k < i → p.flows[k]? = some f → F.get f.name = some (k : Int)
 n : F.n ≤ p.inputs.length + i
theorem putO_s {F : Mp Int} {k : ByteArray} {v : Int} (h : F.n ≤ 1000) : Jm F k v = some (F.put k v) := by
 unfold Jm;rw [if_pos (by omega)]
noncomputable def m_make := B_flat_Make Zx YA zzL Jt
theorem s_make : Sat_flat_Make m_make := W_flat_Make _ _ _ _ s_number2 s_long s_tasks s_arg
structure FlatR (p : Program) (ρ : ByteArray → Clock) (F : Flat) : Prop where
 inputs : F.inputs = p.inputs.map Jg
 nodes : F.nodes = p.nodes
 tlen : F.tasks.length = (cls (spP p.flows)).length
 task : ∀ (k : Nat) (x : ByteArray × Expr), (cls (spP p.flows))[k]? = some x → ∃ c : Clock, F.tasks[k]? = some (zB p x c) ∧ RefC ρ x.2 c
 ylen : F.tells.length = p.outputs.length
 tell : ∀ (k : Nat) (x : Output), p.outputs[k]? = some x → ∃ (i : Nat) (f : Flow), p.flows[i]? = some f ∧ f.name = x.flow ∧ F.tells[k]? = some ⟨ρ f.name, argOf p f.name f.e, x.deadline⟩
theorem t_mk0 {p : Program} {ρ : ByteArray → Clock} (w : FW p ρ) : ∃ F : Mp Int, FlK p 0 F ∧ qy (Zr p) ((0 : Int), (Mp.emp : Mp Int), (Mp.emp : Mp Int), (qh.mk p (Mp.emp : Mp Int) ([] : List qj) (Mp.emp : Mp Int) (0 : Int) (0 : Int)), ([] : List qj), (Flat.mk ([] : List Clock) p.nodes ([]) ([] : List Tell)), ([] : List Clock), ([] : List Tell)) = some (F, Mp.emp, ⟨p, F, [], Mp.emp, 0, 0⟩, [], ⟨p.inputs.map Jg, p.nodes, [], []⟩, p.inputs.map Jg, []) := by
 have hall := w.fit.all;have hbig : (1000000 : Nat) ≤ maxLen := by unfold maxLen; decide
 have hni : (p.inputs.map (fun x : Input => x.name)).Nodup := (List.nodup_append.1 w.nm.flows).1;obtain ⟨r, h1, h2⟩ := qT (f := Zr p) (fun i v => ∃ F : Mp Int, v = ((i : Int), F, Mp.emp, ⟨p, F, [], Mp.emp, 0, 0⟩, [], ⟨(p.inputs.take i).map Jg, p.nodes, [], []⟩, (p.inputs.take i).map Jg, []) ∧ (∀ (k : Nat) x, k < i → p.inputs[k]? = some x → F.get x.name = some (-1 - (k : Int))) ∧ F.n ≤ i) p.inputs.length
  (fun r => ∃ F : Mp Int, FlK p 0 F ∧ r = (F, Mp.emp, ⟨p, F, [], Mp.emp, 0, 0⟩, [], ⟨p.inputs.map Jg, p.nodes, [], []⟩, p.inputs.map Jg, [])) (fun i v hi hv => by
   obtain ⟨F, rfl, q1, q2⟩ := hv;unfold Zr;simp only [dlt hi, if_true, qx hi, Option.bind_some];rw [putO_s (by omega)];simp only [Option.bind_some];unfold Qk;rw [if_pos (by simp only [List.length_map, List.length_take, List.length_cons, List.length_nil]; omega)];refine .inl ⟨_, rfl, F.put p.inputs[i].name (-1 - (i : Int)), ?_, fun k x hk hx => ?_, ?_⟩
   ·rw [zA hi (by omega), List.take_succ_eq_append_getElem hi, List.map_append, zT (n := (-1 : Int) - (i : Int)) (by omega) (by omega)];rfl
   ·simp only [Mp.put];by_cases e : x.name = p.inputs[i].name
    ·rw [if_pos e];obtain ⟨rfl, _⟩ := Jx hni hx (List.getElem?_eq_getElem hi) e;rfl
    ·rw [if_neg e];refine q1 k x ?_ hx;by_cases hki : k = i
     ·subst hki;rw [List.getElem?_eq_getElem hi] at hx;obtain rfl := Option.some.inj hx;exact absurd rfl e
     ·omega
   ·simp only [Mp.put]; omega) (fun v hv => by
   obtain ⟨F, rfl, q1, q2⟩ := hv;unfold Zr;simp only [dge, Bool.false_eq_true, if_false];exact ⟨_, rfl, F, ⟨fun k x hx => q1 k x (List.getElem?_eq_some_iff.1 hx).1 hx, fun k f hk => by omega, by omega⟩, by rw [List.take_length]⟩) (v0 := ((0 : Int), (Mp.emp : Mp Int), (Mp.emp : Mp Int), (qh.mk p (Mp.emp : Mp Int) ([] : List qj) (Mp.emp : Mp Int) (0 : Int) (0 : Int)), ([] : List qj), (Flat.mk ([] : List Clock) p.nodes ([]) ([] : List Tell)), ([] : List Clock), ([] : List Tell))) ⟨Mp.emp, rfl, fun k x hk => by omega, Nat.le_refl _⟩
 obtain ⟨F, g1, rfl⟩ := h2;exact ⟨F, g1, h1⟩
theorem spP_take {p : Program} {i : Nat} (hi : i < p.flows.length) : spP (p.flows.take (i + 1)) = spP (p.flows.take i) ++ spE p.flows[i].name p.flows[i].e := by
 rw [List.take_succ_eq_append_getElem hi, spP_app];simp [spP]
theorem t_mk1 {p : Program} {ρ : ByteArray → Clock} (w : FW p ρ) {F : Mp Int} (hF : FlK p 0 F) : ∃ mk : qh, mk.p = p ∧ FlK p p.flows.length mk.flows ∧ mk.calls = (cls (spP p.flows)).map (Qo p) ∧ mk.at_ = Qf Mp.emp 0 (cls (spP p.flows)) ∧ NumI mk ∧ qy (Zq p Zx) ((0 : Int), F, (Mp.emp : Mp Int), (⟨p, F, [], Mp.emp, 0, 0⟩ : qh), ([] : List qj)) = some (mk.flows, mk.at_, mk, mk.calls) := by
 have hall := w.fit.all;have hbig : (1000000 : Nat) ≤ maxLen := by unfold maxLen; decide
 have hnf : (p.flows.map (fun x : Flow => x.name)).Nodup := (List.nodup_append.1 w.nm.flows).2.1;have hnd := (List.nodup_append.1 w.nm.flows).2.2;have hcs := JM w.fit;obtain ⟨r, h1, h2⟩ := qT (f := Zq p Zx) (fun i v => ∃ mk : qh, v = ((i : Int), mk.flows, mk.at_, mk, mk.calls) ∧ mk.p = p ∧ FlK p i mk.flows ∧ mk.calls = (cls (spP (p.flows.take i))).map (Qo p) ∧ mk.at_ = Qf Mp.emp 0 (cls (spP (p.flows.take i))) ∧ NumI mk) p.flows.length
  (fun r => ∃ mk : qh, r = (mk.flows, mk.at_, mk, mk.calls) ∧ mk.p = p ∧ FlK p p.flows.length mk.flows ∧ mk.calls = (cls (spP p.flows)).map (Qo p) ∧ mk.at_ = Qf Mp.emp 0 (cls (spP p.flows)) ∧ NumI mk) (fun i v hi hv => by
   obtain ⟨mk, rfl, q1, q2, q3, q4, q5⟩ := hv;unfold Zq;have hmem := List.getElem_mem hi;have hfit := w.fit.flow _ hmem;have hsz := hfit.size;have hnm := hfit.name.2;have hn := q2.n;have hlc : (cls (spP (p.flows.take i))).length ≤ 4000 := by
    have := plP_cls (p.flows.take i) 0;have h3 := plP_len (fs := p.flows.take i) 0 fun f hff => (w.fit.flow f (List.mem_of_mem_take hff)).size;have h4 : (p.flows.take i).length ≤ p.flows.length := by simp; omega
    omega
   have hcl : mk.calls.length ≤ 4000 := by rw [q3, List.length_map]; exact hlc
   have hal : mk.at_.n ≤ 4000 := by rw [q4, qqT]; simp only [Mp.emp]; omega
   simp only [dlt hi, if_true, qx hi, Option.bind_some];rw [putO_s (by omega)];simp only [Option.bind_some];obtain ⟨m', g1, g2⟩ := t_number2 p.flows[i].e hfit.e ⟨mk.p, mk.flows.put p.flows[i].name (i : Int), mk.calls, mk.at_, mk.error, mk.e⟩ p.flows[i].name (by simp only; rw [q1]; omega) (by omega) (by simp only; omega) (by simp only; omega);rw [g1];refine .inl ⟨_, rfl, m', ?_, g2.p.trans q1, ?_, ?_, ?_, g2.num q5⟩
   ·rw [zA hi (by omega)]
   ·rw [g2.flows];refine ⟨fun k x hx => ?_, fun k f hk hf => ?_, by simp only [Mp.put]; omega⟩
    ·simp only [Mp.put];rw [if_neg (hnd _ (List.mem_map.2 ⟨x, List.mem_of_getElem? hx, rfl⟩) _ (List.mem_map.2 ⟨_, hmem, rfl⟩))];exact q2.inp k x hx
    ·simp only [Mp.put];by_cases e : f.name = p.flows[i].name
     ·rw [if_pos e];obtain ⟨rfl, _⟩ := Jx hnf hf (List.getElem?_eq_getElem hi) e;rfl
     ·rw [if_neg e];refine q2.flow k f ?_ hf;by_cases hki : k = i
      ·subst hki;rw [List.getElem?_eq_getElem hi] at hf;obtain rfl := Option.some.inj hf;exact absurd rfl e
      ·omega
   ·rw [g2.calls, spP_take hi, qqM, List.map_append];simp only [q1, q3]
   ·rw [g2.at_, spP_take hi, qqM, qqU];simp only [q3, q4, List.length_map, Nat.zero_add]) (fun v hv => by
   obtain ⟨mk, rfl, q1, q2, q3, q4, q5⟩ := hv;unfold Zq;simp only [dge, Bool.false_eq_true, if_false];rw [List.take_length] at q3 q4;exact ⟨_, rfl, mk, rfl, q1, q2, q3, q4, q5⟩) (v0 := ((0 : Int), F, (Mp.emp : Mp Int), (⟨p, F, [], Mp.emp, 0, 0⟩ : qh), ([] : List qj))) ⟨⟨p, F, [], Mp.emp, 0, 0⟩, rfl, rfl, hF, rfl, rfl, .inl ⟨rfl, by simp⟩⟩
 obtain ⟨mk, rfl, q1, q2, q3, q4, q5⟩ := h2;exact ⟨mk, q1, q2, q3, q4, q5, h1⟩
theorem FlK.ok {p : Program} {ρ : ByteArray → Clock} (w : FW p ρ) {m : qh} (hp : m.p = p) (hF : FlK p p.flows.length m.flows) (ha : m.at_ = Qf Mp.emp 0 (cls (spP p.flows))) : MkOK m := by
 subst hp;refine ⟨hF.inp, fun i f hf => hF.flow i f (List.getElem?_eq_some_iff.1 hf).1 hf, fun k x hk => ?_⟩;rw [ha, QQn _ _ _ w.cnodup k x hk, Nat.zero_add]
theorem t_mk2 {p : Program} {ρ : ByteArray → Clock} (w : FW p ρ) {mk : qh} (hp : mk.p = p) (hF : FlK p p.flows.length mk.flows) (ha : mk.at_ = Qf Mp.emp 0 (cls (spP p.flows))) (hn : NumI mk) : ∃ er ee : Int, qy (Zp p YA) ((0 : Int), mk.flows, mk.at_, mk, mk.calls) = some (mk.flows, mk.at_, ⟨mk.p, mk.flows, mk.calls, mk.at_, er, ee⟩, mk.calls) ∧ ((ee = 0 ∧ mk.calls.length ≤ 30 ∧ ∀ f ∈ p.flows, ¬ LongS p f.name f.e true) ∨ (ee = 8 ∧ (30 < mk.calls.length ∨ ∃ f ∈ p.flows, LongS p f.name f.e true))) := by
 have hall := w.fit.all;have hbig : (1000000 : Nat) ≤ maxLen := by unfold maxLen; decide
 obtain ⟨r, h1, h2⟩ := qT (f := Zp p YA) (fun i v => ∃ er ee : Int, v = ((i : Int), mk.flows, mk.at_, ⟨mk.p, mk.flows, mk.calls, mk.at_, er, ee⟩, mk.calls) ∧ ((ee = 0 ∧ mk.calls.length ≤ 30 ∧ ∀ f ∈ p.flows.take i, ¬ LongS p f.name f.e true) ∨ (ee = 8 ∧ (30 < mk.calls.length ∨ ∃ f ∈ p.flows, LongS p f.name f.e true)))) p.flows.length
  (fun r => ∃ er ee : Int, r = (mk.flows, mk.at_, ⟨mk.p, mk.flows, mk.calls, mk.at_, er, ee⟩, mk.calls) ∧ ((ee = 0 ∧ mk.calls.length ≤ 30 ∧ ∀ f ∈ p.flows, ¬ LongS p f.name f.e true) ∨ (ee = 8 ∧ (30 < mk.calls.length ∨ ∃ f ∈ p.flows, LongS p f.name f.e true)))) (fun i v hi hv => by
   obtain ⟨er, ee, rfl, hq⟩ := hv;unfold Zp;have hmem := List.getElem_mem hi;simp only [dlt hi, if_true, qx hi, Option.bind_some];rcases hq with ⟨rfl, q1, q2⟩ | ⟨rfl, q1⟩
   ·have hsz := w.psz (ZS hmem);have hm : MkOK ⟨mk.p, mk.flows, mk.calls, mk.at_, er, 0⟩ := FlK.ok w (m := ⟨mk.p, mk.flows, mk.calls, mk.at_, er, 0⟩) hp hF ha;obtain ⟨b, g1, g2⟩ := t_long (m := ⟨mk.p, mk.flows, mk.calls, mk.at_, er, 0⟩) (ρ := ρ) (by simp only; rw [hp]; exact w) hm p.flows[i].e p.flows[i].name true (by simp only; rw [hp]; exact ZS hmem) (by omega);simp only [decide_true, if_true, Bool.true_and];rw [g1];simp only at g2;rw [hp] at g2;simp only [Option.bind_some];cases b with
    | true =>
     simp only [if_true, Option.bind_some];exact .inl ⟨_, rfl, p.flows[i].at_, 8, by rw [zA hi (by omega)], .inr ⟨rfl, .inr ⟨_, hmem, g2.1 rfl⟩⟩⟩
    | false =>
     simp only [Bool.false_eq_true, if_false, Option.bind_some];refine .inl ⟨_, rfl, er, 0, by rw [zA hi (by omega)], .inl ⟨rfl, q1, fun f hf => ?_⟩⟩;rw [List.take_succ_eq_append_getElem hi, List.mem_append, List.mem_singleton] at hf;rcases hf with hf | rfl
     ·exact q2 f hf
     ·intro h;have := g2.2 h;cases this
   ·simp only [Int.reduceEq, decide_false, Bool.false_eq_true, if_false, Bool.false_and, Option.bind_some];exact .inl ⟨_, rfl, er, 8, by rw [zA hi (by omega)], .inr ⟨rfl, q1⟩⟩) (fun v hv => by
   obtain ⟨er, ee, rfl, hq⟩ := hv;unfold Zp;simp only [dge, Bool.false_eq_true, if_false];rw [List.take_length] at hq;exact ⟨_, rfl, er, ee, rfl, hq⟩) (v0 := ((0 : Int), mk.flows, mk.at_, mk, mk.calls)) ⟨mk.error, mk.e, rfl, by
    rcases hn with ⟨h1, h2⟩ | ⟨h1, h2⟩
    ·exact .inl ⟨h1, h2, fun f hf => by simp at hf⟩
    ·exact .inr ⟨h1, .inl h2⟩⟩
 obtain ⟨er, ee, rfl, hq⟩ := h2;exact ⟨er, ee, h1, hq⟩
theorem t_mk3 {p : Program} {ρ : ByteArray → Clock} (w : FW p ρ) {mk : qh} (hp : mk.p = p) (hF : FlK p p.flows.length mk.flows) (ha : mk.at_ = Qf Mp.emp 0 (cls (spP p.flows))) (T : List Task) : ∃ Y : List Tell, qy (Zo mk.flows mk.at_ mk.calls mk p (p.flows.map fun f => ρ f.name) Jt) ((0 : Int), (⟨p.inputs.map Jg, p.nodes, T, []⟩ : Flat), p.inputs.map Jg, ([] : List Tell)) = some (⟨p.inputs.map Jg, p.nodes, T, Y⟩, p.inputs.map Jg, Y) ∧ Y.length = p.outputs.length ∧ ∀ (k : Nat) (x : Output), p.outputs[k]? = some x → ∃ (i : Nat) (f : Flow), p.flows[i]? = some f ∧ f.name = x.flow ∧ Y[k]? = some ⟨ρ f.name, argOf p f.name f.e, x.deadline⟩ := by
 have hall := w.fit.all;have hbig : (1000000 : Nat) ≤ maxLen := by unfold maxLen; decide
 have hm := FlK.ok w hp hF ha;obtain ⟨r, h1, h2⟩ := qT (f := Zo mk.flows mk.at_ mk.calls mk p (p.flows.map fun f => ρ f.name) Jt) (fun i v => ∃ Y : List Tell, v = ((i : Int), (⟨p.inputs.map Jg, p.nodes, T, Y⟩ : Flat), p.inputs.map Jg, Y) ∧ Y.length = i ∧ ∀ (k : Nat) (x : Output), k < i → p.outputs[k]? = some x → ∃ (i : Nat) (f : Flow), p.flows[i]? = some f ∧ f.name = x.flow ∧ Y[k]? = some ⟨ρ f.name, argOf p f.name f.e, x.deadline⟩) p.outputs.length
  (fun r => ∃ Y : List Tell, r = ((⟨p.inputs.map Jg, p.nodes, T, Y⟩ : Flat), p.inputs.map Jg, Y) ∧ Y.length = p.outputs.length ∧ ∀ (k : Nat) (x : Output), p.outputs[k]? = some x → ∃ (i : Nat) (f : Flow), p.flows[i]? = some f ∧ f.name = x.flow ∧ Y[k]? = some ⟨ρ f.name, argOf p f.name f.e, x.deadline⟩) (fun i v hi hv => by
   obtain ⟨Y, rfl, q1, q2⟩ := hv;unfold Zo;have hmem := List.getElem_mem hi;obtain ⟨y, hy1, hy2⟩ := w.nm.output _ hmem;obtain ⟨k, hk⟩ := List.getElem?_of_mem hy1;obtain ⟨hkl, hke⟩ := List.getElem?_eq_some_iff.1 hk;have hget := hF.flow k y hkl hk;rw [hy2] at hget;have hc : qC (p.flows.map fun f => ρ f.name) (k : Int) = some (ρ y.name) := by
    rw [qx (by simpa using hkl)];simp [hke]
   have hg : qC p.flows (k : Int) = some y := by rw [qx hkl, hke]
   obtain ⟨n, hn, har⟩ := w.argOf (ZS hy1);have hsz := w.psz (ZS hy1);have hv := v_arg (m := mk) (ρ := ρ) (by rw [hp]; exact w) hm (by rw [hp]; exact har) (by omega) (by omega);simp only [dlt hi, if_true, qx hi, Option.bind_some, hget, Option.getD_some, hc, hg];rw [hy2] at hv;rw [hv];simp only [Option.bind_some];unfold Qk;rw [if_pos (by simp only [List.length_cons, List.length_nil]; omega)];refine .inl ⟨_, rfl, Y ++ [⟨ρ y.name, argOf p y.name y.e, p.outputs[i].deadline⟩], by rw [zA hi (by omega), hy2], by simp [q1], fun k' x' hk' hx' => ?_⟩;by_cases e : k' = i
   ·subst e;rw [List.getElem?_eq_getElem hi] at hx';obtain rfl := Option.some.inj hx';refine ⟨k, y, hk, hy2, ?_⟩;rw [List.getElem?_append_right (by omega), q1, Nat.sub_self];rfl
   ·obtain ⟨i', f, e1, e2, e3⟩ := q2 k' x' (by omega) hx';exact ⟨i', f, e1, e2, by rw [List.getElem?_append_left (by omega)]; exact e3⟩) (fun v hv => by
   obtain ⟨Y, rfl, q1, q2⟩ := hv;unfold Zo;simp only [dge, Bool.false_eq_true, if_false];exact ⟨_, rfl, Y, rfl, q1, fun k x hx => q2 k x (List.getElem?_eq_some_iff.1 hx).1 hx⟩) (v0 := ((0 : Int), (⟨p.inputs.map Jg, p.nodes, T, []⟩ : Flat), p.inputs.map Jg, ([] : List Tell))) ⟨[], rfl, rfl, fun k x hk => by omega⟩
 obtain ⟨Y, rfl, q1, q2⟩ := h2;exact ⟨Y, h1, q1, q2⟩
theorem t_make {p : Program} {ρ : ByteArray → Clock} (w : FW p ρ) : ∃ F a e, m_make p (p.flows.map fun f => ρ f.name) = some (F, a, e) ∧ ((e = 8 ∧ F.tasks = [] ∧ (30 < (cls (spP p.flows)).length ∨ ∃ f ∈ p.flows, LongS p f.name f.e true)) ∨ (e = 0 ∧ (cls (spP p.flows)).length ≤ 30 ∧ (∀ f ∈ p.flows, ¬ LongS p f.name f.e true) ∧ FlatR p ρ F)) := by
 obtain ⟨F, hF, h0⟩ := t_mk0 w;obtain ⟨mk, hp, hF1, hc, ha, hn, h1⟩ := t_mk1 w hF;obtain ⟨er, ee, h2, hq⟩ := t_mk2 w hp hF1 ha hn;have hcl : mk.calls.length = (cls (spP p.flows)).length := by rw [hc, List.length_map]
 rw [hcl] at hq;unfold m_make B_flat_Make;rw [h0];simp only [Option.bind_some];rw [h1];simp only [Option.bind_some];rw [h2];simp only [Option.bind_some];rcases hq with ⟨rfl, q1, q2⟩ | ⟨rfl, q1⟩
 ·simp only [decide_true, Bool.not_true, Bool.false_eq_true, if_false];obtain ⟨T, g1, g2, g3⟩ := t_tasks (m := ⟨mk.p, mk.flows, mk.calls, mk.at_, er, 0⟩) (ρ := ρ) (by simp only; rw [hp]; exact w) (FlK.ok w (m := ⟨mk.p, mk.flows, mk.calls, mk.at_, er, 0⟩) hp hF1 ha) (by simp only; rw [hp]; exact hc);simp only at g2 g3;rw [hp] at g2 g3;obtain ⟨Y, g4, g5, g6⟩ := t_mk3 w (mk := ⟨mk.p, mk.flows, mk.calls, mk.at_, er, 0⟩) hp hF1 ha T;rw [g1];simp only [Option.bind_some];rw [g4];exact ⟨_, _, _, rfl, .inr ⟨rfl, q1, q2, rfl, rfl, g2, g3, g5, g6⟩⟩
 ·simp only [Int.reduceEq, decide_false, Bool.not_false, if_true];exact ⟨_, _, _, rfl, .inl ⟨rfl, rfl, q1⟩⟩
end Go.Proofs.Ytohmmfimedgccaa.E
end
section
namespace Go.Proofs.Ytohmmfimedgccaa.E
set_option maxRecDepth 100000
set_option maxHeartbeats 4000000
set_option linter.unusedVariables false
set_option linter.unusedSimpArgs false
noncomputable def QU (a0 : Flat) (f1 : Flat → Arg → Clock → Option Bool) : Int → Option (Int ⊕ (Bool ⊕ Unit))
 | v74 =>
  if (decide (v74 < ((List.length a0.tells : Nat) : Int))) then
   ((qC a0.tells v74).bind fun y80 =>
   (if ((decide (y80.deadline < (1 : Int))) || (decide ((1000 : Int) < y80.deadline))) then
    some false
   else
    (f1 a0 y80.arg y80.clock).bind fun y83 =>
    some (!y83)).bind fun w85 =>
   if (((decide (y80.deadline < (1 : Int))) || (decide ((1000 : Int) < y80.deadline))) || w85) then
    some (.inl false)
   else
    some (.inr ()) : Option (Bool ⊕ Unit)).bind fun x => match x with
   | .inl r => some (.inr (.inl r))
   | .inr _ =>
    some (.inl (IntKind.i64.wrap (v74 + (1 : Int))))
  else
   some (.inr (.inr ()))
noncomputable def QV (y41 : Task) (a0 : Flat) (f1 : Flat → Arg → Clock → Option Bool) : Int → Option (Int ⊕ (Bool ⊕ Unit))
 | v56 =>
  if (decide (v56 < ((List.length y41.args : Nat) : Int))) then
   ((qC y41.args v56).bind fun y62 =>
   (f1 a0 y62 y41.clock).bind fun y64 =>
   if (!y64) then
    some (.inl false)
   else
    some (.inr ()) : Option (Bool ⊕ Unit)).bind fun x => match x with
   | .inl r => some (.inr (.inl r))
   | .inr _ =>
    some (.inl (IntKind.i64.wrap (v56 + (1 : Int))))
  else
   some (.inr (.inr ()))
noncomputable def QW (a0 : Flat) (f1 : Flat → Arg → Clock → Option Bool) : Int → Option (Int ⊕ (Bool ⊕ Unit))
 | v35 =>
  if (decide (v35 < ((List.length a0.tasks : Nat) : Int))) then
   ((qC a0.tasks v35).bind fun y41 =>
   (if (((decide (y41.node < (0 : Int))) || (decide (((List.length a0.nodes : Nat) : Int) ≤ y41.node))) || (decide (((List.length y41.args : Nat) : Int) = (0 : Int)))) then
    some false
   else
    (qC a0.nodes y41.node).bind fun y44 =>
    some (!decide (((List.length y41.args : Nat) : Int) = ((List.length y44.params : Nat) : Int)))).bind fun w46 =>
   if ((((decide (y41.node < (0 : Int))) || (decide (((List.length a0.nodes : Nat) : Int) ≤ y41.node))) || (decide (((List.length y41.args : Nat) : Int) = (0 : Int)))) || w46) then
    some (.inl false)
   else
    (qy (QV y41 a0 f1) (0 : Int) : Option (Bool ⊕ Unit)).bind fun x => match x with
    | .inl r => some (.inl r)
    | .inr _ =>
     some (.inr ()) : Option (Bool ⊕ Unit)).bind fun x => match x with
   | .inl r => some (.inr (.inl r))
   | .inr _ =>
    some (.inl (IntKind.i64.wrap (v35 + (1 : Int))))
  else
   some (.inr (.inr ()))
noncomputable def QX (a0 : Flat) : Int → Option (Int ⊕ (Bool ⊕ Unit))
 | v20 =>
  if (decide (v20 < ((List.length a0.nodes : Nat) : Int))) then
   ((qC a0.nodes v20).bind fun y26 =>
   if ((decide (y26.budget < (1 : Int))) || (decide ((1000 : Int) < y26.budget))) then
    some (.inl false)
   else
    some (.inr ()) : Option (Bool ⊕ Unit)).bind fun x => match x with
   | .inl r => some (.inr (.inl r))
   | .inr _ =>
    some (.inl (IntKind.i64.wrap (v20 + (1 : Int))))
  else
   some (.inr (.inr ()))
noncomputable def QY (a0 : Flat) (f0 : Clock → Option Bool) : Int → Option (Int ⊕ (Bool ⊕ Unit))
 | v4 =>
  if (decide (v4 < ((List.length a0.inputs : Nat) : Int))) then
   ((qC a0.inputs v4).bind fun y10 =>
   (f0 y10).bind fun y12 =>
   if (!y12) then
    some (.inl false)
   else
    some (.inr ()) : Option (Bool ⊕ Unit)).bind fun x => match x with
   | .inl r => some (.inr (.inl r))
   | .inr _ =>
    some (.inl (IntKind.i64.wrap (v4 + (1 : Int))))
  else
   some (.inr (.inr ()))
noncomputable def B_ref08_Right (f0 : Clock → Option Bool) (f1 : Flat → Arg → Clock → Option Bool) (a0 : Flat) : Option Bool :=
 if (decide ((30 : Int) < ((List.length a0.tasks : Nat) : Int))) then
  some false
 else
  (qy (QY a0 f0) (0 : Int) : Option (Bool ⊕ Unit)).bind fun x => match x with
  | .inl r => some r
  | .inr _ =>
   (qy (QX a0) (0 : Int) : Option (Bool ⊕ Unit)).bind fun x => match x with
   | .inl r => some r
   | .inr _ =>
    (qy (QW a0 f1) (0 : Int) : Option (Bool ⊕ Unit)).bind fun x => match x with
    | .inl r => some r
    | .inr _ =>
     (qy (QU a0 f1) (0 : Int) : Option (Bool ⊕ Unit)).bind fun x => match x with
     | .inl r => some r
     | .inr _ =>
      some true
theorem W_ref08_Right (f0 f1) (S0 : Sat_ref02_Right f0) (S1 : Sat_ref08_fits f1) : Sat_ref08_Right (B_ref08_Right f0 f1) := by
 intro a0 r h σ K hK;refine qW Try.func21 rfl rfl (by kernel_rfl) ?_;unfold B_ref08_Right at h;have hP := Pre.refl σ;have E0 : qz [(.ag (Flat.cl a0))] 0 = (.ag (Flat.cl a0)) := rfl;have TT := cj5 Arg.cle Clock.cle Expr.rlen Flat.cle (ZC Node.cle T_2 T_22 T_3 T_33 T_39 T_43 T_46 T_47 T_49 T_59 T_61 T_66 T_68 T_73 T_9 T_97 T_99 Task.cle Tell.cle);refine qk (fun e s => ∃ i1 : Nat, Bx σ s i1 49 (Flat.cl a0) ∧ eP e 1 i1 ∧ Pre σ s) ?_ ?_
 ·refine w_x (cj2 E0 TT) ?_;exact qe ⟨σ.length, (Bx.new hP _ _), (xv (cj2 E0 TT)), (hP.app _)⟩
 rintro e s ⟨i1, X1, E1, hP⟩
 refine ql (qd (w_x (cj3 E1 X1.get TT) ?_));refine qf (qd ?_);rcases qi h with ⟨hb1, h⟩ | ⟨hb1, h⟩
 ·refine xt hb1 (qd (w_x Expr.rlen ?_));refine qf (qp (zd ?_));obtain rfl := qa h;exact qt (fun _ => rfl) (xr (rs := #[.tmp 2]) TT) hP (.refl _) (.v _) hK
 ·refine xf hb1 (qm (qf (ql (qd (w_x Expr.rlen ?_)))));refine qf ?_;obtain ⟨x2, h3, h⟩ := qb h;refine qk (fun e s => .inr () = x2 ∧ Bx σ s i1 49 (Flat.cl a0) ∧ eP e 1 i1 ∧ Pre σ s) ?_ ?_
  ·refine qn (qH h3 (fun v e s => ∃ v4, v4 = v ∧ Bx σ s i1 49 (Flat.cl a0) ∧ eP e 1 i1 ∧ eI e 3 v4 ∧ Pre σ s) ⟨_, WkE.refl _, _, rfl, X1, E1, (xv TT), hP⟩ ?_)
   rintro v x5 e s hf6 ⟨v4, rfl, X1, E1, E3, hP⟩
   unfold QY at hf6;(try dsimp only at hf6);refine ql (qd (w_x (cj4 E1 E3 X1.get TT) ?_));refine qf (qd ?_);rcases qi hf6 with ⟨hb7, hf6⟩ | ⟨hb7, hf6⟩
   ·refine xt hb7 (qm (qf ?_));obtain ⟨x8, h9, hf6⟩ := qb hf6;refine qk (fun e s => .inr () = x8 ∧ Bx σ s i1 49 (Flat.cl a0) ∧ eP e 1 i1 ∧ eI e 3 v4 ∧ Pre σ s) ?_ ?_
    ·refine qn (qd ?_);obtain ⟨y10, h11, h9⟩ := qb h9;obtain ⟨y12, h13, h9⟩ := qb h9;have R14 := qA (f := Clock.cl) (qg h11).2;have q1 := cj6 E1 E3 X1.get R14 (qg h11).1 TT;refine w_x q1 ?_;refine S0 _ _ h13 _ _  ?_;refine w_y q1 ?_;refine qf ?_;rcases qi h9 with ⟨hb15, h9⟩ | ⟨hb15, h9⟩
     ·refine xt hb15 (qd (w_x Expr.rlen ?_));refine qf (qp (qw ?_));obtain rfl := qa h9;refine qB ?_;(try dsimp only at hf6);obtain rfl := qa hf6;refine zv rfl fun hr16 => ?_;obtain rfl := hr16;refine qw (qB ?_);(try dsimp only at h);obtain rfl := qa h;exact qt (fun _ => rfl) (xr (rs := #[.tmp 2]) TT) hP (.refl _) (.v _) hK
     ·refine xf hb15 (qm (qQ ?_));obtain rfl := qa h9;exact qe ⟨rfl, X1, E1, E3, hP⟩
    rintro e s ⟨rfl, X1, E1, E3, hP⟩
    (try dsimp only at hf6);refine w_x (cj2 E3 TT) ?_;obtain rfl := qa hf6;exact qZ rfl ⟨_, rfl, X1, E1, (xv (cj2 E3 TT)), hP⟩
   ·refine xf hb7 (qE (qM ?_));obtain rfl := qa hf6;refine qY rfl fun hr17 => ?_;obtain rfl := hr17;exact qK (qe ⟨rfl, X1, E1, hP⟩)
  rintro e s ⟨rfl, X1, E1, hP⟩
  (try dsimp only at h);refine ql (qd (w_x Expr.rlen ?_));refine qf ?_;obtain ⟨x18, h19, h⟩ := qb h;refine qk (fun e s => .inr () = x18 ∧ Bx σ s i1 49 (Flat.cl a0) ∧ eP e 1 i1 ∧ Pre σ s) ?_ ?_
  ·refine qn (qH h19 (fun v e s => ∃ v20, v20 = v ∧ Bx σ s i1 49 (Flat.cl a0) ∧ eP e 1 i1 ∧ eI e 4 v20 ∧ Pre σ s) ⟨_, WkE.refl _, _, rfl, X1, E1, (xv TT), hP⟩ ?_)
   rintro v x21 e s hf22 ⟨v20, rfl, X1, E1, E4, hP⟩
   unfold QX at hf22;(try dsimp only at hf22);refine ql (qd (w_x (cj4 E1 E4 X1.get TT) ?_));refine qf (qd ?_);rcases qi hf22 with ⟨hb23, hf22⟩ | ⟨hb23, hf22⟩
   ·refine xt hb23 (qm (qf ?_));obtain ⟨x24, h25, hf22⟩ := qb hf22;refine qk (fun e s => .inr () = x24 ∧ Bx σ s i1 49 (Flat.cl a0) ∧ eP e 1 i1 ∧ eI e 4 v20 ∧ Pre σ s) ?_ ?_
    ·refine qn ?_;obtain ⟨y26, h27, h25⟩ := qb h25;refine qk (fun e s => Bx σ s i1 49 (Flat.cl a0) ∧ eP e 1 i1 ∧ eI e 4 v20 ∧ eB e 50 ((decide (y26.budget < (1 : Int))) || (decide ((1000 : Int) < y26.budget))) ∧ Pre σ s) ?_ ?_
     ·have R28 := qA (f := Node.cl) (qg h27).2;cases hb29 : (decide (y26.budget < (1 : Int)))
      ·have q2 := cj7 E1 E4 X1.get R28 (qg h27).1 hb29 TT;refine w_x q2 ?_;exact qe ⟨X1, E1, E4, (xv q2), hP⟩
      ·have q3 := cj7 E1 E4 X1.get R28 (qg h27).1 hb29 TT;refine w_x q3 ?_;exact qe ⟨X1, E1, E4, (xv q3), hP⟩
     rintro e s ⟨X1, E1, E4, E50, hP⟩
     rcases qi h25 with ⟨hb30, h25⟩ | ⟨hb30, h25⟩
     ·refine xt (cj2 E50 hb30) (qd (w_x Expr.rlen ?_));refine qf (qp (qw ?_));obtain rfl := qa h25;refine qB ?_;(try dsimp only at hf22);obtain rfl := qa hf22;refine zv rfl fun hr31 => ?_;obtain rfl := hr31;refine qw (qB ?_);(try dsimp only at h);obtain rfl := qa h;exact qt (fun _ => rfl) (xr (rs := #[.tmp 2]) TT) hP (.refl _) (.v _) hK
     ·refine xf (cj2 E50 hb30) (qm (qQ ?_));obtain rfl := qa h25;exact qe ⟨rfl, X1, E1, E4, hP⟩
    rintro e s ⟨rfl, X1, E1, E4, hP⟩
    (try dsimp only at hf22);refine w_x (cj2 E4 TT) ?_;obtain rfl := qa hf22;exact qZ rfl ⟨_, rfl, X1, E1, (xv (cj2 E4 TT)), hP⟩
   ·refine xf hb23 (qE (qM ?_));obtain rfl := qa hf22;refine qY rfl fun hr32 => ?_;obtain rfl := hr32;exact qK (qe ⟨rfl, X1, E1, hP⟩)
  rintro e s ⟨rfl, X1, E1, hP⟩
  (try dsimp only at h);refine ql (qd (w_x Expr.rlen ?_));refine qf ?_;obtain ⟨x33, h34, h⟩ := qb h;refine qk (fun e s => .inr () = x33 ∧ Bx σ s i1 49 (Flat.cl a0) ∧ eP e 1 i1 ∧ Pre σ s) ?_ ?_
  ·refine qn (qH h34 (fun v e s => ∃ v35, v35 = v ∧ Bx σ s i1 49 (Flat.cl a0) ∧ eP e 1 i1 ∧ eI e 5 v35 ∧ Pre σ s) ⟨_, WkE.refl _, _, rfl, X1, E1, (xv TT), hP⟩ ?_)
   rintro v x36 e s hf37 ⟨v35, rfl, X1, E1, E5, hP⟩
   unfold QW at hf37;(try dsimp only at hf37);refine ql (qd (w_x (cj4 E1 E5 X1.get TT) ?_));refine qf (qd ?_);rcases qi hf37 with ⟨hb38, hf37⟩ | ⟨hb38, hf37⟩
   ·refine xt hb38 (qm (qf ?_));obtain ⟨x39, h40, hf37⟩ := qb hf37;refine qk (fun e s => .inr () = x39 ∧ Bx σ s i1 49 (Flat.cl a0) ∧ eP e 1 i1 ∧ eI e 5 v35 ∧ Pre σ s) ?_ ?_
    ·refine qn ?_;obtain ⟨y41, h42, h40⟩ := qb h40;refine qk (fun e s => ∃ i6 : Nat, Bx σ s i1 49 (Flat.cl a0) ∧ Bx σ s i6 61 (Task.cl y41) ∧ eP e 1 i1 ∧ eI e 5 v35 ∧ eP e 6 i6 ∧ Pre σ s) ?_ ?_
     ·have R43 := qA (f := Task.cl) (qg h42).2;have q4 := cj6 E1 E5 X1.g3 R43 (qg h42).1 TT;refine w_x q4 ?_;exact qe ⟨s.length, (X1.app _), (Bx.new hP _ _), E1, E5, (xv q4), (hP.app _)⟩
     rintro e s ⟨i6, X1, X6, E1, E5, E6, hP⟩
     refine ql ?_;obtain ⟨w46, h47, h40⟩ := qb h40;refine qk (fun e s => Bx σ s i1 49 (Flat.cl a0) ∧ Bx σ s i6 61 (Task.cl y41) ∧ eP e 1 i1 ∧ eI e 5 v35 ∧ eP e 6 i6 ∧ eB e 93 ((((decide (y41.node < (0 : Int))) || (decide (((List.length a0.nodes : Nat) : Int) ≤ y41.node))) || (decide (((List.length y41.args : Nat) : Int) = (0 : Int)))) || w46) ∧ Pre σ s) ?_ ?_
     ·cases hb48 : (decide (y41.node < (0 : Int)))
      ·cases hb49 : (decide (((List.length a0.nodes : Nat) : Int) ≤ y41.node))
       ·cases hb50 : (decide (((List.length y41.args : Nat) : Int) = (0 : Int)))
        ·replace h47 := qU (by simp only [hb48, hb49, hb50, Bool.or_true, Bool.true_or, Bool.or_false, Bool.false_or, Bool.and_true, Bool.true_and, Bool.and_false, Bool.false_and, Bool.not_true, Bool.not_false, cond_true, cond_false]) h47;obtain ⟨y44, h45, h47⟩ := qb h47;obtain rfl := qa h47;have R51 := qA (f := Node.cl) (qg h45).2;have q5 := Zt E1 E6 X1.get X6.get hb48 hb49 hb50 R51 (qg h45).1 TT;refine ZX q5 ?_;exact qe ⟨X1, X6, E1, E5, E6, (xv q5), hP⟩
        ·replace h47 := qO (by simp only [hb48, hb49, hb50, Bool.or_true, Bool.true_or, Bool.or_false, Bool.false_or, Bool.and_true, Bool.true_and, Bool.and_false, Bool.false_and, Bool.not_true, Bool.not_false, cond_true, cond_false]) h47;obtain rfl := qa h47;have q6 := cj8 E1 E6 X1.get X6.get hb48 hb49 hb50 TT;refine ZX q6 ?_;exact qe ⟨X1, X6, E1, E5, E6, (xv q6), hP⟩
       ·replace h47 := qO (by simp only [hb48, hb49, Bool.or_true, Bool.true_or, Bool.or_false, Bool.false_or, Bool.and_true, Bool.true_and, Bool.and_false, Bool.false_and, Bool.not_true, Bool.not_false, cond_true, cond_false]) h47;obtain rfl := qa h47;have q7 := cj7 E1 E6 X1.get X6.get hb48 hb49 TT;refine ZX q7 ?_;exact qe ⟨X1, X6, E1, E5, E6, (xv q7), hP⟩
      ·replace h47 := qO (by simp only [hb48, Bool.or_true, Bool.true_or, Bool.or_false, Bool.false_or, Bool.and_true, Bool.true_and, Bool.and_false, Bool.false_and, Bool.not_true, Bool.not_false, cond_true, cond_false]) h47;obtain rfl := qa h47;have q8 := cj6 E1 E6 X1.get X6.get hb48 TT;refine ZX q8 ?_;exact qe ⟨X1, X6, E1, E5, E6, (xv q8), hP⟩
     rintro e s ⟨X1, X6, E1, E5, E6, E93, hP⟩
     refine qd ?_;rcases qi h40 with ⟨hb52, h40⟩ | ⟨hb52, h40⟩
     ·refine xt (cj2 E93 hb52) (qd (w_x Expr.rlen ?_));refine qf (qp (zd (qw ?_)));obtain rfl := qa h40;refine qB ?_;(try dsimp only at hf37);obtain rfl := qa hf37;refine zv rfl fun hr53 => ?_;obtain rfl := hr53;refine qw (qB ?_);(try dsimp only at h);obtain rfl := qa h;exact qt (fun _ => rfl) (xr (rs := #[.tmp 2]) TT) hP (.refl _) (.v _) hK
     ·refine xf (cj2 E93 hb52) (qm (qf (qd (w_x Expr.rlen ?_))));refine qf ?_;obtain ⟨x54, h55, h40⟩ := qb h40;refine zE (fun e s => .inr () = x54 ∧ Bx σ s i1 49 (Flat.cl a0) ∧ eP e 1 i1 ∧ eI e 5 v35 ∧ Pre σ s) ?_ ?_
      ·refine qn (qH h55 (fun v e s => ∃ v56, v56 = v ∧ Bx σ s i1 49 (Flat.cl a0) ∧ Bx σ s i6 61 (Task.cl y41) ∧ eP e 1 i1 ∧ eI e 5 v35 ∧ eP e 6 i6 ∧ eI e 7 v56 ∧ Pre σ s) ⟨_, WkE.refl _, _, rfl, X1, X6, E1, E5, E6, (xv TT), hP⟩ ?_)
       rintro v x57 e s hf58 ⟨v56, rfl, X1, X6, E1, E5, E6, E7, hP⟩
       unfold QV at hf58;(try dsimp only at hf58);refine ql (qd (w_x (cj4 E6 E7 X6.get TT) ?_));refine qf (qd ?_);rcases qi hf58 with ⟨hb59, hf58⟩ | ⟨hb59, hf58⟩
       ·refine xt hb59 (qm (qf ?_));obtain ⟨x60, h61, hf58⟩ := qb hf58;refine qk (fun e s => .inr () = x60 ∧ Bx σ s i1 49 (Flat.cl a0) ∧ Bx σ s i6 61 (Task.cl y41) ∧ eP e 1 i1 ∧ eI e 5 v35 ∧ eP e 6 i6 ∧ eI e 7 v56 ∧ Pre σ s) ?_ ?_
        ·refine qn ?_;obtain ⟨y62, h63, h61⟩ := qb h61;obtain ⟨y64, h65, h61⟩ := qb h61;refine qk (fun e s => Bx σ s i1 49 (Flat.cl a0) ∧ Bx σ s i6 61 (Task.cl y41) ∧ eP e 1 i1 ∧ eI e 5 v35 ∧ eP e 6 i6 ∧ eI e 7 v56 ∧ eB e 110 (!y64) ∧ Pre σ s) ?_ ?_
         ·have R66 := qA (f := Arg.cl) (qg h63).2;have q9 := cj8 E1 E6 E7 X1.get X6.get R66 (qg h63).1 TT;refine zn 8 0 q9 ?_;refine za q9 ?_;refine S1 _ _ _ _ h65 _ _  ?_;refine w_y q9 ?_;exact qe ⟨X1, X6, E1, E5, E6, E7, (xv q9), hP⟩
         rintro e s ⟨X1, X6, E1, E5, E6, E7, E110, hP⟩
         rcases qi h61 with ⟨hb67, h61⟩ | ⟨hb67, h61⟩
         ·refine xt (cj2 E110 hb67) (qd (w_x Expr.rlen ?_));refine qf (qp (qw ?_));obtain rfl := qa h61;refine qB ?_;(try dsimp only at hf58);obtain rfl := qa hf58;refine zv rfl fun hr68 => ?_;obtain rfl := hr68;refine qw (Yk ?_);(try dsimp only at h40);refine qw ?_;obtain rfl := qa h40;refine qB ?_;(try dsimp only at hf37);obtain rfl := qa hf37;refine zv rfl fun hr69 => ?_;obtain rfl := hr69;refine qw (qB ?_);(try dsimp only at h);obtain rfl := qa h;exact qt (fun _ => rfl) (xr (rs := #[.tmp 2]) TT) hP (.refl _) (.v _) hK
         ·refine xf (cj2 E110 hb67) (qm (qQ ?_));obtain rfl := qa h61;exact qe ⟨rfl, X1, X6, E1, E5, E6, E7, hP⟩
        rintro e s ⟨rfl, X1, X6, E1, E5, E6, E7, hP⟩
        (try dsimp only at hf58);refine w_x (cj2 E7 TT) ?_;obtain rfl := qa hf58;exact qZ rfl ⟨_, rfl, X1, X6, E1, E5, E6, (xv (cj2 E7 TT)), hP⟩
       ·refine xf hb59 (qE (qM ?_));obtain rfl := qa hf58;refine qY rfl fun hr70 => ?_;obtain rfl := hr70;exact qK (qS ⟨rfl, X1, E1, E5, hP⟩)
      rintro e s ⟨rfl, X1, E1, E5, hP⟩
      (try dsimp only at h40);refine qQ ?_;obtain rfl := qa h40;exact qe ⟨rfl, X1, E1, E5, hP⟩
    rintro e s ⟨rfl, X1, E1, E5, hP⟩
    (try dsimp only at hf37);refine w_x (cj2 E5 TT) ?_;obtain rfl := qa hf37;exact qZ rfl ⟨_, rfl, X1, E1, (xv (cj2 E5 TT)), hP⟩
   ·refine xf hb38 (qE (qM ?_));obtain rfl := qa hf37;refine qY rfl fun hr71 => ?_;obtain rfl := hr71;exact qK (qe ⟨rfl, X1, E1, hP⟩)
  rintro e s ⟨rfl, X1, E1, hP⟩
  (try dsimp only at h);refine ql (qd (w_x Expr.rlen ?_));refine qf ?_;obtain ⟨x72, h73, h⟩ := qb h;refine qk (fun e s => .inr () = x72 ∧ Pre σ s) ?_ ?_
  ·refine qn (qH h73 (fun v e s => ∃ v74, v74 = v ∧ Bx σ s i1 49 (Flat.cl a0) ∧ eP e 1 i1 ∧ eI e 8 v74 ∧ Pre σ s) ⟨_, WkE.refl _, _, rfl, X1, E1, (xv TT), hP⟩ ?_)
   rintro v x75 e s hf76 ⟨v74, rfl, X1, E1, E8, hP⟩
   unfold QU at hf76;(try dsimp only at hf76);refine ql (qd (w_x (cj4 E1 E8 X1.get TT) ?_));refine qf (qd ?_);rcases qi hf76 with ⟨hb77, hf76⟩ | ⟨hb77, hf76⟩
   ·refine xt hb77 (qm (qf ?_));obtain ⟨x78, h79, hf76⟩ := qb hf76;refine qk (fun e s => .inr () = x78 ∧ Bx σ s i1 49 (Flat.cl a0) ∧ eP e 1 i1 ∧ eI e 8 v74 ∧ Pre σ s) ?_ ?_
    ·refine qn ?_;obtain ⟨y80, h81, h79⟩ := qb h79;refine qk (fun e s => ∃ i9 : Nat, Bx σ s i1 49 (Flat.cl a0) ∧ Bx σ s i9 73 (Tell.cl y80) ∧ eP e 1 i1 ∧ eI e 8 v74 ∧ eP e 9 i9 ∧ Pre σ s) ?_ ?_
     ·have R82 := qA (f := Tell.cl) (qg h81).2;have q10 := cj6 E1 E8 X1.g3 R82 (qg h81).1 TT;refine w_x q10 ?_;exact qe ⟨s.length, (X1.app _), (Bx.new hP _ _), E1, E8, (xv q10), (hP.app _)⟩
     rintro e s ⟨i9, X1, X9, E1, E8, E9, hP⟩
     obtain ⟨w85, h86, h79⟩ := qb h79;refine qk (fun e s => Bx σ s i1 49 (Flat.cl a0) ∧ eP e 1 i1 ∧ eI e 8 v74 ∧ eB e 139 (((decide (y80.deadline < (1 : Int))) || (decide ((1000 : Int) < y80.deadline))) || w85) ∧ Pre σ s) ?_ ?_
     ·cases hb87 : (decide (y80.deadline < (1 : Int)))
      ·cases hb88 : (decide ((1000 : Int) < y80.deadline))
       ·replace h86 := qU (by simp only [hb87, hb88, Bool.or_true, Bool.true_or, Bool.or_false, Bool.false_or, Bool.and_true, Bool.true_and, Bool.and_false, Bool.false_and, Bool.not_true, Bool.not_false, cond_true, cond_false]) h86;obtain ⟨y83, h84, h86⟩ := qb h86;obtain rfl := qa h86;have q11 := cj7 E1 E9 X1.get X9.get hb87 hb88 TT;refine w_x q11 ?_;refine S1 _ _ _ _ h84 _ _  ?_;refine w_y q11 ?_;exact qe ⟨X1, E1, E8, (xv q11), hP⟩
       ·replace h86 := qO (by simp only [hb87, hb88, Bool.or_true, Bool.true_or, Bool.or_false, Bool.false_or, Bool.and_true, Bool.true_and, Bool.and_false, Bool.false_and, Bool.not_true, Bool.not_false, cond_true, cond_false]) h86;obtain rfl := qa h86;have q12 := cj7 E1 E9 X1.get X9.get hb87 hb88 TT;refine w_x q12 ?_;exact qe ⟨X1, E1, E8, (xv q12), hP⟩
      ·replace h86 := qO (by simp only [hb87, Bool.or_true, Bool.true_or, Bool.or_false, Bool.false_or, Bool.and_true, Bool.true_and, Bool.and_false, Bool.false_and, Bool.not_true, Bool.not_false, cond_true, cond_false]) h86;obtain rfl := qa h86;have q13 := cj6 E1 E9 X1.get X9.get hb87 TT;refine w_x q13 ?_;exact qe ⟨X1, E1, E8, (xv q13), hP⟩
     rintro e s ⟨X1, E1, E8, E139, hP⟩
     rcases qi h79 with ⟨hb89, h79⟩ | ⟨hb89, h79⟩
     ·refine xt (cj2 E139 hb89) (qd (w_x Expr.rlen ?_));refine qf (qp (qw ?_));obtain rfl := qa h79;refine qB ?_;(try dsimp only at hf76);obtain rfl := qa hf76;refine zv rfl fun hr90 => ?_;obtain rfl := hr90;refine qw (qB ?_);(try dsimp only at h);obtain rfl := qa h;exact qt (fun _ => rfl) (xr (rs := #[.tmp 2]) TT) hP (.refl _) (.v _) hK
     ·refine xf (cj2 E139 hb89) (qm (qQ ?_));obtain rfl := qa h79;exact qe ⟨rfl, X1, E1, E8, hP⟩
    rintro e s ⟨rfl, X1, E1, E8, hP⟩
    (try dsimp only at hf76);refine w_x (cj2 E8 TT) ?_;obtain rfl := qa hf76;exact qZ rfl ⟨_, rfl, X1, E1, (xv (cj2 E8 TT)), hP⟩
   ·refine xf hb77 (qE (qM ?_));obtain rfl := qa hf76;refine qY rfl fun hr91 => ?_;obtain rfl := hr91;exact qK (qe ⟨rfl, hP⟩)
  rintro e s ⟨rfl, hP⟩
  (try dsimp only at h);refine qd (w_x Expr.rlen ?_);refine qf (qp ?_);obtain rfl := qa h;exact qt (fun _ => rfl) (xr (rs := #[.tmp 2]) TT) hP (.refl _) (.v _) hK
noncomputable def B_ref08_fits (f0 : Flat → Int → Option (Clock × Bool)) (f1 : Clock → (List Op) → Option (Clock × Int)) (a0 : Flat) (a1 : Arg) (a2 : Clock) : Option Bool :=
 (f0 a0 a1.src).bind fun y1 =>
 if ((!y1.2) || (decide ((20 : Int) < ((List.length a1.ops : Nat) : Int)))) then
  some false
 else
  (f1 y1.1 a1.ops).bind fun y5 =>
  some ((decide (y5.2 = (0 : Int))) && (decide (y5.1.period = a2.period) && (decide (y5.1.phase = a2.phase))))
theorem W_ref08_fits (f0 f1) (S0 : Sat_ref08_source f0) (S1 : Sat_ref02_All f1) : Sat_ref08_fits (B_ref08_fits f0 f1) := by
 intro a0 a1 a2 r h σ K hK;refine qW Try.func62 rfl rfl (by kernel_rfl) ?_;unfold B_ref08_fits at h;have hP := Pre.refl σ;have E0 : qz [(.ag (Flat.cl a0)), (.ag (Arg.cl a1)), (.ag (Clock.cl a2))] 0 = (.ag (Flat.cl a0)) := rfl;have E1 : qz [(.ag (Flat.cl a0)), (.ag (Arg.cl a1)), (.ag (Clock.cl a2))] 1 = (.ag (Arg.cl a1)) := rfl;have E2 : qz [(.ag (Flat.cl a0)), (.ag (Arg.cl a1)), (.ag (Clock.cl a2))] 2 = (.ag (Clock.cl a2)) := rfl;have TT := JV Arg.cle Clock.cle Expr.rlen Flat.cle T_119 T_2 T_22 T_3 T_30 T_33 T_43 T_46 T_47 T_49 T_66 T_68;refine qk (fun e s => ∃ i3 i4 i5 : Nat, Bx σ s i3 49 (Flat.cl a0) ∧ Bx σ s i4 68 (Arg.cl a1) ∧ Bx σ s i5 43 (Clock.cl a2) ∧ eP e 3 i3 ∧ eP e 4 i4 ∧ eP e 5 i5 ∧ Pre σ s) ?_ ?_
 ·have q1 := cj4 E0 E1 E2 TT;refine w_x q1 ?_;exact qe ⟨σ.length, (σ ++ [some (AObj.box 49 (Flat.cl a0))]).length, ((σ ++ [some (AObj.box 49 (Flat.cl a0))]) ++ [some (AObj.box 68 (Arg.cl a1))]).length, (((Bx.new hP 49 (Flat.cl a0)).app [some (AObj.box 68 (Arg.cl a1))]).app [some (AObj.box 43 (Clock.cl a2))]), ((Bx.new (hP.app _) 68 (Arg.cl a1)).app [some (AObj.box 43 (Clock.cl a2))]), (Bx.new ((hP.app _).app _) 43 (Clock.cl a2)), (xv q1), (xv q1), (xv q1), (((hP.app _).app _).app _)⟩
 rintro e s ⟨i3, i4, i5, X3, X4, X5, E3, E4, E5, hP⟩
 obtain ⟨y1, h2, h⟩ := qb h;refine qk (fun e s => ∃ i7 : Nat, Bx σ s i4 68 (Arg.cl a1) ∧ Bx σ s i5 43 (Clock.cl a2) ∧ Bx σ s i7 43 (Clock.cl y1.1) ∧ eP e 4 i4 ∧ eP e 5 i5 ∧ eP e 7 i7 ∧ eB e 8 y1.2 ∧ Pre σ s) ?_ ?_
 ·have q2 := cj5 E3 E4 X3.g3 X4.g3 TT;refine w_x q2 ?_;refine S0 _ _ _ h2 _ _  ?_;refine w_y q2 ?_;exact qe ⟨s.length, (X4.app _), (X5.app _), (Bx.new hP _ _), E4, E5, (xv q2), (xv q2), (hP.app _)⟩
 rintro e s ⟨i7, X4, X5, X7, E4, E5, E7, E8, hP⟩
 refine ql (qk (fun e s => Bx σ s i4 68 (Arg.cl a1) ∧ Bx σ s i5 43 (Clock.cl a2) ∧ Bx σ s i7 43 (Clock.cl y1.1) ∧ eP e 4 i4 ∧ eP e 5 i5 ∧ eP e 7 i7 ∧ eB e 25 ((!y1.2) || (decide ((20 : Int) < ((List.length a1.ops : Nat) : Int)))) ∧ Pre σ s) ?_ ?_)
 ·cases hb3 : (!y1.2)
  ·refine w_x (cj5 E4 E8 X4.get hb3 TT) ?_;exact qe ⟨X4, X5, X7, E4, E5, E7, (xv (cj5 E4 E8 X4.get hb3 TT)), hP⟩
  ·refine w_x (cj5 E4 E8 X4.get hb3 TT) ?_;exact qe ⟨X4, X5, X7, E4, E5, E7, (xv (cj5 E4 E8 X4.get hb3 TT)), hP⟩
 rintro e s ⟨X4, X5, X7, E4, E5, E7, E25, hP⟩
 refine qd ?_;rcases qi h with ⟨hb4, h⟩ | ⟨hb4, h⟩
 ·refine xt (cj2 E25 hb4) (qd (w_x Expr.rlen ?_));refine qf (qp (zd ?_));obtain rfl := qa h;exact qt (fun _ => rfl) (xr (rs := #[.tmp 6]) TT) hP (.refl _) (.v _) hK
 ·refine xf (cj2 E25 hb4) (qm (qf ?_));obtain ⟨y5, h6, h⟩ := qb h;refine qk (fun e s => ∃ i9 : Nat, Bx σ s i5 43 (Clock.cl a2) ∧ Bx σ s i9 43 (Clock.cl y5.1) ∧ eP e 5 i5 ∧ eP e 9 i9 ∧ eI e 10 y5.2 ∧ Pre σ s) ?_ ?_
  ·have q3 := cj5 E4 E7 X4.g3 X7.g3 TT;refine w_x q3 ?_;refine S1 _ _ _ h6 _ _  ?_;refine w_y q3 ?_;exact qe ⟨s.length, (X5.app _), (Bx.new hP _ _), E5, (xv q3), (xv q3), (hP.app _)⟩
  rintro e s ⟨i9, X5, X9, E5, E9, E10, hP⟩
  refine qk (fun e s => eB e 6 ((decide (y5.2 = (0 : Int))) && (decide (y5.1.period = a2.period) && (decide (y5.1.phase = a2.phase)))) ∧ Pre σ s) ?_ ?_
  ·cases hb7 : (decide (y5.2 = (0 : Int)))
   ·have q4 := cj7 E5 E9 E10 X5.get X9.get hb7 TT;refine w_x q4 ?_;exact qe ⟨(xv q4), hP⟩
   ·have q5 := cj7 E5 E9 E10 X5.get X9.get hb7 TT;refine w_x q5 ?_;exact qe ⟨(xv q5), hP⟩
  rintro e s ⟨E6, hP⟩
  refine qp ?_;obtain rfl := qa h;exact qt (fun _ => rfl) (xr (rs := #[.tmp 6]) (cj2 E6 TT)) hP (.refl _) (.v _) hK
noncomputable def B_ref08_source (a0 : Flat) (a1 : Int) : Option (Clock × Bool) :=
 if ((decide ((0 : Int) ≤ a1)) && (decide (a1 < ((List.length a0.inputs : Nat) : Int)))) then
  (qC a0.inputs a1).bind fun y3 =>
  some (y3, true)
 else
  if ((decide (((List.length a0.inputs : Nat) : Int) ≤ a1)) && (decide (a1 < (IntKind.i64.wrap (((List.length a0.inputs : Nat) : Int) + ((List.length a0.tasks : Nat) : Int)))))) then
   (qC a0.tasks (IntKind.i64.wrap (a1 - ((List.length a0.inputs : Nat) : Int)))).bind fun y8 =>
   some (y8.clock, true)
  else
   some ((Clock.mk (0 : Int) (0 : Int)), false)
abbrev C98_0 (z0 z1 : Store) (z2 : Nat) : Prop := Bx z0 z1 z2 43 [(.v (.int .i64 (0 : Int))), (.v (.int .i64 (0 : Int)))]
theorem W_ref08_source : Sat_ref08_source (B_ref08_source) := by
 intro a0 a1 r h σ K hK;refine qW Try.func98 rfl rfl (by kernel_rfl) ?_;unfold B_ref08_source at h;have hP := Pre.refl σ;have E0 : qz [(.ag (Flat.cl a0)), (.v (.int .i64 a1))] 0 = (.ag (Flat.cl a0)) := rfl;have E1 : qz [(.ag (Flat.cl a0)), (.v (.int .i64 a1))] 1 = (.v (.int .i64 a1)) := rfl;have TT := Yl Clock.cle Expr.rlen Flat.cle T_2 T_22 T_3 T_33 T_43 T_46 T_47 T_49 T_59 T_61 Task.cle;refine qk (fun e s => ∃ i2 i4 : Nat, Bx σ s i2 49 (Flat.cl a0) ∧ C98_0 σ s i4 ∧ eI e 1 a1 ∧ eP e 2 i2 ∧ eP e 4 i4 ∧ i2 ≠ i4 ∧ Pre σ s) ?_ ?_
 ·refine w_x (cj2 E0 TT) ?_;exact qe ⟨σ.length, (σ ++ [some (AObj.box 49 (Flat.cl a0))]).length, ((Bx.new hP 49 (Flat.cl a0)).app [some (AObj.box 43 [(.v (.int .i64 (0 : Int))), (.v (.int .i64 (0 : Int)))])]), (Bx.new (hP.app _) 43 [(.v (.int .i64 (0 : Int))), (.v (.int .i64 (0 : Int)))]), E1, (xv (cj2 E0 TT)), (xv (cj2 E0 TT)), (Nat.ne_of_lt (Bx.new hP 49 (Flat.cl a0)).lt), ((hP.app _).app _)⟩
 rintro e s ⟨i2, i4, X2, X4, E1, E2, E4, N2__4, hP⟩
 refine ql (qk (fun e s => Bx σ s i2 49 (Flat.cl a0) ∧ C98_0 σ s i4 ∧ eI e 1 a1 ∧ eP e 2 i2 ∧ eP e 4 i4 ∧ eB e 14 ((decide ((0 : Int) ≤ a1)) && (decide (a1 < ((List.length a0.inputs : Nat) : Int)))) ∧ i2 ≠ i4 ∧ Pre σ s) ?_ ?_)
 ·cases hb1 : (decide ((0 : Int) ≤ a1))
  ·refine w_x (cj5 E1 E2 X2.get hb1 TT) ?_;exact qe ⟨X2, X4, E1, E2, E4, (xv (cj5 E1 E2 X2.get hb1 TT)), N2__4, hP⟩
  ·refine w_x (cj5 E1 E2 X2.get hb1 TT) ?_;exact qe ⟨X2, X4, E1, E2, E4, (xv (cj5 E1 E2 X2.get hb1 TT)), N2__4, hP⟩
 rintro e s ⟨X2, X4, E1, E2, E4, E14, N2__4, hP⟩
 refine qd ?_;rcases qi h with ⟨hb2, h⟩ | ⟨hb2, h⟩
 ·refine xt (cj2 E14 hb2) ?_;obtain ⟨y3, h4, h⟩ := qb h;refine qk (fun e s => Bx σ s i4 43 (Clock.cl y3) ∧ eP e 4 i4 ∧ eB e 5 true ∧ Pre σ s) ?_ ?_
  ·have R5 := qA (f := Clock.cl) (qg h4).2;have q1 := X4.same 43 (Clock.cl y3);have q2 := X2.ne (Ne.symm N2__4) (some (AObj.box 43 (Clock.cl y3)));have q3 := Zt E1 E2 E4 X2.get X4.get R5 (qg h4).1 q2.get q1.get TT;refine w_x q3 ?_;exact qe ⟨q1, E4, (xv q3), (hP.set X4.le (some (AObj.box 43 (Clock.cl y3))))⟩
  rintro e s ⟨X4, E4, E5, hP⟩
  refine qp (zd ?_);obtain rfl := qa h;exact qt (fun _ => rfl) (xr (rs := #[.cell 4 43, .tmp 5]) (cj4 X4.get E4 E5 TT)) hP (.refl _) (.tu (CnL.cons (.ag (CnL.cons (.v _) (CnL.cons (.v _) CnL.nil))) (CnL.cons (.v _) CnL.nil))) hK
 ·refine xf (cj2 E14 hb2) (qm (qf (ql (qk (fun e s => Bx σ s i2 49 (Flat.cl a0) ∧ C98_0 σ s i4 ∧ eI e 1 a1 ∧ eP e 2 i2 ∧ eP e 4 i4 ∧ eB e 35 ((decide (((List.length a0.inputs : Nat) : Int) ≤ a1)) && (decide (a1 < (IntKind.i64.wrap (((List.length a0.inputs : Nat) : Int) + ((List.length a0.tasks : Nat) : Int)))))) ∧ i2 ≠ i4 ∧ Pre σ s) ?_ ?_))))
  ·cases hb6 : (decide (((List.length a0.inputs : Nat) : Int) ≤ a1))
   ·refine w_x (cj5 E1 E2 X2.get hb6 TT) ?_;exact qe ⟨X2, X4, E1, E2, E4, (xv (cj5 E1 E2 X2.get hb6 TT)), N2__4, hP⟩
   ·refine w_x (cj5 E1 E2 X2.get hb6 TT) ?_;exact qe ⟨X2, X4, E1, E2, E4, (xv (cj5 E1 E2 X2.get hb6 TT)), N2__4, hP⟩
  rintro e s ⟨X2, X4, E1, E2, E4, E35, N2__4, hP⟩
  refine qd ?_;rcases qi h with ⟨hb7, h⟩ | ⟨hb7, h⟩
  ·refine xt (cj2 E35 hb7) ?_;obtain ⟨y8, h9, h⟩ := qb h;refine qk (fun e s => Bx σ s i4 43 (Clock.cl y8.clock) ∧ eP e 4 i4 ∧ eB e 5 true ∧ Pre σ s) ?_ ?_
   ·have R10 := qA (f := Task.cl) (qg h9).2;have q4 := X4.same 43 (Clock.cl y8.clock);have q5 := X2.ne (Ne.symm N2__4) (some (AObj.box 43 (Clock.cl y8.clock)));have q6 := Zt E1 E2 E4 X2.get X4.get R10 (qg h9).1 q5.get q4.get TT;refine w_x q6 ?_;exact qe ⟨q4, E4, (xv q6), (hP.set X4.le (some (AObj.box 43 (Clock.cl y8.clock))))⟩
   rintro e s ⟨X4, E4, E5, hP⟩
   refine qp (zd ?_);obtain rfl := qa h;exact qt (fun _ => rfl) (xr (rs := #[.cell 4 43, .tmp 5]) (cj4 X4.get E4 E5 TT)) hP (.refl _) (.tu (CnL.cons (.ag (CnL.cons (.v _) (CnL.cons (.v _) CnL.nil))) (CnL.cons (.v _) CnL.nil))) hK
  ·refine xf (cj2 E35 hb7) (qm (qf (qk (fun e s => C98_0 σ s i4 ∧ eP e 4 i4 ∧ eB e 5 false ∧ Pre σ s) ?_ ?_)))
   ·have q7 := X4.same 43 [(.v (.int .i64 (0 : Int))), (.v (.int .i64 (0 : Int)))];refine w_x (cj4 E4 X4.get q7.get TT) ?_;exact qe ⟨q7, E4, (xv (cj4 E4 X4.get q7.get TT)), (hP.set X4.le (some (AObj.box 43 [(.v (.int .i64 (0 : Int))), (.v (.int .i64 (0 : Int)))])))⟩
   rintro e s ⟨X4, E4, E5, hP⟩
   refine qp ?_;obtain rfl := qa h;exact qt (fun _ => rfl) (xr (rs := #[.cell 4 43, .tmp 5]) (cj4 X4.get E4 E5 TT)) hP (.refl _) (.tu (CnL.cons (.ag (CnL.cons (.v _) (CnL.cons (.v _) CnL.nil))) (CnL.cons (.v _) CnL.nil))) hK
noncomputable def Qs (a1 : (List Op)) (f0 : Clock → Op → Option (Clock × Int)) : (Int × Clock × Clock) → Option ((Int × Clock × Clock) ⊕ ((Clock × Int) ⊕ (Clock × Clock)))
 | (v8, v9, v10) =>
  if (decide (v8 < ((List.length a1 : Nat) : Int))) then
   ((qC a1 v8).bind fun y18 =>
   (f0 v9 y18).bind fun y20 =>
   if (!decide (y20.2 = (0 : Int))) then
    some (.inl ((Clock.mk (0 : Int) (0 : Int)), y20.2))
   else
    some (.inr (y20.1, v10)) : Option ((Clock × Int) ⊕ (Clock × Clock))).bind fun x => match x with
   | .inl r => some (.inr (.inl r))
   | .inr (v16, v17) =>
    some (.inl ((IntKind.i64.wrap (v8 + (1 : Int))), v16, v17))
  else
   some (.inr (.inr (v9, v10)))
noncomputable def B_ref02_All (f0 : Clock → Op → Option (Clock × Int)) (f1 : Clock → Option Bool) (a0 : Clock) (a1 : (List Op)) : Option (Clock × Int) :=
 (f1 a0).bind fun y1 =>
 if (!y1) then
  some ((Clock.mk (0 : Int) (0 : Int)), (12 : Int))
 else
  (qy (Qs a1 f0) ((0 : Int), a0, (Clock.mk (0 : Int) (0 : Int))) : Option ((Clock × Int) ⊕ (Clock × Clock))).bind fun x => match x with
  | .inl r => some r
  | .inr (v6, v7) =>
   some (v6, (0 : Int))
abbrev C99_0 (z0 z1 : Store) (z2 : Nat) : Prop := Bx z0 z1 z2 43 [(.v (.int .i64 (0 : Int))), (.v (.int .i64 (0 : Int)))]
theorem W_ref02_All (f0 f1) (S0 : Sat_ref02_Apply f0) (S1 : Sat_ref02_Right f1) : Sat_ref02_All (B_ref02_All f0 f1) := by
 intro a0 a1 r h σ K hK;refine qW Try.func99 rfl rfl (by kernel_rfl) ?_;unfold B_ref02_All at h;have hP := Pre.refl σ;have E0 : qz [(.ag (Clock.cl a0)), (.sl (List.map Op.cl a1))] 0 = (.ag (Clock.cl a0)) := rfl;have E1 : qz [(.ag (Clock.cl a0)), (.sl (List.map Op.cl a1))] 1 = (.sl (List.map Op.cl a1)) := rfl;have TT := cj9 Clock.cle Expr.rlen Op.cle T_119 T_2 T_3 T_30 T_43 T_66;refine qk (fun e s => ∃ i2 i4 : Nat, Bx σ s i2 43 (Clock.cl a0) ∧ C99_0 σ s i4 ∧ eS e 1 Op.cl a1 ∧ eP e 2 i2 ∧ eP e 4 i4 ∧ i2 ≠ i4 ∧ Pre σ s) ?_ ?_
 ·refine w_x (cj2 E0 TT) ?_;exact qe ⟨σ.length, (σ ++ [some (AObj.box 43 (Clock.cl a0))]).length, ((Bx.new hP 43 (Clock.cl a0)).app [some (AObj.box 43 [(.v (.int .i64 (0 : Int))), (.v (.int .i64 (0 : Int)))])]), (Bx.new (hP.app _) 43 [(.v (.int .i64 (0 : Int))), (.v (.int .i64 (0 : Int)))]), E1, (xv (cj2 E0 TT)), (xv (cj2 E0 TT)), (Nat.ne_of_lt (Bx.new hP 43 (Clock.cl a0)).lt), ((hP.app _).app _)⟩
 rintro e s ⟨i2, i4, X2, X4, E1, E2, E4, N2__4, hP⟩
 refine ql (qd ?_);obtain ⟨y1, h2, h⟩ := qb h;refine w_x (cj3 E2 X2.get TT) ?_;refine S1 _ _ h2 _ _  ?_;refine w_y (cj3 E2 X2.get TT) ?_;refine qf (qd ?_);rcases qi h with ⟨hb3, h⟩ | ⟨hb3, h⟩
 ·refine xt hb3 (qk (fun e s => C99_0 σ s i4 ∧ eP e 4 i4 ∧ eI e 5 (12 : Int) ∧ Pre σ s) ?_ ?_)
  ·have q1 := X4.same 43 [(.v (.int .i64 (0 : Int))), (.v (.int .i64 (0 : Int)))];refine w_x (cj4 E4 X4.get q1.get TT) ?_;exact qe ⟨q1, E4, (xv (cj4 E4 X4.get q1.get TT)), (hP.set X4.le (some (AObj.box 43 [(.v (.int .i64 (0 : Int))), (.v (.int .i64 (0 : Int)))])))⟩
  rintro e s ⟨X4, E4, E5, hP⟩
  refine qp (zd ?_);obtain rfl := qa h;exact qt (fun _ => rfl) (xr (rs := #[.cell 4 43, .tmp 5]) (cj4 X4.get E4 E5 TT)) hP (.refl _) (.tu (CnL.cons (.ag (CnL.cons (.v _) (CnL.cons (.v _) CnL.nil))) (CnL.cons (.v _) CnL.nil))) hK
 ·refine xf hb3 (qm (qf (ql (qd (w_x Expr.rlen ?_)))));refine qf ?_;obtain ⟨x4, h5, h⟩ := qb h;refine qk (fun e s => ∃ v6 : Clock, ∃ v7 : Clock, .inr (v6, v7) = x4 ∧ Bx σ s i2 43 (Clock.cl v6) ∧ Bx σ s i4 43 (Clock.cl v7) ∧ eP e 2 i2 ∧ eP e 4 i4 ∧ i2 ≠ i4 ∧ Pre σ s) ?_ ?_
  ·refine qn (qH h5 (fun v e s => ∃ v8 v9 v10, (v8, v9, v10) = v ∧ Bx σ s i2 43 (Clock.cl v9) ∧ Bx σ s i4 43 (Clock.cl v10) ∧ eS e 1 Op.cl a1 ∧ eP e 2 i2 ∧ eP e 4 i4 ∧ eI e 6 v8 ∧ i2 ≠ i4 ∧ Pre σ s) ⟨_, WkE.refl _, _, _, _, rfl, X2, X4, E1, E2, E4, (xv TT), N2__4, hP⟩ ?_)
   rintro v x11 e s hf12 ⟨v8, v9, v10, rfl, X2, X4, E1, E2, E4, E6, N2__4, hP⟩
   unfold Qs at hf12;(try dsimp only at hf12);refine ql (qd (w_x (cj3 E1 E6 TT) ?_));refine qf (qd ?_);rcases qi hf12 with ⟨hb13, hf12⟩ | ⟨hb13, hf12⟩
   ·refine xt hb13 (qm (qf ?_));obtain ⟨x14, h15, hf12⟩ := qb hf12;refine qk (fun e s => ∃ v16 : Clock, ∃ v17 : Clock, .inr (v16, v17) = x14 ∧ Bx σ s i2 43 (Clock.cl v16) ∧ Bx σ s i4 43 (Clock.cl v17) ∧ eS e 1 Op.cl a1 ∧ eP e 2 i2 ∧ eP e 4 i4 ∧ eI e 6 v8 ∧ i2 ≠ i4 ∧ Pre σ s) ?_ ?_
    ·refine qn ?_;obtain ⟨y18, h19, h15⟩ := qb h15;obtain ⟨y20, h21, h15⟩ := qb h15;refine qk (fun e s => ∃ i7 : Nat, Bx σ s i2 43 (Clock.cl v9) ∧ Bx σ s i4 43 (Clock.cl v10) ∧ Bx σ s i7 43 (Clock.cl y20.1) ∧ eS e 1 Op.cl a1 ∧ eP e 2 i2 ∧ eP e 4 i4 ∧ eI e 6 v8 ∧ eP e 7 i7 ∧ eI e 8 y20.2 ∧ i2 ≠ i4 ∧ i2 ≠ i7 ∧ i4 ≠ i7 ∧ Pre σ s) ?_ ?_
     ·have R22 := qA (f := Op.cl) (qg h19).2;have q2 := X2.app [some (AObj.box 43 (Clock.cl y20.1))];have q3 := Bx.at hP (l := [some (AObj.box 43 (Clock.cl y20.1))]) (j := 0) (t := 43) (c := (Clock.cl y20.1)) rfl;have q4 := cj9 E1 E2 E6 X2.g3 R22 (qg h19).1 q2.get q3.get TT;refine zn 11 1 q4 ?_;refine S0 _ _ _ h21 _ _  ?_;refine Jv q4 ?_ ;refine za q4 ?_;exact qe ⟨(s.length), q2, (X4.app _), q3, E1, E2, E4, E6, (xv q4), (xv q4), N2__4, (Nat.ne_of_lt X2.lt), (Nat.ne_of_lt X4.lt), (hP.app _)⟩
     rintro e s ⟨i7, X2, X4, X7, E1, E2, E4, E6, E7, E8, N2__4, N2__7, N4__7, hP⟩
     refine ql (qd (w_x (cj2 E8 TT) ?_));refine qf (qd ?_);rcases qi h15 with ⟨hb23, h15⟩ | ⟨hb23, h15⟩
     ·refine xt hb23 (qk (fun e s => C99_0 σ s i4 ∧ eP e 4 i4 ∧ eI e 5 y20.2 ∧ Pre σ s) ?_ ?_)
      ·have q5 := X4.same 43 [(.v (.int .i64 (0 : Int))), (.v (.int .i64 (0 : Int)))];refine w_x (cj5 E4 E8 X4.get q5.get TT) ?_;exact qe ⟨q5, E4, (xv (cj5 E4 E8 X4.get q5.get TT)), (hP.set X4.le (some (AObj.box 43 [(.v (.int .i64 (0 : Int))), (.v (.int .i64 (0 : Int)))])))⟩
      rintro e s ⟨X4, E4, E5, hP⟩
      refine qp (zd (qw ?_));obtain rfl := qa h15;refine qB ?_;(try dsimp only at hf12);obtain rfl := qa hf12;refine zv rfl fun hr24 => ?_;obtain rfl := hr24;refine qw (qB ?_);(try dsimp only at h);obtain rfl := qa h;exact qt (fun _ => rfl) (xr (rs := #[.cell 4 43, .tmp 5]) (cj4 X4.get E4 E5 TT)) hP (.refl _) (.tu (CnL.cons (.ag (CnL.cons (.v _) (CnL.cons (.v _) CnL.nil))) (CnL.cons (.v _) CnL.nil))) hK
     ·refine xf hb23 (qm (qf (w_x (cj7 E2 E7 X2.get X7.get X2.samea (X7.nea N2__7) TT) ?_)));refine qQ ?_;obtain rfl := qa h15;exact qe ⟨_, _, rfl, (X2.same _ _), (X4.ne N2__4 _), E1, E2, E4, E6, N2__4, (hP.set X2.le (some (AObj.box 43 (Clock.cl y20.1))))⟩
    rintro e s ⟨v16, v17, rfl, X2, X4, E1, E2, E4, E6, N2__4, hP⟩
    (try dsimp only at hf12);refine w_x (cj2 E6 TT) ?_;obtain rfl := qa hf12;exact qZ rfl ⟨_, _, _, rfl, X2, X4, E1, E2, E4, (xv (cj2 E6 TT)), N2__4, hP⟩
   ·refine xf hb13 (qE (qM ?_));obtain rfl := qa hf12;refine qY rfl fun hr25 => ?_;obtain rfl := hr25;exact qK (qe ⟨_, _, rfl, X2, X4, E2, E4, N2__4, hP⟩)
  rintro e s ⟨v6, v7, rfl, X2, X4, E2, E4, N2__4, hP⟩
  (try dsimp only at h);refine qk (fun e s => Bx σ s i4 43 (Clock.cl v6) ∧ eP e 4 i4 ∧ eI e 5 (0 : Int) ∧ Pre σ s) ?_ ?_
  ·have q6 := X4.same 43 (Clock.cl v6);have q7 := X2.ne (Ne.symm N2__4) (some (AObj.box 43 (Clock.cl v6)));have q8 := cj7 E2 E4 X2.get X4.get q7.get q6.get TT;refine w_x q8 ?_;exact qe ⟨q6, E4, (xv q8), (hP.set X4.le (some (AObj.box 43 (Clock.cl v6))))⟩
  rintro e s ⟨X4, E4, E5, hP⟩
  refine qp ?_;obtain rfl := qa h;exact qt (fun _ => rfl) (xr (rs := #[.cell 4 43, .tmp 5]) (cj4 X4.get E4 E5 TT)) hP (.refl _) (.tu (CnL.cons (.ag (CnL.cons (.v _) (CnL.cons (.v _) CnL.nil))) (CnL.cons (.v _) CnL.nil))) hK
noncomputable def B_law08_awake (f0 : Flat → Option Bool) (f1 : Flat → Int → Option (Clock × Bool)) : Option Bool :=
 (f1 (Flat.mk ([(Clock.mk (3 : Int) (0 : Int))]) ([]) ([]) ([])) (0 : Int)).bind fun y1 =>
 (if (y1.2 && (decide (y1.1.period = (3 : Int)))) then
  (f0 (Flat.mk ([]) ([]) ([]) ([]))).bind fun y3 =>
  some y3
 else
  some false).bind fun w5 =>
 some ((y1.2 && (decide (y1.1.period = (3 : Int)))) && w5)
theorem W_law08_awake (f0 f1) (S0 : Sat_flat_Right f0) (S1 : Sat_flat_Source f1) : Sat_law08_awake (B_law08_awake f0 f1) := by
 intro r h σ K hK;refine qW Try.func17 rfl rfl (by kernel_rfl) ?_;unfold B_law08_awake at h;have hP := Pre.refl σ;have TT := Zt Clock.cle Expr.rlen T_2 T_22 T_3 T_33 T_43 T_46 T_47 T_49;refine qd (w_x Expr.rlen ?_);refine qf ?_;obtain ⟨y1, h2, h⟩ := qb h;refine qk (fun e s => ∃ i1 : Nat, Bx σ s i1 43 (Clock.cl y1.1) ∧ eP e 1 i1 ∧ eB e 2 y1.2 ∧ Pre σ s) ?_ ?_
 ·refine w_x TT ?_;refine EC.wka (.cons (Wk.agl (.cons (Wk.of_eq rfl) (.cons .e0 (.cons .e0 (.cons .e0 .nil))))) (.cons (.refl _) .nil)) (S1 _ _ _ h2 _ _  ?_);refine w_y TT ?_;exact qe ⟨σ.length, (Bx.new hP _ _), (xv TT), (xv TT), (hP.app _)⟩
 rintro e s ⟨i1, X1, E1, E2, hP⟩
 obtain ⟨w5, h6, h⟩ := qb h;refine qk (fun e s => eB e 0 ((y1.2 && (decide (y1.1.period = (3 : Int)))) && w5) ∧ Pre σ s) ?_ ?_
 ·cases hb7 : y1.2
  ·replace h6 := qU (by simp only [hb7, Bool.or_true, Bool.true_or, Bool.or_false, Bool.false_or, Bool.and_true, Bool.true_and, Bool.and_false, Bool.false_and, Bool.not_true, Bool.not_false, cond_true, cond_false]) h6;obtain rfl := qa h6;refine w_x (cj5 E1 E2 X1.get hb7 TT) ?_;exact qe ⟨(xv (cj5 E1 E2 X1.get hb7 TT)), hP⟩
  ·cases hb8 : (decide (y1.1.period = (3 : Int)))
   ·replace h6 := qU (by simp only [hb7, hb8, Bool.or_true, Bool.true_or, Bool.or_false, Bool.false_or, Bool.and_true, Bool.true_and, Bool.and_false, Bool.false_and, Bool.not_true, Bool.not_false, cond_true, cond_false]) h6;obtain rfl := qa h6;refine w_x (cj6 E1 E2 X1.get hb7 hb8 TT) ?_;exact qe ⟨(xv (cj6 E1 E2 X1.get hb7 hb8 TT)), hP⟩
   ·replace h6 := qO (by simp only [hb7, hb8, Bool.or_true, Bool.true_or, Bool.or_false, Bool.false_or, Bool.and_true, Bool.true_and, Bool.and_false, Bool.false_and, Bool.not_true, Bool.not_false, cond_true, cond_false]) h6;obtain ⟨y3, h4, h6⟩ := qb h6;obtain rfl := qa h6;have q1 := cj6 E1 E2 X1.get hb7 hb8 TT;refine w_x q1 ?_;refine EC.wka (.cons (Wk.agl (.cons .e0 (.cons .e0 (.cons .e0 (.cons .e0 .nil))))) .nil) (S0 _ _ h4 _ _  ?_);refine w_y q1 ?_;exact qe ⟨(xv q1), hP⟩
 rintro e s ⟨E0, hP⟩
 refine qp ?_;obtain rfl := qa h;exact qt (fun _ => rfl) (xr (rs := #[.tmp 0]) (cj2 E0 TT)) hP (.refl _) (.v _) hK
noncomputable def B_flat_Right (f0 : (List Clock) → (Clock → Option Bool) → Option Bool) (f1 : Clock → Option Bool) (f2 : (List Node) → (Node → Option Bool) → Option Bool) (f3 : Node → Option Bool) (f4 : (List Task) → (Task → Option Bool) → Option Bool) (f5 : Task → Flat → Option Bool) (f6 : (List Tell) → (Tell → Option Bool) → Option Bool) (f7 : Tell → Flat → Option Bool) (a0 : Flat) : Option Bool :=
 (if (decide (((List.length a0.tasks : Nat) : Int) ≤ (30 : Int))) then
  (f0 a0.inputs (fun z0 => f1 z0)).bind fun y1 =>
  some (!y1)
 else
  some false).bind fun w3 =>
 (if ((decide (((List.length a0.tasks : Nat) : Int) ≤ (30 : Int))) && w3) then
  (f2 a0.nodes (fun z0 => f3 z0)).bind fun y5 =>
  some (!y5)
 else
  some false).bind fun w7 =>
 (if (((decide (((List.length a0.tasks : Nat) : Int) ≤ (30 : Int))) && w3) && w7) then
  (f4 a0.tasks (fun z0 => f5 z0 a0)).bind fun y9 =>
  some (!y9)
 else
  some false).bind fun w11 =>
 (if ((((decide (((List.length a0.tasks : Nat) : Int) ≤ (30 : Int))) && w3) && w7) && w11) then
  (f6 a0.tells (fun z0 => f7 z0 a0)).bind fun y13 =>
  some (!y13)
 else
  some false).bind fun w15 =>
 some (((((decide (((List.length a0.tasks : Nat) : Int) ≤ (30 : Int))) && w3) && w7) && w11) && w15)
theorem W_flat_Right (f0 f1 f2 f3 f4 f5 f6 f7) (S0 : Sat_slices_ContainsFunc_Clock f0) (S1 : Sat_flat_Right_c1 f1) (S2 : Sat_slices_ContainsFunc_Node f2) (S3 : Sat_flat_Right_c2 f3) (S4 : Sat_slices_ContainsFunc_Task f4) (S5 : Sat_flat_Right_c3 f5) (S6 : Sat_slices_ContainsFunc_Tell f6) (S7 : Sat_flat_Right_c4 f7) : Sat_flat_Right (B_flat_Right f0 f1 f2 f3 f4 f5 f6 f7) := by
 intro a0 r h σ K hK;refine qW Try.func30 rfl rfl (by kernel_rfl) ?_;unfold B_flat_Right at h;have hP := Pre.refl σ;have E0 : qz [(.ag (Flat.cl a0))] 0 = (.ag (Flat.cl a0)) := rfl;have TT := JV Expr.rlen Flat.cle T_137 T_142 T_145 T_147 T_22 T_3 T_33 T_43 T_46 T_47 T_49 T_61 T_73 T_99;refine qk (fun e s => ∃ i1 : Nat, Bx σ s i1 49 (Flat.cl a0) ∧ eP e 1 i1 ∧ Pre σ s) ?_ ?_
 ·refine w_x (cj2 E0 TT) ?_;exact qe ⟨σ.length, (Bx.new hP _ _), (xv (cj2 E0 TT)), (hP.app _)⟩
 rintro e s ⟨i1, X1, E1, hP⟩
 obtain ⟨w3, h4, h⟩ := qb h;obtain ⟨w7, h8, h⟩ := qb h;obtain ⟨w11, h12, h⟩ := qb h;obtain ⟨w15, h16, h⟩ := qb h;refine qk (fun e s => eB e 2 (((((decide (((List.length a0.tasks : Nat) : Int) ≤ (30 : Int))) && w3) && w7) && w11) && w15) ∧ Pre σ s) ?_ ?_
 ·cases hb17 : (decide (((List.length a0.tasks : Nat) : Int) ≤ (30 : Int)))
  ·replace h4 := qU (by simp only [hb17, Bool.or_true, Bool.true_or, Bool.or_false, Bool.false_or, Bool.and_true, Bool.true_and, Bool.and_false, Bool.false_and, Bool.not_true, Bool.not_false, cond_true, cond_false]) h4;obtain rfl := qa h4;replace h8 := qU (by simp only [hb17, Bool.or_true, Bool.true_or, Bool.or_false, Bool.false_or, Bool.and_true, Bool.true_and, Bool.and_false, Bool.false_and, Bool.not_true, Bool.not_false, cond_true, cond_false]) h8;obtain rfl := qa h8;replace h12 := qU (by simp only [hb17, Bool.or_true, Bool.true_or, Bool.or_false, Bool.false_or, Bool.and_true, Bool.true_and, Bool.and_false, Bool.false_and, Bool.not_true, Bool.not_false, cond_true, cond_false]) h12;obtain rfl := qa h12;replace h16 := qU (by simp only [hb17, Bool.or_true, Bool.true_or, Bool.or_false, Bool.false_or, Bool.and_true, Bool.true_and, Bool.and_false, Bool.false_and, Bool.not_true, Bool.not_false, cond_true, cond_false]) h16;obtain rfl := qa h16;refine w_x (cj4 E1 X1.get hb17 TT) ?_;exact qe ⟨(xv (cj4 E1 X1.get hb17 TT)), hP⟩
  ·replace h4 := qO (by simp only [hb17, Bool.or_true, Bool.true_or, Bool.or_false, Bool.false_or, Bool.and_true, Bool.true_and, Bool.and_false, Bool.false_and, Bool.not_true, Bool.not_false, cond_true, cond_false]) h4;obtain ⟨y1, h2, h4⟩ := qb h4;obtain rfl := qa h4;cases hb18 : (!y1)
   ·replace h8 := qU (by simp only [hb17, hb18, Bool.or_true, Bool.true_or, Bool.or_false, Bool.false_or, Bool.and_true, Bool.true_and, Bool.and_false, Bool.false_and, Bool.not_true, Bool.not_false, cond_true, cond_false]) h8;obtain rfl := qa h8;replace h12 := qU (by simp only [hb17, hb18, Bool.or_true, Bool.true_or, Bool.or_false, Bool.false_or, Bool.and_true, Bool.true_and, Bool.and_false, Bool.false_and, Bool.not_true, Bool.not_false, cond_true, cond_false]) h12;obtain rfl := qa h12;replace h16 := qU (by simp only [hb17, hb18, Bool.or_true, Bool.true_or, Bool.or_false, Bool.false_or, Bool.and_true, Bool.true_and, Bool.and_false, Bool.false_and, Bool.not_true, Bool.not_false, cond_true, cond_false]) h16;obtain rfl := qa h16;have q1 := cj5 E1 X1.get hb17 hb18 TT;refine w_x q1 ?_;refine S0 _ _ _ h2 _ _ _ _ (fun z0 b hg s' K hq hk => by obtain ⟨ex, rfl⟩ := hq; exact S1 z0 b hg _ _   hk) ?_;refine w_y q1 ?_;exact qe ⟨(xv q1), hP⟩
   ·replace h8 := qO (by simp only [hb17, hb18, Bool.or_true, Bool.true_or, Bool.or_false, Bool.false_or, Bool.and_true, Bool.true_and, Bool.and_false, Bool.false_and, Bool.not_true, Bool.not_false, cond_true, cond_false]) h8;obtain ⟨y5, h6, h8⟩ := qb h8;obtain rfl := qa h8;cases hb19 : (!y5)
    ·replace h12 := qU (by simp only [hb17, hb18, hb19, Bool.or_true, Bool.true_or, Bool.or_false, Bool.false_or, Bool.and_true, Bool.true_and, Bool.and_false, Bool.false_and, Bool.not_true, Bool.not_false, cond_true, cond_false]) h12;obtain rfl := qa h12;replace h16 := qU (by simp only [hb17, hb18, hb19, Bool.or_true, Bool.true_or, Bool.or_false, Bool.false_or, Bool.and_true, Bool.true_and, Bool.and_false, Bool.false_and, Bool.not_true, Bool.not_false, cond_true, cond_false]) h16;obtain rfl := qa h16;have q2 := cj6 E1 X1.get hb17 hb18 hb19 TT;refine w_x q2 ?_;refine S0 _ _ _ h2 _ _ _ _ (fun z0 b hg s' K hq hk => by obtain ⟨ex, rfl⟩ := hq; exact S1 z0 b hg _ _   hk) ?_;refine w_y q2 ?_;refine S2 _ _ _ h6 _ _ _ _ (fun z0 b hg s' K hq hk => by obtain ⟨ex, rfl⟩ := hq; exact S3 z0 b hg _ _   hk) ?_;refine w_y q2 ?_;exact qe ⟨(xv q2), hP⟩
    ·replace h12 := qO (by simp only [hb17, hb18, hb19, Bool.or_true, Bool.true_or, Bool.or_false, Bool.false_or, Bool.and_true, Bool.true_and, Bool.and_false, Bool.false_and, Bool.not_true, Bool.not_false, cond_true, cond_false]) h12;obtain ⟨y9, h10, h12⟩ := qb h12;obtain rfl := qa h12;cases hb20 : (!y9)
     ·replace h16 := qU (by simp only [hb17, hb18, hb19, hb20, Bool.or_true, Bool.true_or, Bool.or_false, Bool.false_or, Bool.and_true, Bool.true_and, Bool.and_false, Bool.false_and, Bool.not_true, Bool.not_false, cond_true, cond_false]) h16;obtain rfl := qa h16;have q3 := cj7 E1 X1.get hb17 hb18 hb19 hb20 TT;refine w_x q3 ?_;refine S0 _ _ _ h2 _ _ _ _ (fun z0 b hg s' K hq hk => by obtain ⟨ex, rfl⟩ := hq; exact S1 z0 b hg _ _   hk) ?_;refine w_y q3 ?_;refine S2 _ _ _ h6 _ _ _ _ (fun z0 b hg s' K hq hk => by obtain ⟨ex, rfl⟩ := hq; exact S3 z0 b hg _ _   hk) ?_;refine w_y q3 ?_;refine S4 _ _ _ h10 _ _ _ _ (fun z0 b hg s' K hq hk => by obtain ⟨ex, rfl⟩ := hq; exact S5 z0 _ b hg _ _ _  (X1.gx.app ex) hk) ?_;refine w_y q3 ?_;exact qe ⟨(xv q3), hP⟩
     ·replace h16 := qO (by simp only [hb17, hb18, hb19, hb20, Bool.or_true, Bool.true_or, Bool.or_false, Bool.false_or, Bool.and_true, Bool.true_and, Bool.and_false, Bool.false_and, Bool.not_true, Bool.not_false, cond_true, cond_false]) h16;obtain ⟨y13, h14, h16⟩ := qb h16;obtain rfl := qa h16;have q4 := cj7 E1 X1.get hb17 hb18 hb19 hb20 TT;refine w_x q4 ?_;refine S0 _ _ _ h2 _ _ _ _ (fun z0 b hg s' K hq hk => by obtain ⟨ex, rfl⟩ := hq; exact S1 z0 b hg _ _   hk) ?_;refine w_y q4 ?_;refine S2 _ _ _ h6 _ _ _ _ (fun z0 b hg s' K hq hk => by obtain ⟨ex, rfl⟩ := hq; exact S3 z0 b hg _ _   hk) ?_;refine w_y q4 ?_;refine S4 _ _ _ h10 _ _ _ _ (fun z0 b hg s' K hq hk => by obtain ⟨ex, rfl⟩ := hq; exact S5 z0 _ b hg _ _ _  (X1.gx.app ex) hk) ?_;refine w_y q4 ?_;refine S6 _ _ _ h14 _ _ _ _ (fun z0 b hg s' K hq hk => by obtain ⟨ex, rfl⟩ := hq; exact S7 z0 _ b hg _ _ _  (X1.gx.app ex) hk) ?_;refine w_y q4 ?_;exact qe ⟨(xv q4), hP⟩
 rintro e s ⟨E2, hP⟩
 refine qp ?_;obtain rfl := qa h;exact qt (fun _ => rfl) (xr (rs := #[.tmp 2]) (cj2 E2 TT)) hP (.refl _) (.v _) hK
noncomputable def B_flat_Source (a0 : Flat) (a1 : Int) : Option (Clock × Bool) :=
 (if ((decide (a1 < (0 : Int))) || (decide ((IntKind.i64.wrap (((List.length a0.inputs : Nat) : Int) + ((List.length a0.tasks : Nat) : Int))) ≤ a1))) then
  some (.inl ((Clock.mk (0 : Int) (0 : Int)), false))
 else
  if (decide (a1 < ((List.length a0.inputs : Nat) : Int))) then
   (qC a0.inputs a1).bind fun y7 =>
   some (.inl (y7, true))
  else
   some (.inr (Clock.mk (0 : Int) (0 : Int))) : Option ((Clock × Bool) ⊕ Clock)).bind fun x => match x with
 | .inl r => some r
 | .inr v3 =>
  (qC a0.tasks (IntKind.i64.wrap (a1 - ((List.length a0.inputs : Nat) : Int)))).bind fun y10 =>
  some (y10.clock, true)
abbrev C31_0 (z0 z1 : Store) (z2 : Nat) : Prop := Bx z0 z1 z2 43 [(.v (.int .i64 (0 : Int))), (.v (.int .i64 (0 : Int)))]
theorem W_flat_Source : Sat_flat_Source (B_flat_Source) := by
 intro a0 a1 r h σ K hK;refine qW Try.func31 rfl rfl (by kernel_rfl) ?_;unfold B_flat_Source at h;have hP := Pre.refl σ;have E0 : qz [(.ag (Flat.cl a0)), (.v (.int .i64 a1))] 0 = (.ag (Flat.cl a0)) := rfl;have E1 : qz [(.ag (Flat.cl a0)), (.v (.int .i64 a1))] 1 = (.v (.int .i64 a1)) := rfl;have TT := Yl Clock.cle Expr.rlen Flat.cle T_2 T_22 T_3 T_33 T_43 T_46 T_47 T_49 T_59 T_61 Task.cle;refine qk (fun e s => ∃ i2 i4 : Nat, Bx σ s i2 49 (Flat.cl a0) ∧ C31_0 σ s i4 ∧ eI e 1 a1 ∧ eP e 2 i2 ∧ eP e 4 i4 ∧ i2 ≠ i4 ∧ Pre σ s) ?_ ?_
 ·refine w_x (cj2 E0 TT) ?_;exact qe ⟨σ.length, (σ ++ [some (AObj.box 49 (Flat.cl a0))]).length, ((Bx.new hP 49 (Flat.cl a0)).app [some (AObj.box 43 [(.v (.int .i64 (0 : Int))), (.v (.int .i64 (0 : Int)))])]), (Bx.new (hP.app _) 43 [(.v (.int .i64 (0 : Int))), (.v (.int .i64 (0 : Int)))]), E1, (xv (cj2 E0 TT)), (xv (cj2 E0 TT)), (Nat.ne_of_lt (Bx.new hP 49 (Flat.cl a0)).lt), ((hP.app _).app _)⟩
 rintro e s ⟨i2, i4, X2, X4, E1, E2, E4, N2__4, hP⟩
 obtain ⟨x1, h2, h⟩ := qb h;refine qk (fun e s => ∃ v3 : Clock, .inr v3 = x1 ∧ Bx σ s i2 49 (Flat.cl a0) ∧ Bx σ s i4 43 (Clock.cl v3) ∧ eI e 1 a1 ∧ eP e 2 i2 ∧ eP e 4 i4 ∧ i2 ≠ i4 ∧ Pre σ s) ?_ ?_
 ·refine qn (qk (fun e s => Bx σ s i2 49 (Flat.cl a0) ∧ C31_0 σ s i4 ∧ eI e 1 a1 ∧ eP e 2 i2 ∧ eP e 4 i4 ∧ eB e 6 ((decide (a1 < (0 : Int))) || (decide ((IntKind.i64.wrap (((List.length a0.inputs : Nat) : Int) + ((List.length a0.tasks : Nat) : Int))) ≤ a1))) ∧ i2 ≠ i4 ∧ Pre σ s) ?_ ?_)
  ·cases hb4 : (decide (a1 < (0 : Int)))
   ·refine w_x (cj5 E1 E2 X2.get hb4 TT) ?_;exact qe ⟨X2, X4, E1, E2, E4, (xv (cj5 E1 E2 X2.get hb4 TT)), N2__4, hP⟩
   ·refine w_x (cj5 E1 E2 X2.get hb4 TT) ?_;exact qe ⟨X2, X4, E1, E2, E4, (xv (cj5 E1 E2 X2.get hb4 TT)), N2__4, hP⟩
  rintro e s ⟨X2, X4, E1, E2, E4, E6, N2__4, hP⟩
  rcases qi h2 with ⟨hb5, h2⟩ | ⟨hb5, h2⟩
  ·refine xt (cj2 E6 hb5) (qk (fun e s => C31_0 σ s i4 ∧ eP e 4 i4 ∧ eB e 5 false ∧ Pre σ s) ?_ ?_)
   ·have q1 := X4.same 43 [(.v (.int .i64 (0 : Int))), (.v (.int .i64 (0 : Int)))];refine w_x (cj4 E4 X4.get q1.get TT) ?_;exact qe ⟨q1, E4, (xv (cj4 E4 X4.get q1.get TT)), (hP.set X4.le (some (AObj.box 43 [(.v (.int .i64 (0 : Int))), (.v (.int .i64 (0 : Int)))])))⟩
   rintro e s ⟨X4, E4, E5, hP⟩
   refine qp (qw ?_);obtain rfl := qa h2;refine qB ?_;(try dsimp only at h);obtain rfl := qa h;exact qt (fun _ => rfl) (xr (rs := #[.cell 4 43, .tmp 5]) (cj4 X4.get E4 E5 TT)) hP (.refl _) (.tu (CnL.cons (.ag (CnL.cons (.v _) (CnL.cons (.v _) CnL.nil))) (CnL.cons (.v _) CnL.nil))) hK
  ·refine xf (cj2 E6 hb5) (qd (w_x (cj4 E1 E2 X2.get TT) ?_));refine qf ?_;rcases qi h2 with ⟨hb6, h2⟩ | ⟨hb6, h2⟩
   ·refine xt hb6 ?_;obtain ⟨y7, h8, h2⟩ := qb h2;refine qk (fun e s => Bx σ s i4 43 (Clock.cl y7) ∧ eP e 4 i4 ∧ eB e 5 true ∧ Pre σ s) ?_ ?_
    ·have R9 := qA (f := Clock.cl) (qg h8).2;have q2 := X4.same 43 (Clock.cl y7);have q3 := X2.ne (Ne.symm N2__4) (some (AObj.box 43 (Clock.cl y7)));have q4 := Zt E1 E2 E4 X2.get X4.get R9 (qg h8).1 q3.get q2.get TT;refine w_x q4 ?_;exact qe ⟨q2, E4, (xv q4), (hP.set X4.le (some (AObj.box 43 (Clock.cl y7))))⟩
    rintro e s ⟨X4, E4, E5, hP⟩
    refine qp (qw ?_);obtain rfl := qa h2;refine qB ?_;(try dsimp only at h);obtain rfl := qa h;exact qt (fun _ => rfl) (xr (rs := #[.cell 4 43, .tmp 5]) (cj4 X4.get E4 E5 TT)) hP (.refl _) (.tu (CnL.cons (.ag (CnL.cons (.v _) (CnL.cons (.v _) CnL.nil))) (CnL.cons (.v _) CnL.nil))) hK
   ·refine xf hb6 (qm (qQ ?_));obtain rfl := qa h2;exact qe ⟨_, rfl, X2, X4, E1, E2, E4, N2__4, hP⟩
 rintro e s ⟨v3, rfl, X2, X4, E1, E2, E4, N2__4, hP⟩
 (try dsimp only at h);obtain ⟨y10, h11, h⟩ := qb h;refine qk (fun e s => Bx σ s i4 43 (Clock.cl y10.clock) ∧ eP e 4 i4 ∧ eB e 5 true ∧ Pre σ s) ?_ ?_
 ·have R12 := qA (f := Task.cl) (qg h11).2;have q5 := X4.same 43 (Clock.cl y10.clock);have q6 := X2.ne (Ne.symm N2__4) (some (AObj.box 43 (Clock.cl y10.clock)));have q7 := Zt E1 E2 E4 X2.get X4.get R12 (qg h11).1 q6.get q5.get TT;refine w_x q7 ?_;exact qe ⟨q5, E4, (xv q7), (hP.set X4.le (some (AObj.box 43 (Clock.cl y10.clock))))⟩
 rintro e s ⟨X4, E4, E5, hP⟩
 refine qp ?_;obtain rfl := qa h;exact qt (fun _ => rfl) (xr (rs := #[.cell 4 43, .tmp 5]) (cj4 X4.get E4 E5 TT)) hP (.refl _) (.tu (CnL.cons (.ag (CnL.cons (.v _) (CnL.cons (.v _) CnL.nil))) (CnL.cons (.v _) CnL.nil))) hK
noncomputable def B_slices_ContainsFunc_Clock (f0 : (List Clock) → (Clock → Option Bool) → Option Int) (a0 : (List Clock)) (a1 : (Clock → Option Bool)) : Option Bool :=
 (f0 a0 a1).bind fun y1 =>
 some (decide ((0 : Int) ≤ y1))
theorem W_slices_ContainsFunc_Clock (f0) (S0 : Sat_slices_IndexFunc_Clock f0) : Sat_slices_ContainsFunc_Clock (B_slices_ContainsFunc_Clock f0) := by
 intro a0 a1 r h σ K fid1 caps1 hg1 hK;refine qW Try.func63 rfl rfl (by kernel_rfl) ?_;unfold B_slices_ContainsFunc_Clock at h;have hP := Pre.refl σ;have E0 : qz [(.sl (List.map Clock.cl a0)), (.fn fid1 [] caps1)] 0 = (.sl (List.map Clock.cl a0)) := rfl;have E1 : qz [(.sl (List.map Clock.cl a0)), (.fn fid1 [] caps1)] 1 = (.fn fid1 [] caps1) := rfl;have TT := cj5 Expr.rlen T_137 T_3 T_33 T_43;refine qd (w_x Expr.rlen ?_);refine qf (qd ?_);obtain ⟨y1, h2, h⟩ := qb h;refine w_x (cj3 E0 E1 TT) ?_;refine S0 _ _ _ h2 _ _ _ _ (fun z0 b hg s' K hq hk => hg1 z0 b hg s' K (hP.trans hq) hk) ?_;refine w_y (cj3 E0 E1 TT) ?_;refine qf (qp ?_);obtain rfl := qa h;exact qt (fun _ => rfl) (xr (rs := #[.tmp 4]) TT) hP (.refl _) (.v _) hK
noncomputable def B_slices_ContainsFunc_Node (f0 : (List Node) → (Node → Option Bool) → Option Int) (a0 : (List Node)) (a1 : (Node → Option Bool)) : Option Bool :=
 (f0 a0 a1).bind fun y1 =>
 some (decide ((0 : Int) ≤ y1))
theorem W_slices_ContainsFunc_Node (f0) (S0 : Sat_slices_IndexFunc_Node f0) : Sat_slices_ContainsFunc_Node (B_slices_ContainsFunc_Node f0) := by
 intro a0 a1 r h σ K fid1 caps1 hg1 hK;refine qW Try.func66 rfl rfl (by kernel_rfl) ?_;unfold B_slices_ContainsFunc_Node at h;have hP := Pre.refl σ;have E0 : qz [(.sl (List.map Node.cl a0)), (.fn fid1 [] caps1)] 0 = (.sl (List.map Node.cl a0)) := rfl;have E1 : qz [(.sl (List.map Node.cl a0)), (.fn fid1 [] caps1)] 1 = (.fn fid1 [] caps1) := rfl;have TT := cj5 Expr.rlen T_142 T_22 T_3 T_99;refine qd (w_x Expr.rlen ?_);refine qf (qd ?_);obtain ⟨y1, h2, h⟩ := qb h;refine w_x (cj3 E0 E1 TT) ?_;refine S0 _ _ _ h2 _ _ _ _ (fun z0 b hg s' K hq hk => hg1 z0 b hg s' K (hP.trans hq) hk) ?_;refine w_y (cj3 E0 E1 TT) ?_;refine qf (qp ?_);obtain rfl := qa h;exact qt (fun _ => rfl) (xr (rs := #[.tmp 4]) TT) hP (.refl _) (.v _) hK
noncomputable def B_slices_ContainsFunc_Task (f0 : (List Task) → (Task → Option Bool) → Option Int) (a0 : (List Task)) (a1 : (Task → Option Bool)) : Option Bool :=
 (f0 a0 a1).bind fun y1 =>
 some (decide ((0 : Int) ≤ y1))
theorem W_slices_ContainsFunc_Task (f0) (S0 : Sat_slices_IndexFunc_Task f0) : Sat_slices_ContainsFunc_Task (B_slices_ContainsFunc_Task f0) := by
 intro a0 a1 r h σ K fid1 caps1 hg1 hK;refine qW Try.func69 rfl rfl (by kernel_rfl) ?_;unfold B_slices_ContainsFunc_Task at h;have hP := Pre.refl σ;have E0 : qz [(.sl (List.map Task.cl a0)), (.fn fid1 [] caps1)] 0 = (.sl (List.map Task.cl a0)) := rfl;have E1 : qz [(.sl (List.map Task.cl a0)), (.fn fid1 [] caps1)] 1 = (.fn fid1 [] caps1) := rfl;have TT := cj5 Expr.rlen T_145 T_3 T_46 T_61;refine qd (w_x Expr.rlen ?_);refine qf (qd ?_);obtain ⟨y1, h2, h⟩ := qb h;refine w_x (cj3 E0 E1 TT) ?_;refine S0 _ _ _ h2 _ _ _ _ (fun z0 b hg s' K hq hk => hg1 z0 b hg s' K (hP.trans hq) hk) ?_;refine w_y (cj3 E0 E1 TT) ?_;refine qf (qp ?_);obtain rfl := qa h;exact qt (fun _ => rfl) (xr (rs := #[.tmp 4]) TT) hP (.refl _) (.v _) hK
noncomputable def B_slices_ContainsFunc_Tell (f0 : (List Tell) → (Tell → Option Bool) → Option Int) (a0 : (List Tell)) (a1 : (Tell → Option Bool)) : Option Bool :=
 (f0 a0 a1).bind fun y1 =>
 some (decide ((0 : Int) ≤ y1))
theorem W_slices_ContainsFunc_Tell (f0) (S0 : Sat_slices_IndexFunc_Tell f0) : Sat_slices_ContainsFunc_Tell (B_slices_ContainsFunc_Tell f0) := by
 intro a0 a1 r h σ K fid1 caps1 hg1 hK;refine qW Try.func72 rfl rfl (by kernel_rfl) ?_;unfold B_slices_ContainsFunc_Tell at h;have hP := Pre.refl σ;have E0 : qz [(.sl (List.map Tell.cl a0)), (.fn fid1 [] caps1)] 0 = (.sl (List.map Tell.cl a0)) := rfl;have E1 : qz [(.sl (List.map Tell.cl a0)), (.fn fid1 [] caps1)] 1 = (.fn fid1 [] caps1) := rfl;have TT := cj5 Expr.rlen T_147 T_3 T_47 T_73;refine qd (w_x Expr.rlen ?_);refine qf (qd ?_);obtain ⟨y1, h2, h⟩ := qb h;refine w_x (cj3 E0 E1 TT) ?_;refine S0 _ _ _ h2 _ _ _ _ (fun z0 b hg s' K hq hk => hg1 z0 b hg s' K (hP.trans hq) hk) ?_;refine w_y (cj3 E0 E1 TT) ?_;refine qf (qp ?_);obtain rfl := qa h;exact qt (fun _ => rfl) (xr (rs := #[.tmp 4]) TT) hP (.refl _) (.v _) hK
noncomputable def zq (a0 : (List Clock)) (a1 : (Clock → Option Bool)) : Int → Option (Int ⊕ (Int ⊕ Unit))
 | v3 =>
  if (decide (v3 < ((List.length a0 : Nat) : Int))) then
   ((qC a0 v3).bind fun y9 =>
   (a1 y9).bind fun y11 =>
   if y11 then
    some (.inl v3)
   else
    some (.inr ()) : Option (Int ⊕ Unit)).bind fun x => match x with
   | .inl r => some (.inr (.inl r))
   | .inr _ =>
    some (.inl (IntKind.i64.wrap (v3 + (1 : Int))))
  else
   some (.inr (.inr ()))
noncomputable def B_slices_IndexFunc_Clock (a0 : (List Clock)) (a1 : (Clock → Option Bool)) : Option Int :=
 (qy (zq a0 a1) (0 : Int) : Option (Int ⊕ Unit)).bind fun x => match x with
 | .inl r => some r
 | .inr _ =>
  some (-1 : Int)
theorem W_slices_IndexFunc_Clock : Sat_slices_IndexFunc_Clock (B_slices_IndexFunc_Clock) := by
 intro a0 a1 r h σ K fid1 caps1 hg1 hK;refine qW Try.func100 rfl rfl (by kernel_rfl) ?_;unfold B_slices_IndexFunc_Clock at h;have hP := Pre.refl σ;have E0 : qz [(.sl (List.map Clock.cl a0)), (.fn fid1 [] caps1)] 0 = (.sl (List.map Clock.cl a0)) := rfl;have E1 : qz [(.sl (List.map Clock.cl a0)), (.fn fid1 [] caps1)] 1 = (.fn fid1 [] caps1) := rfl;have TT := cj6 Clock.cle Expr.rlen T_2 T_3 T_33 T_43;refine qd (w_x Expr.rlen ?_);refine qf (ql (qd (w_x (cj2 E0 TT) ?_)));refine qf ?_;obtain ⟨x1, h2, h⟩ := qb h;refine qk (fun e s => .inr () = x1 ∧ Pre σ s) ?_ ?_
 ·refine qn (qH h2 (fun v e s => ∃ v3, v3 = v ∧ eS e 0 Clock.cl a0 ∧ e 1 = (.fn fid1 [] caps1) ∧ eL e 7 a0 ∧ eI e 8 v3 ∧ Pre σ s) ⟨_, WkE.refl _, _, rfl, E0, E1, (xv TT), (xv TT), hP⟩ ?_)
  rintro v x4 e s hf5 ⟨v3, rfl, E0, E1, E7, E8, hP⟩
  unfold zq at hf5;(try dsimp only at hf5);refine qd (w_x (cj3 E7 E8 TT) ?_);refine qf (qd ?_);rcases qi hf5 with ⟨hb6, hf5⟩ | ⟨hb6, hf5⟩
  ·refine xt hb6 (qm (qf ?_));obtain ⟨x7, h8, hf5⟩ := qb hf5;refine qk (fun e s => .inr () = x7 ∧ eS e 0 Clock.cl a0 ∧ e 1 = (.fn fid1 [] caps1) ∧ eL e 7 a0 ∧ eI e 8 v3 ∧ Pre σ s) ?_ ?_
   ·refine qn (qd (w_x (cj2 E8 TT) ?_));refine qf ?_;obtain ⟨y9, h10, h8⟩ := qb h8;obtain ⟨y11, h12, h8⟩ := qb h8;refine qk (fun e s => eS e 0 Clock.cl a0 ∧ e 1 = (.fn fid1 [] caps1) ∧ eI e 5 v3 ∧ eL e 7 a0 ∧ eI e 8 v3 ∧ eB e 16 y11 ∧ Pre σ s) ?_ ?_
    ·have R13 := qA (f := Clock.cl) (qg h10).2;have q1 := cj5 E0 E1 R13 (qg h10).1 TT;refine w_x q1 ?_;refine hg1 _  _ h12  _ _ hP ?_;refine w_y q1 ?_;exact qe ⟨E0, E1, (xv q1), E7, E8, (xv q1), hP⟩
    rintro e s ⟨E0, E1, E5, E7, E8, E16, hP⟩
    rcases qi h8 with ⟨hb14, h8⟩ | ⟨hb14, h8⟩
    ·refine xt (cj2 E16 hb14) (qd (w_x (cj2 E5 TT) ?_));refine qf (qp (qw ?_));obtain rfl := qa h8;refine qB ?_;(try dsimp only at hf5);obtain rfl := qa hf5;refine zv rfl fun hr15 => ?_;obtain rfl := hr15;refine qw (qB ?_);(try dsimp only at h);obtain rfl := qa h;exact qt (fun _ => rfl) (xr (rs := #[.tmp 4]) TT) hP (.refl _) (.v _) hK
    ·refine xf (cj2 E16 hb14) (qm (qQ ?_));obtain rfl := qa h8;exact qe ⟨rfl, E0, E1, E7, E8, hP⟩
   rintro e s ⟨rfl, E0, E1, E7, E8, hP⟩
   (try dsimp only at hf5);refine w_x (cj2 E8 TT) ?_;obtain rfl := qa hf5;exact qZ rfl ⟨_, rfl, E0, E1, E7, (xv (cj2 E8 TT)), hP⟩
  ·refine xf hb6 (qE (qM ?_));obtain rfl := qa hf5;refine qY rfl fun hr16 => ?_;obtain rfl := hr16;exact qK (qe ⟨rfl, hP⟩)
 rintro e s ⟨rfl, hP⟩
 (try dsimp only at h);refine qd (w_x Expr.rlen ?_);refine qf (qp ?_);obtain rfl := qa h;exact qt (fun _ => rfl) (xr (rs := #[.tmp 4]) TT) hP (.refl _) (.v _) hK
noncomputable def zy (a0 : (List Task)) (a1 : (Task → Option Bool)) : Int → Option (Int ⊕ (Int ⊕ Unit))
 | v3 =>
  if (decide (v3 < ((List.length a0 : Nat) : Int))) then
   ((qC a0 v3).bind fun y9 =>
   (a1 y9).bind fun y11 =>
   if y11 then
    some (.inl v3)
   else
    some (.inr ()) : Option (Int ⊕ Unit)).bind fun x => match x with
   | .inl r => some (.inr (.inl r))
   | .inr _ =>
    some (.inl (IntKind.i64.wrap (v3 + (1 : Int))))
  else
   some (.inr (.inr ()))
noncomputable def B_slices_IndexFunc_Task (a0 : (List Task)) (a1 : (Task → Option Bool)) : Option Int :=
 (qy (zy a0 a1) (0 : Int) : Option (Int ⊕ Unit)).bind fun x => match x with
 | .inl r => some r
 | .inr _ =>
  some (-1 : Int)
theorem W_slices_IndexFunc_Task : Sat_slices_IndexFunc_Task (B_slices_IndexFunc_Task) := by
 intro a0 a1 r h σ K fid1 caps1 hg1 hK;refine qW Try.func101 rfl rfl (by kernel_rfl) ?_;unfold B_slices_IndexFunc_Task at h;have hP := Pre.refl σ;have E0 : qz [(.sl (List.map Task.cl a0)), (.fn fid1 [] caps1)] 0 = (.sl (List.map Task.cl a0)) := rfl;have E1 : qz [(.sl (List.map Task.cl a0)), (.fn fid1 [] caps1)] 1 = (.fn fid1 [] caps1) := rfl;have TT := cj7 Expr.rlen T_3 T_43 T_46 T_59 T_61 Task.cle;refine qd (w_x Expr.rlen ?_);refine qf (ql (qd (w_x (cj2 E0 TT) ?_)));refine qf ?_;obtain ⟨x1, h2, h⟩ := qb h;refine qk (fun e s => .inr () = x1 ∧ Pre σ s) ?_ ?_
 ·refine qn (qH h2 (fun v e s => ∃ v3, v3 = v ∧ eS e 0 Task.cl a0 ∧ e 1 = (.fn fid1 [] caps1) ∧ eL e 7 a0 ∧ eI e 8 v3 ∧ Pre σ s) ⟨_, WkE.refl _, _, rfl, E0, E1, (xv TT), (xv TT), hP⟩ ?_)
  rintro v x4 e s hf5 ⟨v3, rfl, E0, E1, E7, E8, hP⟩
  unfold zy at hf5;(try dsimp only at hf5);refine qd (w_x (cj3 E7 E8 TT) ?_);refine qf (qd ?_);rcases qi hf5 with ⟨hb6, hf5⟩ | ⟨hb6, hf5⟩
  ·refine xt hb6 (qm (qf ?_));obtain ⟨x7, h8, hf5⟩ := qb hf5;refine qk (fun e s => .inr () = x7 ∧ eS e 0 Task.cl a0 ∧ e 1 = (.fn fid1 [] caps1) ∧ eL e 7 a0 ∧ eI e 8 v3 ∧ Pre σ s) ?_ ?_
   ·refine qn (qd (w_x (cj2 E8 TT) ?_));refine qf ?_;obtain ⟨y9, h10, h8⟩ := qb h8;obtain ⟨y11, h12, h8⟩ := qb h8;refine qk (fun e s => eS e 0 Task.cl a0 ∧ e 1 = (.fn fid1 [] caps1) ∧ eI e 5 v3 ∧ eL e 7 a0 ∧ eI e 8 v3 ∧ eB e 16 y11 ∧ Pre σ s) ?_ ?_
    ·have R13 := qA (f := Task.cl) (qg h10).2;have q1 := cj5 E0 E1 R13 (qg h10).1 TT;refine w_x q1 ?_;refine hg1 _  _ h12  _ _ hP ?_;refine w_y q1 ?_;exact qe ⟨E0, E1, (xv q1), E7, E8, (xv q1), hP⟩
    rintro e s ⟨E0, E1, E5, E7, E8, E16, hP⟩
    rcases qi h8 with ⟨hb14, h8⟩ | ⟨hb14, h8⟩
    ·refine xt (cj2 E16 hb14) (qd (w_x (cj2 E5 TT) ?_));refine qf (qp (qw ?_));obtain rfl := qa h8;refine qB ?_;(try dsimp only at hf5);obtain rfl := qa hf5;refine zv rfl fun hr15 => ?_;obtain rfl := hr15;refine qw (qB ?_);(try dsimp only at h);obtain rfl := qa h;exact qt (fun _ => rfl) (xr (rs := #[.tmp 4]) TT) hP (.refl _) (.v _) hK
    ·refine xf (cj2 E16 hb14) (qm (qQ ?_));obtain rfl := qa h8;exact qe ⟨rfl, E0, E1, E7, E8, hP⟩
   rintro e s ⟨rfl, E0, E1, E7, E8, hP⟩
   (try dsimp only at hf5);refine w_x (cj2 E8 TT) ?_;obtain rfl := qa hf5;exact qZ rfl ⟨_, rfl, E0, E1, E7, (xv (cj2 E8 TT)), hP⟩
  ·refine xf hb6 (qE (qM ?_));obtain rfl := qa hf5;refine qY rfl fun hr16 => ?_;obtain rfl := hr16;exact qK (qe ⟨rfl, hP⟩)
 rintro e s ⟨rfl, hP⟩
 (try dsimp only at h);refine qd (w_x Expr.rlen ?_);refine qf (qp ?_);obtain rfl := qa h;exact qt (fun _ => rfl) (xr (rs := #[.tmp 4]) TT) hP (.refl _) (.v _) hK
noncomputable def zx (a0 : (List Tell)) (a1 : (Tell → Option Bool)) : Int → Option (Int ⊕ (Int ⊕ Unit))
 | v3 =>
  if (decide (v3 < ((List.length a0 : Nat) : Int))) then
   ((qC a0 v3).bind fun y9 =>
   (a1 y9).bind fun y11 =>
   if y11 then
    some (.inl v3)
   else
    some (.inr ()) : Option (Int ⊕ Unit)).bind fun x => match x with
   | .inl r => some (.inr (.inl r))
   | .inr _ =>
    some (.inl (IntKind.i64.wrap (v3 + (1 : Int))))
  else
   some (.inr (.inr ()))
noncomputable def B_slices_IndexFunc_Tell (a0 : (List Tell)) (a1 : (Tell → Option Bool)) : Option Int :=
 (qy (zx a0 a1) (0 : Int) : Option (Int ⊕ Unit)).bind fun x => match x with
 | .inl r => some r
 | .inr _ =>
  some (-1 : Int)
theorem W_slices_IndexFunc_Tell : Sat_slices_IndexFunc_Tell (B_slices_IndexFunc_Tell) := by
 intro a0 a1 r h σ K fid1 caps1 hg1 hK;refine qW Try.func104 rfl rfl (by kernel_rfl) ?_;unfold B_slices_IndexFunc_Tell at h;have hP := Pre.refl σ;have E0 : qz [(.sl (List.map Tell.cl a0)), (.fn fid1 [] caps1)] 0 = (.sl (List.map Tell.cl a0)) := rfl;have E1 : qz [(.sl (List.map Tell.cl a0)), (.fn fid1 [] caps1)] 1 = (.fn fid1 [] caps1) := rfl;have TT := cj8 Expr.rlen T_2 T_3 T_43 T_47 T_68 T_73 Tell.cle;refine qd (w_x Expr.rlen ?_);refine qf (ql (qd (w_x (cj2 E0 TT) ?_)));refine qf ?_;obtain ⟨x1, h2, h⟩ := qb h;refine qk (fun e s => .inr () = x1 ∧ Pre σ s) ?_ ?_
 ·refine qn (qH h2 (fun v e s => ∃ v3, v3 = v ∧ eS e 0 Tell.cl a0 ∧ e 1 = (.fn fid1 [] caps1) ∧ eL e 7 a0 ∧ eI e 8 v3 ∧ Pre σ s) ⟨_, WkE.refl _, _, rfl, E0, E1, (xv TT), (xv TT), hP⟩ ?_)
  rintro v x4 e s hf5 ⟨v3, rfl, E0, E1, E7, E8, hP⟩
  unfold zx at hf5;(try dsimp only at hf5);refine qd (w_x (cj3 E7 E8 TT) ?_);refine qf (qd ?_);rcases qi hf5 with ⟨hb6, hf5⟩ | ⟨hb6, hf5⟩
  ·refine xt hb6 (qm (qf ?_));obtain ⟨x7, h8, hf5⟩ := qb hf5;refine qk (fun e s => .inr () = x7 ∧ eS e 0 Tell.cl a0 ∧ e 1 = (.fn fid1 [] caps1) ∧ eL e 7 a0 ∧ eI e 8 v3 ∧ Pre σ s) ?_ ?_
   ·refine qn (qd (w_x (cj2 E8 TT) ?_));refine qf ?_;obtain ⟨y9, h10, h8⟩ := qb h8;obtain ⟨y11, h12, h8⟩ := qb h8;refine qk (fun e s => eS e 0 Tell.cl a0 ∧ e 1 = (.fn fid1 [] caps1) ∧ eI e 5 v3 ∧ eL e 7 a0 ∧ eI e 8 v3 ∧ eB e 16 y11 ∧ Pre σ s) ?_ ?_
    ·have R13 := qA (f := Tell.cl) (qg h10).2;have q1 := cj5 E0 E1 R13 (qg h10).1 TT;refine w_x q1 ?_;refine hg1 _  _ h12  _ _ hP ?_;refine w_y q1 ?_;exact qe ⟨E0, E1, (xv q1), E7, E8, (xv q1), hP⟩
    rintro e s ⟨E0, E1, E5, E7, E8, E16, hP⟩
    rcases qi h8 with ⟨hb14, h8⟩ | ⟨hb14, h8⟩
    ·refine xt (cj2 E16 hb14) (qd (w_x (cj2 E5 TT) ?_));refine qf (qp (qw ?_));obtain rfl := qa h8;refine qB ?_;(try dsimp only at hf5);obtain rfl := qa hf5;refine zv rfl fun hr15 => ?_;obtain rfl := hr15;refine qw (qB ?_);(try dsimp only at h);obtain rfl := qa h;exact qt (fun _ => rfl) (xr (rs := #[.tmp 4]) TT) hP (.refl _) (.v _) hK
    ·refine xf (cj2 E16 hb14) (qm (qQ ?_));obtain rfl := qa h8;exact qe ⟨rfl, E0, E1, E7, E8, hP⟩
   rintro e s ⟨rfl, E0, E1, E7, E8, hP⟩
   (try dsimp only at hf5);refine w_x (cj2 E8 TT) ?_;obtain rfl := qa hf5;exact qZ rfl ⟨_, rfl, E0, E1, E7, (xv (cj2 E8 TT)), hP⟩
  ·refine xf hb6 (qE (qM ?_));obtain rfl := qa hf5;refine qY rfl fun hr16 => ?_;obtain rfl := hr16;exact qK (qe ⟨rfl, hP⟩)
 rintro e s ⟨rfl, hP⟩
 (try dsimp only at h);refine qd (w_x Expr.rlen ?_);refine qf (qp ?_);obtain rfl := qa h;exact qt (fun _ => rfl) (xr (rs := #[.tmp 4]) TT) hP (.refl _) (.v _) hK
end Go.Proofs.Ytohmmfimedgccaa.E
end
section
namespace Go.Proofs.Ytohmmfimedgccaa.E
set_option linter.unusedVariables false
set_option linter.unusedSimpArgs false
set_option maxRecDepth 10000
noncomputable def m_rAll := B_ref02_All Jy ZA
theorem s_rAll : Sat_ref02_All m_rAll := W_ref02_All _ _ s_rapply zzV
noncomputable def qqs := B_ref08_source
theorem s_rsource : Sat_ref08_source qqs := W_ref08_source
noncomputable def Ji := B_ref08_fits qqs m_rAll
theorem s_rfits : Sat_ref08_fits Ji := W_ref08_fits _ _ s_rsource s_rAll
noncomputable def qqt := B_ref08_Right ZA Ji
theorem s_rrightF : Sat_ref08_Right qqt := W_ref08_Right _ _ zzV s_rfits
theorem FW.node {p : Program} {ρ : ByteArray → Clock} (w : FW p ρ) {to : ByteArray} {e : Expr} (h : (to, e) ∈ spP p.flows) (hk : e.kind = 2) : ∃ (i : Nat) (n : Node), p.nodes[i]? = some n ∧ JP p e.name = (i : Int) ∧ n.params.length = e.args.length := by
 have hall := w.fit.all;obtain ⟨i, n, h1, h2, h3, h4⟩ := (w.pok h).2 hk;have hx : Ix (zf p) e.name (i : Int) := .inl ⟨i, rfl, by rw [← h2]; simp [zf, h1], h3⟩;exact ⟨i, n, h1, (v_rnode (by omega) e.name).2.uniq hx, h4⟩
noncomputable def m_cfC := B_slices_ContainsFunc_Clock B_slices_IndexFunc_Clock
noncomputable def m_cfN := B_slices_ContainsFunc_Node qqu
noncomputable def m_cfT := B_slices_ContainsFunc_Task B_slices_IndexFunc_Task
noncomputable def m_cfY := B_slices_ContainsFunc_Tell B_slices_IndexFunc_Tell
noncomputable def qqv := B_flat_Right m_cfC (fun _ => none) m_cfN (fun _ => none) m_cfT (fun _ _ => none) m_cfY (fun _ _ => none)
theorem s_fright0 : Sat_flat_Right qqv := W_flat_Right _ _ _ _ _ _ _ _ (W_slices_ContainsFunc_Clock _ W_slices_IndexFunc_Clock) (fun _ _ h => by cases h) (W_slices_ContainsFunc_Node _ s_ixN) (fun _ _ h => by cases h) (W_slices_ContainsFunc_Task _ W_slices_IndexFunc_Task) (fun _ _ _ h => by cases h) (W_slices_ContainsFunc_Tell _ W_slices_IndexFunc_Tell) (fun _ _ _ h => by cases h)
noncomputable def qqY := B_law08_awake qqv B_flat_Source
theorem s_awakeF : Sat_law08_awake qqY := W_law08_awake _ _ s_fright0 W_flat_Source
theorem v_awakeF : qqY = some true := by
 have hz : ∀ {β : Type} {f : Int → Option (Int ⊕ (β ⊕ Unit))}, f 0 = some (.inr (.inr ())) → qy f (0 : Int) = some (.inr ()) := fun h => QO h;have c1 : ∀ g, m_cfC [] g = some false := fun g => by
  unfold m_cfC B_slices_ContainsFunc_Clock B_slices_IndexFunc_Clock;rw [hz (by unfold zq; rfl)];rfl
 have c2 : ∀ g, m_cfN [] g = some false := fun g => by
  unfold m_cfN B_slices_ContainsFunc_Node qqu B_slices_IndexFunc_Node;rw [hz (by unfold qX; rfl)];rfl
 have c3 : ∀ g, m_cfT [] g = some false := fun g => by
  unfold m_cfT B_slices_ContainsFunc_Task B_slices_IndexFunc_Task;rw [hz (by unfold zy; rfl)];rfl
 have c4 : ∀ g, m_cfY [] g = some false := fun g => by
  unfold m_cfY B_slices_ContainsFunc_Tell B_slices_IndexFunc_Tell;rw [hz (by unfold zx; rfl)];rfl
 have h1 : qqv ⟨[], [], [], []⟩ = some true := by
  unfold qqv B_flat_Right;simp only [c1, c2, c3, c4];rfl
 have h2 : B_flat_Source ⟨[⟨3, 0⟩], [], [], []⟩ 0 = some (⟨3, 0⟩, true) := by
  unfold B_flat_Source;rw [zT (by simp) (by simp)];rfl
 unfold qqY B_law08_awake;rw [h2];simp only [Option.bind_some, decide_true, Bool.and_self, if_true];rw [h1];rfl
end Go.Proofs.Ytohmmfimedgccaa.E
end
section
namespace Go.Proofs.Ytohmmfimedgccaa.E
set_option maxRecDepth 100000
set_option maxHeartbeats 4000000
set_option linter.unusedVariables false
set_option linter.unusedSimpArgs false
noncomputable def B_flat_Right_c1 (f0 : Clock → Option Bool) (a0 : Clock) : Option Bool :=
 (f0 a0).bind fun y1 =>
 some (!y1)
theorem W_flat_Right_c1 (f0) (S0 : Sat_clock_Right f0) : Sat_flat_Right_c1 (B_flat_Right_c1 f0) := by
 intro a0 r h σ K hK;refine qW Try.func64 rfl rfl (by kernel_rfl) ?_;unfold B_flat_Right_c1 at h;have hP := Pre.refl σ;have E0 : qz [(.ag (Clock.cl a0))] 0 = (.ag (Clock.cl a0)) := rfl;have TT := cj4 Clock.cle Expr.rlen T_2 T_43;refine qk (fun e s => ∃ i1 : Nat, Bx σ s i1 43 (Clock.cl a0) ∧ eP e 1 i1 ∧ Pre σ s) ?_ ?_
 ·refine w_x (cj2 E0 TT) ?_;exact qe ⟨σ.length, (Bx.new hP _ _), (xv (cj2 E0 TT)), (hP.app _)⟩
 rintro e s ⟨i1, X1, E1, hP⟩
 refine qd ?_;obtain ⟨y1, h2, h⟩ := qb h;refine w_x (cj3 E1 X1.get TT) ?_;refine S0 _ _ h2 _ _  ?_;refine w_y (cj3 E1 X1.get TT) ?_;refine qf (qp ?_);obtain rfl := qa h;exact qt (fun _ => rfl) (xr (rs := #[.tmp 2]) TT) hP (.refl _) (.v _) hK
noncomputable def B_flat_Right_c2 (f0 : Int → Option Bool) (a0 : Node) : Option Bool :=
 (f0 a0.budget).bind fun y1 =>
 some (!y1)
theorem W_flat_Right_c2 (f0) (S0 : Sat_flat_ticks f0) : Sat_flat_Right_c2 (B_flat_Right_c2 f0) := by
 intro a0 r h σ K hK;refine qW Try.func67 rfl rfl (by kernel_rfl) ?_;unfold B_flat_Right_c2 at h;have hP := Pre.refl σ;have E0 : qz [(.ag (Node.cl a0))] 0 = (.ag (Node.cl a0)) := rfl;have TT := cj8 Expr.rlen Node.cle T_2 T_3 T_39 T_9 T_97 T_99;refine qk (fun e s => ∃ i1 : Nat, Bx σ s i1 99 (Node.cl a0) ∧ eP e 1 i1 ∧ Pre σ s) ?_ ?_
 ·refine w_x (cj2 E0 TT) ?_;exact qe ⟨σ.length, (Bx.new hP _ _), (xv (cj2 E0 TT)), (hP.app _)⟩
 rintro e s ⟨i1, X1, E1, hP⟩
 refine qd ?_;obtain ⟨y1, h2, h⟩ := qb h;refine w_x (cj3 E1 X1.get TT) ?_;refine S0 _ _ h2 _ _  ?_;refine w_y (cj3 E1 X1.get TT) ?_;refine qf (qp ?_);obtain rfl := qa h;exact qt (fun _ => rfl) (xr (rs := #[.tmp 2]) TT) hP (.refl _) (.v _) hK
noncomputable def B_flat_ticks (a0 : Int) : Option Bool :=
 some ((decide ((1 : Int) ≤ a0)) && (decide (a0 ≤ (1000 : Int))))
theorem W_flat_ticks : Sat_flat_ticks (B_flat_ticks) := by
 intro a0 r h σ K hK;refine qW Try.func68 rfl rfl (by kernel_rfl) ?_;unfold B_flat_ticks at h;have hP := Pre.refl σ;have E0 : qz [(.v (.int .i64 a0))] 0 = (.v (.int .i64 a0)) := rfl;have TT := cj2 Expr.rlen T_2;refine qd (w_x Expr.rlen ?_);refine qf (qk (fun e s => eB e 2 ((decide ((1 : Int) ≤ a0)) && (decide (a0 ≤ (1000 : Int)))) ∧ Pre σ s) ?_ ?_)
 ·cases hb1 : (decide ((1 : Int) ≤ a0))
  ·refine w_x (cj3 E0 hb1 TT) ?_;exact qe ⟨(xv (cj3 E0 hb1 TT)), hP⟩
  ·refine w_x (cj3 E0 hb1 TT) ?_;exact qe ⟨(xv (cj3 E0 hb1 TT)), hP⟩
 rintro e s ⟨E2, hP⟩
 refine qp ?_;obtain rfl := qa h;exact qt (fun _ => rfl) (xr (rs := #[.tmp 2]) (cj2 E2 TT)) hP (.refl _) (.v _) hK
noncomputable def B_flat_Right_c3 (f0 : Flat → Task → Option Bool) (a0 : Task) (a1 : Flat) : Option Bool :=
 (f0 a1 a0).bind fun y1 =>
 some (!y1)
theorem W_flat_Right_c3 (f0) (S0 : Sat_flat_task f0) : Sat_flat_Right_c3 (B_flat_Right_c3 f0) := by
 intro a0 a1 r h σ K j1 H1 hK;refine qW Try.func70 rfl rfl (by kernel_rfl) ?_;unfold B_flat_Right_c3 at h;have hP := Pre.refl σ;have jl1 := H1.lt;have E0 : qz [(.ag (Task.cl a0)), (.pt j1 0)] 0 = (.ag (Task.cl a0)) := rfl;have E1 : qz [(.ag (Task.cl a0)), (.pt j1 0)] 1 = (.pt j1 0) := rfl;have TT := Jn Expr.rlen Flat.cle T_22 T_3 T_33 T_43 T_46 T_47 T_49 T_59 T_61 Task.cle;refine qk (fun e s => ∃ i2 : Nat, Gx s j1 (AObj.box 49 (Flat.cl a1)) ∧ Bx σ s i2 61 (Task.cl a0) ∧ eP e 1 j1 ∧ eP e 2 i2 ∧ Pre σ s) ?_ ?_
 ·refine w_x (cj3 E0 H1.g3 TT) ?_;exact qe ⟨σ.length, (H1.app [some (AObj.box 61 (Task.cl a0))]), (Bx.new hP _ _), E1, (xv (cj3 E0 H1.g3 TT)), (hP.app _)⟩
 rintro e s ⟨i2, X1, X2, E1, E2, hP⟩
 refine qd ?_;obtain ⟨y1, h2, h⟩ := qb h;refine w_x (cj5 E1 E2 X1.get X2.get TT) ?_;refine S0 _ _ _ h2 _ _  ?_;refine w_y (cj5 E1 E2 X1.get X2.get TT) ?_;refine qf (qp ?_);obtain rfl := qa h;exact qt (fun _ => rfl) (xr (rs := #[.tmp 3]) TT) hP (.refl _) (.v _) hK
noncomputable def B_flat_task (f0 : (List Arg) → (Arg → Option Bool) → Option Bool) (f1 : Arg → Flat → Task → Option Bool) (a0 : Flat) (a1 : Task) : Option Bool :=
 (if ((decide ((0 : Int) ≤ a1.node)) && (decide (a1.node < ((List.length a0.nodes : Nat) : Int)))) then
  (qC a0.nodes a1.node).bind fun y1 =>
  some (decide (((List.length a1.args : Nat) : Int) = ((List.length y1.params : Nat) : Int)))
 else
  some false).bind fun w3 =>
 (if ((((decide ((0 : Int) ≤ a1.node)) && (decide (a1.node < ((List.length a0.nodes : Nat) : Int)))) && w3) && (decide ((0 : Int) < ((List.length a1.args : Nat) : Int)))) then
  (f0 a1.args (fun z0 => f1 z0 a0 a1)).bind fun y5 =>
  some (!y5)
 else
  some false).bind fun w7 =>
 some (((((decide ((0 : Int) ≤ a1.node)) && (decide (a1.node < ((List.length a0.nodes : Nat) : Int)))) && w3) && (decide ((0 : Int) < ((List.length a1.args : Nat) : Int)))) && w7)
theorem W_flat_task (f0 f1) (S0 : Sat_slices_ContainsFunc_Arg f0) (S1 : Sat_flat_task_c1 f1) : Sat_flat_task (B_flat_task f0 f1) := by
 intro a0 a1 r h σ K hK;refine qW Try.func71 rfl rfl (by kernel_rfl) ?_;unfold B_flat_task at h;have hP := Pre.refl σ;have E0 : qz [(.ag (Flat.cl a0)), (.ag (Task.cl a1))] 0 = (.ag (Flat.cl a0)) := rfl;have E1 : qz [(.ag (Flat.cl a0)), (.ag (Task.cl a1))] 1 = (.ag (Task.cl a1)) := rfl;have TT := ZC Expr.rlen Flat.cle Node.cle T_172 T_2 T_22 T_3 T_33 T_39 T_43 T_46 T_47 T_49 T_59 T_61 T_68 T_9 T_97 T_99 Task.cle;refine qk (fun e s => ∃ i2 i3 : Nat, Bx σ s i2 49 (Flat.cl a0) ∧ Bx σ s i3 61 (Task.cl a1) ∧ eP e 2 i2 ∧ eP e 3 i3 ∧ Pre σ s) ?_ ?_
 ·refine w_x (cj3 E0 E1 TT) ?_;exact qe ⟨σ.length, (σ ++ [some (AObj.box 49 (Flat.cl a0))]).length, ((Bx.new hP 49 (Flat.cl a0)).app [some (AObj.box 61 (Task.cl a1))]), (Bx.new (hP.app _) 61 (Task.cl a1)), (xv (cj3 E0 E1 TT)), (xv (cj3 E0 E1 TT)), ((hP.app _).app _)⟩
 rintro e s ⟨i2, i3, X2, X3, E2, E3, hP⟩
 obtain ⟨w3, h4, h⟩ := qb h;obtain ⟨w7, h8, h⟩ := qb h;refine qk (fun e s => eB e 4 (((((decide ((0 : Int) ≤ a1.node)) && (decide (a1.node < ((List.length a0.nodes : Nat) : Int)))) && w3) && (decide ((0 : Int) < ((List.length a1.args : Nat) : Int)))) && w7) ∧ Pre σ s) ?_ ?_
 ·cases hb9 : (decide ((0 : Int) ≤ a1.node))
  ·replace h4 := qU (by simp only [hb9, Bool.or_true, Bool.true_or, Bool.or_false, Bool.false_or, Bool.and_true, Bool.true_and, Bool.and_false, Bool.false_and, Bool.not_true, Bool.not_false, cond_true, cond_false]) h4;obtain rfl := qa h4;replace h8 := qU (by simp only [hb9, Bool.or_true, Bool.true_or, Bool.or_false, Bool.false_or, Bool.and_true, Bool.true_and, Bool.and_false, Bool.false_and, Bool.not_true, Bool.not_false, cond_true, cond_false]) h8;obtain rfl := qa h8;have q1 := cj6 E2 E3 X2.get X3.get hb9 TT;refine zn 35 0 q1 ?_;refine za q1 ?_;exact qe ⟨(xv q1), hP⟩
  ·cases hb10 : (decide (a1.node < ((List.length a0.nodes : Nat) : Int)))
   ·replace h4 := qU (by simp only [hb9, hb10, Bool.or_true, Bool.true_or, Bool.or_false, Bool.false_or, Bool.and_true, Bool.true_and, Bool.and_false, Bool.false_and, Bool.not_true, Bool.not_false, cond_true, cond_false]) h4;obtain rfl := qa h4;replace h8 := qU (by simp only [hb9, hb10, Bool.or_true, Bool.true_or, Bool.or_false, Bool.false_or, Bool.and_true, Bool.true_and, Bool.and_false, Bool.false_and, Bool.not_true, Bool.not_false, cond_true, cond_false]) h8;obtain rfl := qa h8;have q2 := cj7 E2 E3 X2.get X3.get hb9 hb10 TT;refine zn 35 0 q2 ?_;refine za q2 ?_;exact qe ⟨(xv q2), hP⟩
   ·replace h4 := qO (by simp only [hb9, hb10, Bool.or_true, Bool.true_or, Bool.or_false, Bool.false_or, Bool.and_true, Bool.true_and, Bool.and_false, Bool.false_and, Bool.not_true, Bool.not_false, cond_true, cond_false]) h4;obtain ⟨y1, h2, h4⟩ := qb h4;obtain rfl := qa h4;have R11 := qA (f := Node.cl) (qg h2).2;cases hb12 : (decide (((List.length a1.args : Nat) : Int) = ((List.length y1.params : Nat) : Int)))
    ·replace h8 := qU (by simp only [hb9, hb10, hb12, Bool.or_true, Bool.true_or, Bool.or_false, Bool.false_or, Bool.and_true, Bool.true_and, Bool.and_false, Bool.false_and, Bool.not_true, Bool.not_false, cond_true, cond_false]) h8;obtain rfl := qa h8;have q3 := Zt E2 E3 X2.get X3.get hb9 hb10 R11 (qg h2).1 hb12 TT;refine zn 35 0 q3 ?_;refine za q3 ?_;exact qe ⟨(xv q3), hP⟩
    ·cases hb13 : (decide ((0 : Int) < ((List.length a1.args : Nat) : Int)))
     ·replace h8 := qU (by simp only [hb9, hb10, hb12, hb13, Bool.or_true, Bool.true_or, Bool.or_false, Bool.false_or, Bool.and_true, Bool.true_and, Bool.and_false, Bool.false_and, Bool.not_true, Bool.not_false, cond_true, cond_false]) h8;obtain rfl := qa h8;have q4 := YH E2 E3 X2.get X3.get hb9 hb10 R11 (qg h2).1 hb12 hb13 TT;refine zn 35 0 q4 ?_;refine za q4 ?_;exact qe ⟨(xv q4), hP⟩
     ·replace h8 := qO (by simp only [hb9, hb10, hb12, hb13, Bool.or_true, Bool.true_or, Bool.or_false, Bool.false_or, Bool.and_true, Bool.true_and, Bool.and_false, Bool.false_and, Bool.not_true, Bool.not_false, cond_true, cond_false]) h8;obtain ⟨y5, h6, h8⟩ := qb h8;obtain rfl := qa h8;have q5 := YH E2 E3 X2.get X3.get hb9 hb10 R11 (qg h2).1 hb12 hb13 TT;refine zn 35 0 q5 ?_;refine za q5 ?_;refine S0 _ _ _ h6 _ _ _ _ (fun z0 b hg s' K hq hk => by obtain ⟨ex, rfl⟩ := hq; exact S1 z0 _ _ b hg _ _ _ _  (X2.gx.app ex) (X3.gx.app ex) hk) ?_;refine w_y q5 ?_;exact qe ⟨(xv q5), hP⟩
 rintro e s ⟨E4, hP⟩
 refine qp ?_;obtain rfl := qa h;exact qt (fun _ => rfl) (xr (rs := #[.tmp 4]) (cj2 E4 TT)) hP (.refl _) (.v _) hK
noncomputable def B_flat_Right_c4 (f0 : Int → Option Bool) (f1 : Flat → Arg → Clock → Option Bool) (a0 : Tell) (a1 : Flat) : Option Bool :=
 (f0 a0.deadline).bind fun y1 =>
 (if (!y1) then
  some false
 else
  (f1 a1 a0.arg a0.clock).bind fun y3 =>
  some (!y3)).bind fun w5 =>
 some ((!y1) || w5)
theorem W_flat_Right_c4 (f0 f1) (S0 : Sat_flat_ticks f0) (S1 : Sat_flat_fits f1) : Sat_flat_Right_c4 (B_flat_Right_c4 f0 f1) := by
 intro a0 a1 r h σ K j1 H1 hK;refine qW Try.func73 rfl rfl (by kernel_rfl) ?_;unfold B_flat_Right_c4 at h;have hP := Pre.refl σ;have jl1 := H1.lt;have E0 : qz [(.ag (Tell.cl a0)), (.pt j1 0)] 0 = (.ag (Tell.cl a0)) := rfl;have E1 : qz [(.ag (Tell.cl a0)), (.pt j1 0)] 1 = (.pt j1 0) := rfl;have TT := Yl Expr.rlen Flat.cle T_2 T_22 T_3 T_33 T_43 T_46 T_47 T_49 T_66 T_68 T_73 Tell.cle;refine qk (fun e s => ∃ i2 : Nat, Gx s j1 (AObj.box 49 (Flat.cl a1)) ∧ Bx σ s i2 73 (Tell.cl a0) ∧ eP e 1 j1 ∧ eP e 2 i2 ∧ Pre σ s) ?_ ?_
 ·refine w_x (cj3 E0 H1.g3 TT) ?_;exact qe ⟨σ.length, (H1.app [some (AObj.box 73 (Tell.cl a0))]), (Bx.new hP _ _), E1, (xv (cj3 E0 H1.g3 TT)), (hP.app _)⟩
 rintro e s ⟨i2, X1, X2, E1, E2, hP⟩
 obtain ⟨y1, h2, h⟩ := qb h;obtain ⟨w5, h6, h⟩ := qb h;refine qk (fun e s => eB e 3 ((!y1) || w5) ∧ Pre σ s) ?_ ?_
 ·cases hb7 : (!y1)
  ·replace h6 := qU (by simp only [hb7, Bool.or_true, Bool.true_or, Bool.or_false, Bool.false_or, Bool.and_true, Bool.true_and, Bool.and_false, Bool.false_and, Bool.not_true, Bool.not_false, cond_true, cond_false]) h6;obtain ⟨y3, h4, h6⟩ := qb h6;obtain rfl := qa h6;have q1 := cj6 E1 E2 X1.get X2.get hb7 TT;refine w_x q1 ?_;refine S0 _ _ h2 _ _  ?_;refine w_y q1 ?_;refine S1 _ _ _ _ h4 _ _  ?_;refine w_y q1 ?_;exact qe ⟨(xv q1), hP⟩
  ·replace h6 := qO (by simp only [hb7, Bool.or_true, Bool.true_or, Bool.or_false, Bool.false_or, Bool.and_true, Bool.true_and, Bool.and_false, Bool.false_and, Bool.not_true, Bool.not_false, cond_true, cond_false]) h6;obtain rfl := qa h6;have q2 := cj6 E1 E2 X1.get X2.get hb7 TT;refine w_x q2 ?_;refine S0 _ _ h2 _ _  ?_;refine w_y q2 ?_;exact qe ⟨(xv q2), hP⟩
 rintro e s ⟨E3, hP⟩
 refine qp ?_;obtain rfl := qa h;exact qt (fun _ => rfl) (xr (rs := #[.tmp 3]) (cj2 E3 TT)) hP (.refl _) (.v _) hK
end Go.Proofs.Ytohmmfimedgccaa.E
end
