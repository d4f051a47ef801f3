import Derived.KernelRfl
import Derived.Test.YtohmmfimedgccaaRows
import Derived.WalkKit
import Derived.ProofKit
import Derived.OpenShut
import Derived.ShutString
import Derived.ChangeOld
import Derived.Below
import Derived.SizedLaws
import Derived.Test.YtohmmfimedgccaaQR6
/- FlatRight: what is right of a flat program is told alike by the program and its reference, its model's walk and the plain law behind it. PART 8 OF 8: G74 G102 G103 G124 FM G6 G28 G29 FN FO OP RowFlatRight -/
section
namespace Go.Proofs.Ytohmmfimedgccaa.E
set_option maxRecDepth 100000
set_option maxHeartbeats 4000000
set_option linter.unusedVariables false
set_option linter.unusedSimpArgs false
noncomputable def B_flat_fits (f0 : Flat → Int → Option (Clock × Bool)) (f1 : Clock → (List Op) → Option (Clock × Int)) (a0 : Flat) (a1 : Arg) (a2 : Clock) : Option Bool :=
 (f0 a0 a1.src).bind fun y1 =>
 (f1 y1.1 a1.ops).bind fun y3 =>
 some (((y1.2 && (decide (((List.length a1.ops : Nat) : Int) ≤ (20 : Int)))) && (decide (y3.2 = (0 : Int)))) && (decide (y3.1.period = a2.period) && (decide (y3.1.phase = a2.phase))))
theorem W_flat_fits (f0 f1) (S0 : Sat_flat_Source f0) (S1 : Sat_clock_All f1) : Sat_flat_fits (B_flat_fits f0 f1) := by
 intro a0 a1 a2 r h σ K hK;refine qW Try.func74 rfl rfl (by kernel_rfl) ?_;unfold B_flat_fits at h;have hP := Pre.refl σ;have E0 : qz [(.ag (Flat.cl a0)), (.ag (Arg.cl a1)), (.ag (Clock.cl a2))] 0 = (.ag (Flat.cl a0)) := rfl;have E1 : qz [(.ag (Flat.cl a0)), (.ag (Arg.cl a1)), (.ag (Clock.cl a2))] 1 = (.ag (Arg.cl a1)) := rfl;have E2 : qz [(.ag (Flat.cl a0)), (.ag (Arg.cl a1)), (.ag (Clock.cl a2))] 2 = (.ag (Clock.cl a2)) := rfl;have TT := JV Arg.cle Clock.cle Expr.rlen Flat.cle T_119 T_2 T_22 T_3 T_30 T_33 T_43 T_46 T_47 T_49 T_66 T_68;refine qk (fun e s => ∃ i3 i4 i5 : Nat, Bx σ s i3 49 (Flat.cl a0) ∧ Bx σ s i4 68 (Arg.cl a1) ∧ Bx σ s i5 43 (Clock.cl a2) ∧ eP e 3 i3 ∧ eP e 4 i4 ∧ eP e 5 i5 ∧ Pre σ s) ?_ ?_
 ·have q1 := cj4 E0 E1 E2 TT;refine w_x q1 ?_;exact qe ⟨σ.length, (σ ++ [some (AObj.box 49 (Flat.cl a0))]).length, ((σ ++ [some (AObj.box 49 (Flat.cl a0))]) ++ [some (AObj.box 68 (Arg.cl a1))]).length, (((Bx.new hP 49 (Flat.cl a0)).app [some (AObj.box 68 (Arg.cl a1))]).app [some (AObj.box 43 (Clock.cl a2))]), ((Bx.new (hP.app _) 68 (Arg.cl a1)).app [some (AObj.box 43 (Clock.cl a2))]), (Bx.new ((hP.app _).app _) 43 (Clock.cl a2)), (xv q1), (xv q1), (xv q1), (((hP.app _).app _).app _)⟩
 rintro e s ⟨i3, i4, i5, X3, X4, X5, E3, E4, E5, hP⟩
 obtain ⟨y1, h2, h⟩ := qb h;refine qk (fun e s => ∃ i7 : Nat, Bx σ s i4 68 (Arg.cl a1) ∧ Bx σ s i5 43 (Clock.cl a2) ∧ Bx σ s i7 43 (Clock.cl y1.1) ∧ eP e 4 i4 ∧ eP e 5 i5 ∧ eP e 7 i7 ∧ eB e 8 y1.2 ∧ Pre σ s) ?_ ?_
 ·have q2 := cj5 E3 E4 X3.g3 X4.g3 TT;refine w_x q2 ?_;refine S0 _ _ _ h2 _ _  ?_;refine w_y q2 ?_;exact qe ⟨s.length, (X4.app _), (X5.app _), (Bx.new hP _ _), E4, E5, (xv q2), (xv q2), (hP.app _)⟩
 rintro e s ⟨i7, X4, X5, X7, E4, E5, E7, E8, hP⟩
 obtain ⟨y3, h4, h⟩ := qb h;refine qk (fun e s => ∃ i9 : Nat, Bx σ s i4 68 (Arg.cl a1) ∧ Bx σ s i5 43 (Clock.cl a2) ∧ Bx σ s i9 43 (Clock.cl y3.1) ∧ eP e 4 i4 ∧ eP e 5 i5 ∧ eB e 8 y1.2 ∧ eP e 9 i9 ∧ eI e 10 y3.2 ∧ Pre σ s) ?_ ?_
 ·have q3 := cj5 E4 E7 X4.g3 X7.g3 TT;refine w_x q3 ?_;refine S1 _ _ _ h4 _ _  ?_;refine w_y q3 ?_;exact qe ⟨s.length, (X4.app _), (X5.app _), (Bx.new hP _ _), E4, E5, E8, (xv q3), (xv q3), (hP.app _)⟩
 rintro e s ⟨i9, X4, X5, X9, E4, E5, E8, E9, E10, hP⟩
 refine qk (fun e s => eB e 6 (((y1.2 && (decide (((List.length a1.ops : Nat) : Int) ≤ (20 : Int)))) && (decide (y3.2 = (0 : Int)))) && (decide (y3.1.period = a2.period) && (decide (y3.1.phase = a2.phase)))) ∧ Pre σ s) ?_ ?_
 ·cases hb5 : y1.2
  ·have q4 := Zt E4 E5 E8 E9 E10 X4.get X5.get X9.get hb5 TT;refine w_x q4 ?_;exact qe ⟨(xv q4), hP⟩
  ·cases hb6 : (decide (((List.length a1.ops : Nat) : Int) ≤ (20 : Int)))
   ·have q5 := YH E4 E5 E8 E9 E10 X4.get X5.get X9.get hb5 hb6 TT;refine w_x q5 ?_;exact qe ⟨(xv q5), hP⟩
   ·cases hb7 : (decide (y3.2 = (0 : Int)))
    ·have q6 := Jn E4 E5 E8 E9 E10 X4.get X5.get X9.get hb5 hb6 hb7 TT;refine w_x q6 ?_;exact qe ⟨(xv q6), hP⟩
    ·have q7 := Jn E4 E5 E8 E9 E10 X4.get X5.get X9.get hb5 hb6 hb7 TT;refine w_x q7 ?_;exact qe ⟨(xv q7), hP⟩
 rintro e s ⟨E6, hP⟩
 refine qp ?_;obtain rfl := qa h;exact qt (fun _ => rfl) (xr (rs := #[.tmp 6]) (cj2 E6 TT)) hP (.refl _) (.v _) hK
noncomputable def B_slices_ContainsFunc_Arg (f0 : (List Arg) → (Arg → Option Bool) → Option Int) (a0 : (List Arg)) (a1 : (Arg → Option Bool)) : Option Bool :=
 (f0 a0 a1).bind fun y1 =>
 some (decide ((0 : Int) ≤ y1))
theorem W_slices_ContainsFunc_Arg (f0) (S0 : Sat_slices_IndexFunc_Arg f0) : Sat_slices_ContainsFunc_Arg (B_slices_ContainsFunc_Arg f0) := by
 intro a0 a1 r h σ K fid1 caps1 hg1 hK;refine qW Try.func102 rfl rfl (by kernel_rfl) ?_;unfold B_slices_ContainsFunc_Arg at h;have hP := Pre.refl σ;have E0 : qz [(.sl (List.map Arg.cl a0)), (.fn fid1 [] caps1)] 0 = (.sl (List.map Arg.cl a0)) := rfl;have E1 : qz [(.sl (List.map Arg.cl a0)), (.fn fid1 [] caps1)] 1 = (.fn fid1 [] caps1) := rfl;have TT := cj5 Expr.rlen T_172 T_3 T_59 T_68;refine qd (w_x Expr.rlen ?_);refine qf (qd ?_);obtain ⟨y1, h2, h⟩ := qb h;refine w_x (cj3 E0 E1 TT) ?_;refine S0 _ _ _ h2 _ _ _ _ (fun z0 b hg s' K hq hk => hg1 z0 b hg s' K (hP.trans hq) hk) ?_;refine w_y (cj3 E0 E1 TT) ?_;refine qf (qp ?_);obtain rfl := qa h;exact qt (fun _ => rfl) (xr (rs := #[.tmp 4]) TT) hP (.refl _) (.v _) hK
noncomputable def B_flat_task_c1 (f0 : Flat → Arg → Clock → Option Bool) (a0 : Arg) (a1 : Flat) (a2 : Task) : Option Bool :=
 (f0 a1 a0 a2.clock).bind fun y1 =>
 some (!y1)
theorem W_flat_task_c1 (f0) (S0 : Sat_flat_fits f0) : Sat_flat_task_c1 (B_flat_task_c1 f0) := by
 intro a0 a1 a2 r h σ K j1 j2 H1 H2 hK;refine qW Try.func103 rfl rfl (by kernel_rfl) ?_;unfold B_flat_task_c1 at h;have hP := Pre.refl σ;have jl1 := H1.lt;have jl2 := H2.lt;have E0 : qz [(.ag (Arg.cl a0)), (.pt j1 0), (.pt j2 0)] 0 = (.ag (Arg.cl a0)) := rfl;have E1 : qz [(.ag (Arg.cl a0)), (.pt j1 0), (.pt j2 0)] 1 = (.pt j1 0) := rfl;have E2 : qz [(.ag (Arg.cl a0)), (.pt j1 0), (.pt j2 0)] 2 = (.pt j2 0) := rfl;have TT := JV Arg.cle Expr.rlen Flat.cle T_2 T_22 T_3 T_33 T_43 T_46 T_47 T_49 T_59 T_61 T_66 T_68 Task.cle;refine qk (fun e s => ∃ i3 : Nat, Gx s j1 (AObj.box 49 (Flat.cl a1)) ∧ Gx s j2 (AObj.box 61 (Task.cl a2)) ∧ Bx σ s i3 68 (Arg.cl a0) ∧ eP e 1 j1 ∧ eP e 2 j2 ∧ eP e 3 i3 ∧ Pre σ s) ?_ ?_
 ·refine w_x (cj4 E0 H1.g3 H2.g3 TT) ?_;exact qe ⟨σ.length, (H1.app [some (AObj.box 68 (Arg.cl a0))]), (H2.app [some (AObj.box 68 (Arg.cl a0))]), (Bx.new hP _ _), E1, E2, (xv (cj4 E0 H1.g3 H2.g3 TT)), (hP.app _)⟩
 rintro e s ⟨i3, X1, X2, X3, E1, E2, E3, hP⟩
 refine qd ?_;obtain ⟨y1, h2, h⟩ := qb h;have q1 := cj7 E1 E2 E3 X1.get X2.get X3.get TT;refine w_x q1 ?_;refine S0 _ _ _ _ h2 _ _  ?_;refine w_y q1 ?_;refine qf (qp ?_);obtain rfl := qa h;exact qt (fun _ => rfl) (xr (rs := #[.tmp 4]) TT) hP (.refl _) (.v _) hK
noncomputable def zO (a0 : (List Arg)) (a1 : (Arg → Option Bool)) : Int → Option (Int ⊕ (Int ⊕ Unit))
 | v3 =>
  if (decide (v3 < ((List.length a0 : Nat) : Int))) then
   ((qC a0 v3).bind fun y9 =>
   (a1 y9).bind fun y11 =>
   if y11 then
    some (.inl v3)
   else
    some (.inr ()) : Option (Int ⊕ Unit)).bind fun x => match x with
   | .inl r => some (.inr (.inl r))
   | .inr _ =>
    some (.inl (IntKind.i64.wrap (v3 + (1 : Int))))
  else
   some (.inr (.inr ()))
noncomputable def B_slices_IndexFunc_Arg (a0 : (List Arg)) (a1 : (Arg → Option Bool)) : Option Int :=
 (qy (zO a0 a1) (0 : Int) : Option (Int ⊕ Unit)).bind fun x => match x with
 | .inl r => some r
 | .inr _ =>
  some (-1 : Int)
theorem W_slices_IndexFunc_Arg : Sat_slices_IndexFunc_Arg (B_slices_IndexFunc_Arg) := by
 intro a0 a1 r h σ K fid1 caps1 hg1 hK;refine qW Try.func124 rfl rfl (by kernel_rfl) ?_;unfold B_slices_IndexFunc_Arg at h;have hP := Pre.refl σ;have E0 : qz [(.sl (List.map Arg.cl a0)), (.fn fid1 [] caps1)] 0 = (.sl (List.map Arg.cl a0)) := rfl;have E1 : qz [(.sl (List.map Arg.cl a0)), (.fn fid1 [] caps1)] 1 = (.fn fid1 [] caps1) := rfl;have TT := cj6 Arg.cle Expr.rlen T_3 T_59 T_66 T_68;refine qd (w_x Expr.rlen ?_);refine qf (ql (qd (w_x (cj2 E0 TT) ?_)));refine qf ?_;obtain ⟨x1, h2, h⟩ := qb h;refine qk (fun e s => .inr () = x1 ∧ Pre σ s) ?_ ?_
 ·refine qn (qH h2 (fun v e s => ∃ v3, v3 = v ∧ eS e 0 Arg.cl a0 ∧ e 1 = (.fn fid1 [] caps1) ∧ eL e 7 a0 ∧ eI e 8 v3 ∧ Pre σ s) ⟨_, WkE.refl _, _, rfl, E0, E1, (xv TT), (xv TT), hP⟩ ?_)
  rintro v x4 e s hf5 ⟨v3, rfl, E0, E1, E7, E8, hP⟩
  unfold zO at hf5;(try dsimp only at hf5);refine qd (w_x (cj3 E7 E8 TT) ?_);refine qf (qd ?_);rcases qi hf5 with ⟨hb6, hf5⟩ | ⟨hb6, hf5⟩
  ·refine xt hb6 (qm (qf ?_));obtain ⟨x7, h8, hf5⟩ := qb hf5;refine qk (fun e s => .inr () = x7 ∧ eS e 0 Arg.cl a0 ∧ e 1 = (.fn fid1 [] caps1) ∧ eL e 7 a0 ∧ eI e 8 v3 ∧ Pre σ s) ?_ ?_
   ·refine qn (qd (w_x (cj2 E8 TT) ?_));refine qf ?_;obtain ⟨y9, h10, h8⟩ := qb h8;obtain ⟨y11, h12, h8⟩ := qb h8;refine qk (fun e s => eS e 0 Arg.cl a0 ∧ e 1 = (.fn fid1 [] caps1) ∧ eI e 5 v3 ∧ eL e 7 a0 ∧ eI e 8 v3 ∧ eB e 16 y11 ∧ Pre σ s) ?_ ?_
    ·have R13 := qA (f := Arg.cl) (qg h10).2;have q1 := cj5 E0 E1 R13 (qg h10).1 TT;refine w_x q1 ?_;refine hg1 _  _ h12  _ _ hP ?_;refine w_y q1 ?_;exact qe ⟨E0, E1, (xv q1), E7, E8, (xv q1), hP⟩
    rintro e s ⟨E0, E1, E5, E7, E8, E16, hP⟩
    rcases qi h8 with ⟨hb14, h8⟩ | ⟨hb14, h8⟩
    ·refine xt (cj2 E16 hb14) (qd (w_x (cj2 E5 TT) ?_));refine qf (qp (qw ?_));obtain rfl := qa h8;refine qB ?_;(try dsimp only at hf5);obtain rfl := qa hf5;refine zv rfl fun hr15 => ?_;obtain rfl := hr15;refine qw (qB ?_);(try dsimp only at h);obtain rfl := qa h;exact qt (fun _ => rfl) (xr (rs := #[.tmp 4]) TT) hP (.refl _) (.v _) hK
    ·refine xf (cj2 E16 hb14) (qm (qQ ?_));obtain rfl := qa h8;exact qe ⟨rfl, E0, E1, E7, E8, hP⟩
   rintro e s ⟨rfl, E0, E1, E7, E8, hP⟩
   (try dsimp only at hf5);refine w_x (cj2 E8 TT) ?_;obtain rfl := qa hf5;exact qZ rfl ⟨_, rfl, E0, E1, E7, (xv (cj2 E8 TT)), hP⟩
  ·refine xf hb6 (qE (qM ?_));obtain rfl := qa hf5;refine qY rfl fun hr16 => ?_;obtain rfl := hr16;exact qK (qe ⟨rfl, hP⟩)
 rintro e s ⟨rfl, hP⟩
 (try dsimp only at h);refine qd (w_x Expr.rlen ?_);refine qf (qp ?_);obtain rfl := qa h;exact qt (fun _ => rfl) (xr (rs := #[.tmp 4]) TT) hP (.refl _) (.v _) hK
end Go.Proofs.Ytohmmfimedgccaa.E
end
section
namespace Go.Proofs.Ytohmmfimedgccaa.E
set_option linter.unusedVariables false
set_option linter.unusedSimpArgs false
set_option maxRecDepth 10000
def argF (a : Arg) : Prop := (∀ o ∈ a.ops, opFit o) ∧ a.ops.length ≤ 10000
structure FlatF (F : Flat) : Prop where
 inputs : F.inputs.length ≤ 100
 nodes : F.nodes.length ≤ 100
 tasks : F.tasks.length ≤ 100
 tells : F.tells.length ≤ 100
 args : ∀ t ∈ F.tasks, t.args.length ≤ 100 ∧ ∀ a ∈ t.args, argF a
 tell : ∀ t ∈ F.tells, argF t.arg
theorem cf_Clock {xs : List Clock} (hl : xs.length ≤ 1000) {g : Clock → Option Bool} {P : Clock → Prop} (h : ∀ x ∈ xs, ∃ b, g x = some (!b) ∧ (b = true ↔ P x)) : ∃ b, B_slices_ContainsFunc_Clock B_slices_IndexFunc_Clock xs g = some (!b) ∧ (b = true ↔ ∀ x ∈ xs, P x) := by
 have hbig : (1000 : Nat) ≤ maxLen := by unfold maxLen; decide
 obtain ⟨r, h1, h2⟩ := zZ (n := xs.length) (by omega) (f := zq xs g) (fun i => ∃ x, xs[i]? = some x ∧ ¬ P x) (fun i => (i : Int)) (fun i hi => by
  unfold zq;obtain ⟨b, h3, h4⟩ := h _ (List.getElem_mem hi);simp only [dlt hi, if_true, qx hi, Option.bind_some, h3, List.getElem?_eq_getElem hi, Option.some.injEq, exists_eq_left'];cases b with
  | true => exact .inr ⟨rfl, fun hn => hn (h4.1 rfl)⟩
  | false => exact .inl ⟨rfl, fun hp => by have := h4.2 hp; cases this⟩) (by
  unfold zq;simp only [dge, Bool.false_eq_true, if_false])
 unfold B_slices_ContainsFunc_Clock B_slices_IndexFunc_Clock;rw [h1];rcases h2 with ⟨i, hi, rfl, ⟨x, hx, hp⟩, _⟩ | ⟨rfl, hn⟩
 ·refine ⟨false, ?_, fun h => (by cases h), fun h => absurd (h x (List.mem_of_getElem? hx)) hp⟩;simp only [Option.bind_some];rw [decide_eq_true (by omega)];rfl
 ·refine ⟨true, rfl, fun _ x hx => ?_, fun _ => rfl⟩;obtain ⟨i, hi⟩ := List.getElem?_of_mem hx;exact Classical.byContradiction fun hp => hn i (List.getElem?_eq_some_iff.1 hi).1 ⟨x, hi, hp⟩
theorem cf_Node {xs : List Node} (hl : xs.length ≤ 1000) {g : Node → Option Bool} {P : Node → Prop} (h : ∀ x ∈ xs, ∃ b, g x = some (!b) ∧ (b = true ↔ P x)) : ∃ b, B_slices_ContainsFunc_Node qqu xs g = some (!b) ∧ (b = true ↔ ∀ x ∈ xs, P x) := by
 have hbig : (1000 : Nat) ≤ maxLen := by unfold maxLen; decide
 obtain ⟨r, h1, h2⟩ := zZ (n := xs.length) (by omega) (f := qX xs g) (fun i => ∃ x, xs[i]? = some x ∧ ¬ P x) (fun i => (i : Int)) (fun i hi => by
  unfold qX;obtain ⟨b, h3, h4⟩ := h _ (List.getElem_mem hi);simp only [dlt hi, if_true, qx hi, Option.bind_some, h3, List.getElem?_eq_getElem hi, Option.some.injEq, exists_eq_left'];cases b with
  | true => exact .inr ⟨rfl, fun hn => hn (h4.1 rfl)⟩
  | false => exact .inl ⟨rfl, fun hp => by have := h4.2 hp; cases this⟩) (by
  unfold qX;simp only [dge, Bool.false_eq_true, if_false])
 unfold B_slices_ContainsFunc_Node qqu B_slices_IndexFunc_Node;rw [h1];rcases h2 with ⟨i, hi, rfl, ⟨x, hx, hp⟩, _⟩ | ⟨rfl, hn⟩
 ·refine ⟨false, ?_, fun h => (by cases h), fun h => absurd (h x (List.mem_of_getElem? hx)) hp⟩;simp only [Option.bind_some];rw [decide_eq_true (by omega)];rfl
 ·refine ⟨true, rfl, fun _ x hx => ?_, fun _ => rfl⟩;obtain ⟨i, hi⟩ := List.getElem?_of_mem hx;exact Classical.byContradiction fun hp => hn i (List.getElem?_eq_some_iff.1 hi).1 ⟨x, hi, hp⟩
theorem cf_Task {xs : List Task} (hl : xs.length ≤ 1000) {g : Task → Option Bool} {P : Task → Prop} (h : ∀ x ∈ xs, ∃ b, g x = some (!b) ∧ (b = true ↔ P x)) : ∃ b, B_slices_ContainsFunc_Task B_slices_IndexFunc_Task xs g = some (!b) ∧ (b = true ↔ ∀ x ∈ xs, P x) := by
 have hbig : (1000 : Nat) ≤ maxLen := by unfold maxLen; decide
 obtain ⟨r, h1, h2⟩ := zZ (n := xs.length) (by omega) (f := zy xs g) (fun i => ∃ x, xs[i]? = some x ∧ ¬ P x) (fun i => (i : Int)) (fun i hi => by
  unfold zy;obtain ⟨b, h3, h4⟩ := h _ (List.getElem_mem hi);simp only [dlt hi, if_true, qx hi, Option.bind_some, h3, List.getElem?_eq_getElem hi, Option.some.injEq, exists_eq_left'];cases b with
  | true => exact .inr ⟨rfl, fun hn => hn (h4.1 rfl)⟩
  | false => exact .inl ⟨rfl, fun hp => by have := h4.2 hp; cases this⟩) (by
  unfold zy;simp only [dge, Bool.false_eq_true, if_false])
 unfold B_slices_ContainsFunc_Task B_slices_IndexFunc_Task;rw [h1];rcases h2 with ⟨i, hi, rfl, ⟨x, hx, hp⟩, _⟩ | ⟨rfl, hn⟩
 ·refine ⟨false, ?_, fun h => (by cases h), fun h => absurd (h x (List.mem_of_getElem? hx)) hp⟩;simp only [Option.bind_some];rw [decide_eq_true (by omega)];rfl
 ·refine ⟨true, rfl, fun _ x hx => ?_, fun _ => rfl⟩;obtain ⟨i, hi⟩ := List.getElem?_of_mem hx;exact Classical.byContradiction fun hp => hn i (List.getElem?_eq_some_iff.1 hi).1 ⟨x, hi, hp⟩
theorem cf_Tell {xs : List Tell} (hl : xs.length ≤ 1000) {g : Tell → Option Bool} {P : Tell → Prop} (h : ∀ x ∈ xs, ∃ b, g x = some (!b) ∧ (b = true ↔ P x)) : ∃ b, B_slices_ContainsFunc_Tell B_slices_IndexFunc_Tell xs g = some (!b) ∧ (b = true ↔ ∀ x ∈ xs, P x) := by
 have hbig : (1000 : Nat) ≤ maxLen := by unfold maxLen; decide
 obtain ⟨r, h1, h2⟩ := zZ (n := xs.length) (by omega) (f := zx xs g) (fun i => ∃ x, xs[i]? = some x ∧ ¬ P x) (fun i => (i : Int)) (fun i hi => by
  unfold zx;obtain ⟨b, h3, h4⟩ := h _ (List.getElem_mem hi);simp only [dlt hi, if_true, qx hi, Option.bind_some, h3, List.getElem?_eq_getElem hi, Option.some.injEq, exists_eq_left'];cases b with
  | true => exact .inr ⟨rfl, fun hn => hn (h4.1 rfl)⟩
  | false => exact .inl ⟨rfl, fun hp => by have := h4.2 hp; cases this⟩) (by
  unfold zx;simp only [dge, Bool.false_eq_true, if_false])
 unfold B_slices_ContainsFunc_Tell B_slices_IndexFunc_Tell;rw [h1];rcases h2 with ⟨i, hi, rfl, ⟨x, hx, hp⟩, _⟩ | ⟨rfl, hn⟩
 ·refine ⟨false, ?_, fun h => (by cases h), fun h => absurd (h x (List.mem_of_getElem? hx)) hp⟩;simp only [Option.bind_some];rw [decide_eq_true (by omega)];rfl
 ·refine ⟨true, rfl, fun _ x hx => ?_, fun _ => rfl⟩;obtain ⟨i, hi⟩ := List.getElem?_of_mem hx;exact Classical.byContradiction fun hp => hn i (List.getElem?_eq_some_iff.1 hi).1 ⟨x, hi, hp⟩
theorem cf_Arg {xs : List Arg} (hl : xs.length ≤ 1000) {g : Arg → Option Bool} {P : Arg → Prop} (h : ∀ x ∈ xs, ∃ b, g x = some (!b) ∧ (b = true ↔ P x)) : ∃ b, B_slices_ContainsFunc_Arg B_slices_IndexFunc_Arg xs g = some (!b) ∧ (b = true ↔ ∀ x ∈ xs, P x) := by
 have hbig : (1000 : Nat) ≤ maxLen := by unfold maxLen; decide
 obtain ⟨r, h1, h2⟩ := zZ (n := xs.length) (by omega) (f := zO xs g) (fun i => ∃ x, xs[i]? = some x ∧ ¬ P x) (fun i => (i : Int)) (fun i hi => by
  unfold zO;obtain ⟨b, h3, h4⟩ := h _ (List.getElem_mem hi);simp only [dlt hi, if_true, qx hi, Option.bind_some, h3, List.getElem?_eq_getElem hi, Option.some.injEq, exists_eq_left'];cases b with
  | true => exact .inr ⟨rfl, fun hn => hn (h4.1 rfl)⟩
  | false => exact .inl ⟨rfl, fun hp => by have := h4.2 hp; cases this⟩) (by
  unfold zO;simp only [dge, Bool.false_eq_true, if_false])
 unfold B_slices_ContainsFunc_Arg B_slices_IndexFunc_Arg;rw [h1];rcases h2 with ⟨i, hi, rfl, ⟨x, hx, hp⟩, _⟩ | ⟨rfl, hn⟩
 ·refine ⟨false, ?_, fun h => (by cases h), fun h => absurd (h x (List.mem_of_getElem? hx)) hp⟩;simp only [Option.bind_some];rw [decide_eq_true (by omega)];rfl
 ·refine ⟨true, rfl, fun _ x hx => ?_, fun _ => rfl⟩;obtain ⟨i, hi⟩ := List.getElem?_of_mem hx;exact Classical.byContradiction fun hp => hn i (List.getElem?_eq_some_iff.1 hi).1 ⟨x, hi, hp⟩
theorem all_eq (s : Clock) {l : List Op} (hf : ∀ o ∈ l, opFit o) (hl : l.length ≤ 10000) : ∃ c e c' e', YM s l = some (c, e) ∧ m_rAll s l = some (c', e') ∧ (e = 0 ↔ e' = 0) ∧ (e = 0 → c' = c) := by
 have hbig : (1000000 : Nat) ≤ maxLen := by unfold maxLen; decide
 have main : ∀ (k i : Nat) (c : Clock), i + k = l.length → (∃ c1 c2 : Clock, qy (zL l zX) ((i : Int), c, (⟨0, 0⟩ : Clock)) = some (.inr (c1, c2)) ∧ ∃ c3 : Clock, qy (Qs l Jy) ((i : Int), c, (⟨0, 0⟩ : Clock)) = some (.inr (c1, c3))) ∨ ∃ r r' : Clock × Int, qy (zL l zX) ((i : Int), c, (⟨0, 0⟩ : Clock)) = some (.inl r) ∧ qy (Qs l Jy) ((i : Int), c, (⟨0, 0⟩ : Clock)) = some (.inl r') ∧ r.2 ≠ 0 ∧ r'.2 ≠ 0 := by
  intro k;induction k with
  | zero =>
   intro i c hi;obtain rfl : i = l.length := by omega
   refine .inl ⟨c, ⟨0, 0⟩, QO ?_, ⟨0, 0⟩, QO ?_⟩
   ·unfold zL;simp only [dge, Bool.false_eq_true, if_false]
   ·unfold Qs;simp only [dge, Bool.false_eq_true, if_false]
  | succ k ih =>
   intro i c hi;have hil : i < l.length := by omega
   obtain ⟨d, e, d', e', g1, g2, g3, g4⟩ := apply_eq c (hf _ (List.getElem_mem hil));by_cases he : e = 0
   ·have he' := g3.1 he;have hd := g4 he;subst he he' hd;have s1 : zL l zX ((i : Int), c, (⟨0, 0⟩ : Clock)) = some (.inl (((i + 1 : Nat) : Int), d', (⟨0, 0⟩ : Clock))) := by
     unfold zL;simp only [dlt hil, if_true, qx hil, Option.bind_some, g1, decide_true, Bool.not_true, Bool.false_eq_true, if_false, zA hil (by omega)]
    have s2 : Qs l Jy ((i : Int), c, (⟨0, 0⟩ : Clock)) = some (.inl (((i + 1 : Nat) : Int), d', (⟨0, 0⟩ : Clock))) := by
     unfold Qs;simp only [dlt hil, if_true, qx hil, Option.bind_some, g2, decide_true, Bool.not_true, Bool.false_eq_true, if_false, zA hil (by omega)]
    rw [YN s1, YN s2];exact ih (i + 1) d' (by omega)
   ·have he' : e' ≠ 0 := fun h => he (g3.2 h);refine .inr ⟨(⟨0, 0⟩, e), (⟨0, 0⟩, e'), QO ?_, QO ?_, he, he'⟩
    ·unfold zL;simp only [dlt hil, if_true, qx hil, Option.bind_some, g1, decide_eq_false he, Bool.not_false]
    ·unfold Qs;simp only [dlt hil, if_true, qx hil, Option.bind_some, g2, decide_eq_false he', Bool.not_false, if_true]
 obtain ⟨b, hb1, hb2⟩ := rr_eq s;unfold YM B_clock_All m_rAll B_ref02_All;rw [hb1, hb2];simp only [Option.bind_some];cases b with
 | false => exact ⟨_, _, _, _, rfl, rfl, Iff.rfl, fun h => by simp at h⟩
 | true =>
  simp only [Bool.not_true, Bool.false_eq_true, if_false];rcases main l.length 0 s (by omega) with ⟨c1, c2, h1, c3, h2⟩ | ⟨r, r', h1, h2, h3, h4⟩
  ·rw [show ((0 : Nat) : Int) = (0 : Int) from rfl] at h1 h2;rw [h1, h2];exact ⟨_, _, _, _, rfl, rfl, Iff.rfl, fun _ => rfl⟩
  ·rw [show ((0 : Nat) : Int) = (0 : Int) from rfl] at h1 h2;rw [h1, h2];exact ⟨_, _, _, _, rfl, rfl, ⟨fun h => absurd h h3, fun h => absurd h h4⟩, fun h => absurd h h3⟩
noncomputable def srcF (F : Flat) (i : Int) : Clock × Bool := if 0 ≤ i ∧ i < (F.inputs.length : Int) then ((F.inputs[i.toNat]?).getD ⟨0, 0⟩, true) else if (F.inputs.length : Int) ≤ i ∧ i < (F.inputs.length : Int) + (F.tasks.length : Int) then (((F.tasks[(i - (F.inputs.length : Int)).toNat]?).map (·.clock)).getD ⟨0, 0⟩, true) else (⟨0, 0⟩, false)
theorem YZ {α : Type} {l : List α} {i : Int} (h0 : 0 ≤ i) (h1 : i < (l.length : Int)) : ∃ h : i.toNat < l.length, qC l i = some l[i.toNat] := by
 refine ⟨by omega, ?_⟩;unfold qC;rw [if_pos h0];exact List.getElem?_eq_getElem _
theorem v_src {F : Flat} (hF : FlatF F) (i : Int) : B_flat_Source F i = some (srcF F i) ∧ qqs F i = some (srcF F i) := by
 have h1 := hF.inputs;have h2 := hF.tasks;have hw : IntKind.i64.wrap ((F.inputs.length : Int) + (F.tasks.length : Int)) = (F.inputs.length : Int) + (F.tasks.length : Int) := zT (by omega) (by omega);unfold B_flat_Source qqs B_ref08_source srcF;rw [hw];by_cases c1 : 0 ≤ i ∧ i < (F.inputs.length : Int)
 ·obtain ⟨hl, hg⟩ := YZ c1.1 c1.2;have e1 : ¬ (i < 0) := by omega
  have e2 : ¬ ((F.inputs.length : Int) + (F.tasks.length : Int) ≤ i) := by omega
  rw [if_pos c1];simp only [decide_eq_false e1, decide_eq_false e2, Bool.or_self, Bool.false_eq_true, if_false, decide_eq_true c1.1, decide_eq_true c1.2, Bool.and_self, if_true, hg, Option.bind_some, List.getElem?_eq_getElem hl, Option.getD_some];exact ⟨trivial, trivial⟩
 ·rw [if_neg c1];by_cases c2 : (F.inputs.length : Int) ≤ i ∧ i < (F.inputs.length : Int) + (F.tasks.length : Int)
  ·have hs : IntKind.i64.wrap (i - (F.inputs.length : Int)) = i - (F.inputs.length : Int) := zT (by omega) (by omega);obtain ⟨hl, hg⟩ := YZ (l := F.tasks) (i := i - (F.inputs.length : Int)) (by omega) (by omega);have e1 : ¬ (i < 0) := by omega
   have e2 : ¬ ((F.inputs.length : Int) + (F.tasks.length : Int) ≤ i) := by omega
   have e3 : ¬ (i < (F.inputs.length : Int)) := by omega
   rw [if_pos c2];simp only [decide_eq_false e1, decide_eq_false e2, decide_eq_false e3, Bool.or_self, Bool.and_false, Bool.false_eq_true, if_false, decide_eq_true c2.1, decide_eq_true c2.2, Bool.and_self, if_true, hs, hg, Option.bind_some, List.getElem?_eq_getElem hl, Option.map_some, Option.getD_some];exact ⟨trivial, trivial⟩
  ·rw [if_neg c2];have e1 : (decide (i < 0) || decide ((F.inputs.length : Int) + (F.tasks.length : Int) ≤ i)) = true := by
    simp only [Bool.or_eq_true, decide_eq_true_eq];omega
   have e2 : (decide (0 ≤ i) && decide (i < (F.inputs.length : Int))) = false := by
    simp only [Bool.and_eq_false_iff, decide_eq_false_iff_not];omega
   have e3 : (decide ((F.inputs.length : Int) ≤ i) && decide (i < (F.inputs.length : Int) + (F.tasks.length : Int))) = false := by
    simp only [Bool.and_eq_false_iff, decide_eq_false_iff_not];omega
   rw [e1, e2, e3];exact ⟨rfl, rfl⟩
noncomputable def YW := B_flat_fits B_flat_Source YM
theorem s_ffits : Sat_flat_fits YW := W_flat_fits _ _ W_flat_Source s_all
def fitS (F : Flat) (a : Arg) (c : Clock) : Prop := Ji F a c = some true
theorem t_ffits {F : Flat} (hF : FlatF F) {a : Arg} (ha : argF a) (c : Clock) : ∃ b, YW F a c = some b ∧ Ji F a c = some b := by
 obtain ⟨h1, h2⟩ := v_src hF a.src;obtain ⟨d, e, d', e', g1, g2, g3, g4⟩ := all_eq (srcF F a.src).1 ha.1 ha.2;unfold YW B_flat_fits Ji B_ref08_fits;rw [h1, h2];simp only [Option.bind_some, g1, g2];cases hk : (srcF F a.src).2 with
 | false => exact ⟨false, by simp, by simp⟩
 | true =>
  by_cases hl : (20 : Int) < (a.ops.length : Int)
  ·have hl' : ¬ ((a.ops.length : Int) ≤ 20) := by omega
   exact ⟨false, by simp [hl'], by simp [hl]⟩
  ·have hl' : (a.ops.length : Int) ≤ 20 := by omega
   by_cases he : e = 0
   ·have he' := g3.1 he;have hd := g4 he;subst he he' hd;exact ⟨_, rfl, by simp [hl, hl']⟩
   ·have he' : e' ≠ 0 := fun h => he (g3.2 h);exact ⟨false, by simp [he], by simp [hl, he']⟩
end Go.Proofs.Ytohmmfimedgccaa.E
end
section
namespace Go.Proofs.Ytohmmfimedgccaa.E
set_option maxRecDepth 100000
set_option maxHeartbeats 4000000
set_option linter.unusedVariables false
set_option linter.unusedSimpArgs false
noncomputable def zY (y7 : Flat) (f5 : Flat → Int → Option (Clock × Bool)) : Int → Option (Int ⊕ (Bool ⊕ Unit))
 | v16 =>
  if (decide (v16 ≤ (IntKind.i64.wrap (((List.length y7.inputs : Nat) : Int) + ((List.length y7.tasks : Nat) : Int))))) then
   ((f5 y7 v16).bind fun y22 =>
   (if ((decide ((0 : Int) ≤ v16)) && (decide (v16 < ((List.length y7.inputs : Nat) : Int)))) then
    (qC y7.inputs v16).bind fun y29 =>
    some y29
   else
    some (Clock.mk (0 : Int) (0 : Int)) : Option Clock).bind fun v27 =>
   (if ((decide (((List.length y7.inputs : Nat) : Int) ≤ v16)) && (decide (v16 < (IntKind.i64.wrap (((List.length y7.inputs : Nat) : Int) + ((List.length y7.tasks : Nat) : Int)))))) then
    (qC y7.tasks (IntKind.i64.wrap (v16 - ((List.length y7.inputs : Nat) : Int)))).bind fun y37 =>
    some y37.clock
   else
    some v27 : Option Clock).bind fun v35 =>
   if ((!(decide (y22.1.period = v35.period) && (decide (y22.1.phase = v35.phase)))) || (!decide (y22.2 = ((decide ((0 : Int) ≤ v16)) && (decide (v16 < (IntKind.i64.wrap (((List.length y7.inputs : Nat) : Int) + ((List.length y7.tasks : Nat) : Int))))))))) then
    some (.inl false)
   else
    some (.inr ()) : Option (Bool ⊕ Unit)).bind fun x => match x with
   | .inl r => some (.inr (.inl r))
   | .inr _ =>
    some (.inl (IntKind.i64.wrap (v16 + (1 : Int))))
  else
   some (.inr (.inr ()))
noncomputable def B_law08_FlatRight (f0 : Option Bool) (f1 : Flat → Option Bool) (f2 : Program → Option (Flat × Bool)) (f3 : Flat → Int → Int → Int → Option Flat) (f4 : Flat → Option Bool) (f5 : Flat → Int → Option (Clock × Bool)) (a0 : Program) (a1 : Int) (a2 : (Int × Int)) : Option Bool :=
 (f0).bind fun y1 =>
 if (!y1) then
  some false
 else
  (f2 a0).bind fun y4 =>
  if (!y4.2) then
   some true
  else
   (f3 y4.1 (IntKind.i64.wrap a2.1) a1 a2.2).bind fun y7 =>
   (f4 y7).bind fun y9 =>
   (f1 y7).bind fun y11 =>
   if (!decide (y9 = y11)) then
    some false
   else
    (qy (zY y7 f5) (-1 : Int) : Option (Bool ⊕ Unit)).bind fun x => match x with
    | .inl r => some r
    | .inr _ =>
     some true
theorem W_law08_FlatRight (f0 f1 f2 f3 f4 f5) (S0 : Sat_law08_awake f0) (S1 : Sat_ref08_Right f1) (S2 : Sat_law08_Made f2) (S3 : Sat_law08_bent f3) (S4 : Sat_flat_Right f4) (S5 : Sat_flat_Source f5) : Sat_law08_FlatRight (B_law08_FlatRight f0 f1 f2 f3 f4 f5) := by
 intro a0 a1 a2 r h σ K hK;refine qW Try.func6 rfl rfl (by kernel_rfl) ?_;unfold B_law08_FlatRight at h;have hP := Pre.refl σ;have E0 : qz [(.ag (Program.cl a0)), (.v (.int .i64 a1)), (.ag [(.v (.int .u8 a2.1)), (.v (.int .u8 a2.2))])] 0 = (.ag (Program.cl a0)) := rfl;have E1 : qz [(.ag (Program.cl a0)), (.v (.int .i64 a1)), (.ag [(.v (.int .u8 a2.1)), (.v (.int .u8 a2.2))])] 1 = (.v (.int .i64 a1)) := rfl;have E2 : qz [(.ag (Program.cl a0)), (.v (.int .i64 a1)), (.ag [(.v (.int .u8 a2.1)), (.v (.int .u8 a2.2))])] 2 = (.ag [(.v (.int .u8 a2.1)), (.v (.int .u8 a2.2))]) := rfl;have TT := cj3 Clock.cle Expr.rlen (ZC Flat.cle Program.cle T_2 T_22 T_23 T_24 T_25 T_27 T_3 T_33 T_4 T_43 T_46 T_47 T_49 T_5 T_59 T_61 T_74 Task.cle);refine qk (fun e s => ∃ i3 i5 : Nat, Bx σ s i3 27 (Program.cl a0) ∧ Bx σ s i5 74 [(.v (.int .u8 a2.1)), (.v (.int .u8 a2.2))] ∧ eI e 1 a1 ∧ eP e 3 i3 ∧ eP e 5 i5 ∧ Pre σ s) ?_ ?_
 ·refine w_x (cj3 E0 E2 TT) ?_;exact qe ⟨σ.length, (σ ++ [some (AObj.box 27 (Program.cl a0))]).length, ((Bx.new hP 27 (Program.cl a0)).app [some (AObj.box 74 [(.v (.int .u8 a2.1)), (.v (.int .u8 a2.2))])]), (Bx.new (hP.app _) 74 [(.v (.int .u8 a2.1)), (.v (.int .u8 a2.2))]), E1, (xv (cj3 E0 E2 TT)), (xv (cj3 E0 E2 TT)), ((hP.app _).app _)⟩
 rintro e s ⟨i3, i5, X3, X5, E1, E3, E5, hP⟩
 refine qd (ZX (cj5 E5 X5.get tn0 tn1 TT) ?_);refine qf (ql (qd ?_));obtain ⟨y1, h2, h⟩ := qb h;refine w_x Expr.rlen ?_;refine S0 _ h2 _ _  ?_;refine w_y Expr.rlen ?_;refine qf (qd ?_);rcases qi h with ⟨hb3, h⟩ | ⟨hb3, h⟩
 ·refine xt hb3 (qd (w_x Expr.rlen ?_));refine qf (qp (zd ?_));obtain rfl := qa h;exact qt (fun _ => rfl) (xr (rs := #[.tmp 6]) TT) hP (.refl _) (.v _) hK
 ·refine xf hb3 (qm (qf ?_));obtain ⟨y4, h5, h⟩ := qb h;refine qk (fun e s => ∃ i9 : Nat, Bx σ s i9 49 (Flat.cl y4.1) ∧ eI e 1 a1 ∧ e 7 = (.v (.int .u8 a2.1)) ∧ e 8 = (.v (.int .u8 a2.2)) ∧ eP e 9 i9 ∧ eB e 10 y4.2 ∧ Pre σ s) ?_ ?_
  ·have q1 := cj3 E3 X3.g3 TT;refine w_x q1 ?_;refine S2 _ _ h5 _ _  ?_;refine w_y q1 ?_;exact qe ⟨s.length, (Bx.new hP _ _), E1, (xv q1), (xv q1), (xv q1), (xv q1), (hP.app _)⟩
  rintro e s ⟨i9, X9, E1, E7, E8, E9, E10, hP⟩
  refine ql (qd (w_x (cj2 E10 TT) ?_));refine qf (qd ?_);rcases qi h with ⟨hb6, h⟩ | ⟨hb6, h⟩
  ·refine xt hb6 (qd (w_x Expr.rlen ?_));refine qf (qp (zd ?_));obtain rfl := qa h;exact qt (fun _ => rfl) (xr (rs := #[.tmp 6]) TT) hP (.refl _) (.v _) hK
  ·refine xf hb6 (qm (qf ?_));obtain ⟨y7, h8, h⟩ := qb h;refine qk (fun e s => Bx σ s i9 49 (Flat.cl y7) ∧ eP e 9 i9 ∧ Pre σ s) ?_ ?_
   ·have q2 := cj7 E1 E7 E8 E9 X9.get X9.samea TT;refine w_x q2 ?_;refine S3 _ _ _ _ _ h8 _ _  ?_;refine w_y q2 ?_;exact qe ⟨(X9.same _ _), E9, (hP.set X9.le (some (AObj.box 49 (Flat.cl y7))))⟩
   rintro e s ⟨X9, E9, hP⟩
   refine ql ?_;obtain ⟨y9, h10, h⟩ := qb h;obtain ⟨y11, h12, h⟩ := qb h;refine qk (fun e s => Bx σ s i9 49 (Flat.cl y7) ∧ eP e 9 i9 ∧ eB e 38 (!decide (y9 = y11)) ∧ Pre σ s) ?_ ?_
   ·have q3 := cj3 E9 X9.get TT;refine zn 3 0 q3 ?_;refine S4 _ _ h10 _ _  ?_;refine Jv q3 ?_ ;refine za q3 ?_;refine S1 _ _ h12 _ _  ?_;refine w_y q3 ?_;exact qe ⟨X9, E9, (xv q3), hP⟩
   rintro e s ⟨X9, E9, E38, hP⟩
   refine qd ?_;rcases qi h with ⟨hb13, h⟩ | ⟨hb13, h⟩
   ·refine xt (cj2 E38 hb13) (qd (w_x Expr.rlen ?_));refine qf (qp (zd ?_));obtain rfl := qa h;exact qt (fun _ => rfl) (xr (rs := #[.tmp 6]) TT) hP (.refl _) (.v _) hK
   ·refine xf (cj2 E38 hb13) (qm (qf (ql (qd (w_x Expr.rlen ?_)))));refine qf ?_;obtain ⟨x14, h15, h⟩ := qb h;refine qk (fun e s => .inr () = x14 ∧ Pre σ s) ?_ ?_
    ·refine qn (qH h15 (fun v e s => ∃ v16, v16 = v ∧ Bx σ s i9 49 (Flat.cl y7) ∧ eP e 9 i9 ∧ eI e 11 v16 ∧ Pre σ s) ⟨_, WkE.refl _, _, rfl, X9, E9, (xv TT), hP⟩ ?_)
     rintro v x17 e s hf18 ⟨v16, rfl, X9, E9, E11, hP⟩
     unfold zY at hf18;(try dsimp only at hf18);refine ql (qd (w_x (cj4 E9 E11 X9.get TT) ?_));refine qf (qd ?_);rcases qi hf18 with ⟨hb19, hf18⟩ | ⟨hb19, hf18⟩
     ·refine xt hb19 (qm (qf ?_));obtain ⟨x20, h21, hf18⟩ := qb hf18;refine qk (fun e s => .inr () = x20 ∧ Bx σ s i9 49 (Flat.cl y7) ∧ eP e 9 i9 ∧ eI e 11 v16 ∧ Pre σ s) ?_ ?_
      ·refine qn ?_;obtain ⟨y22, h23, h21⟩ := qb h21;refine qk (fun e s => ∃ i12 : Nat, Bx σ s i12 43 (Clock.cl y22.1) ∧ Bx σ s i9 49 (Flat.cl y7) ∧ eP e 9 i9 ∧ eI e 11 v16 ∧ eP e 12 i12 ∧ eB e 13 y22.2 ∧ i12 ≠ i9 ∧ Pre σ s) ?_ ?_
       ·have q4 := cj4 E9 E11 X9.g3 TT;refine w_x q4 ?_;refine S5 _ _ _ h23 _ _  ?_;refine w_y q4 ?_;exact qe ⟨s.length, (Bx.new hP _ _), (X9.app _), E9, E11, (xv q4), (xv q4), (Ne.symm (Nat.ne_of_lt X9.lt)), (hP.app _)⟩
       rintro e s ⟨i12, X12, X9, E9, E11, E12, E13, N12__9, hP⟩
       refine qk (fun e s => ∃ i14 : Nat, Bx σ s i12 43 (Clock.cl y22.1) ∧ Bx σ s i14 43 [(.v (.int .i64 (0 : Int))), (.v (.int .i64 (0 : Int)))] ∧ Bx σ s i9 49 (Flat.cl y7) ∧ eP e 9 i9 ∧ eI e 11 v16 ∧ eP e 12 i12 ∧ eB e 13 y22.2 ∧ eP e 14 i14 ∧ i12 ≠ i14 ∧ i12 ≠ i9 ∧ i14 ≠ i9 ∧ Pre σ s) ?_ ?_
       ·refine w_x TT ?_;exact qe ⟨s.length, (X12.app _), (Bx.new hP _ _), (X9.app _), E9, E11, E12, E13, (xv TT), (Nat.ne_of_lt X12.lt), N12__9, (Ne.symm (Nat.ne_of_lt X9.lt)), (hP.app _)⟩
       rintro e s ⟨i14, X12, X14, X9, E9, E11, E12, E13, E14, N12__14, N12__9, N14__9, hP⟩
       refine ql (qk (fun e s => Bx σ s i12 43 (Clock.cl y22.1) ∧ Bx σ s i14 43 [(.v (.int .i64 (0 : Int))), (.v (.int .i64 (0 : Int)))] ∧ Bx σ s i9 49 (Flat.cl y7) ∧ eP e 9 i9 ∧ eI e 11 v16 ∧ eP e 12 i12 ∧ eB e 13 y22.2 ∧ eP e 14 i14 ∧ eB e 65 ((decide ((0 : Int) ≤ v16)) && (decide (v16 < ((List.length y7.inputs : Nat) : Int)))) ∧ i12 ≠ i14 ∧ i12 ≠ i9 ∧ i14 ≠ i9 ∧ Pre σ s) ?_ ?_)
       ·cases hb24 : (decide ((0 : Int) ≤ v16))
        ·refine w_x (cj5 E9 E11 X9.get hb24 TT) ?_;exact qe ⟨X12, X14, X9, E9, E11, E12, E13, E14, (xv (cj5 E9 E11 X9.get hb24 TT)), N12__14, N12__9, N14__9, hP⟩
        ·refine w_x (cj5 E9 E11 X9.get hb24 TT) ?_;exact qe ⟨X12, X14, X9, E9, E11, E12, E13, E14, (xv (cj5 E9 E11 X9.get hb24 TT)), N12__14, N12__9, N14__9, hP⟩
       rintro e s ⟨X12, X14, X9, E9, E11, E12, E13, E14, E65, N12__14, N12__9, N14__9, hP⟩
       obtain ⟨x25, h26, h21⟩ := qb h21;refine qk (fun e s => ∃ v27, v27 = x25 ∧ Bx σ s i12 43 (Clock.cl y22.1) ∧ Bx σ s i14 43 (Clock.cl v27) ∧ Bx σ s i9 49 (Flat.cl y7) ∧ eP e 9 i9 ∧ eI e 11 v16 ∧ eP e 12 i12 ∧ eB e 13 y22.2 ∧ eP e 14 i14 ∧ i12 ≠ i14 ∧ i12 ≠ i9 ∧ i14 ≠ i9 ∧ Pre σ s) ?_ ?_
       ·rcases qi h26 with ⟨hb28, h26⟩ | ⟨hb28, h26⟩
        ·refine xt (cj2 E65 hb28) ?_;obtain ⟨y29, h30, h26⟩ := qb h26;have R31 := qA (f := Clock.cl) (qg h30).2;refine w_x (Zt E9 E11 E14 X14.get X9.get R31 (qg h30).1 X14.samea (X9.nea N14__9) TT) ?_;obtain rfl := qa h26;exact qe ⟨_, rfl, (X12.ne (Ne.symm N12__14) _), (X14.same _ _), (X9.ne N14__9 _), E9, E11, E12, E13, E14, N12__14, N12__9, N14__9, (hP.set X14.le (some (AObj.box 43 (Clock.cl y29))))⟩
        ·refine xf (cj2 E65 hb28) (qm ?_);obtain rfl := qa h26;exact qe ⟨_, rfl, X12, X14, X9, E9, E11, E12, E13, E14, N12__14, N12__9, N14__9, hP⟩
       rintro e s ⟨v27, rfl, X12, X14, X9, E9, E11, E12, E13, E14, N12__14, N12__9, N14__9, hP⟩
       (try dsimp only at h21);refine ql (qk (fun e s => Bx σ s i12 43 (Clock.cl y22.1) ∧ Bx σ s i14 43 (Clock.cl v27) ∧ Bx σ s i9 49 (Flat.cl y7) ∧ eP e 9 i9 ∧ eI e 11 v16 ∧ eP e 12 i12 ∧ eB e 13 y22.2 ∧ eP e 14 i14 ∧ eB e 86 ((decide (((List.length y7.inputs : Nat) : Int) ≤ v16)) && (decide (v16 < (IntKind.i64.wrap (((List.length y7.inputs : Nat) : Int) + ((List.length y7.tasks : Nat) : Int)))))) ∧ i12 ≠ i14 ∧ i12 ≠ i9 ∧ i14 ≠ i9 ∧ Pre σ s) ?_ ?_)
       ·cases hb32 : (decide (((List.length y7.inputs : Nat) : Int) ≤ v16))
        ·refine w_x (cj5 E9 E11 X9.get hb32 TT) ?_;exact qe ⟨X12, X14, X9, E9, E11, E12, E13, E14, (xv (cj5 E9 E11 X9.get hb32 TT)), N12__14, N12__9, N14__9, hP⟩
        ·refine w_x (cj5 E9 E11 X9.get hb32 TT) ?_;exact qe ⟨X12, X14, X9, E9, E11, E12, E13, E14, (xv (cj5 E9 E11 X9.get hb32 TT)), N12__14, N12__9, N14__9, hP⟩
       rintro e s ⟨X12, X14, X9, E9, E11, E12, E13, E14, E86, N12__14, N12__9, N14__9, hP⟩
       obtain ⟨x33, h34, h21⟩ := qb h21;refine qk (fun e s => ∃ v35, v35 = x33 ∧ Bx σ s i12 43 (Clock.cl y22.1) ∧ Bx σ s i14 43 (Clock.cl v35) ∧ Bx σ s i9 49 (Flat.cl y7) ∧ eP e 9 i9 ∧ eI e 11 v16 ∧ eP e 12 i12 ∧ eB e 13 y22.2 ∧ eP e 14 i14 ∧ i12 ≠ i14 ∧ i12 ≠ i9 ∧ i14 ≠ i9 ∧ Pre σ s) ?_ ?_
       ·rcases qi h34 with ⟨hb36, h34⟩ | ⟨hb36, h34⟩
        ·refine xt (cj2 E86 hb36) ?_;obtain ⟨y37, h38, h34⟩ := qb h34;have R39 := qA (f := Task.cl) (qg h38).2;refine w_x (Zt E9 E11 E14 X14.get X9.get R39 (qg h38).1 X14.samea (X9.nea N14__9) TT) ?_;obtain rfl := qa h34;exact qe ⟨_, rfl, (X12.ne (Ne.symm N12__14) _), (X14.same _ _), (X9.ne N14__9 _), E9, E11, E12, E13, E14, N12__14, N12__9, N14__9, (hP.set X14.le (some (AObj.box 43 (Clock.cl y37.clock))))⟩
        ·refine xf (cj2 E86 hb36) (qm ?_);obtain rfl := qa h34;exact qe ⟨_, rfl, X12, X14, X9, E9, E11, E12, E13, E14, N12__14, N12__9, N14__9, hP⟩
       rintro e s ⟨v35, rfl, X12, X14, X9, E9, E11, E12, E13, E14, N12__14, N12__9, N14__9, hP⟩
       (try dsimp only at h21);refine qk (fun e s => Bx σ s i9 49 (Flat.cl y7) ∧ eP e 9 i9 ∧ eI e 11 v16 ∧ eB e 116 ((!(decide (y22.1.period = v35.period) && (decide (y22.1.phase = v35.phase)))) || (!decide (y22.2 = ((decide ((0 : Int) ≤ v16)) && (decide (v16 < (IntKind.i64.wrap (((List.length y7.inputs : Nat) : Int) + ((List.length y7.tasks : Nat) : Int))))))))) ∧ Pre σ s) ?_ ?_
       ·cases hb40 : (!(decide (y22.1.period = v35.period) && (decide (y22.1.phase = v35.phase))))
        ·cases hb41 : (decide ((0 : Int) ≤ v16))
         ·have q5 := YH E9 E11 E12 E13 E14 X12.get X14.get X9.get hb40 hb41 TT;refine w_x q5 ?_;exact qe ⟨X9, E9, E11, (xv q5), hP⟩
         ·have q6 := YH E9 E11 E12 E13 E14 X12.get X14.get X9.get hb40 hb41 TT;refine w_x q6 ?_;exact qe ⟨X9, E9, E11, (xv q6), hP⟩
        ·have q7 := Zt E9 E11 E12 E13 E14 X12.get X14.get X9.get hb40 TT;refine w_x q7 ?_;exact qe ⟨X9, E9, E11, (xv q7), hP⟩
       rintro e s ⟨X9, E9, E11, E116, hP⟩
       rcases qi h21 with ⟨hb42, h21⟩ | ⟨hb42, h21⟩
       ·refine xt (cj2 E116 hb42) (qd (w_x Expr.rlen ?_));refine qf (qp (qw ?_));obtain rfl := qa h21;refine qB ?_;(try dsimp only at hf18);obtain rfl := qa hf18;refine zv rfl fun hr43 => ?_;obtain rfl := hr43;refine qw (qB ?_);(try dsimp only at h);obtain rfl := qa h;exact qt (fun _ => rfl) (xr (rs := #[.tmp 6]) TT) hP (.refl _) (.v _) hK
       ·refine xf (cj2 E116 hb42) (qm (qQ ?_));obtain rfl := qa h21;exact qe ⟨rfl, X9, E9, E11, hP⟩
      rintro e s ⟨rfl, X9, E9, E11, hP⟩
      (try dsimp only at hf18);refine w_x (cj2 E11 TT) ?_;obtain rfl := qa hf18;exact qZ rfl ⟨_, rfl, X9, E9, (xv (cj2 E11 TT)), hP⟩
     ·refine xf hb19 (qE (qM ?_));obtain rfl := qa hf18;refine qY rfl fun hr44 => ?_;obtain rfl := hr44;exact qK (qe ⟨rfl, hP⟩)
    rintro e s ⟨rfl, hP⟩
    (try dsimp only at h);refine qd (w_x Expr.rlen ?_);refine qf (qp ?_);obtain rfl := qa h;exact qt (fun _ => rfl) (xr (rs := #[.tmp 6]) TT) hP (.refl _) (.v _) hK
noncomputable def B_law08_Made (f0 : Program → Option Bool) (f1 : Program → Option Bool) (f2 : Program → Option ((List Clock) × Int × Int)) (f3 : Program → (List Clock) → Option (Flat × Int × Int)) (a0 : Program) : Option (Flat × Bool) :=
 (f0 a0).bind fun y1 =>
 (if (!y1) then
  some false
 else
  (f1 a0).bind fun y3 =>
  some (!y3)).bind fun w5 =>
 if ((!y1) || w5) then
  some ((Flat.mk ([]) ([]) ([]) ([])), false)
 else
  (f2 a0).bind fun y9 =>
  if (!decide (y9.2.2 = (0 : Int))) then
   some ((Flat.mk ([]) ([]) ([]) ([])), false)
  else
   (f3 a0 y9.1).bind fun y12 =>
   some (y12.1, (decide (y12.2.2 = (0 : Int))))
theorem W_law08_Made (f0 f1 f2 f3) (S0 : Sat_ref04_Right f0) (S1 : Sat_ref06_Names f1) (S2 : Sat_check_Clocks f2) (S3 : Sat_flat_Make f3) : Sat_law08_Made (B_law08_Made f0 f1 f2 f3) := by
 intro a0 r h σ K hK;refine qW Try.func28 rfl rfl (by kernel_rfl) ?_;unfold B_law08_Made at h;have hP := Pre.refl σ;have E0 : qz [(.ag (Program.cl a0))] 0 = (.ag (Program.cl a0)) := rfl;have TT := Yl Expr.rlen Flat.cle Program.cle T_22 T_23 T_24 T_25 T_27 T_30 T_33 T_43 T_46 T_47 T_49;refine qk (fun e s => ∃ i1 i2 : Nat, Bx σ s i1 27 (Program.cl a0) ∧ Bx σ s i2 49 [.e0, .e0, .e0, .e0] ∧ eP e 1 i1 ∧ eP e 2 i2 ∧ i1 ≠ i2 ∧ Pre σ s) ?_ ?_
 ·refine w_x (cj2 E0 TT) ?_;have q1 := Bx.new hP 27 (Program.cl a0);exact qe ⟨σ.length, (σ ++ [some (AObj.box 27 (Program.cl a0))]).length, (q1.app _), (Bx.new (hP.app _) 49 [.e0, .e0, .e0, .e0]), (xv (cj2 E0 TT)), (xv (cj2 E0 TT)), (Nat.ne_of_lt q1.lt), ((hP.app _).app _)⟩
 rintro e s ⟨i1, i2, X1, X2, E1, E2, N1__2, hP⟩
 refine ql ?_;obtain ⟨y1, h2, h⟩ := qb h;obtain ⟨w5, h6, h⟩ := qb h;refine qk (fun e s => Bx σ s i1 27 (Program.cl a0) ∧ Bx σ s i2 49 [.e0, .e0, .e0, .e0] ∧ eP e 1 i1 ∧ eP e 2 i2 ∧ eB e 17 ((!y1) || w5) ∧ i1 ≠ i2 ∧ Pre σ s) ?_ ?_
 ·cases hb7 : (!y1)
  ·replace h6 := qU (by simp only [hb7, Bool.or_true, Bool.true_or, Bool.or_false, Bool.false_or, Bool.and_true, Bool.true_and, Bool.and_false, Bool.false_and, Bool.not_true, Bool.not_false, cond_true, cond_false]) h6;obtain ⟨y3, h4, h6⟩ := qb h6;obtain rfl := qa h6;have q2 := cj4 E1 X1.get hb7 TT;refine w_x q2 ?_;refine S0 _ _ h2 _ _  ?_;refine w_y q2 ?_;refine S1 _ _ h4 _ _  ?_;refine w_y q2 ?_;exact qe ⟨X1, X2, E1, E2, (xv q2), N1__2, hP⟩
  ·replace h6 := qO (by simp only [hb7, Bool.or_true, Bool.true_or, Bool.or_false, Bool.false_or, Bool.and_true, Bool.true_and, Bool.and_false, Bool.false_and, Bool.not_true, Bool.not_false, cond_true, cond_false]) h6;obtain rfl := qa h6;have q3 := cj4 E1 X1.get hb7 TT;refine w_x q3 ?_;refine S0 _ _ h2 _ _  ?_;refine w_y q3 ?_;exact qe ⟨X1, X2, E1, E2, (xv q3), N1__2, hP⟩
 rintro e s ⟨X1, X2, E1, E2, E17, N1__2, hP⟩
 refine qd ?_;rcases qi h with ⟨hb8, h⟩ | ⟨hb8, h⟩
 ·refine xt (cj2 E17 hb8) (qk (fun e s => Bx σ s i2 49 [.e0, .e0, .e0, .e0] ∧ eP e 2 i2 ∧ eB e 3 false ∧ Pre σ s) ?_ ?_)
  ·have q4 := X2.same 49 [.e0, .e0, .e0, .e0];refine w_x (cj4 E2 X2.get q4.get TT) ?_;exact qe ⟨q4, E2, (xv (cj4 E2 X2.get q4.get TT)), (hP.set X2.le (some (AObj.box 49 [.e0, .e0, .e0, .e0])))⟩
  rintro e s ⟨X2, E2, E3, hP⟩
  refine qp (zd ?_);obtain rfl := qa h;exact qt (fun _ => rfl) (xr (rs := #[.cell 2 49, .tmp 3]) (cj4 X2.get E2 E3 TT)) hP (Wk.tul (.cons (Wk.agl (.cons .e0 (.cons .e0 (.cons .e0 (.cons .e0 .nil))))) (.cons (.refl _) .nil))) (.tu (CnL.cons (.ag (CnL.cons Cn.sl0 (CnL.cons Cn.sl0 (CnL.cons Cn.sl0 (CnL.cons Cn.sl0 CnL.nil))))) (CnL.cons (.v _) CnL.nil))) hK
 ·refine xf (cj2 E17 hb8) (qm (qf (qd ?_)));obtain ⟨y9, h10, h⟩ := qb h;refine w_x (cj3 E1 X1.get TT) ?_;refine S2 _ _ h10 _ _  ?_;refine w_y (cj3 E1 X1.get TT) ?_;refine qf (ql (qd (w_x TT ?_)));refine qf (qd ?_);rcases qi h with ⟨hb11, h⟩ | ⟨hb11, h⟩
  ·refine xt hb11 (qk (fun e s => Bx σ s i2 49 [.e0, .e0, .e0, .e0] ∧ eP e 2 i2 ∧ eB e 3 false ∧ Pre σ s) ?_ ?_)
   ·have q5 := X2.same 49 [.e0, .e0, .e0, .e0];refine w_x (cj4 E2 X2.get q5.get TT) ?_;exact qe ⟨q5, E2, (xv (cj4 E2 X2.get q5.get TT)), (hP.set X2.le (some (AObj.box 49 [.e0, .e0, .e0, .e0])))⟩
   rintro e s ⟨X2, E2, E3, hP⟩
   refine qp (zd ?_);obtain rfl := qa h;exact qt (fun _ => rfl) (xr (rs := #[.cell 2 49, .tmp 3]) (cj4 X2.get E2 E3 TT)) hP (Wk.tul (.cons (Wk.agl (.cons .e0 (.cons .e0 (.cons .e0 (.cons .e0 .nil))))) (.cons (.refl _) .nil))) (.tu (CnL.cons (.ag (CnL.cons Cn.sl0 (CnL.cons Cn.sl0 (CnL.cons Cn.sl0 (CnL.cons Cn.sl0 CnL.nil))))) (CnL.cons (.v _) CnL.nil))) hK
  ·refine xf hb11 (qm (qf ?_));obtain ⟨y12, h13, h⟩ := qb h;refine qk (fun e s => ∃ i7 : Nat, Bx σ s i2 49 [.e0, .e0, .e0, .e0] ∧ Bx σ s i7 49 (Flat.cl y12.1) ∧ eP e 2 i2 ∧ eP e 7 i7 ∧ eI e 9 y12.2.2 ∧ i2 ≠ i7 ∧ Pre σ s) ?_ ?_
   ·have q6 := cj3 E1 X1.g3 TT;refine w_x q6 ?_;refine S3 _ _ _ h13 _ _  ?_;refine w_y q6 ?_;exact qe ⟨s.length, (X2.app _), (Bx.new hP _ _), E2, (xv q6), (xv q6), (Nat.ne_of_lt X2.lt), (hP.app _)⟩
   rintro e s ⟨i7, X2, X7, E2, E7, E9, N2__7, hP⟩
   refine qk (fun e s => Bx σ s i2 49 (Flat.cl y12.1) ∧ eP e 2 i2 ∧ eB e 3 (decide (y12.2.2 = (0 : Int))) ∧ Pre σ s) ?_ ?_
   ·have q7 := X2.same 49 (Flat.cl y12.1);have q8 := X7.ne N2__7 (some (AObj.box 49 (Flat.cl y12.1)));have q9 := cj8 E2 E7 E9 X2.get X7.get q7.get q8.get TT;refine w_x q9 ?_;exact qe ⟨q7, E2, (xv q9), (hP.set X2.le (some (AObj.box 49 (Flat.cl y12.1))))⟩
   rintro e s ⟨X2, E2, E3, hP⟩
   refine qp ?_;obtain rfl := qa h;exact qt (fun _ => rfl) (xr (rs := #[.cell 2 49, .tmp 3]) (cj4 X2.get E2 E3 TT)) hP (.refl _) (.tu (CnL.cons (.ag (CnL.cons (Cn.rows Clock.cn _) (CnL.cons (Cn.rows Node.cn _) (CnL.cons (Cn.rows Task.cn _) (CnL.cons (Cn.rows Tell.cn _) CnL.nil))))) (CnL.cons (.v _) CnL.nil))) hK
noncomputable def B_law08_bent (a0 : Flat) (a1 : Int) (a2 : Int) (a3 : Int) : Option Flat :=
 (Qk 16 ([] : (List Clock)) a0.inputs).bind fun y1 =>
 (Qk 48 ([] : (List Task)) a0.tasks).bind fun y6 =>
 (Qk 56 ([] : (List Tell)) a0.tells).bind fun y11 =>
 (Qk 128 ([] : (List Node)) a0.nodes).bind fun y16 =>
 ((if (decide ((Int.tmod a3 (6 : Int)) = (0 : Int))) then
  (if (decide ((0 : Int) < ((List.length y1 : Nat) : Int))) then
   (Jb a1 ((List.length y1 : Nat) : Int)).bind fun y36 =>
   (qC y1 y36).bind fun y38 =>
   (Jw y1 y36 (Clock.mk a2 y38.phase)).bind fun y40 =>
   some y40
  else
   some y1 : Option (List Clock)).bind fun v34 =>
  some (v34, y16, y6, y11)
 else
  (if (decide ((Int.tmod a3 (6 : Int)) = (1 : Int))) then
   (if (decide ((0 : Int) < ((List.length y6 : Nat) : Int))) then
    (Jb a1 ((List.length y6 : Nat) : Int)).bind fun y59 =>
    (qC y6 y59).bind fun y61 =>
    (Jw y6 y59 (Task.mk a2 y61.clock y61.args)).bind fun y63 =>
    some y63
   else
    some y6 : Option (List Task)).bind fun v57 =>
   some (y16, v57, y11)
  else
   (if (decide ((Int.tmod a3 (6 : Int)) = (2 : Int))) then
    (if (decide ((0 : Int) < ((List.length y6 : Nat) : Int))) then
     (Jb a1 ((List.length y6 : Nat) : Int)).bind fun y82 =>
     (qC y6 y82).bind fun y85 =>
     (Qk 32 ([] : (List Arg)) y85.args).bind fun y87 =>
     (qC y87 (0 : Int)).bind fun y95 =>
     (Jw y87 (0 : Int) (Arg.mk a2 y95.ops)).bind fun y97 =>
     (qC y6 y82).bind fun y107 =>
     (Jw y6 y82 (Task.mk y107.node y107.clock y97)).bind fun y109 =>
     some y109
    else
     some y6 : Option (List Task)).bind fun v80 =>
    some (y16, v80, y11)
   else
    (if (decide ((Int.tmod a3 (6 : Int)) = (3 : Int))) then
     (if (decide ((0 : Int) < ((List.length y11 : Nat) : Int))) then
      (Jb a1 ((List.length y11 : Nat) : Int)).bind fun y126 =>
      (qC y11 y126).bind fun y128 =>
      (Jw y11 y126 (Tell.mk y128.clock y128.arg a2)).bind fun y130 =>
      some y130
     else
      some y11 : Option (List Tell)).bind fun v124 =>
     some (y16, v124)
    else
     (if (decide ((Int.tmod a3 (6 : Int)) = (4 : Int))) then
      (if (decide ((0 : Int) < ((List.length y16 : Nat) : Int))) then
       (Jb a1 ((List.length y16 : Nat) : Int)).bind fun y147 =>
       (qC y16 y147).bind fun y149 =>
       (Jw y16 y147 (Node.mk y149.name y149.params a2 y149.body y149.at_)).bind fun y151 =>
       some y151
      else
       some y16 : Option (List Node)).bind fun v145 =>
      some v145
     else
      some y16 : Option (List Node)).bind fun v140 =>
     some (v140, y11) : Option ((List Node) × (List Tell))).bind fun (v118, v119) =>
    some (v118, y6, v119) : Option ((List Node) × (List Task) × (List Tell))).bind fun (v73, v74, v75) =>
   some (v73, v74, v75) : Option ((List Node) × (List Task) × (List Tell))).bind fun (v50, v51, v52) =>
  some (y1, v50, v51, v52) : Option ((List Clock) × (List Node) × (List Task) × (List Tell))).bind fun (v26, v27, v28, v29) =>
 some (Flat.mk v26 v27 v28 v29) : Option Flat).bind fun v23 =>
 some (Flat.mk v23.inputs v23.nodes v23.tasks v23.tells)
abbrev Ju (a0 : Flat) (a1 : Int) (a2 : Int) (a3 : Int) : List PV := [(.ag (Flat.cl a0)), (.v (.int .i64 a1)), (.v (.int .i64 a2)), (.v (.int .u8 a3))]
abbrev C29_0 (z0 z1 : Store) (z2 z3 : Nat) (z4 : (List Clock)) (z5 : Nat) (z6 : (List Node)) (z7 : Nat) (z8 : (List Task)) (z9 : Nat) (z10 : (List Tell)) : Prop := Bx z0 z1 z2 49 [(.vc z3 (List.length z4)), (.vc z5 (List.length z6)), (.vc z7 (List.length z8)), (.vc z9 (List.length z10))]
abbrev C29_1 (z0 : Store) (z1 : Nat) (z2 : (List Clock)) : Prop := Gx z0 z1 (vcO 43 2 (List.map Clock.cl z2))
abbrev C29_2 (z0 : Store) (z1 : Nat) (z2 : (List Task)) : Prop := Gx z0 z1 (vcO 61 4 (List.map Task.cl z2))
abbrev C29_3 (z0 : Store) (z1 : Nat) (z2 : (List Tell)) : Prop := Gx z0 z1 (vcO 73 5 (List.map Tell.cl z2))
abbrev C29_4 (z0 z1 : Store) (z2 : Nat) : Prop := Bx z0 z1 z2 49 [.e0, .e0, .e0, .e0]
abbrev C29_5 (z0 : Store) (z1 : Nat) (z2 : (List Node)) : Prop := Gx z0 z1 (vcO 99 10 (List.map Node.cl z2))
theorem W_law08_bent : Sat_law08_bent (B_law08_bent) := by
 intro a0 a1 a2 a3 r h σ K hK;refine qW Try.func29 rfl rfl (by kernel_rfl) ?_;unfold B_law08_bent at h;have hP := Pre.refl σ;have E0 : qz (Ju a0 a1 a2 a3) 0 = (.ag (Flat.cl a0)) := rfl;have E1 : qz (Ju a0 a1 a2 a3) 1 = (.v (.int .i64 a1)) := rfl;have E2 : qz (Ju a0 a1 a2 a3) 2 = (.v (.int .i64 a2)) := rfl;have E3 : qz (Ju a0 a1 a2 a3) 3 = (.v (.int .u8 a3)) := rfl;have TT := cj2 Expr.rlen (ZC Flat.cle T_119 T_2 T_22 T_3 T_33 T_39 T_43 T_46 T_47 T_49 T_5 T_59 T_61 T_66 T_68 T_73 T_9 T_97 T_99);refine qk (fun e s => ∃ i4 i8 : Nat, Bx σ s i4 49 (Flat.cl a0) ∧ C29_4 σ s i8 ∧ eI e 1 a1 ∧ eI e 2 a2 ∧ e 3 = (.v (.int .u8 a3)) ∧ eP e 4 i4 ∧ eP e 8 i8 ∧ i4 ≠ i8 ∧ Pre σ s) ?_ ?_
 ·refine w_x (cj2 E0 TT) ?_;exact qe ⟨σ.length, (σ ++ [some (AObj.box 49 (Flat.cl a0))]).length, ((Bx.new hP 49 (Flat.cl a0)).app [some (AObj.box 49 [.e0, .e0, .e0, .e0])]), (Bx.new (hP.app _) 49 [.e0, .e0, .e0, .e0]), E1, E2, E3, (xv (cj2 E0 TT)), (xv (cj2 E0 TT)), (Nat.ne_of_lt (Bx.new hP 49 (Flat.cl a0)).lt), ((hP.app _).app _)⟩
 rintro e s ⟨i4, i8, X4, X8, E1, E2, E3, E4, E8, N4__8, hP⟩
 obtain ⟨y1, h2, h⟩ := qb h;refine qk (fun e s => ∃ i4_0 : Nat, Bx σ s i4 49 [(.vc i4_0 (List.length y1)), (.sl (List.map Node.cl a0.nodes)), (.sl (List.map Task.cl a0.tasks)), (.sl (List.map Tell.cl a0.tells))] ∧ C29_1 s i4_0 y1 ∧ σ.length ≤ i4_0 ∧ C29_4 σ s i8 ∧ eI e 1 a1 ∧ eI e 2 a2 ∧ e 3 = (.v (.int .u8 a3)) ∧ eP e 4 i4 ∧ eP e 8 i8 ∧ i4 ≠ i8 ∧ Pre σ s) ?_ ?_
 ·by_cases hy3 : a0.inputs = []
  ·have ha4 := qqE (s := s) (x := (.sl (List.map Clock.cl a0.inputs))) T_33 T_43 (by rw [hy3]; rfl);have ha4_ : y1 = [] := by rw [← (qN h2).2, hy3]; rfl
   subst ha4_;have q1 := X4.same 49 [.nv, (.sl (List.map Node.cl a0.nodes)), (.sl (List.map Task.cl a0.tasks)), (.sl (List.map Tell.cl a0.tells))];have q2 := cj5 E4 X4.get ha4 q1.get TT;refine w_xn 1 11 q2 ?_;refine ⟨xv q2, ?_⟩;refine za q2 ?_;exact ZU (((Gh.refl _ _).tr Gh.hole).tr (Gh.boxq ((X4.same _ _).app _).get (.cons (Wq.hol (Gx.cast (o' := (vcO 43 2 (List.map Clock.cl ([] : List Clock)))) (Gx.new _ _) rfl).get Nilp.nv) (.cons (.refl _) (.cons (.refl _) (.cons (.refl _) .nil)))))) ⟨_, (((X4.same _ _).app _).same _ _), ((Gx.cast (o' := (vcO 43 2 (List.map Clock.cl ([] : List Clock)))) (Gx.new _ _) rfl).ne (Nat.ne_of_lt (X4.same _ _).lt) _), (Pre.le (hP.set X4.le _)), (((X8.ne N4__8 _).app _).ne N4__8 _), E1, E2, E3, E4, E8, N4__8, (((hP.set X4.le _).app _).set X4.le _)⟩
  ·have ha5 := zzs (s := s) (x := (.sl (List.map Clock.cl a0.inputs))) (ns := (List.map Clock.cl a0.inputs)) (vr := (List.map Clock.cl y1)) (k := List.length y1) T_33 T_43 (qI (f := Clock.cl) (n := 2) (fun _ => rfl) _) (by rw [Ne, ← List.length_eq_zero_iff]; simpa [Expr.rlen] using hy3) (by decide) (by simpa [Expr.rlen] using (qN h2).1) (by rw [← (qN h2).2]; rfl) (by simp [Expr.rlen]) rfl;have q3 := X4.app [some (vcO 43 2 (List.map Clock.cl y1))];have q4 := cj6 E4 X4.get ha5 q3.get (q3.same 49 [(.vc s.length (List.length y1)), (.sl (List.map Node.cl a0.nodes)), (.sl (List.map Task.cl a0.tasks)), (.sl (List.map Tell.cl a0.tells))]).get TT;refine w_xn 1 11 q4 ?_;refine ⟨xv q4, ?_⟩;refine za q4 ?_;exact qe ⟨s.length, (q3.same _ _), ((Gx.new s (vcO 43 2 (List.map Clock.cl y1))).ne (Nat.ne_of_lt X4.lt) (some (AObj.box 49 [(.vc s.length (List.length y1)), (.sl (List.map Node.cl a0.nodes)), (.sl (List.map Task.cl a0.tasks)), (.sl (List.map Tell.cl a0.tells))]))), (Pre.le hP), ((X8.app _).ne N4__8 _), E1, E2, E3, E4, E8, N4__8, ((hP.app _).set q3.le (some (AObj.box 49 [(.vc s.length (List.length y1)), (.sl (List.map Node.cl a0.nodes)), (.sl (List.map Task.cl a0.tasks)), (.sl (List.map Tell.cl a0.tells))])))⟩
 rintro e s ⟨i4_0, X4, X4_0, L4_0, X8, E1, E2, E3, E4, E8, N4__8, hP⟩
 obtain ⟨y6, h7, h⟩ := qb h;refine qk (fun e s => ∃ i4_2 : Nat, Bx σ s i4 49 [(.vc i4_0 (List.length y1)), (.sl (List.map Node.cl a0.nodes)), (.vc i4_2 (List.length y6)), (.sl (List.map Tell.cl a0.tells))] ∧ C29_1 s i4_0 y1 ∧ σ.length ≤ i4_0 ∧ C29_2 s i4_2 y6 ∧ σ.length ≤ i4_2 ∧ C29_4 σ s i8 ∧ eI e 1 a1 ∧ eI e 2 a2 ∧ e 3 = (.v (.int .u8 a3)) ∧ eP e 4 i4 ∧ eP e 8 i8 ∧ i4 ≠ i8 ∧ i4_0 ≠ i4_2 ∧ Pre σ s) ?_ ?_
 ·by_cases hy8 : a0.tasks = []
  ·have ha9 := qqE (s := s) (x := (.sl (List.map Task.cl a0.tasks))) T_46 T_61 (by rw [hy8]; rfl);have ha9_ : y6 = [] := by rw [← (qN h7).2, hy8]; rfl
   subst ha9_;have q6 := X4.same 49 [(.vc i4_0 (List.length y1)), (.sl (List.map Node.cl a0.nodes)), .nv, (.sl (List.map Tell.cl a0.tells))];have q7 := cj5 E4 X4.get ha9 q6.get TT;refine w_xn 1 16 q7 ?_;refine ⟨xv q7, ?_⟩;refine za q7 ?_;have q5 := Gx.ap X4.gx X4_0;exact ZU (((Gh.refl _ _).tr Gh.hole).tr (Gh.boxq ((X4.same _ _).app _).get (.cons (.refl _) (.cons (.refl _) (.cons (Wq.hol (Gx.cast (o' := (vcO 61 4 (List.map Task.cl ([] : List Task)))) (Gx.new _ _) rfl).get Nilp.nv) (.cons (.refl _) .nil)))))) ⟨_, (((X4.same _ _).app _).same _ _), (((X4_0.ne q5 _).app _).ne q5 _), L4_0, ((Gx.cast (o' := (vcO 61 4 (List.map Task.cl ([] : List Task)))) (Gx.new _ _) rfl).ne (Nat.ne_of_lt (X4.same _ _).lt) _), (Pre.le (hP.set X4.le _)), (((X8.ne N4__8 _).app _).ne N4__8 _), E1, E2, E3, E4, E8, N4__8, (Nat.ne_of_lt (X4_0.ne q5 _).lt), (((hP.set X4.le _).app _).set X4.le _)⟩
  ·have ha10 := zzs (s := s) (x := (.sl (List.map Task.cl a0.tasks))) (ns := (List.map Task.cl a0.tasks)) (vr := (List.map Task.cl y6)) (k := List.length y6) T_46 T_61 (qI (f := Task.cl) (n := 4) (fun _ => rfl) _) (by rw [Ne, ← List.length_eq_zero_iff]; simpa [Expr.rlen] using hy8) (by decide) (by simpa [Expr.rlen] using (qN h7).1) (by rw [← (qN h7).2]; rfl) (by simp [Expr.rlen]) rfl;have q8 := X4.app [some (vcO 61 4 (List.map Task.cl y6))];have q9 := cj6 E4 X4.get ha10 q8.get (q8.same 49 [(.vc i4_0 (List.length y1)), (.sl (List.map Node.cl a0.nodes)), (.vc s.length (List.length y6)), (.sl (List.map Tell.cl a0.tells))]).get TT;refine w_xn 1 16 q9 ?_;refine ⟨xv q9, ?_⟩;refine za q9 ?_;exact qe ⟨s.length, (q8.same _ _), ((X4_0.app _).ne (Gx.ap X4.gx X4_0) _), L4_0, ((Gx.new s (vcO 61 4 (List.map Task.cl y6))).ne (Nat.ne_of_lt X4.lt) (some (AObj.box 49 [(.vc i4_0 (List.length y1)), (.sl (List.map Node.cl a0.nodes)), (.vc s.length (List.length y6)), (.sl (List.map Tell.cl a0.tells))]))), (Pre.le hP), ((X8.app _).ne N4__8 _), E1, E2, E3, E4, E8, N4__8, (Nat.ne_of_lt X4_0.lt), ((hP.app _).set q8.le (some (AObj.box 49 [(.vc i4_0 (List.length y1)), (.sl (List.map Node.cl a0.nodes)), (.vc s.length (List.length y6)), (.sl (List.map Tell.cl a0.tells))])))⟩
 rintro e s ⟨i4_2, X4, X4_0, L4_0, X4_2, L4_2, X8, E1, E2, E3, E4, E8, N4__8, N4_0__4_2, hP⟩
 obtain ⟨y11, h12, h⟩ := qb h;refine qk (fun e s => ∃ i4_3 : Nat, Bx σ s i4 49 [(.vc i4_0 (List.length y1)), (.sl (List.map Node.cl a0.nodes)), (.vc i4_2 (List.length y6)), (.vc i4_3 (List.length y11))] ∧ C29_1 s i4_0 y1 ∧ σ.length ≤ i4_0 ∧ C29_2 s i4_2 y6 ∧ σ.length ≤ i4_2 ∧ C29_3 s i4_3 y11 ∧ σ.length ≤ i4_3 ∧ C29_4 σ s i8 ∧ eI e 1 a1 ∧ eI e 2 a2 ∧ e 3 = (.v (.int .u8 a3)) ∧ eP e 4 i4 ∧ eP e 8 i8 ∧ i4 ≠ i8 ∧ i4_0 ≠ i4_2 ∧ i4_0 ≠ i4_3 ∧ i4_2 ≠ i4_3 ∧ Pre σ s) ?_ ?_
 ·by_cases hy13 : a0.tells = []
  ·have ha14 := qqE (s := s) (x := (.sl (List.map Tell.cl a0.tells))) T_47 T_73 (by rw [hy13]; rfl);have ha14_ : y11 = [] := by rw [← (qN h12).2, hy13]; rfl
   subst ha14_;have q12 := X4.same 49 [(.vc i4_0 (List.length y1)), (.sl (List.map Node.cl a0.nodes)), (.vc i4_2 (List.length y6)), .nv];have q13 := cj5 E4 X4.get ha14 q12.get TT;refine w_xn 1 21 q13 ?_;refine ⟨xv q13, ?_⟩;refine za q13 ?_;have q10 := Gx.ap X4.gx X4_0;have q11 := Gx.ap X4.gx X4_2;exact ZU (((Gh.refl _ _).tr Gh.hole).tr (Gh.boxq ((X4.same _ _).app _).get (.cons (.refl _) (.cons (.refl _) (.cons (.refl _) (.cons (Wq.hol (Gx.cast (o' := (vcO 73 5 (List.map Tell.cl ([] : List Tell)))) (Gx.new _ _) rfl).get Nilp.nv) .nil)))))) ⟨_, (((X4.same _ _).app _).same _ _), (((X4_0.ne q10 _).app _).ne q10 _), L4_0, (((X4_2.ne q11 _).app _).ne q11 _), L4_2, ((Gx.cast (o' := (vcO 73 5 (List.map Tell.cl ([] : List Tell)))) (Gx.new _ _) rfl).ne (Nat.ne_of_lt (X4.same _ _).lt) _), (Pre.le (hP.set X4.le _)), (((X8.ne N4__8 _).app _).ne N4__8 _), E1, E2, E3, E4, E8, N4__8, N4_0__4_2, (Nat.ne_of_lt (X4_0.ne q10 _).lt), (Nat.ne_of_lt (X4_2.ne q11 _).lt), (((hP.set X4.le _).app _).set X4.le _)⟩
  ·have ha15 := zzs (s := s) (x := (.sl (List.map Tell.cl a0.tells))) (ns := (List.map Tell.cl a0.tells)) (vr := (List.map Tell.cl y11)) (k := List.length y11) T_47 T_73 (qI (f := Tell.cl) (n := 5) (fun _ => rfl) _) (by rw [Ne, ← List.length_eq_zero_iff]; simpa [Expr.rlen] using hy13) (by decide) (by simpa [Expr.rlen] using (qN h12).1) (by rw [← (qN h12).2]; rfl) (by simp [Expr.rlen]) rfl;have q14 := X4.app [some (vcO 73 5 (List.map Tell.cl y11))];have q15 := cj6 E4 X4.get ha15 q14.get (q14.same 49 [(.vc i4_0 (List.length y1)), (.sl (List.map Node.cl a0.nodes)), (.vc i4_2 (List.length y6)), (.vc s.length (List.length y11))]).get TT;refine w_xn 1 21 q15 ?_;refine ⟨xv q15, ?_⟩;refine za q15 ?_;exact qe ⟨s.length, (q14.same _ _), ((X4_0.app _).ne (Gx.ap X4.gx X4_0) _), L4_0, ((X4_2.app _).ne (Gx.ap X4.gx X4_2) _), L4_2, ((Gx.new s (vcO 73 5 (List.map Tell.cl y11))).ne (Nat.ne_of_lt X4.lt) (some (AObj.box 49 [(.vc i4_0 (List.length y1)), (.sl (List.map Node.cl a0.nodes)), (.vc i4_2 (List.length y6)), (.vc s.length (List.length y11))]))), (Pre.le hP), ((X8.app _).ne N4__8 _), E1, E2, E3, E4, E8, N4__8, N4_0__4_2, (Nat.ne_of_lt X4_0.lt), (Nat.ne_of_lt X4_2.lt), ((hP.app _).set q14.le (some (AObj.box 49 [(.vc i4_0 (List.length y1)), (.sl (List.map Node.cl a0.nodes)), (.vc i4_2 (List.length y6)), (.vc s.length (List.length y11))])))⟩
 rintro e s ⟨i4_3, X4, X4_0, L4_0, X4_2, L4_2, X4_3, L4_3, X8, E1, E2, E3, E4, E8, N4__8, N4_0__4_2, N4_0__4_3, N4_2__4_3, hP⟩
 obtain ⟨y16, h17, h⟩ := qb h;refine qk (fun e s => ∃ i4_1 : Nat, C29_0 σ s i4 i4_0 y1 i4_1 y16 i4_2 y6 i4_3 y11 ∧ C29_1 s i4_0 y1 ∧ σ.length ≤ i4_0 ∧ C29_5 s i4_1 y16 ∧ σ.length ≤ i4_1 ∧ C29_2 s i4_2 y6 ∧ σ.length ≤ i4_2 ∧ C29_3 s i4_3 y11 ∧ σ.length ≤ i4_3 ∧ C29_4 σ s i8 ∧ eI e 1 a1 ∧ eI e 2 a2 ∧ e 3 = (.v (.int .u8 a3)) ∧ eP e 4 i4 ∧ eP e 8 i8 ∧ i4 ≠ i8 ∧ i4_0 ≠ i4_1 ∧ i4_0 ≠ i4_2 ∧ i4_0 ≠ i4_3 ∧ i4_1 ≠ i4_2 ∧ i4_1 ≠ i4_3 ∧ i4_2 ≠ i4_3 ∧ Pre σ s) ?_ ?_
 ·by_cases hy18 : a0.nodes = []
  ·have ha19 := qqE (s := s) (x := (.sl (List.map Node.cl a0.nodes))) T_22 T_99 (by rw [hy18]; rfl);have ha19_ : y16 = [] := by rw [← (qN h17).2, hy18]; rfl
   subst ha19_;have q19 := X4.same 49 [(.vc i4_0 (List.length y1)), .nv, (.vc i4_2 (List.length y6)), (.vc i4_3 (List.length y11))];have q20 := cj5 E4 X4.get ha19 q19.get TT;refine w_xn 1 26 q20 ?_;refine ⟨xv q20, ?_⟩;refine za q20 ?_;have q16 := Gx.ap X4.gx X4_3;have q17 := Gx.ap X4.gx X4_2;have q18 := Gx.ap X4.gx X4_0;exact ZU (((Gh.refl _ _).tr Gh.hole).tr (Gh.boxq ((X4.same _ _).app _).get (.cons (.refl _) (.cons (Wq.hol (Gx.cast (o' := (vcO 99 10 (List.map Node.cl ([] : List Node)))) (Gx.new _ _) rfl).get Nilp.nv) (.cons (.refl _) (.cons (.refl _) .nil)))))) ⟨_, (((X4.same _ _).app _).same _ _), (((X4_0.ne q18 _).app _).ne q18 _), L4_0, ((Gx.cast (o' := (vcO 99 10 (List.map Node.cl ([] : List Node)))) (Gx.new _ _) rfl).ne (Nat.ne_of_lt (X4.same _ _).lt) _), (Pre.le (hP.set X4.le _)), (((X4_2.ne q17 _).app _).ne q17 _), L4_2, (((X4_3.ne q16 _).app _).ne q16 _), L4_3, (((X8.ne N4__8 _).app _).ne N4__8 _), E1, E2, E3, E4, E8, N4__8, (Nat.ne_of_lt (X4_0.ne q18 _).lt), N4_0__4_2, N4_0__4_3, (Ne.symm (Nat.ne_of_lt (X4_2.ne q17 _).lt)), (Ne.symm (Nat.ne_of_lt (X4_3.ne q16 _).lt)), N4_2__4_3, (((hP.set X4.le _).app _).set X4.le _)⟩
  ·have ha20 := zzs (s := s) (x := (.sl (List.map Node.cl a0.nodes))) (ns := (List.map Node.cl a0.nodes)) (vr := (List.map Node.cl y16)) (k := List.length y16) T_22 T_99 (qI (f := Node.cl) (n := 10) (fun _ => rfl) _) (by rw [Ne, ← List.length_eq_zero_iff]; simpa [Expr.rlen] using hy18) (by decide) (by simpa [Expr.rlen] using (qN h17).1) (by rw [← (qN h17).2]; rfl) (by simp [Expr.rlen]) rfl;have q21 := X4.app [some (vcO 99 10 (List.map Node.cl y16))];have q22 := cj6 E4 X4.get ha20 q21.get (q21.same 49 [(.vc i4_0 (List.length y1)), (.vc s.length (List.length y16)), (.vc i4_2 (List.length y6)), (.vc i4_3 (List.length y11))]).get TT;refine w_xn 1 26 q22 ?_;refine ⟨xv q22, ?_⟩;refine za q22 ?_;exact qe ⟨s.length, (q21.same _ _), ((X4_0.app _).ne (Gx.ap X4.gx X4_0) _), L4_0, ((Gx.new s (vcO 99 10 (List.map Node.cl y16))).ne (Nat.ne_of_lt X4.lt) (some (AObj.box 49 [(.vc i4_0 (List.length y1)), (.vc s.length (List.length y16)), (.vc i4_2 (List.length y6)), (.vc i4_3 (List.length y11))]))), (Pre.le hP), ((X4_2.app _).ne (Gx.ap X4.gx X4_2) _), L4_2, ((X4_3.app _).ne (Gx.ap X4.gx X4_3) _), L4_3, ((X8.app _).ne N4__8 _), E1, E2, E3, E4, E8, N4__8, (Nat.ne_of_lt X4_0.lt), N4_0__4_2, N4_0__4_3, (Ne.symm (Nat.ne_of_lt X4_2.lt)), (Ne.symm (Nat.ne_of_lt X4_3.lt)), N4_2__4_3, ((hP.app _).set q21.le (some (AObj.box 49 [(.vc i4_0 (List.length y1)), (.vc s.length (List.length y16)), (.vc i4_2 (List.length y6)), (.vc i4_3 (List.length y11))])))⟩
 rintro e s ⟨i4_1, X4, X4_0, L4_0, X4_1, L4_1, X4_2, L4_2, X4_3, L4_3, X8, E1, E2, E3, E4, E8, N4__8, N4_0__4_1, N4_0__4_2, N4_0__4_3, N4_1__4_2, N4_1__4_3, N4_2__4_3, hP⟩
 refine ql (qd (w_x (cj2 E3 TT) ?_));refine qf ?_;obtain ⟨x21, h22, h⟩ := qb h;refine qk (fun e s => ∃ v23, v23 = x21 ∧ Bx σ s i4 49 (Flat.cl v23) ∧ C29_4 σ s i8 ∧ eP e 4 i4 ∧ eP e 8 i8 ∧ i4 ≠ i8 ∧ Pre σ s) ?_ ?_
 ·refine qn (qd (w_x TT ?_));refine qf ?_;obtain ⟨x24, h25, h22⟩ := qb h22;refine zE (fun e s => ∃ v26 v27 v28 v29, (v26, v27, v28, v29) = x24 ∧ C29_0 σ s i4 i4_0 v26 i4_1 v27 i4_2 v28 i4_3 v29 ∧ C29_1 s i4_0 v26 ∧ σ.length ≤ i4_0 ∧ C29_5 s i4_1 v27 ∧ σ.length ≤ i4_1 ∧ C29_2 s i4_2 v28 ∧ σ.length ≤ i4_2 ∧ C29_3 s i4_3 v29 ∧ σ.length ≤ i4_3 ∧ C29_4 σ s i8 ∧ eP e 4 i4 ∧ eP e 8 i8 ∧ i4 ≠ i8 ∧ i4_0 ≠ i4_1 ∧ i4_0 ≠ i4_2 ∧ i4_0 ≠ i4_3 ∧ i4_1 ≠ i4_2 ∧ i4_1 ≠ i4_3 ∧ i4_2 ≠ i4_3 ∧ Pre σ s) ?_ ?_
  ·rcases qi h25 with ⟨hb30, h25⟩ | ⟨hb30, h25⟩
   ·refine xt hb30 (qd ?_);have R31 := ZE (rows := (List.map Clock.cl y1)) (n := List.length y1) T_33 X4_0.get (by simp [Expr.rlen]);simp only [lenX, T_33] at R31;refine w_x (cj4 E4 X4.get R31 TT) ?_;refine qf ?_;obtain ⟨x32, h33, h25⟩ := qb h25;refine zE (fun e s => ∃ v34, v34 = x32 ∧ C29_0 σ s i4 i4_0 v34 i4_1 y16 i4_2 y6 i4_3 y11 ∧ C29_1 s i4_0 v34 ∧ σ.length ≤ i4_0 ∧ C29_5 s i4_1 y16 ∧ σ.length ≤ i4_1 ∧ C29_2 s i4_2 y6 ∧ σ.length ≤ i4_2 ∧ C29_3 s i4_3 y11 ∧ σ.length ≤ i4_3 ∧ C29_4 σ s i8 ∧ eP e 4 i4 ∧ eP e 8 i8 ∧ i4 ≠ i8 ∧ i4_0 ≠ i4_1 ∧ i4_0 ≠ i4_2 ∧ i4_0 ≠ i4_3 ∧ i4_1 ≠ i4_2 ∧ i4_1 ≠ i4_3 ∧ i4_2 ≠ i4_3 ∧ Pre σ s) ?_ ?_
    ·rcases qi h33 with ⟨hb35, h33⟩ | ⟨hb35, h33⟩
     ·refine xt hb35 ?_;obtain ⟨y36, h37, h33⟩ := qb h33;obtain ⟨y38, h39, h33⟩ := qb h33;obtain ⟨y40, h41, h33⟩ := qb h33;have R42 := ZE (rows := (List.map Clock.cl y1)) (n := List.length y1) T_33 X4_0.get (by simp [Expr.rlen]);simp only [lenX, T_33] at R42;have R43 : ((List.map Clock.cl y1) : List (List PV))[(y36).toNat]? = some (Clock.cl y38) := qA (qg h39).2;have gv44 := ZF (n := List.length y1) X4_0.get R43 (by simp [Expr.rlen]);have f45 : List.take (y36.toNat * 2) (List.flatten (List.map Clock.cl y1)) ++ [(.v (.int .i64 a2))] ++ List.drop (y36.toNat * 2 + 1) (List.flatten (List.map Clock.cl y1)) = List.flatten (List.map Clock.cl y40) := qqa (sz := 2) (j := (y36).toNat) (off := 0) (k := 1) (qI (f := Clock.cl) (n := 2) (fun _ => rfl) _) R43 rfl (by decide) (by rw [← (qJ h41).2.2, List.map_set]; rfl);have f46 : List.length y1 = List.length y40 := by rw [← (qJ h41).2.2]; simp
      have f47 := Yv (rows := (List.map Clock.cl y40)) (n := List.length y40) (sz := 2) (by intro h0; have h1 := congrArg List.length h0; have h2 := (qJ h41).2.1; rw [f46] at h2; simp only [List.length_map, Expr.rlen, List.length_nil] at h1; omega) (by simp) 43;have q23 := Gx.ap X4_0 X4.gx;refine zn 8 0 (cj17 E1 E2 E4 X4.get R42 (eq_false (qV h37).1) (qV h37).2 gv44 (qg h39).1 (zh h39) f45 f47 (Qp h41) (qJ h41).1 (zU (sz := 2) (rows := (List.map Clock.cl y1)) (o := 0) (k := 1) (qI (f := Clock.cl) (n := 2) (fun _ => rfl) _) R43 (by decide)) (X4.nea q23) TT) ?_;refine za (cj18 E1 E2 E4 X4.get R42 (eq_false (qV h37).1) (qV h37).2 gv44 (qg h39).1 (zh h39) f45 f47 (Qp h41) (qJ h41).1 (zU (sz := 2) (rows := (List.map Clock.cl y1)) (o := 0) (k := 1) (qI (f := Clock.cl) (n := 2) (fun _ => rfl) _) R43 (by decide)) (X4.nea q23) f46 TT) ?_;obtain rfl := qa h33;exact qS ⟨_, rfl, (Bx.cast (c' := [(.vc i4_0 (List.length y40)), (.vc i4_1 (List.length y16)), (.vc i4_2 (List.length y6)), (.vc i4_3 (List.length y11))]) (by rw [f46]) (X4.ne q23 (some (vcO 43 2 (List.map Clock.cl y40))))), (Gx.same X4_0 _), L4_0, (X4_1.ne N4_0__4_1 _), L4_1, (X4_2.ne N4_0__4_2 _), L4_2, (X4_3.ne N4_0__4_3 _), L4_3, (X8.ne (Gx.ap X4_0 X8.gx) _), E4, E8, N4__8, N4_0__4_1, N4_0__4_2, N4_0__4_3, N4_1__4_2, N4_1__4_3, N4_2__4_3, (hP.set L4_0 _)⟩
     ·refine xf hb35 (qm ?_);obtain rfl := qa h33;exact qS ⟨_, rfl, X4, X4_0, L4_0, X4_1, L4_1, X4_2, L4_2, X4_3, L4_3, X8, E4, E8, N4__8, N4_0__4_1, N4_0__4_2, N4_0__4_3, N4_1__4_2, N4_1__4_3, N4_2__4_3, hP⟩
    rintro e s ⟨v34, rfl, X4, X4_0, L4_0, X4_1, L4_1, X4_2, L4_2, X4_3, L4_3, X8, E4, E8, N4__8, N4_0__4_1, N4_0__4_2, N4_0__4_3, N4_1__4_2, N4_1__4_3, N4_2__4_3, hP⟩
    (try dsimp only at h25);obtain rfl := qa h25;exact qS ⟨_, _, _, _, rfl, X4, X4_0, L4_0, X4_1, L4_1, X4_2, L4_2, X4_3, L4_3, X8, E4, E8, N4__8, N4_0__4_1, N4_0__4_2, N4_0__4_3, N4_1__4_2, N4_1__4_3, N4_2__4_3, hP⟩
   ·refine xf hb30 (qd (w_x TT ?_));refine qf ?_;obtain ⟨x48, h49, h25⟩ := qb h25;refine zE (fun e s => ∃ v50 v51 v52, (v50, v51, v52) = x48 ∧ C29_0 σ s i4 i4_0 y1 i4_1 v50 i4_2 v51 i4_3 v52 ∧ C29_1 s i4_0 y1 ∧ σ.length ≤ i4_0 ∧ C29_5 s i4_1 v50 ∧ σ.length ≤ i4_1 ∧ C29_2 s i4_2 v51 ∧ σ.length ≤ i4_2 ∧ C29_3 s i4_3 v52 ∧ σ.length ≤ i4_3 ∧ C29_4 σ s i8 ∧ eP e 4 i4 ∧ eP e 8 i8 ∧ i4 ≠ i8 ∧ i4_0 ≠ i4_1 ∧ i4_0 ≠ i4_2 ∧ i4_0 ≠ i4_3 ∧ i4_1 ≠ i4_2 ∧ i4_1 ≠ i4_3 ∧ i4_2 ≠ i4_3 ∧ Pre σ s) ?_ ?_
    ·rcases qi h49 with ⟨hb53, h49⟩ | ⟨hb53, h49⟩
     ·refine xt hb53 (qd ?_);have R54 := ZE (rows := (List.map Task.cl y6)) (n := List.length y6) T_46 X4_2.get (by simp [Expr.rlen]);simp only [lenX, T_46] at R54;refine w_x (cj4 E4 X4.get R54 TT) ?_;refine qf ?_;obtain ⟨x55, h56, h49⟩ := qb h49;refine zE (fun e s => ∃ v57, v57 = x55 ∧ C29_0 σ s i4 i4_0 y1 i4_1 y16 i4_2 v57 i4_3 y11 ∧ C29_1 s i4_0 y1 ∧ σ.length ≤ i4_0 ∧ C29_5 s i4_1 y16 ∧ σ.length ≤ i4_1 ∧ C29_2 s i4_2 v57 ∧ σ.length ≤ i4_2 ∧ C29_3 s i4_3 y11 ∧ σ.length ≤ i4_3 ∧ C29_4 σ s i8 ∧ eP e 4 i4 ∧ eP e 8 i8 ∧ i4 ≠ i8 ∧ i4_0 ≠ i4_1 ∧ i4_0 ≠ i4_2 ∧ i4_0 ≠ i4_3 ∧ i4_1 ≠ i4_2 ∧ i4_1 ≠ i4_3 ∧ i4_2 ≠ i4_3 ∧ Pre σ s) ?_ ?_
      ·rcases qi h56 with ⟨hb58, h56⟩ | ⟨hb58, h56⟩
       ·refine xt hb58 ?_;obtain ⟨y59, h60, h56⟩ := qb h56;obtain ⟨y61, h62, h56⟩ := qb h56;obtain ⟨y63, h64, h56⟩ := qb h56;have R65 := ZE (rows := (List.map Task.cl y6)) (n := List.length y6) T_46 X4_2.get (by simp [Expr.rlen]);simp only [lenX, T_46] at R65;have R66 : ((List.map Task.cl y6) : List (List PV))[(y59).toNat]? = some (Task.cl y61) := qA (qg h62).2;have gv67 := ZF (n := List.length y6) X4_2.get R66 (by simp [Expr.rlen]);have f68 : List.take (y59.toNat * 4) (List.flatten (List.map Task.cl y6)) ++ [(.v (.int .i64 a2))] ++ List.drop (y59.toNat * 4 + 1) (List.flatten (List.map Task.cl y6)) = List.flatten (List.map Task.cl y63) := qqa (sz := 4) (j := (y59).toNat) (off := 0) (k := 1) (qI (f := Task.cl) (n := 4) (fun _ => rfl) _) R66 rfl (by decide) (by rw [← (qJ h64).2.2, List.map_set]; rfl);have f69 : List.length y6 = List.length y63 := by rw [← (qJ h64).2.2]; simp
        have f70 := Yv (rows := (List.map Task.cl y63)) (n := List.length y63) (sz := 4) (by intro h0; have h1 := congrArg List.length h0; have h2 := (qJ h64).2.1; rw [f69] at h2; simp only [List.length_map, Expr.rlen, List.length_nil] at h1; omega) (by simp) 61;have q24 := Gx.ap X4_2 X4.gx;refine zn 8 0 (cj17 E1 E2 E4 X4.get R65 (eq_false (qV h60).1) (qV h60).2 gv67 (qg h62).1 (zh h62) f68 f70 (Qp h64) (qJ h64).1 (zU (sz := 4) (rows := (List.map Task.cl y6)) (o := 0) (k := 1) (qI (f := Task.cl) (n := 4) (fun _ => rfl) _) R66 (by decide)) (X4.nea q24) TT) ?_;refine za (cj18 E1 E2 E4 X4.get R65 (eq_false (qV h60).1) (qV h60).2 gv67 (qg h62).1 (zh h62) f68 f70 (Qp h64) (qJ h64).1 (zU (sz := 4) (rows := (List.map Task.cl y6)) (o := 0) (k := 1) (qI (f := Task.cl) (n := 4) (fun _ => rfl) _) R66 (by decide)) (X4.nea q24) f69 TT) ?_;obtain rfl := qa h56;exact qS ⟨_, rfl, (Bx.cast (c' := [(.vc i4_0 (List.length y1)), (.vc i4_1 (List.length y16)), (.vc i4_2 (List.length y63)), (.vc i4_3 (List.length y11))]) (by rw [f69]) (X4.ne q24 (some (vcO 61 4 (List.map Task.cl y63))))), (X4_0.ne (Ne.symm N4_0__4_2) _), L4_0, (X4_1.ne (Ne.symm N4_1__4_2) _), L4_1, (Gx.same X4_2 _), L4_2, (X4_3.ne N4_2__4_3 _), L4_3, (X8.ne (Gx.ap X4_2 X8.gx) _), E4, E8, N4__8, N4_0__4_1, N4_0__4_2, N4_0__4_3, N4_1__4_2, N4_1__4_3, N4_2__4_3, (hP.set L4_2 _)⟩
       ·refine xf hb58 (qm ?_);obtain rfl := qa h56;exact qS ⟨_, rfl, X4, X4_0, L4_0, X4_1, L4_1, X4_2, L4_2, X4_3, L4_3, X8, E4, E8, N4__8, N4_0__4_1, N4_0__4_2, N4_0__4_3, N4_1__4_2, N4_1__4_3, N4_2__4_3, hP⟩
      rintro e s ⟨v57, rfl, X4, X4_0, L4_0, X4_1, L4_1, X4_2, L4_2, X4_3, L4_3, X8, E4, E8, N4__8, N4_0__4_1, N4_0__4_2, N4_0__4_3, N4_1__4_2, N4_1__4_3, N4_2__4_3, hP⟩
      (try dsimp only at h49);obtain rfl := qa h49;exact qS ⟨_, _, _, rfl, X4, X4_0, L4_0, X4_1, L4_1, X4_2, L4_2, X4_3, L4_3, X8, E4, E8, N4__8, N4_0__4_1, N4_0__4_2, N4_0__4_3, N4_1__4_2, N4_1__4_3, N4_2__4_3, hP⟩
     ·refine xf hb53 (qd (w_x TT ?_));refine qf ?_;obtain ⟨x71, h72, h49⟩ := qb h49;refine zE (fun e s => ∃ v73 v74 v75, (v73, v74, v75) = x71 ∧ C29_0 σ s i4 i4_0 y1 i4_1 v73 i4_2 v74 i4_3 v75 ∧ C29_1 s i4_0 y1 ∧ σ.length ≤ i4_0 ∧ C29_5 s i4_1 v73 ∧ σ.length ≤ i4_1 ∧ C29_2 s i4_2 v74 ∧ σ.length ≤ i4_2 ∧ C29_3 s i4_3 v75 ∧ σ.length ≤ i4_3 ∧ C29_4 σ s i8 ∧ eP e 4 i4 ∧ eP e 8 i8 ∧ i4 ≠ i8 ∧ i4_0 ≠ i4_1 ∧ i4_0 ≠ i4_2 ∧ i4_0 ≠ i4_3 ∧ i4_1 ≠ i4_2 ∧ i4_1 ≠ i4_3 ∧ i4_2 ≠ i4_3 ∧ Pre σ s) ?_ ?_
      ·rcases qi h72 with ⟨hb76, h72⟩ | ⟨hb76, h72⟩
       ·refine xt hb76 (qd ?_);have R77 := ZE (rows := (List.map Task.cl y6)) (n := List.length y6) T_46 X4_2.get (by simp [Expr.rlen]);simp only [lenX, T_46] at R77;refine w_x (cj4 E4 X4.get R77 TT) ?_;refine qf ?_;obtain ⟨x78, h79, h72⟩ := qb h72;refine zE (fun e s => ∃ v80, v80 = x78 ∧ C29_0 σ s i4 i4_0 y1 i4_1 y16 i4_2 v80 i4_3 y11 ∧ C29_1 s i4_0 y1 ∧ σ.length ≤ i4_0 ∧ C29_5 s i4_1 y16 ∧ σ.length ≤ i4_1 ∧ C29_2 s i4_2 v80 ∧ σ.length ≤ i4_2 ∧ C29_3 s i4_3 y11 ∧ σ.length ≤ i4_3 ∧ C29_4 σ s i8 ∧ eP e 4 i4 ∧ eP e 8 i8 ∧ i4 ≠ i8 ∧ i4_0 ≠ i4_1 ∧ i4_0 ≠ i4_2 ∧ i4_0 ≠ i4_3 ∧ i4_1 ≠ i4_2 ∧ i4_1 ≠ i4_3 ∧ i4_2 ≠ i4_3 ∧ Pre σ s) ?_ ?_
        ·rcases qi h79 with ⟨hb81, h79⟩ | ⟨hb81, h79⟩
         ·refine xt hb81 (qd ?_);obtain ⟨y82, h83, h79⟩ := qb h79;have R84 := ZE (rows := (List.map Task.cl y6)) (n := List.length y6) T_46 X4_2.get (by simp [Expr.rlen]);simp only [lenX, T_46] at R84;refine w_x (cj7 E1 E4 X4.get R84 (eq_false (qV h83).1) (qV h83).2 TT) ?_;refine qf ?_;obtain ⟨y85, h86, h79⟩ := qb h79;obtain ⟨y87, h88, h79⟩ := qb h79;refine qk (fun e s => ∃ i10_0 : Nat, Gx s i10_0 (vcO 68 2 (List.map Arg.cl y87)) ∧ σ.length ≤ i10_0 ∧ C29_0 σ s i4 i4_0 y1 i4_1 y16 i4_2 y6 i4_3 y11 ∧ C29_1 s i4_0 y1 ∧ σ.length ≤ i4_0 ∧ C29_5 s i4_1 y16 ∧ σ.length ≤ i4_1 ∧ C29_2 s i4_2 y6 ∧ σ.length ≤ i4_2 ∧ C29_3 s i4_3 y11 ∧ σ.length ≤ i4_3 ∧ C29_4 σ s i8 ∧ eI e 2 a2 ∧ eP e 4 i4 ∧ eP e 8 i8 ∧ eI e 9 y82 ∧ e 10 = (.vc i10_0 (List.length y87)) ∧ i10_0 ≠ i4_0 ∧ i10_0 ≠ i4_1 ∧ i10_0 ≠ i4_2 ∧ i10_0 ≠ i4_3 ∧ i4 ≠ i8 ∧ i4_0 ≠ i4_1 ∧ i4_0 ≠ i4_2 ∧ i4_0 ≠ i4_3 ∧ i4_1 ≠ i4_2 ∧ i4_1 ≠ i4_3 ∧ i4_2 ≠ i4_3 ∧ Pre σ s) ?_ ?_
          ·have R89 : ((List.map Task.cl y6) : List (List PV))[(y82).toNat]? = some (Task.cl y85) := qA (qg h86).2;have gv90 := ZF (n := List.length y6) X4_2.get R89 (by simp [Expr.rlen]);have f91 : (List.flatten (List.map Task.cl y6))[y82.toNat * 4 + 3]? = some (.sl (List.map Arg.cl y85.args)) := (zzi (qI (f := Task.cl) (n := 4) (fun _ => rfl) _) R89).1 3 _ rfl;by_cases hy92 : y85.args = []
           ·have ha93 := qqE (s := s) (x := (.sl (List.map Arg.cl y85.args))) T_59 T_68 (by rw [hy92]; rfl);have ha93_ : y87 = [] := by rw [← (qN h88).2, hy92]; rfl
            subst ha93_;have q25 := cj8 E4 X4.get gv90 (qg h86).1 (zh h86) f91 ha93 TT;refine w_xn 1 76 q25 ?_;refine ⟨xv q25, ?_⟩;refine za q25 ?_;exact ZU (((Gh.refl _ _).tr Gh.hole).tr (Gh.tmp (t := 10) (p := .nv) (q := (.vc s.length (List.length ([] : List Arg)))) (xv q25) (Wq.hol (Gx.cast (o' := (vcO 68 2 (List.map Arg.cl ([] : List Arg)))) (Gx.new _ _) rfl).get Nilp.nv))) ⟨_, (Gx.cast (o' := (vcO 68 2 (List.map Arg.cl ([] : List Arg)))) (Gx.new _ _) rfl), (Pre.le hP), (X4.app _), (X4_0.app _), L4_0, (X4_1.app _), L4_1, (X4_2.app _), L4_2, (X4_3.app _), L4_3, (X8.app _), E2, E4, E8, (xv q25), (xv q25), (Ne.symm (Nat.ne_of_lt X4_0.lt)), (Ne.symm (Nat.ne_of_lt X4_1.lt)), (Ne.symm (Nat.ne_of_lt X4_2.lt)), (Ne.symm (Nat.ne_of_lt X4_3.lt)), N4__8, N4_0__4_1, N4_0__4_2, N4_0__4_3, N4_1__4_2, N4_1__4_3, N4_2__4_3, (hP.app _)⟩
           ·have ha94 := zzs (s := s) (x := (.sl (List.map Arg.cl y85.args))) (ns := (List.map Arg.cl y85.args)) (vr := (List.map Arg.cl y87)) (k := List.length y87) T_59 T_68 (qI (f := Arg.cl) (n := 2) (fun _ => rfl) _) (by rw [Ne, ← List.length_eq_zero_iff]; simpa [Expr.rlen] using hy92) (by decide) (by simpa [Expr.rlen] using (qN h88).1) (by rw [← (qN h88).2]; rfl) (by simp [Expr.rlen]) rfl;have q26 := X4.app [some (vcO 68 2 (List.map Arg.cl y87))];have q27 := cj9 E4 X4.get gv90 (qg h86).1 (zh h86) f91 ha94 q26.get TT;refine w_xn 1 76 q27 ?_;refine ⟨xv q27, ?_⟩;refine za q27 ?_;exact qe ⟨s.length, (Gx.new s (vcO 68 2 (List.map Arg.cl y87))), (Pre.le hP), q26, (X4_0.app _), L4_0, (X4_1.app _), L4_1, (X4_2.app _), L4_2, (X4_3.app _), L4_3, (X8.app _), E2, E4, E8, (xv q27), (xv q27), (Ne.symm (Nat.ne_of_lt X4_0.lt)), (Ne.symm (Nat.ne_of_lt X4_1.lt)), (Ne.symm (Nat.ne_of_lt X4_2.lt)), (Ne.symm (Nat.ne_of_lt X4_3.lt)), N4__8, N4_0__4_1, N4_0__4_2, N4_0__4_3, N4_1__4_2, N4_1__4_3, N4_2__4_3, (hP.app _)⟩
          rintro e s ⟨i10_0, X10_0, L10_0, X4, X4_0, L4_0, X4_1, L4_1, X4_2, L4_2, X4_3, L4_3, X8, E2, E4, E8, E9, E10, N10_0__4_0, N10_0__4_1, N10_0__4_2, N10_0__4_3, N4__8, N4_0__4_1, N4_0__4_2, N4_0__4_3, N4_1__4_2, N4_1__4_3, N4_2__4_3, hP⟩
          obtain ⟨y95, h96, h79⟩ := qb h79;obtain ⟨y97, h98, h79⟩ := qb h79;refine qk (fun e s => C29_0 σ s i4 i4_0 y1 i4_1 y16 i4_2 y6 i4_3 y11 ∧ C29_1 s i4_0 y1 ∧ σ.length ≤ i4_0 ∧ C29_5 s i4_1 y16 ∧ σ.length ≤ i4_1 ∧ C29_2 s i4_2 y6 ∧ σ.length ≤ i4_2 ∧ C29_3 s i4_3 y11 ∧ σ.length ≤ i4_3 ∧ C29_4 σ s i8 ∧ eP e 4 i4 ∧ eP e 8 i8 ∧ eI e 9 y82 ∧ eS e 10 Arg.cl y97 ∧ i4 ≠ i8 ∧ i4_0 ≠ i4_1 ∧ i4_0 ≠ i4_2 ∧ i4_0 ≠ i4_3 ∧ i4_1 ≠ i4_2 ∧ i4_1 ≠ i4_3 ∧ i4_2 ≠ i4_3 ∧ Pre σ s) ?_ ?_
          ·have R99 : ((List.map Arg.cl y87) : List (List PV))[((0 : Int)).toNat]? = some (Arg.cl y95) := qA (qg h96).2;have gv100 := ZF (n := List.length y87) X10_0.get R99 (by simp [Expr.rlen]);have f101 : (List.flatten (List.map Arg.cl y87))[(0 : Int).toNat * 2 + 1]? = some (.sl (List.map Op.cl y95.ops)) := (zzi (qI (f := Arg.cl) (n := 2) (fun _ => rfl) _) R99).1 1 _ rfl;have R102 : ((List.map Arg.cl y87) : List (List PV))[((0 : Int)).toNat]? = some (Arg.cl y95) := qA (qg h96).2;have gv103 := ZF (n := List.length y87) X10_0.get R102 (by simp [Expr.rlen]);have f104 : List.take ((0 : Int).toNat * 2) (List.flatten (List.map Arg.cl y87)) ++ [(.v (.int .i64 a2)), (.sl (List.map Op.cl y95.ops))] ++ List.drop ((0 : Int).toNat * 2 + 2) (List.flatten (List.map Arg.cl y87)) = List.flatten (List.map Arg.cl y97) := qqa (sz := 2) (j := ((0 : Int)).toNat) (off := 0) (k := 2) (qI (f := Arg.cl) (n := 2) (fun _ => rfl) _) R102 rfl (by decide) (by rw [← (qJ h98).2.2, List.map_set]; rfl);have f105 : List.length y87 = List.length y97 := by rw [← (qJ h98).2.2]; simp
           have f106 := Yv (rows := (List.map Arg.cl y97)) (n := List.length y97) (sz := 2) (by intro h0; have h1 := congrArg List.length h0; have h2 := (qJ h98).2.1; rw [f105] at h2; simp only [List.length_map, Expr.rlen, List.length_nil] at h1; omega) (by simp) 68;refine w_x (JV E2 E10 gv100 (qg h96).1 (zh h96) f101 gv103 (qg h96).1 (zh h96) f104 f106 (Qp h98) (qJ h98).1 (zU (sz := 2) (rows := (List.map Arg.cl y87)) (o := 0) (k := 2) (qI (f := Arg.cl) (n := 2) (fun _ => rfl) _) R102 (by decide)) f105 TT) ?_;exact ZU ((Gh.refl _ _).tr (Gh.frzv (t := 10) (rows := (List.map Arg.cl y97)) (xv (JV E2 E10 gv100 (qg h96).1 (zh h96) f101 gv103 (qg h96).1 (zh h96) f104 f106 (Qp h98) (qJ h98).1 (zU (sz := 2) (rows := (List.map Arg.cl y87)) (o := 0) (k := 2) (qI (f := Arg.cl) (n := 2) (fun _ => rfl) _) R102 (by decide)) f105 TT)) (Gx.same X10_0 _).get (qI (f := Arg.cl) (n := 2) (fun _ => rfl) _) (by simp))) ⟨((X4.ne (Gx.ap X10_0 X4.gx) _).ne (Gx.ap X10_0 X4.gx) none), ((X4_0.ne N10_0__4_0 _).ne N10_0__4_0 none), L4_0, ((X4_1.ne N10_0__4_1 _).ne N10_0__4_1 none), L4_1, ((X4_2.ne N10_0__4_2 _).ne N10_0__4_2 none), L4_2, ((X4_3.ne N10_0__4_3 _).ne N10_0__4_3 none), L4_3, ((X8.ne (Gx.ap X10_0 X8.gx) _).ne (Gx.ap X10_0 X8.gx) none), E4, E8, E9, (xv (JV E2 E10 gv100 (qg h96).1 (zh h96) f101 gv103 (qg h96).1 (zh h96) f104 f106 (Qp h98) (qJ h98).1 (zU (sz := 2) (rows := (List.map Arg.cl y87)) (o := 0) (k := 2) (qI (f := Arg.cl) (n := 2) (fun _ => rfl) _) R102 (by decide)) f105 TT)), N4__8, N4_0__4_1, N4_0__4_2, N4_0__4_3, N4_1__4_2, N4_1__4_3, N4_2__4_3, ((hP.set L10_0 _).set L10_0 none)⟩
          rintro e s ⟨X4, X4_0, L4_0, X4_1, L4_1, X4_2, L4_2, X4_3, L4_3, X8, E4, E8, E9, E10, N4__8, N4_0__4_1, N4_0__4_2, N4_0__4_3, N4_1__4_2, N4_1__4_3, N4_2__4_3, hP⟩
          obtain ⟨y107, h108, h79⟩ := qb h79;obtain ⟨y109, h110, h79⟩ := qb h79;have R111 : ((List.map Task.cl y6) : List (List PV))[(y82).toNat]? = some (Task.cl y107) := qA (qg h108).2;have gv112 := ZF (n := List.length y6) X4_2.get R111 (by simp [Expr.rlen]);have f113 : List.take (y82.toNat * 4 + 3) (List.flatten (List.map Task.cl y6)) ++ [(.sl (List.map Arg.cl y97))] ++ List.drop (y82.toNat * 4 + 3 + 1) (List.flatten (List.map Task.cl y6)) = List.flatten (List.map Task.cl y109) := qqa (sz := 4) (j := (y82).toNat) (off := 3) (k := 1) (qI (f := Task.cl) (n := 4) (fun _ => rfl) _) R111 rfl (by decide) (by rw [← (qJ h110).2.2, List.map_set]; rfl);have f114 : List.length y6 = List.length y109 := by rw [← (qJ h110).2.2]; simp
          have f115 := Yv (rows := (List.map Task.cl y109)) (n := List.length y109) (sz := 4) (by intro h0; have h1 := congrArg List.length h0; have h2 := (qJ h110).2.1; rw [f114] at h2; simp only [List.length_map, Expr.rlen, List.length_nil] at h1; omega) (by simp) 61;refine w_x (cj15 E4 E9 E10 X4.get gv112 (qg h108).1 (zh h108) f113 f115 (Qp h110) (qJ h110).1 (zU (sz := 4) (rows := (List.map Task.cl y6)) (o := 3) (k := 1) (qI (f := Task.cl) (n := 4) (fun _ => rfl) _) R111 (by decide)) (X4.nea (Gx.ap X4_2 X4.gx)) f114 TT) ?_;obtain rfl := qa h79;exact qS ⟨_, rfl, (Bx.cast (c' := [(.vc i4_0 (List.length y1)), (.vc i4_1 (List.length y16)), (.vc i4_2 (List.length y109)), (.vc i4_3 (List.length y11))]) (by rw [f114]) (X4.ne (Gx.ap X4_2 X4.gx) (some (vcO 61 4 (List.map Task.cl y109))))), (X4_0.ne (Ne.symm N4_0__4_2) _), L4_0, (X4_1.ne (Ne.symm N4_1__4_2) _), L4_1, (Gx.same X4_2 _), L4_2, (X4_3.ne N4_2__4_3 _), L4_3, (X8.ne (Gx.ap X4_2 X8.gx) _), E4, E8, N4__8, N4_0__4_1, N4_0__4_2, N4_0__4_3, N4_1__4_2, N4_1__4_3, N4_2__4_3, (hP.set L4_2 _)⟩
         ·refine xf hb81 (qm ?_);obtain rfl := qa h79;exact qS ⟨_, rfl, X4, X4_0, L4_0, X4_1, L4_1, X4_2, L4_2, X4_3, L4_3, X8, E4, E8, N4__8, N4_0__4_1, N4_0__4_2, N4_0__4_3, N4_1__4_2, N4_1__4_3, N4_2__4_3, hP⟩
        rintro e s ⟨v80, rfl, X4, X4_0, L4_0, X4_1, L4_1, X4_2, L4_2, X4_3, L4_3, X8, E4, E8, N4__8, N4_0__4_1, N4_0__4_2, N4_0__4_3, N4_1__4_2, N4_1__4_3, N4_2__4_3, hP⟩
        (try dsimp only at h72);obtain rfl := qa h72;exact qS ⟨_, _, _, rfl, X4, X4_0, L4_0, X4_1, L4_1, X4_2, L4_2, X4_3, L4_3, X8, E4, E8, N4__8, N4_0__4_1, N4_0__4_2, N4_0__4_3, N4_1__4_2, N4_1__4_3, N4_2__4_3, hP⟩
       ·refine xf hb76 (qd (w_x TT ?_));refine qf ?_;obtain ⟨x116, h117, h72⟩ := qb h72;refine zE (fun e s => ∃ v118 v119, (v118, v119) = x116 ∧ C29_0 σ s i4 i4_0 y1 i4_1 v118 i4_2 y6 i4_3 v119 ∧ C29_1 s i4_0 y1 ∧ σ.length ≤ i4_0 ∧ C29_5 s i4_1 v118 ∧ σ.length ≤ i4_1 ∧ C29_2 s i4_2 y6 ∧ σ.length ≤ i4_2 ∧ C29_3 s i4_3 v119 ∧ σ.length ≤ i4_3 ∧ C29_4 σ s i8 ∧ eP e 4 i4 ∧ eP e 8 i8 ∧ i4 ≠ i8 ∧ i4_0 ≠ i4_1 ∧ i4_0 ≠ i4_2 ∧ i4_0 ≠ i4_3 ∧ i4_1 ≠ i4_2 ∧ i4_1 ≠ i4_3 ∧ i4_2 ≠ i4_3 ∧ Pre σ s) ?_ ?_
        ·rcases qi h117 with ⟨hb120, h117⟩ | ⟨hb120, h117⟩
         ·refine xt hb120 (qd ?_);have R121 := ZE (rows := (List.map Tell.cl y11)) (n := List.length y11) T_47 X4_3.get (by simp [Expr.rlen]);simp only [lenX, T_47] at R121;refine w_x (cj4 E4 X4.get R121 TT) ?_;refine qf ?_;obtain ⟨x122, h123, h117⟩ := qb h117;refine zE (fun e s => ∃ v124, v124 = x122 ∧ C29_0 σ s i4 i4_0 y1 i4_1 y16 i4_2 y6 i4_3 v124 ∧ C29_1 s i4_0 y1 ∧ σ.length ≤ i4_0 ∧ C29_5 s i4_1 y16 ∧ σ.length ≤ i4_1 ∧ C29_2 s i4_2 y6 ∧ σ.length ≤ i4_2 ∧ C29_3 s i4_3 v124 ∧ σ.length ≤ i4_3 ∧ C29_4 σ s i8 ∧ eP e 4 i4 ∧ eP e 8 i8 ∧ i4 ≠ i8 ∧ i4_0 ≠ i4_1 ∧ i4_0 ≠ i4_2 ∧ i4_0 ≠ i4_3 ∧ i4_1 ≠ i4_2 ∧ i4_1 ≠ i4_3 ∧ i4_2 ≠ i4_3 ∧ Pre σ s) ?_ ?_
          ·rcases qi h123 with ⟨hb125, h123⟩ | ⟨hb125, h123⟩
           ·refine xt hb125 ?_;obtain ⟨y126, h127, h123⟩ := qb h123;obtain ⟨y128, h129, h123⟩ := qb h123;obtain ⟨y130, h131, h123⟩ := qb h123;have R132 := ZE (rows := (List.map Tell.cl y11)) (n := List.length y11) T_47 X4_3.get (by simp [Expr.rlen]);simp only [lenX, T_47] at R132;have R133 : ((List.map Tell.cl y11) : List (List PV))[(y126).toNat]? = some (Tell.cl y128) := qA (qg h129).2;have gv134 := ZF (n := List.length y11) X4_3.get R133 (by simp [Expr.rlen]);have f135 : List.take (y126.toNat * 5 + 4) (List.flatten (List.map Tell.cl y11)) ++ [(.v (.int .i64 a2))] ++ List.drop (y126.toNat * 5 + 4 + 1) (List.flatten (List.map Tell.cl y11)) = List.flatten (List.map Tell.cl y130) := qqa (sz := 5) (j := (y126).toNat) (off := 4) (k := 1) (qI (f := Tell.cl) (n := 5) (fun _ => rfl) _) R133 rfl (by decide) (by rw [← (qJ h131).2.2, List.map_set]; rfl);have f136 : List.length y11 = List.length y130 := by rw [← (qJ h131).2.2]; simp
            have f137 := Yv (rows := (List.map Tell.cl y130)) (n := List.length y130) (sz := 5) (by intro h0; have h1 := congrArg List.length h0; have h2 := (qJ h131).2.1; rw [f136] at h2; simp only [List.length_map, Expr.rlen, List.length_nil] at h1; omega) (by simp) 73;have q28 := Gx.ap X4_3 X4.gx;refine zn 8 0 (cj17 E1 E2 E4 X4.get R132 (eq_false (qV h127).1) (qV h127).2 gv134 (qg h129).1 (zh h129) f135 f137 (Qp h131) (qJ h131).1 (zU (sz := 5) (rows := (List.map Tell.cl y11)) (o := 4) (k := 1) (qI (f := Tell.cl) (n := 5) (fun _ => rfl) _) R133 (by decide)) (X4.nea q28) TT) ?_;refine za (cj18 E1 E2 E4 X4.get R132 (eq_false (qV h127).1) (qV h127).2 gv134 (qg h129).1 (zh h129) f135 f137 (Qp h131) (qJ h131).1 (zU (sz := 5) (rows := (List.map Tell.cl y11)) (o := 4) (k := 1) (qI (f := Tell.cl) (n := 5) (fun _ => rfl) _) R133 (by decide)) (X4.nea q28) f136 TT) ?_;obtain rfl := qa h123;exact qS ⟨_, rfl, (Bx.cast (c' := [(.vc i4_0 (List.length y1)), (.vc i4_1 (List.length y16)), (.vc i4_2 (List.length y6)), (.vc i4_3 (List.length y130))]) (by rw [f136]) (X4.ne q28 (some (vcO 73 5 (List.map Tell.cl y130))))), (X4_0.ne (Ne.symm N4_0__4_3) _), L4_0, (X4_1.ne (Ne.symm N4_1__4_3) _), L4_1, (X4_2.ne (Ne.symm N4_2__4_3) _), L4_2, (Gx.same X4_3 _), L4_3, (X8.ne (Gx.ap X4_3 X8.gx) _), E4, E8, N4__8, N4_0__4_1, N4_0__4_2, N4_0__4_3, N4_1__4_2, N4_1__4_3, N4_2__4_3, (hP.set L4_3 _)⟩
           ·refine xf hb125 (qm ?_);obtain rfl := qa h123;exact qS ⟨_, rfl, X4, X4_0, L4_0, X4_1, L4_1, X4_2, L4_2, X4_3, L4_3, X8, E4, E8, N4__8, N4_0__4_1, N4_0__4_2, N4_0__4_3, N4_1__4_2, N4_1__4_3, N4_2__4_3, hP⟩
          rintro e s ⟨v124, rfl, X4, X4_0, L4_0, X4_1, L4_1, X4_2, L4_2, X4_3, L4_3, X8, E4, E8, N4__8, N4_0__4_1, N4_0__4_2, N4_0__4_3, N4_1__4_2, N4_1__4_3, N4_2__4_3, hP⟩
          (try dsimp only at h117);obtain rfl := qa h117;exact qS ⟨_, _, rfl, X4, X4_0, L4_0, X4_1, L4_1, X4_2, L4_2, X4_3, L4_3, X8, E4, E8, N4__8, N4_0__4_1, N4_0__4_2, N4_0__4_3, N4_1__4_2, N4_1__4_3, N4_2__4_3, hP⟩
         ·refine xf hb120 (qd (w_x TT ?_));refine qf ?_;obtain ⟨x138, h139, h117⟩ := qb h117;refine zE (fun e s => ∃ v140, v140 = x138 ∧ C29_0 σ s i4 i4_0 y1 i4_1 v140 i4_2 y6 i4_3 y11 ∧ C29_1 s i4_0 y1 ∧ σ.length ≤ i4_0 ∧ C29_5 s i4_1 v140 ∧ σ.length ≤ i4_1 ∧ C29_2 s i4_2 y6 ∧ σ.length ≤ i4_2 ∧ C29_3 s i4_3 y11 ∧ σ.length ≤ i4_3 ∧ C29_4 σ s i8 ∧ eP e 4 i4 ∧ eP e 8 i8 ∧ i4 ≠ i8 ∧ i4_0 ≠ i4_1 ∧ i4_0 ≠ i4_2 ∧ i4_0 ≠ i4_3 ∧ i4_1 ≠ i4_2 ∧ i4_1 ≠ i4_3 ∧ i4_2 ≠ i4_3 ∧ Pre σ s) ?_ ?_
          ·rcases qi h139 with ⟨hb141, h139⟩ | ⟨hb141, h139⟩
           ·refine xt hb141 (qd ?_);have R142 := ZE (rows := (List.map Node.cl y16)) (n := List.length y16) T_22 X4_1.get (by simp [Expr.rlen]);simp only [lenX, T_22] at R142;refine w_x (cj4 E4 X4.get R142 TT) ?_;refine qf ?_;obtain ⟨x143, h144, h139⟩ := qb h139;refine zE (fun e s => ∃ v145, v145 = x143 ∧ C29_0 σ s i4 i4_0 y1 i4_1 v145 i4_2 y6 i4_3 y11 ∧ C29_1 s i4_0 y1 ∧ σ.length ≤ i4_0 ∧ C29_5 s i4_1 v145 ∧ σ.length ≤ i4_1 ∧ C29_2 s i4_2 y6 ∧ σ.length ≤ i4_2 ∧ C29_3 s i4_3 y11 ∧ σ.length ≤ i4_3 ∧ C29_4 σ s i8 ∧ eP e 4 i4 ∧ eP e 8 i8 ∧ i4 ≠ i8 ∧ i4_0 ≠ i4_1 ∧ i4_0 ≠ i4_2 ∧ i4_0 ≠ i4_3 ∧ i4_1 ≠ i4_2 ∧ i4_1 ≠ i4_3 ∧ i4_2 ≠ i4_3 ∧ Pre σ s) ?_ ?_
            ·rcases qi h144 with ⟨hb146, h144⟩ | ⟨hb146, h144⟩
             ·refine xt hb146 ?_;obtain ⟨y147, h148, h144⟩ := qb h144;obtain ⟨y149, h150, h144⟩ := qb h144;obtain ⟨y151, h152, h144⟩ := qb h144;have R153 := ZE (rows := (List.map Node.cl y16)) (n := List.length y16) T_22 X4_1.get (by simp [Expr.rlen]);simp only [lenX, T_22] at R153;have R154 : ((List.map Node.cl y16) : List (List PV))[(y147).toNat]? = some (Node.cl y149) := qA (qg h150).2;have gv155 := ZF (n := List.length y16) X4_1.get R154 (by simp [Expr.rlen]);have f156 : List.take (y147.toNat * 10 + 2) (List.flatten (List.map Node.cl y16)) ++ [(.v (.int .i64 a2))] ++ List.drop (y147.toNat * 10 + 2 + 1) (List.flatten (List.map Node.cl y16)) = List.flatten (List.map Node.cl y151) := qqa (sz := 10) (j := (y147).toNat) (off := 2) (k := 1) (qI (f := Node.cl) (n := 10) (fun _ => rfl) _) R154 rfl (by decide) (by rw [← (qJ h152).2.2, List.map_set]; rfl);have f157 : List.length y16 = List.length y151 := by rw [← (qJ h152).2.2]; simp
              have f158 := Yv (rows := (List.map Node.cl y151)) (n := List.length y151) (sz := 10) (by intro h0; have h1 := congrArg List.length h0; have h2 := (qJ h152).2.1; rw [f157] at h2; simp only [List.length_map, Expr.rlen, List.length_nil] at h1; omega) (by simp) 99;have q29 := Gx.ap X4_1 X4.gx;refine zn 8 0 (cj17 E1 E2 E4 X4.get R153 (eq_false (qV h148).1) (qV h148).2 gv155 (qg h150).1 (zh h150) f156 f158 (Qp h152) (qJ h152).1 (zU (sz := 10) (rows := (List.map Node.cl y16)) (o := 2) (k := 1) (qI (f := Node.cl) (n := 10) (fun _ => rfl) _) R154 (by decide)) (X4.nea q29) TT) ?_;refine za (cj18 E1 E2 E4 X4.get R153 (eq_false (qV h148).1) (qV h148).2 gv155 (qg h150).1 (zh h150) f156 f158 (Qp h152) (qJ h152).1 (zU (sz := 10) (rows := (List.map Node.cl y16)) (o := 2) (k := 1) (qI (f := Node.cl) (n := 10) (fun _ => rfl) _) R154 (by decide)) (X4.nea q29) f157 TT) ?_;obtain rfl := qa h144;exact qS ⟨_, rfl, (Bx.cast (c' := [(.vc i4_0 (List.length y1)), (.vc i4_1 (List.length y151)), (.vc i4_2 (List.length y6)), (.vc i4_3 (List.length y11))]) (by rw [f157]) (X4.ne q29 (some (vcO 99 10 (List.map Node.cl y151))))), (X4_0.ne (Ne.symm N4_0__4_1) _), L4_0, (Gx.same X4_1 _), L4_1, (X4_2.ne N4_1__4_2 _), L4_2, (X4_3.ne N4_1__4_3 _), L4_3, (X8.ne (Gx.ap X4_1 X8.gx) _), E4, E8, N4__8, N4_0__4_1, N4_0__4_2, N4_0__4_3, N4_1__4_2, N4_1__4_3, N4_2__4_3, (hP.set L4_1 _)⟩
             ·refine xf hb146 (qm ?_);obtain rfl := qa h144;exact qS ⟨_, rfl, X4, X4_0, L4_0, X4_1, L4_1, X4_2, L4_2, X4_3, L4_3, X8, E4, E8, N4__8, N4_0__4_1, N4_0__4_2, N4_0__4_3, N4_1__4_2, N4_1__4_3, N4_2__4_3, hP⟩
            rintro e s ⟨v145, rfl, X4, X4_0, L4_0, X4_1, L4_1, X4_2, L4_2, X4_3, L4_3, X8, E4, E8, N4__8, N4_0__4_1, N4_0__4_2, N4_0__4_3, N4_1__4_2, N4_1__4_3, N4_2__4_3, hP⟩
            (try dsimp only at h139);obtain rfl := qa h139;exact qS ⟨_, rfl, X4, X4_0, L4_0, X4_1, L4_1, X4_2, L4_2, X4_3, L4_3, X8, E4, E8, N4__8, N4_0__4_1, N4_0__4_2, N4_0__4_3, N4_1__4_2, N4_1__4_3, N4_2__4_3, hP⟩
           ·refine xf hb141 (qm ?_);obtain rfl := qa h139;exact qS ⟨_, rfl, X4, X4_0, L4_0, X4_1, L4_1, X4_2, L4_2, X4_3, L4_3, X8, E4, E8, N4__8, N4_0__4_1, N4_0__4_2, N4_0__4_3, N4_1__4_2, N4_1__4_3, N4_2__4_3, hP⟩
          rintro e s ⟨v140, rfl, X4, X4_0, L4_0, X4_1, L4_1, X4_2, L4_2, X4_3, L4_3, X8, E4, E8, N4__8, N4_0__4_1, N4_0__4_2, N4_0__4_3, N4_1__4_2, N4_1__4_3, N4_2__4_3, hP⟩
          (try dsimp only at h117);obtain rfl := qa h117;exact qS ⟨_, _, rfl, X4, X4_0, L4_0, X4_1, L4_1, X4_2, L4_2, X4_3, L4_3, X8, E4, E8, N4__8, N4_0__4_1, N4_0__4_2, N4_0__4_3, N4_1__4_2, N4_1__4_3, N4_2__4_3, hP⟩
        rintro e s ⟨v118, v119, rfl, X4, X4_0, L4_0, X4_1, L4_1, X4_2, L4_2, X4_3, L4_3, X8, E4, E8, N4__8, N4_0__4_1, N4_0__4_2, N4_0__4_3, N4_1__4_2, N4_1__4_3, N4_2__4_3, hP⟩
        (try dsimp only at h72);obtain rfl := qa h72;exact qS ⟨_, _, _, rfl, X4, X4_0, L4_0, X4_1, L4_1, X4_2, L4_2, X4_3, L4_3, X8, E4, E8, N4__8, N4_0__4_1, N4_0__4_2, N4_0__4_3, N4_1__4_2, N4_1__4_3, N4_2__4_3, hP⟩
      rintro e s ⟨v73, v74, v75, rfl, X4, X4_0, L4_0, X4_1, L4_1, X4_2, L4_2, X4_3, L4_3, X8, E4, E8, N4__8, N4_0__4_1, N4_0__4_2, N4_0__4_3, N4_1__4_2, N4_1__4_3, N4_2__4_3, hP⟩
      (try dsimp only at h49);obtain rfl := qa h49;exact qS ⟨_, _, _, rfl, X4, X4_0, L4_0, X4_1, L4_1, X4_2, L4_2, X4_3, L4_3, X8, E4, E8, N4__8, N4_0__4_1, N4_0__4_2, N4_0__4_3, N4_1__4_2, N4_1__4_3, N4_2__4_3, hP⟩
    rintro e s ⟨v50, v51, v52, rfl, X4, X4_0, L4_0, X4_1, L4_1, X4_2, L4_2, X4_3, L4_3, X8, E4, E8, N4__8, N4_0__4_1, N4_0__4_2, N4_0__4_3, N4_1__4_2, N4_1__4_3, N4_2__4_3, hP⟩
    (try dsimp only at h25);obtain rfl := qa h25;exact qS ⟨_, _, _, _, rfl, X4, X4_0, L4_0, X4_1, L4_1, X4_2, L4_2, X4_3, L4_3, X8, E4, E8, N4__8, N4_0__4_1, N4_0__4_2, N4_0__4_3, N4_1__4_2, N4_1__4_3, N4_2__4_3, hP⟩
  rintro e s ⟨v26, v27, v28, v29, rfl, X4, X4_0, L4_0, X4_1, L4_1, X4_2, L4_2, X4_3, L4_3, X8, E4, E8, N4__8, N4_0__4_1, N4_0__4_2, N4_0__4_3, N4_1__4_2, N4_1__4_3, N4_2__4_3, hP⟩
  (try dsimp only at h22);refine qQ ?_;obtain rfl := qa h22;have q30 := Gx.ap X4_1 X4.gx;have q31 := Gx.ap X4.gx X4_3;have q32 := Gx.ap X4_0 X4.gx;have q33 := X4.ne q32 none;exact ZU (((((Gh.refl _ _).tr (Gh.frzb (k := 0) (rows := (List.map Clock.cl v26)) X4.get rfl X4_0.get (qI (f := Clock.cl) (n := 2) (fun _ => rfl) _) (by simp))).tr (Gh.frzb (k := 1) (rows := (List.map Node.cl v27)) (q33.same _ _).get rfl ((X4_1.ne N4_0__4_1 none).ne (Gx.ap X4.gx X4_1) _).get (qI (f := Node.cl) (n := 10) (fun _ => rfl) _) (by simp))).tr (Gh.frzb (k := 2) (rows := (List.map Task.cl v28)) (((q33.same _ _).ne q30 none).same _ _).get rfl ((((X4_2.ne N4_0__4_2 none).ne (Gx.ap X4.gx X4_2) _).ne N4_1__4_2 none).ne (Gx.ap X4.gx X4_2) _).get (qI (f := Task.cl) (n := 4) (fun _ => rfl) _) (by simp))).tr (Gh.frzb (k := 3) (rows := (List.map Tell.cl v29)) (((((q33.same _ _).ne q30 none).same _ _).ne (Gx.ap X4_2 X4.gx) none).same _ _).get rfl ((((((X4_3.ne N4_0__4_3 none).ne q31 _).ne N4_1__4_3 none).ne q31 _).ne N4_2__4_3 none).ne q31 _).get (qI (f := Tell.cl) (n := 5) (fun _ => rfl) _) (by simp))) ⟨_, rfl, (((((((q33.same _ _).ne q30 none).same _ _).ne (Gx.ap X4_2 X4.gx) none).same _ _).ne (Gx.ap X4_3 X4.gx) none).same _ _), ((((((((X8.ne (Gx.ap X4_0 X8.gx) none).ne N4__8 _).ne (Gx.ap X4_1 X8.gx) none).ne N4__8 _).ne (Gx.ap X4_2 X8.gx) none).ne N4__8 _).ne (Gx.ap X4_3 X8.gx) none).ne N4__8 _), E4, E8, N4__8, ((((((((hP.set L4_0 none).set X4.le _).set L4_1 none).set X4.le _).set L4_2 none).set X4.le _).set L4_3 none).set X4.le _)⟩
 rintro e s ⟨v23, rfl, X4, X8, E4, E8, N4__8, hP⟩
 (try dsimp only at h);refine qk (fun e s => Bx σ s i8 49 (Flat.cl v23) ∧ eP e 8 i8 ∧ Pre σ s) ?_ ?_
 ·refine w_x (cj7 E4 E8 X4.get X8.get (X4.nea (Ne.symm N4__8)) X8.samea TT) ?_;exact qe ⟨(X8.same _ _), E8, (hP.set X8.le (some (AObj.box 49 (Flat.cl v23))))⟩
 rintro e s ⟨X8, E8, hP⟩
 refine qp ?_;obtain rfl := qa h;exact qt (fun _ => rfl) (xr (rs := #[.cell 8 49]) (cj3 X8.get E8 TT)) hP (.refl _) (.ag (CnL.cons (Cn.rows Clock.cn _) (CnL.cons (Cn.rows Node.cn _) (CnL.cons (Cn.rows Task.cn _) (CnL.cons (Cn.rows Tell.cn _) CnL.nil))))) hK
end Go.Proofs.Ytohmmfimedgccaa.E
end
section
namespace Go.Proofs.Ytohmmfimedgccaa.E
set_option linter.unusedVariables false
set_option linter.unusedSimpArgs false
set_option maxRecDepth 10000
def taskS (F : Flat) (t : Task) : Prop := 0 ≤ t.node ∧ t.node < (F.nodes.length : Int) ∧ t.args.length ≠ 0 ∧ (∀ n, F.nodes[t.node.toNat]? = some n → n.params.length = t.args.length) ∧ ∀ a ∈ t.args, fitS F a t.clock
def tellS (F : Flat) (t : Tell) : Prop := (1 ≤ t.deadline ∧ t.deadline ≤ 1000) ∧ fitS F t.arg t.clock
structure RightS (F : Flat) : Prop where
 tasks : F.tasks.length ≤ 30
 input : ∀ x ∈ F.inputs, ze x = some true
 node : ∀ x ∈ F.nodes, 1 ≤ x.budget ∧ x.budget ≤ 1000
 task : ∀ t ∈ F.tasks, taskS F t
 tell : ∀ t ∈ F.tells, tellS F t
noncomputable def m_fc1 := B_flat_Right_c1 ze
noncomputable def m_fc2 := B_flat_Right_c2 B_flat_ticks
noncomputable def m_cfA := B_slices_ContainsFunc_Arg B_slices_IndexFunc_Arg
noncomputable def m_tc1 := B_flat_task_c1 YW
noncomputable def m_ftask := B_flat_task m_cfA m_tc1
noncomputable def m_fc3 := B_flat_Right_c3 m_ftask
noncomputable def m_fc4 := B_flat_Right_c4 B_flat_ticks YW
noncomputable def qqX := B_flat_Right m_cfC m_fc1 m_cfN m_fc2 m_cfT m_fc3 m_cfY m_fc4
theorem s_fright : Sat_flat_Right qqX := W_flat_Right _ _ _ _ _ _ _ _ (W_slices_ContainsFunc_Clock _ W_slices_IndexFunc_Clock) (W_flat_Right_c1 _ zzX) (W_slices_ContainsFunc_Node _ s_ixN) (W_flat_Right_c2 _ W_flat_ticks) (W_slices_ContainsFunc_Task _ W_slices_IndexFunc_Task) (W_flat_Right_c3 _ (W_flat_task _ _ (W_slices_ContainsFunc_Arg _ W_slices_IndexFunc_Arg) (W_flat_task_c1 _ s_ffits))) (W_slices_ContainsFunc_Tell _ W_slices_IndexFunc_Tell) (W_flat_Right_c4 _ _ W_flat_ticks s_ffits)
theorem v_ticks (n : Int) : ∃ b, B_flat_ticks n = some b ∧ (b = true ↔ 1 ≤ n ∧ n ≤ 1000) := ⟨_, rfl, by simp⟩
theorem zzP {F : Flat} (hF : FlatF F) {a : Arg} (ha : argF a) (c : Clock) : ∃ b, YW F a c = some b ∧ Ji F a c = some b ∧ (b = true ↔ fitS F a c) := by
 obtain ⟨b, h1, h2⟩ := t_ffits hF ha c;refine ⟨b, h1, h2, ?_⟩;unfold fitS;rw [h2];cases b <;> simp
theorem t_ftask {F : Flat} (hF : FlatF F) {t : Task} (ht : t ∈ F.tasks) : ∃ b, m_ftask F t = some b ∧ (b = true ↔ taskS F t) := by
 obtain ⟨hl, ha⟩ := hF.args t ht;obtain ⟨q, hq1, hq2⟩ := cf_Arg (xs := t.args) (by omega) (g := fun z => m_tc1 z F t) (P := fun a => fitS F a t.clock) (fun a hm => by
  obtain ⟨b, h1, _, h3⟩ := zzP hF (ha a hm) t.clock;refine ⟨b, ?_, h3⟩;unfold m_tc1 B_flat_task_c1;rw [h1];rfl)
 unfold m_ftask B_flat_task;by_cases hA : 0 ≤ t.node ∧ t.node < (F.nodes.length : Int)
 ·obtain ⟨hn, hg⟩ := YZ hA.1 hA.2;simp only [decide_eq_true hA.1, decide_eq_true hA.2, Bool.and_self, if_true, hg, Option.bind_some, Bool.true_and];by_cases hp : (t.args.length : Int) = (F.nodes[t.node.toNat].params.length : Int)
  ·by_cases h0 : (0 : Int) < (t.args.length : Int)
   ·rw [if_pos (by simp only [Bool.and_eq_true, decide_eq_true_eq]; exact ⟨hp, h0⟩)];rw [show m_cfA t.args (fun z => m_tc1 z F t) = some (!q) from hq1];refine ⟨q, ?_, ?_⟩
    ·simp only [Option.bind_some, Bool.not_not, decide_eq_true hp, decide_eq_true h0, Bool.true_and]
    ·rw [hq2];exact ⟨fun h => ⟨hA.1, hA.2, by omega, fun n hn' => by rw [List.getElem?_eq_getElem hn] at hn'; obtain rfl := Option.some.inj hn'; omega, h⟩, fun h => h.2.2.2.2⟩
   ·rw [if_neg (by simp only [Bool.and_eq_true, decide_eq_true_eq]; exact fun h => h0 h.2)];refine ⟨false, ?_, fun h => (by cases h), fun h => absurd h.2.2.1 (by omega)⟩;simp only [Option.bind_some, Bool.and_false]
  ·rw [if_neg (by simp only [Bool.and_eq_true, decide_eq_true_eq]; exact fun h => hp h.1)];refine ⟨false, ?_, fun h => (by cases h), fun h => ?_⟩
   ·simp only [Option.bind_some, Bool.and_false]
   ·have := h.2.2.2.1 _ (List.getElem?_eq_getElem hn);omega
 ·have e1 : (decide (0 ≤ t.node) && decide (t.node < (F.nodes.length : Int))) = false := by
   simp only [Bool.and_eq_false_iff, decide_eq_false_iff_not];omega
  rw [e1];refine ⟨false, rfl, fun h => (by cases h), fun h => absurd ⟨h.1, h.2.1⟩ hA⟩
theorem t_fright {F : Flat} (hF : FlatF F) : ∃ b, qqX F = some b ∧ (b = true ↔ RightS F) := by
 obtain ⟨b1, p1, q1⟩ := cf_Clock (xs := F.inputs) (by have := hF.inputs; omega) (g := fun z => m_fc1 z) (P := fun x => ze x = some true) (fun x _ => by
  obtain ⟨b, h1, _⟩ := rr_eq x;refine ⟨b, ?_, ?_⟩
  ·unfold m_fc1 B_flat_Right_c1;rw [h1];rfl
  ·rw [h1]; cases b <;> simp)
 obtain ⟨b2, p2, q2⟩ := cf_Node (xs := F.nodes) (by have := hF.nodes; omega) (g := fun z => m_fc2 z) (P := fun x => 1 ≤ x.budget ∧ x.budget ≤ 1000) (fun x _ => by
  obtain ⟨b, h1, h2⟩ := v_ticks x.budget;refine ⟨b, ?_, h2⟩;unfold m_fc2 B_flat_Right_c2;rw [h1];rfl)
 obtain ⟨b3, p3, q3⟩ := cf_Task (xs := F.tasks) (by have := hF.tasks; omega) (g := fun z => m_fc3 z F) (P := fun t => taskS F t) (fun t ht => by
  obtain ⟨b, h1, h2⟩ := t_ftask hF ht;refine ⟨b, ?_, h2⟩;unfold m_fc3 B_flat_Right_c3;rw [h1];rfl)
 obtain ⟨b4, p4, q4⟩ := cf_Tell (xs := F.tells) (by have := hF.tells; omega) (g := fun z => m_fc4 z F) (P := fun t => tellS F t) (fun t ht => by
  obtain ⟨b, h1, h2⟩ := v_ticks t.deadline;obtain ⟨c, h3, _, h4⟩ := zzP hF (hF.tell t ht) t.clock;unfold m_fc4 B_flat_Right_c4 tellS;rw [h1];cases b with
  | false => exact ⟨false, rfl, fun h => (by cases h), fun h => by have := h2.2 h.1; cases this⟩
  | true =>
   simp only [Option.bind_some, Bool.not_true, Bool.false_eq_true, if_false, h3, Bool.false_or];exact ⟨c, rfl, fun h => ⟨h2.1 rfl, h4.1 h⟩, fun h => h4.2 h.2⟩)
 unfold qqX B_flat_Right;rw [show m_cfC F.inputs (fun z => m_fc1 z) = some (!b1) from p1, show m_cfN F.nodes (fun z => m_fc2 z) = some (!b2) from p2, show m_cfT F.tasks (fun z => m_fc3 z F) = some (!b3) from p3, show m_cfY F.tells (fun z => m_fc4 z F) = some (!b4) from p4];have hR : RightS F ↔ F.tasks.length ≤ 30 ∧ (∀ x ∈ F.inputs, ze x = some true) ∧ (∀ x ∈ F.nodes, 1 ≤ x.budget ∧ x.budget ≤ 1000) ∧ (∀ t ∈ F.tasks, taskS F t) ∧ ∀ t ∈ F.tells, tellS F t := ⟨fun h => ⟨h.1, h.2, h.3, h.4, h.5⟩, fun h => ⟨h.1, h.2.1, h.2.2.1, h.2.2.2.1, h.2.2.2.2⟩⟩;rw [hR, ← q1, ← q2, ← q3, ← q4];by_cases h30 : F.tasks.length ≤ 30
 ·have : (F.tasks.length : Int) ≤ 30 := by omega
  simp only [decide_eq_true this, if_true, Option.bind_some, Bool.not_not, Bool.true_and, h30, true_and];cases b1 <;> cases b2 <;> cases b3 <;> cases b4 <;> exact ⟨_, rfl, by simp⟩
 ·have : ¬ (F.tasks.length : Int) ≤ 30 := by omega
  simp only [decide_eq_false this, Bool.false_eq_true, if_false, Option.bind_some, Bool.false_and, h30, false_and, iff_false];exact ⟨false, rfl, by simp⟩
theorem t_rrightF {F : Flat} (hF : FlatF F) : ∃ b, qqt F = some b ∧ (b = true ↔ RightS F) := by
 have hbig : (1000000 : Nat) ≤ maxLen := by unfold maxLen; decide
 obtain ⟨r0, a0, b0⟩ := QC (n := F.inputs.length) (by have := hF.inputs; omega) (f := QY F ZA) (fun i => ∀ x, F.inputs[i]? = some x → ze x = some true) (fun i hi => by
  unfold QY;obtain ⟨b, h1, h2⟩ := rr_eq F.inputs[i];simp only [dlt hi, if_true, qx hi, Option.bind_some, h2, List.getElem?_eq_getElem hi, Option.some.injEq, forall_eq', h1];cases b with
  | false => exact .inl ⟨rfl, by simp⟩
  | true => exact .inr ⟨rfl, rfl⟩) (by
  unfold QY;simp only [dge, Bool.false_eq_true, if_false])
 obtain ⟨r1, a1, b1⟩ := QC (n := F.nodes.length) (by have := hF.nodes; omega) (f := QX F) (fun i => ∀ x, F.nodes[i]? = some x → 1 ≤ x.budget ∧ x.budget ≤ 1000) (fun i hi => by
  unfold QX;simp only [dlt hi, if_true, qx hi, Option.bind_some, List.getElem?_eq_getElem hi, Option.some.injEq, forall_eq'];by_cases hc : F.nodes[i].budget < 1 ∨ 1000 < F.nodes[i].budget
  ·rw [if_pos (by simpa only [Bool.or_eq_true, decide_eq_true_eq] using hc)];exact .inl ⟨rfl, by omega⟩
  ·rw [if_neg (by simpa only [Bool.or_eq_true, decide_eq_true_eq] using hc)];exact .inr ⟨rfl, by omega⟩) (by
  unfold QX;simp only [dge, Bool.false_eq_true, if_false])
 obtain ⟨r2, a2, b2⟩ := QC (n := F.tasks.length) (by have := hF.tasks; omega) (f := QW F Ji) (fun i => ∀ t, F.tasks[i]? = some t → taskS F t) (fun i hi => by
  unfold QW;obtain ⟨hl, ha⟩ := hF.args _ (List.getElem_mem hi);simp only [dlt hi, if_true, qx hi, Option.bind_some, List.getElem?_eq_getElem hi, Option.some.injEq, forall_eq'];generalize F.tasks[i] = t at *;obtain ⟨r3, a3, b3⟩ := QC (n := t.args.length) (by omega) (f := QV t F Ji) (fun k => ∀ a, t.args[k]? = some a → fitS F a t.clock) (fun k hk => by
   unfold QV;obtain ⟨b, _, h2, h3⟩ := zzP hF (ha _ (List.getElem_mem hk)) t.clock;simp only [dlt hk, if_true, qx hk, Option.bind_some, h2, List.getElem?_eq_getElem hk, Option.some.injEq, forall_eq'];cases b with
   | false => exact .inl ⟨rfl, fun h => by have := h3.2 h; cases this⟩
   | true => exact .inr ⟨rfl, h3.1 rfl⟩) (by
   unfold QV;simp only [dge, Bool.false_eq_true, if_false])
  have hall : (∀ k, k < t.args.length → ∀ a, t.args[k]? = some a → fitS F a t.clock) ↔ ∀ a ∈ t.args, fitS F a t.clock := Jr (P := fun a => fitS F a t.clock);rw [hall] at b3;by_cases hA : t.node < 0 ∨ (F.nodes.length : Int) ≤ t.node ∨ t.args.length = 0
  ·have e1 : ((decide (t.node < 0) || decide ((F.nodes.length : Int) ≤ t.node)) || decide ((t.args.length : Int) = 0)) = true := by
    simp only [Bool.or_eq_true, decide_eq_true_eq];omega
   rw [e1];exact .inl ⟨rfl, fun h => by have h1 := h.1; have h2 := h.2.1; have h3 := h.2.2.1; omega⟩
  ·have e1 : ((decide (t.node < 0) || decide ((F.nodes.length : Int) ≤ t.node)) || decide ((t.args.length : Int) = 0)) = false := by
    simp only [Bool.or_eq_false_iff, decide_eq_false_iff_not];omega
   obtain ⟨hn, hg⟩ := YZ (l := F.nodes) (i := t.node) (by omega) (by omega);rw [e1];simp only [Bool.false_eq_true, if_false, hg, Option.bind_some, Bool.false_or];by_cases hp : (t.args.length : Int) = (F.nodes[t.node.toNat].params.length : Int)
   ·simp only [decide_eq_true hp, Bool.not_true, Bool.false_eq_true, if_false];rw [a3];rcases b3 with ⟨rfl, b3⟩ | ⟨rfl, b3⟩
    ·exact .inl ⟨rfl, fun h => b3 h.2.2.2.2⟩
    ·exact .inr ⟨rfl, by omega, by omega, by omega, fun n hn' => by rw [List.getElem?_eq_getElem hn] at hn'; obtain rfl := Option.some.inj hn'; omega, b3⟩
   ·simp only [decide_eq_false hp, Bool.not_false, if_true];exact .inl ⟨rfl, fun h => by have := h.2.2.2.1 _ (List.getElem?_eq_getElem hn); omega⟩) (by
  unfold QW;simp only [dge, Bool.false_eq_true, if_false])
 obtain ⟨r4, a4, b4⟩ := QC (n := F.tells.length) (by have := hF.tells; omega) (f := QU F Ji) (fun i => ∀ t, F.tells[i]? = some t → tellS F t) (fun i hi => by
  unfold QU;have ha := hF.tell _ (List.getElem_mem hi);simp only [dlt hi, if_true, qx hi, Option.bind_some, List.getElem?_eq_getElem hi, Option.some.injEq, forall_eq'];generalize F.tells[i] = t at *;obtain ⟨b, _, h2, h3⟩ := zzP hF ha t.clock;by_cases hd : t.deadline < 1 ∨ 1000 < t.deadline
  ·have e1 : (decide (t.deadline < 1) || decide (1000 < t.deadline)) = true := by simpa only [Bool.or_eq_true, decide_eq_true_eq] using hd
   rw [e1];exact .inl ⟨rfl, fun h => by have := h.1; omega⟩
  ·have e1 : (decide (t.deadline < 1) || decide (1000 < t.deadline)) = false := by
    simp only [Bool.or_eq_false_iff, decide_eq_false_iff_not];omega
   rw [e1];simp only [Bool.false_eq_true, if_false, h2, Option.bind_some, Bool.false_or];cases b with
   | false => exact .inl ⟨rfl, fun h => by have := h3.2 h.2; cases this⟩
   | true => exact .inr ⟨rfl, by omega, h3.1 rfl⟩) (by
  unfold QU;simp only [dge, Bool.false_eq_true, if_false])
 rw [Jr (P := fun x => ze x = some true)] at b0;rw [Jr (P := fun x : Node => 1 ≤ x.budget ∧ x.budget ≤ 1000)] at b1;rw [Jr (P := fun t => taskS F t)] at b2;rw [Jr (P := fun t => tellS F t)] at b4;unfold qqt B_ref08_Right;by_cases h30 : F.tasks.length ≤ 30
 ·rw [if_neg (by rw [decide_eq_true_eq]; omega), a0];rcases b0 with ⟨rfl, b0⟩ | ⟨rfl, b0⟩
  ·exact ⟨false, rfl, fun h => (by cases h), fun h => absurd h.input b0⟩
  simp only [Option.bind_some];rw [a1];rcases b1 with ⟨rfl, b1⟩ | ⟨rfl, b1⟩
  ·exact ⟨false, rfl, fun h => (by cases h), fun h => absurd h.node b1⟩
  simp only [Option.bind_some];rw [a2];rcases b2 with ⟨rfl, b2⟩ | ⟨rfl, b2⟩
  ·exact ⟨false, rfl, fun h => (by cases h), fun h => absurd h.task b2⟩
  simp only [Option.bind_some];rw [a4];rcases b4 with ⟨rfl, b4⟩ | ⟨rfl, b4⟩
  ·exact ⟨false, rfl, fun h => (by cases h), fun h => absurd h.tell b4⟩
  exact ⟨true, rfl, fun _ => ⟨h30, b0, b1, b2, b4⟩, fun _ => rfl⟩
 ·rw [if_pos (by rw [decide_eq_true_eq]; omega)];exact ⟨false, rfl, fun h => (by cases h), fun h => absurd h.tasks h30⟩
theorem qqp {α : Type} {b : Nat} {xs : List α} (h : xs.length ≤ 100) (hb : b ≤ 1000) : Qk b [] xs = some xs := by
 have h1 : xs.length * b ≤ 100 * 1000 := Nat.mul_le_mul h hb;unfold Qk;rw [if_pos (by simp only [List.length_nil, Nat.zero_add]; omega)];rfl
theorem zzq {α : Type} {a : Int} (h0 : 0 ≤ a) {l : List α} (hl : 0 < l.length) : ∃ k : Nat, k < l.length ∧ Jb a ((l.length : Nat) : Int) = some (k : Int) := by
 have h1 := Int.emod_nonneg a (by omega : ((l.length : Nat) : Int) ≠ 0);have h2 := Int.emod_lt_of_pos a (by omega : 0 < ((l.length : Nat) : Int));refine ⟨(a % (l.length : Int)).toNat, by omega, ?_⟩;unfold Jb;rw [if_neg (by omega), Int.tmod_eq_emod_of_nonneg h0];congr 1;omega
theorem YR {α : Type} {l : List α} {k : Nat} (h : k < l.length) (x : α) : Jw l (k : Int) x = some (l.set k x) := by
 unfold Jw;rw [if_pos ⟨by omega, by omega⟩];simp
theorem d0 {α : Type} {l : List α} : decide ((0 : Int) < ((l.length : Nat) : Int)) = true ↔ 0 < l.length := by simp
theorem zzK {α : Type} {l : List α} {k : Nat} {x y : α} (h : y ∈ l.set k x) : y ∈ l ∨ y = x := List.mem_or_eq_of_mem_set h
theorem t_bent {F : Flat} (hF : FlatF F) (hA : ∀ t ∈ F.tasks, 0 < t.args.length) {a : Int} (h0 : 0 ≤ a) (to how : Int) : ∃ G, B_law08_bent F a to how = some G ∧ FlatF G := by
 have h1 := hF.inputs;have h2 := hF.nodes;have h3 := hF.tasks;have h4 := hF.tells;unfold B_law08_bent;rw [qqp h1 (by omega), qqp h2 (by omega), qqp h3 (by omega), qqp h4 (by omega)];simp only [Option.bind_some];by_cases c0 : Int.tmod how 6 = 0
 ·simp only [decide_eq_true c0, if_true];by_cases hl : 0 < F.inputs.length
  ·obtain ⟨k, hk, hr⟩ := zzq h0 hl;simp only [d0.2 hl, if_true, hr, Option.bind_some, qx hk, YR hk];exact ⟨_, rfl, by simpa using h1, h2, h3, h4, hF.args, hF.tell⟩
  ·rw [if_neg (fun h => hl (d0.1 h))];exact ⟨_, rfl, hF⟩
 rw [if_neg (by rw [decide_eq_true_eq]; exact c0)];by_cases c1 : Int.tmod how 6 = 1
 ·simp only [decide_eq_true c1, if_true];by_cases hl : 0 < F.tasks.length
  ·obtain ⟨k, hk, hr⟩ := zzq h0 hl;simp only [d0.2 hl, if_true, hr, Option.bind_some, qx hk, YR hk];refine ⟨_, rfl, h1, h2, by simpa using h3, h4, fun t ht => ?_, hF.tell⟩;rcases zzK ht with ht | rfl
   ·exact hF.args t ht
   ·exact hF.args F.tasks[k] (List.getElem_mem hk)
  ·rw [if_neg (fun h => hl (d0.1 h))];exact ⟨_, rfl, hF⟩
 rw [if_neg (by rw [decide_eq_true_eq]; exact c1)];by_cases c2 : Int.tmod how 6 = 2
 ·simp only [decide_eq_true c2, if_true];by_cases hl : 0 < F.tasks.length
  ·obtain ⟨k, hk, hr⟩ := zzq h0 hl;have ha := hF.args _ (List.getElem_mem hk);have hp := hA _ (List.getElem_mem hk);have hz := YR hp;have gz := qx hp;rw [show ((0 : Nat) : Int) = (0 : Int) from rfl] at hz gz;simp only [d0.2 hl, if_true, hr, Option.bind_some, qx hk, qqp ha.1 (by omega : 32 ≤ 1000), gz, hz, YR hk];refine ⟨_, rfl, h1, h2, by simpa using h3, h4, fun t ht => ?_, hF.tell⟩;rcases zzK ht with ht | rfl
   ·exact hF.args t ht
   ·refine ⟨by simpa using ha.1, fun x hx => ?_⟩;rcases zzK hx with hx | rfl
    ·exact ha.2 x hx
    ·exact ha.2 F.tasks[k].args[0] (List.getElem_mem hp)
  ·rw [if_neg (fun h => hl (d0.1 h))];exact ⟨_, rfl, hF⟩
 rw [if_neg (by rw [decide_eq_true_eq]; exact c2)];by_cases c3 : Int.tmod how 6 = 3
 ·simp only [decide_eq_true c3, if_true];by_cases hl : 0 < F.tells.length
  ·obtain ⟨k, hk, hr⟩ := zzq h0 hl;simp only [d0.2 hl, if_true, hr, Option.bind_some, qx hk, YR hk];refine ⟨_, rfl, h1, h2, h3, by simpa using h4, hF.args, fun t ht => ?_⟩;rcases zzK ht with ht | rfl
   ·exact hF.tell t ht
   ·exact hF.tell F.tells[k] (List.getElem_mem hk)
  ·rw [if_neg (fun h => hl (d0.1 h))];exact ⟨_, rfl, hF⟩
 rw [if_neg (by rw [decide_eq_true_eq]; exact c3)];by_cases c4 : Int.tmod how 6 = 4
 ·simp only [decide_eq_true c4, if_true];by_cases hl : 0 < F.nodes.length
  ·obtain ⟨k, hk, hr⟩ := zzq h0 hl;simp only [d0.2 hl, if_true, hr, Option.bind_some, qx hk, YR hk];exact ⟨_, rfl, h1, by simpa using h2, h3, h4, hF.args, hF.tell⟩
  ·rw [if_neg (fun h => hl (d0.1 h))];exact ⟨_, rfl, hF⟩
 rw [if_neg (by rw [decide_eq_true_eq]; exact c4)];exact ⟨_, rfl, hF⟩
theorem FW.argOk {p : Program} {ρ : ByteArray → Clock} (w : FW p ρ) {to : ByteArray} {e : Expr} (h : (to, e) ∈ spP p.flows) : argF (E.argOf p to e) := by
 obtain ⟨n, hn, har⟩ := w.argOf h;exact ⟨har.fit w h, Nat.le_trans har.len (by omega)⟩
theorem FlatR.flatF {p : Program} {ρ : ByteArray → Clock} (w : FW p ρ) {F : Flat} (hF : FlatR p ρ F) (h30 : (cls (spP p.flows)).length ≤ 30) : FlatF F ∧ ∀ t ∈ F.tasks, 0 < t.args.length := by
 have hall := w.fit.all;have htl := hF.tlen;have key : ∀ t ∈ F.tasks, ∃ x c, (x.1, x.2) ∈ spP p.flows ∧ x.2.kind = 2 ∧ t = zB p x c := fun t ht => by
  obtain ⟨k, hk⟩ := List.getElem?_of_mem ht;have hkl := (List.getElem?_eq_some_iff.1 hk).1;have hx := List.getElem?_eq_getElem (by omega : k < (cls (spP p.flows)).length);obtain ⟨c, hT, _⟩ := hF.task k _ hx;rw [hk] at hT;exact ⟨_, c, (w.cat hx).1, (w.cat hx).2, Option.some.inj hT⟩
 have kl : ∀ t ∈ F.tasks, 0 < t.args.length ∧ t.args.length ≤ 6 := fun t ht => by
  obtain ⟨x, c, h1, h2, rfl⟩ := key t ht;have hl := JX p x;rcases w.kinds h1 with ⟨k1, _⟩ | ⟨_, g1, g2⟩
  ·omega
  ·show 0 < (Qj p x).length ∧ (Qj p x).length ≤ 6;omega
 refine ⟨⟨by rw [hF.inputs, List.length_map]; omega, by rw [hF.nodes]; omega, by omega, by rw [hF.ylen]; omega, fun t ht => ⟨by have := (kl t ht).2; omega, fun a ha => ?_⟩, fun t ht => ?_⟩, fun t ht => (kl t ht).1⟩
 ·obtain ⟨x, c, h1, h2, rfl⟩ := key t ht;obtain ⟨j, hj⟩ := List.getElem?_of_mem (show a ∈ Qj p x from ha);have hjl := (List.getElem?_eq_some_iff.1 hj).1;rw [JX] at hjl;rw [zzD p x (List.getElem?_eq_getElem hjl)] at hj;rw [← Option.some.inj hj];exact w.argOk (JO h1 hjl)
 ·obtain ⟨k, hk⟩ := List.getElem?_of_mem ht;have hkl := (List.getElem?_eq_some_iff.1 hk).1;have hyl := hF.ylen;obtain ⟨i, f, g1, g2, g3⟩ := hF.tell k _ (List.getElem?_eq_getElem (by omega : k < p.outputs.length));rw [hk] at g3;rw [Option.some.inj g3];exact w.argOk (ZS (List.mem_of_getElem? g1))
noncomputable def m_made := B_law08_Made m_read qqW qqk m_make
theorem s_made : Sat_law08_Made m_made := W_law08_Made _ _ _ _ s_read s_rnames s_clocks s_make
theorem t_made (p : Program) (hok : p.ok) : ∃ F b, m_made p = some (F, b) ∧ (b = true → FlatF F ∧ ∀ t ∈ F.tasks, 0 < t.args.length) := by
 unfold m_made B_law08_Made;obtain ⟨r, h1, h2⟩ := t_read p hok;rw [h1];simp only [Option.bind_some];cases r with
 | false => exact ⟨_, _, rfl, fun h => (by cases h)⟩
 | true =>
  have hf := h2 rfl;obtain ⟨b, h5, h6⟩ := t_rnames hf;simp only [Bool.not_true, Bool.false_eq_true, if_false, h5, Option.bind_some];cases b with
  | false => exact ⟨_, _, rfl, fun h => (by cases h)⟩
  | true =>
   have hS := h6.1 rfl;simp only [Bool.not_true, Bool.false_eq_true, if_false, Bool.or_self];obtain ⟨cs, a, e, g2, c1, c2, c3, c4, c5⟩ := t_clocks hf hS;rw [g2];simp only [Option.bind_some];by_cases he : e = 0
   ·subst he;obtain ⟨ρ, hg, rfl⟩ := c3 rfl;have w : FW p ρ := ⟨hf, hS, c5 rfl, hg⟩;obtain ⟨F, a', e', m1, m2⟩ := t_make w;simp only [decide_true, Bool.not_true, Bool.false_eq_true, if_false];rw [m1];simp only [Option.bind_some];rcases m2 with ⟨rfl, m3, m4⟩ | ⟨rfl, m3, m4, m5⟩
    ·exact ⟨_, _, rfl, fun h => by simp at h⟩
    ·exact ⟨_, _, rfl, fun _ => m5.flatF w m3⟩
   ·rw [decide_eq_false he];exact ⟨_, _, rfl, fun h => (by cases h)⟩
noncomputable def m_law6 := B_law08_FlatRight qqY qqt m_made B_law08_bent qqX B_flat_Source
theorem s_law6 : Sat_law08_FlatRight m_law6 := W_law08_FlatRight _ _ _ _ _ _ s_awakeF s_rrightF s_made W_law08_bent s_fright W_flat_Source
theorem t_srcs {F : Flat} (hF : FlatF F) : qy (zY F B_flat_Source) (-1 : Int) = some (.inr ()) := by
 have h1 := hF.inputs;have h2 := hF.tasks;have hw : IntKind.i64.wrap ((F.inputs.length : Int) + (F.tasks.length : Int)) = (F.inputs.length : Int) + (F.tasks.length : Int) := zT (by omega) (by omega);obtain ⟨r, q1, q2⟩ := qT (f := zY F B_flat_Source) (fun i v => v = (i : Int) - 1) (F.inputs.length + F.tasks.length + 2) (fun r : Bool ⊕ Unit => r = .inr ()) (fun i v hi hv => by
  subst hv;unfold zY;have hn : IntKind.i64.wrap ((i : Int) - 1 + 1) = ((i + 1 : Nat) : Int) - 1 := by rw [zT (by omega) (by omega)]; omega
  rw [hw, if_pos (by rw [decide_eq_true_eq]; omega), (v_src hF _).1];simp only [Option.bind_some, hn];generalize hz : (i : Int) - 1 = z;unfold srcF;by_cases c1 : 0 ≤ z ∧ z < (F.inputs.length : Int)
  ·obtain ⟨hl, hg⟩ := YZ c1.1 c1.2;have e3 : ¬ ((F.inputs.length : Int) ≤ z) := by omega
   have e4 : z < (F.inputs.length : Int) + (F.tasks.length : Int) := by omega
   rw [if_pos c1];simp only [decide_eq_true c1.1, decide_eq_true c1.2, decide_eq_false e3, decide_eq_true e4, Bool.and_self, Bool.false_and, if_true, hg, Option.bind_some, List.getElem?_eq_getElem hl, Option.getD_some, Bool.false_eq_true, if_false, decide_true, Bool.not_true, Bool.or_self];exact .inl ⟨_, rfl, rfl⟩
  ·rw [if_neg c1];have e1 : (decide (0 ≤ z) && decide (z < (F.inputs.length : Int))) = false := by
    simp only [Bool.and_eq_false_iff, decide_eq_false_iff_not];omega
   rw [e1];by_cases c2 : (F.inputs.length : Int) ≤ z ∧ z < (F.inputs.length : Int) + (F.tasks.length : Int)
   ·have hs : IntKind.i64.wrap (z - (F.inputs.length : Int)) = z - (F.inputs.length : Int) := zT (by omega) (by omega);obtain ⟨hl, hg⟩ := YZ (l := F.tasks) (i := z - (F.inputs.length : Int)) (by omega) (by omega);have e5 : (0 : Int) ≤ z := by omega
    rw [if_pos c2];simp only [decide_eq_true c2.1, decide_eq_true c2.2, decide_eq_true e5, Bool.and_self, if_true, hs, hg, Option.bind_some, List.getElem?_eq_getElem hl, Option.map_some, Option.getD_some, Bool.false_eq_true, if_false, decide_true, Bool.not_true, Bool.or_self];exact .inl ⟨_, rfl, rfl⟩
   ·rw [if_neg c2];have e2 : (decide ((F.inputs.length : Int) ≤ z) && decide (z < (F.inputs.length : Int) + (F.tasks.length : Int))) = false := by
     simp only [Bool.and_eq_false_iff, decide_eq_false_iff_not];omega
    have e3 : (decide (0 ≤ z) && decide (z < (F.inputs.length : Int) + (F.tasks.length : Int))) = false := by
     simp only [Bool.and_eq_false_iff, decide_eq_false_iff_not];omega
    simp only [e2, e3, Option.bind_some, Bool.false_eq_true, if_false, decide_true, Bool.and_self, Bool.not_true, Bool.or_self];exact .inl ⟨_, rfl, rfl⟩) (fun v hv => by
  subst hv;unfold zY;rw [hw, if_neg (by rw [decide_eq_true_eq]; omega)];exact ⟨_, rfl, rfl⟩) (v0 := (-1 : Int)) (by simp)
 rw [q1, q2]
theorem v_law6 (p : Program) (hok : p.ok) (to : Int) (hto : I64 to) (wh : Int × Int) (hwh : U8 wh.1 ∧ U8 wh.2) : m_law6 p to wh = some true := by
 unfold m_law6 B_law08_FlatRight;rw [v_awakeF];obtain ⟨F, b, h1, h2⟩ := t_made p hok;simp only [Option.bind_some, Bool.not_true, Bool.false_eq_true, if_false, h1];cases b with
 | false => rfl
 | true =>
  obtain ⟨hF, hA⟩ := h2 rfl;have hw : IntKind.i64.wrap wh.1 = wh.1 := zT (by have := hwh.1.1; omega) (by have := hwh.1.2; omega);obtain ⟨G, g1, g2⟩ := t_bent hF hA hwh.1.1 to wh.2;obtain ⟨b1, k1, k2⟩ := t_fright g2;obtain ⟨b2, k3, k4⟩ := t_rrightF g2;have hb : b1 = b2 := by
   rw [Bool.eq_iff_iff, k2, k4]
  subst hb;simp only [Bool.not_true, Bool.false_eq_true, if_false, hw, g1, Option.bind_some, k1, k3, decide_true, t_srcs g2]
end Go.Proofs.Ytohmmfimedgccaa.E
end
section
namespace Go.Proofs.Ytohmmfimedgccaa.E
set_option linter.unusedVariables false
set_option linter.unusedSimpArgs false
set_option maxRecDepth 100000
section
variable {P : Go.Program} {t e : TypeId}
theorem RO.congr {α : Type} {f g : α → List PV} {G : α → Prop} {n : Nat} (h : RO P t f G n) (hf : ∀ x, g x = f x) : RO P t g G n := fun H enc w base spare held m hm cs r hr hw => let ⟨x, h1, h2⟩ := h H enc w base spare held m hm cs r hr hw; ⟨x, by rw [hf]; exact h1, h2⟩
theorem ro_zero {α : Type} (f : α → List PV) (G : α → Prop) : RO P t f G 0 := by
 intro H enc w base spare held m hm cs r hr;obtain rfl : m = 0 := by omega
 simp [DataW.trod] at hr
theorem ZG (ht : P.underlying t = some (.int .i64)) (n : Nat) : RO P t (fun x : Int => [.v (.int .i64 x)]) (fun x => I64 x) n := (ro_int ht n).imp fun x h => by
 simp only [Lit.wf, Bool.and_eq_true, decide_eq_true_eq, IntKind.min, IntKind.max, IntKind.signed, IntKind.bits, if_true, Bool.false_eq_true, if_false] at h;unfold I64;omega
theorem ro_u8 (ht : P.underlying t = some (.int .u8)) (n : Nat) : RO P t (fun x : Int => [.v (.int .u8 x)]) (fun x => U8 x) n := (ro_int ht n).imp fun x h => by
 simp only [Lit.wf, Bool.and_eq_true, decide_eq_true_eq, IntKind.min, IntKind.max, IntKind.signed, IntKind.bits, if_true, Bool.false_eq_true, if_false] at h;unfold U8;omega
theorem qqg (ht : P.underlying t = some .string) (n : Nat) : RO P t (fun x : ByteArray => [.v (.string x)]) (fun x => ByteArray.size x ≤ 140737488351232) n := ro_string ht n
theorem ro_sl {α : Type} {f : α → List PV} {G : α → Prop} {n sz B : Nat} (ht : P.underlying t = some (.slice e)) (hsz : P.cellsOf e = sz) (hb : P.bytesOf e = B) (hf : ∀ x, (f x).length = sz) (h : RO P e f G n) : RO P t (fun xs : List α => [.sl (xs.map f)]) (fun xs => xs.length * B ≤ 140737488351232 ∧ ∀ x ∈ xs, G x) (n + 1) := by
 subst hb;exact ro_slice ht hsz hf h
end
theorem ro_Expr : ∀ n, RO Try.prog 39 Expr.cl Expr.ok n
 | 0 => ro_zero _ _
 | n + 1 => (JD (f := (fun x : Int × ByteArray × Int × Int × (List Expr) × Int => (fun x : Int => [(PV.v (.int .i64 x))]) x.1 ++ (fun x : ByteArray × Int × Int × (List Expr) × Int => (fun x : ByteArray => [(PV.v (.string x))]) x.1 ++ (fun x : Int × Int × (List Expr) × Int => (fun x : Int => [(PV.v (.int .i64 x))]) x.1 ++ (fun x : Int × (List Expr) × Int => (fun x : Int => [(PV.v (.int .i64 x))]) x.1 ++ (fun x : (List Expr) × Int => (fun x : (List Expr) => [(PV.sl (Expr.rows x))]) x.1 ++ (fun x : Int => [(PV.v (.int .i64 x))]) x.2) x.2) x.2) x.2) x.2)) (G := (fun x : Int × ByteArray × Int × Int × (List Expr) × Int => (fun x : Int => I64 x) x.1 ∧ (fun x : ByteArray × Int × Int × (List Expr) × Int => (fun x : ByteArray => ByteArray.size x ≤ 140737488351232) x.1 ∧ (fun x : Int × Int × (List Expr) × Int => (fun x : Int => I64 x) x.1 ∧ (fun x : Int × (List Expr) × Int => (fun x : Int => I64 x) x.1 ∧ (fun x : (List Expr) × Int => (fun x : (List Expr) => List.length x * 72 ≤ 140737488351232 ∧ ∀ y ∈ x, Expr.ok y) x.1 ∧ (fun x : Int => I64 x) x.2) x.2) x.2) x.2) x.2)) (fun y : Int × ByteArray × Int × Int × (List Expr) × Int => (⟨y.1, y.2.1, y.2.2.1, y.2.2.2.1, y.2.2.2.2.1, y.2.2.2.2.2⟩ : Expr)) (fun _ => rfl) Try.underlying39 (zH (o' := 1) (f := (fun x : Int => [(PV.v (.int .i64 x))])) (f' := (fun x : ByteArray × Int × Int × (List Expr) × Int => (fun x : ByteArray => [(PV.v (.string x))]) x.1 ++ (fun x : Int × Int × (List Expr) × Int => (fun x : Int => [(PV.v (.int .i64 x))]) x.1 ++ (fun x : Int × (List Expr) × Int => (fun x : Int => [(PV.v (.int .i64 x))]) x.1 ++ (fun x : (List Expr) × Int => (fun x : (List Expr) => [(PV.sl (Expr.rows x))]) x.1 ++ (fun x : Int => [(PV.v (.int .i64 x))]) x.2) x.2) x.2) x.2)) (G := (fun x : Int => I64 x)) (G' := (fun x : ByteArray × Int × Int × (List Expr) × Int => (fun x : ByteArray => ByteArray.size x ≤ 140737488351232) x.1 ∧ (fun x : Int × Int × (List Expr) × Int => (fun x : Int => I64 x) x.1 ∧ (fun x : Int × (List Expr) × Int => (fun x : Int => I64 x) x.1 ∧ (fun x : (List Expr) × Int => (fun x : (List Expr) => List.length x * 72 ≤ 140737488351232 ∧ ∀ y ∈ x, Expr.ok y) x.1 ∧ (fun x : Int => I64 x) x.2) x.2) x.2) x.2)) rfl (by kernel_rfl) (ZG Try.underlying3 n) (zH (o' := 2) (f := (fun x : ByteArray => [(PV.v (.string x))])) (f' := (fun x : Int × Int × (List Expr) × Int => (fun x : Int => [(PV.v (.int .i64 x))]) x.1 ++ (fun x : Int × (List Expr) × Int => (fun x : Int => [(PV.v (.int .i64 x))]) x.1 ++ (fun x : (List Expr) × Int => (fun x : (List Expr) => [(PV.sl (Expr.rows x))]) x.1 ++ (fun x : Int => [(PV.v (.int .i64 x))]) x.2) x.2) x.2)) (G := (fun x : ByteArray => ByteArray.size x ≤ 140737488351232)) (G' := (fun x : Int × Int × (List Expr) × Int => (fun x : Int => I64 x) x.1 ∧ (fun x : Int × (List Expr) × Int => (fun x : Int => I64 x) x.1 ∧ (fun x : (List Expr) × Int => (fun x : (List Expr) => List.length x * 72 ≤ 140737488351232 ∧ ∀ y ∈ x, Expr.ok y) x.1 ∧ (fun x : Int => I64 x) x.2) x.2) x.2)) rfl (by kernel_rfl) (qqg Try.underlying9 n) (zH (o' := 3) (f := (fun x : Int => [(PV.v (.int .i64 x))])) (f' := (fun x : Int × (List Expr) × Int => (fun x : Int => [(PV.v (.int .i64 x))]) x.1 ++ (fun x : (List Expr) × Int => (fun x : (List Expr) => [(PV.sl (Expr.rows x))]) x.1 ++ (fun x : Int => [(PV.v (.int .i64 x))]) x.2) x.2)) (G := (fun x : Int => I64 x)) (G' := (fun x : Int × (List Expr) × Int => (fun x : Int => I64 x) x.1 ∧ (fun x : (List Expr) × Int => (fun x : (List Expr) => List.length x * 72 ≤ 140737488351232 ∧ ∀ y ∈ x, Expr.ok y) x.1 ∧ (fun x : Int => I64 x) x.2) x.2)) rfl (by kernel_rfl) (ZG Try.underlying2 n) (zH (o' := 4) (f := (fun x : Int => [(PV.v (.int .i64 x))])) (f' := (fun x : (List Expr) × Int => (fun x : (List Expr) => [(PV.sl (Expr.rows x))]) x.1 ++ (fun x : Int => [(PV.v (.int .i64 x))]) x.2)) (G := (fun x : Int => I64 x)) (G' := (fun x : (List Expr) × Int => (fun x : (List Expr) => List.length x * 72 ≤ 140737488351232 ∧ ∀ y ∈ x, Expr.ok y) x.1 ∧ (fun x : Int => I64 x) x.2)) rfl (by kernel_rfl) (ZG Try.underlying2 n) (zH (o' := 5) (f := (fun x : (List Expr) => [(PV.sl (Expr.rows x))])) (f' := (fun x : Int => [(PV.v (.int .i64 x))])) (G := (fun x : (List Expr) => List.length x * 72 ≤ 140737488351232 ∧ ∀ y ∈ x, Expr.ok y)) (G' := (fun x : Int => I64 x)) rfl (by kernel_rfl) (RO.congr (RO.down (ro_sl (B := 72) (sz := 6) Try.underlying37 (by kernel_rfl) (by kernel_rfl) (fun _ => rfl) (ro_Expr n)) (Nat.le_succ _)) (fun x => by rw [Expr.rows_eq])) (YS (f := (fun x : Int => [(PV.v (.int .i64 x))])) (G := (fun x : Int => I64 x)) rfl (by kernel_rfl) (ZG Try.underlying3 n)))))))).imp fun x ⟨y, hy, hg⟩ => by
  subst hy;exact .mk hg.1 hg.2.1 hg.2.2.1 hg.2.2.2.1 hg.2.2.2.2.1.1 hg.2.2.2.2.1.2 hg.2.2.2.2.2
theorem ro_Node (n : Nat) : RO Try.prog 99 Node.cl Node.ok n := RO.down ((JD (f := (fun x : ByteArray × (List ByteArray) × Int × Expr × Int => (fun x : ByteArray => [(PV.v (.string x))]) x.1 ++ (fun x : (List ByteArray) × Int × Expr × Int => (fun x : (List ByteArray) => [(PV.sl (List.map C_s x))]) x.1 ++ (fun x : Int × Expr × Int => (fun x : Int => [(PV.v (.int .i64 x))]) x.1 ++ (fun x : Expr × Int => Expr.cl x.1 ++ (fun x : Int => [(PV.v (.int .i64 x))]) x.2) x.2) x.2) x.2)) (G := (fun x : ByteArray × (List ByteArray) × Int × Expr × Int => (fun x : ByteArray => ByteArray.size x ≤ 140737488351232) x.1 ∧ (fun x : (List ByteArray) × Int × Expr × Int => (fun x : (List ByteArray) => List.length x * 16 ≤ 140737488351232 ∧ ∀ y ∈ x, ByteArray.size y ≤ 140737488351232) x.1 ∧ (fun x : Int × Expr × Int => (fun x : Int => I64 x) x.1 ∧ (fun x : Expr × Int => Expr.ok x.1 ∧ (fun x : Int => I64 x) x.2) x.2) x.2) x.2)) (fun y : ByteArray × (List ByteArray) × Int × Expr × Int => (⟨y.1, y.2.1, y.2.2.1, y.2.2.2.1, y.2.2.2.2⟩ : Node)) (fun _ => rfl) Try.underlying99 (zH (o' := 1) (f := (fun x : ByteArray => [(PV.v (.string x))])) (f' := (fun x : (List ByteArray) × Int × Expr × Int => (fun x : (List ByteArray) => [(PV.sl (List.map C_s x))]) x.1 ++ (fun x : Int × Expr × Int => (fun x : Int => [(PV.v (.int .i64 x))]) x.1 ++ (fun x : Expr × Int => Expr.cl x.1 ++ (fun x : Int => [(PV.v (.int .i64 x))]) x.2) x.2) x.2)) (G := (fun x : ByteArray => ByteArray.size x ≤ 140737488351232)) (G' := (fun x : (List ByteArray) × Int × Expr × Int => (fun x : (List ByteArray) => List.length x * 16 ≤ 140737488351232 ∧ ∀ y ∈ x, ByteArray.size y ≤ 140737488351232) x.1 ∧ (fun x : Int × Expr × Int => (fun x : Int => I64 x) x.1 ∧ (fun x : Expr × Int => Expr.ok x.1 ∧ (fun x : Int => I64 x) x.2) x.2) x.2)) rfl (by kernel_rfl) (qqg Try.underlying9 n) (zH (o' := 2) (f := (fun x : (List ByteArray) => [(PV.sl (List.map C_s x))])) (f' := (fun x : Int × Expr × Int => (fun x : Int => [(PV.v (.int .i64 x))]) x.1 ++ (fun x : Expr × Int => Expr.cl x.1 ++ (fun x : Int => [(PV.v (.int .i64 x))]) x.2) x.2)) (G := (fun x : (List ByteArray) => List.length x * 16 ≤ 140737488351232 ∧ ∀ y ∈ x, ByteArray.size y ≤ 140737488351232)) (G' := (fun x : Int × Expr × Int => (fun x : Int => I64 x) x.1 ∧ (fun x : Expr × Int => Expr.ok x.1 ∧ (fun x : Int => I64 x) x.2) x.2)) rfl (by kernel_rfl) (RO.down (ro_sl (B := 16) (sz := 1) Try.underlying97 (by kernel_rfl) (by kernel_rfl) (fun _ => rfl) (qqg Try.underlying9 n)) (Nat.le_succ _)) (zH (o' := 3) (f := (fun x : Int => [(PV.v (.int .i64 x))])) (f' := (fun x : Expr × Int => Expr.cl x.1 ++ (fun x : Int => [(PV.v (.int .i64 x))]) x.2)) (G := (fun x : Int => I64 x)) (G' := (fun x : Expr × Int => Expr.ok x.1 ∧ (fun x : Int => I64 x) x.2)) rfl (by kernel_rfl) (ZG Try.underlying2 n) (zH (o' := 9) (f := Expr.cl) (f' := (fun x : Int => [(PV.v (.int .i64 x))])) (G := Expr.ok) (G' := (fun x : Int => I64 x)) rfl (by kernel_rfl) (ro_Expr n) (YS (f := (fun x : Int => [(PV.v (.int .i64 x))])) (G := (fun x : Int => I64 x)) rfl (by kernel_rfl) (ZG Try.underlying3 n))))))).imp fun x ⟨y, hy, hg⟩ => by
 subst hy;exact ⟨hg.1, hg.2.1, hg.2.2.1, hg.2.2.2.1, hg.2.2.2.2⟩) (Nat.le_succ n)
theorem ro_Input (n : Nat) : RO Try.prog 96 Input.cl Input.ok n := RO.down ((JD (f := (fun x : ByteArray × Int × Int × Int => (fun x : ByteArray => [(PV.v (.string x))]) x.1 ++ (fun x : Int × Int × Int => (fun x : Int => [(PV.v (.int .i64 x))]) x.1 ++ (fun x : Int × Int => (fun x : Int => [(PV.v (.int .i64 x))]) x.1 ++ (fun x : Int => [(PV.v (.int .i64 x))]) x.2) x.2) x.2)) (G := (fun x : ByteArray × Int × Int × Int => (fun x : ByteArray => ByteArray.size x ≤ 140737488351232) x.1 ∧ (fun x : Int × Int × Int => (fun x : Int => I64 x) x.1 ∧ (fun x : Int × Int => (fun x : Int => I64 x) x.1 ∧ (fun x : Int => I64 x) x.2) x.2) x.2)) (fun y : ByteArray × Int × Int × Int => (⟨y.1, y.2.1, y.2.2.1, y.2.2.2⟩ : Input)) (fun _ => rfl) Try.underlying96 (zH (o' := 1) (f := (fun x : ByteArray => [(PV.v (.string x))])) (f' := (fun x : Int × Int × Int => (fun x : Int => [(PV.v (.int .i64 x))]) x.1 ++ (fun x : Int × Int => (fun x : Int => [(PV.v (.int .i64 x))]) x.1 ++ (fun x : Int => [(PV.v (.int .i64 x))]) x.2) x.2)) (G := (fun x : ByteArray => ByteArray.size x ≤ 140737488351232)) (G' := (fun x : Int × Int × Int => (fun x : Int => I64 x) x.1 ∧ (fun x : Int × Int => (fun x : Int => I64 x) x.1 ∧ (fun x : Int => I64 x) x.2) x.2)) rfl (by kernel_rfl) (qqg Try.underlying9 n) (zH (o' := 2) (f := (fun x : Int => [(PV.v (.int .i64 x))])) (f' := (fun x : Int × Int => (fun x : Int => [(PV.v (.int .i64 x))]) x.1 ++ (fun x : Int => [(PV.v (.int .i64 x))]) x.2)) (G := (fun x : Int => I64 x)) (G' := (fun x : Int × Int => (fun x : Int => I64 x) x.1 ∧ (fun x : Int => I64 x) x.2)) rfl (by kernel_rfl) (ZG Try.underlying2 n) (zH (o' := 3) (f := (fun x : Int => [(PV.v (.int .i64 x))])) (f' := (fun x : Int => [(PV.v (.int .i64 x))])) (G := (fun x : Int => I64 x)) (G' := (fun x : Int => I64 x)) rfl (by kernel_rfl) (ZG Try.underlying2 n) (YS (f := (fun x : Int => [(PV.v (.int .i64 x))])) (G := (fun x : Int => I64 x)) rfl (by kernel_rfl) (ZG Try.underlying3 n)))))).imp fun x ⟨y, hy, hg⟩ => by
 subst hy;exact ⟨hg.1, hg.2.1, hg.2.2.1, hg.2.2.2⟩) (Nat.le_succ n)
theorem ro_Flow (n : Nat) : RO Try.prog 41 Flow.cl Flow.ok n := RO.down ((JD (f := (fun x : ByteArray × Expr × Int => (fun x : ByteArray => [(PV.v (.string x))]) x.1 ++ (fun x : Expr × Int => Expr.cl x.1 ++ (fun x : Int => [(PV.v (.int .i64 x))]) x.2) x.2)) (G := (fun x : ByteArray × Expr × Int => (fun x : ByteArray => ByteArray.size x ≤ 140737488351232) x.1 ∧ (fun x : Expr × Int => Expr.ok x.1 ∧ (fun x : Int => I64 x) x.2) x.2)) (fun y : ByteArray × Expr × Int => (⟨y.1, y.2.1, y.2.2⟩ : Flow)) (fun _ => rfl) Try.underlying41 (zH (o' := 1) (f := (fun x : ByteArray => [(PV.v (.string x))])) (f' := (fun x : Expr × Int => Expr.cl x.1 ++ (fun x : Int => [(PV.v (.int .i64 x))]) x.2)) (G := (fun x : ByteArray => ByteArray.size x ≤ 140737488351232)) (G' := (fun x : Expr × Int => Expr.ok x.1 ∧ (fun x : Int => I64 x) x.2)) rfl (by kernel_rfl) (qqg Try.underlying9 n) (zH (o' := 7) (f := Expr.cl) (f' := (fun x : Int => [(PV.v (.int .i64 x))])) (G := Expr.ok) (G' := (fun x : Int => I64 x)) rfl (by kernel_rfl) (ro_Expr n) (YS (f := (fun x : Int => [(PV.v (.int .i64 x))])) (G := (fun x : Int => I64 x)) rfl (by kernel_rfl) (ZG Try.underlying3 n))))).imp fun x ⟨y, hy, hg⟩ => by
 subst hy;exact ⟨hg.1, hg.2.1, hg.2.2⟩) (Nat.le_succ n)
theorem ro_Output (n : Nat) : RO Try.prog 65 Output.cl Output.ok n := RO.down ((JD (f := (fun x : ByteArray × ByteArray × Int × Int => (fun x : ByteArray => [(PV.v (.string x))]) x.1 ++ (fun x : ByteArray × Int × Int => (fun x : ByteArray => [(PV.v (.string x))]) x.1 ++ (fun x : Int × Int => (fun x : Int => [(PV.v (.int .i64 x))]) x.1 ++ (fun x : Int => [(PV.v (.int .i64 x))]) x.2) x.2) x.2)) (G := (fun x : ByteArray × ByteArray × Int × Int => (fun x : ByteArray => ByteArray.size x ≤ 140737488351232) x.1 ∧ (fun x : ByteArray × Int × Int => (fun x : ByteArray => ByteArray.size x ≤ 140737488351232) x.1 ∧ (fun x : Int × Int => (fun x : Int => I64 x) x.1 ∧ (fun x : Int => I64 x) x.2) x.2) x.2)) (fun y : ByteArray × ByteArray × Int × Int => (⟨y.1, y.2.1, y.2.2.1, y.2.2.2⟩ : Output)) (fun _ => rfl) Try.underlying65 (zH (o' := 1) (f := (fun x : ByteArray => [(PV.v (.string x))])) (f' := (fun x : ByteArray × Int × Int => (fun x : ByteArray => [(PV.v (.string x))]) x.1 ++ (fun x : Int × Int => (fun x : Int => [(PV.v (.int .i64 x))]) x.1 ++ (fun x : Int => [(PV.v (.int .i64 x))]) x.2) x.2)) (G := (fun x : ByteArray => ByteArray.size x ≤ 140737488351232)) (G' := (fun x : ByteArray × Int × Int => (fun x : ByteArray => ByteArray.size x ≤ 140737488351232) x.1 ∧ (fun x : Int × Int => (fun x : Int => I64 x) x.1 ∧ (fun x : Int => I64 x) x.2) x.2)) rfl (by kernel_rfl) (qqg Try.underlying9 n) (zH (o' := 2) (f := (fun x : ByteArray => [(PV.v (.string x))])) (f' := (fun x : Int × Int => (fun x : Int => [(PV.v (.int .i64 x))]) x.1 ++ (fun x : Int => [(PV.v (.int .i64 x))]) x.2)) (G := (fun x : ByteArray => ByteArray.size x ≤ 140737488351232)) (G' := (fun x : Int × Int => (fun x : Int => I64 x) x.1 ∧ (fun x : Int => I64 x) x.2)) rfl (by kernel_rfl) (qqg Try.underlying9 n) (zH (o' := 3) (f := (fun x : Int => [(PV.v (.int .i64 x))])) (f' := (fun x : Int => [(PV.v (.int .i64 x))])) (G := (fun x : Int => I64 x)) (G' := (fun x : Int => I64 x)) rfl (by kernel_rfl) (ZG Try.underlying2 n) (YS (f := (fun x : Int => [(PV.v (.int .i64 x))])) (G := (fun x : Int => I64 x)) rfl (by kernel_rfl) (ZG Try.underlying3 n)))))).imp fun x ⟨y, hy, hg⟩ => by
 subst hy;exact ⟨hg.1, hg.2.1, hg.2.2.1, hg.2.2.2⟩) (Nat.le_succ n)
theorem ro_Program (n : Nat) : RO Try.prog 27 Program.cl Program.ok n := RO.down ((JD (f := (fun x : (List Node) × (List Input) × (List Flow) × (List Output) => (fun x : (List Node) => [(PV.sl (List.map Node.cl x))]) x.1 ++ (fun x : (List Input) × (List Flow) × (List Output) => (fun x : (List Input) => [(PV.sl (List.map Input.cl x))]) x.1 ++ (fun x : (List Flow) × (List Output) => (fun x : (List Flow) => [(PV.sl (List.map Flow.cl x))]) x.1 ++ (fun x : (List Output) => [(PV.sl (List.map Output.cl x))]) x.2) x.2) x.2)) (G := (fun x : (List Node) × (List Input) × (List Flow) × (List Output) => (fun x : (List Node) => List.length x * 128 ≤ 140737488351232 ∧ ∀ y ∈ x, Node.ok y) x.1 ∧ (fun x : (List Input) × (List Flow) × (List Output) => (fun x : (List Input) => List.length x * 40 ≤ 140737488351232 ∧ ∀ y ∈ x, Input.ok y) x.1 ∧ (fun x : (List Flow) × (List Output) => (fun x : (List Flow) => List.length x * 96 ≤ 140737488351232 ∧ ∀ y ∈ x, Flow.ok y) x.1 ∧ (fun x : (List Output) => List.length x * 48 ≤ 140737488351232 ∧ ∀ y ∈ x, Output.ok y) x.2) x.2) x.2)) (fun y : (List Node) × (List Input) × (List Flow) × (List Output) => (⟨y.1, y.2.1, y.2.2.1, y.2.2.2⟩ : Program)) (fun _ => rfl) Try.underlying27 (zH (o' := 1) (f := (fun x : (List Node) => [(PV.sl (List.map Node.cl x))])) (f' := (fun x : (List Input) × (List Flow) × (List Output) => (fun x : (List Input) => [(PV.sl (List.map Input.cl x))]) x.1 ++ (fun x : (List Flow) × (List Output) => (fun x : (List Flow) => [(PV.sl (List.map Flow.cl x))]) x.1 ++ (fun x : (List Output) => [(PV.sl (List.map Output.cl x))]) x.2) x.2)) (G := (fun x : (List Node) => List.length x * 128 ≤ 140737488351232 ∧ ∀ y ∈ x, Node.ok y)) (G' := (fun x : (List Input) × (List Flow) × (List Output) => (fun x : (List Input) => List.length x * 40 ≤ 140737488351232 ∧ ∀ y ∈ x, Input.ok y) x.1 ∧ (fun x : (List Flow) × (List Output) => (fun x : (List Flow) => List.length x * 96 ≤ 140737488351232 ∧ ∀ y ∈ x, Flow.ok y) x.1 ∧ (fun x : (List Output) => List.length x * 48 ≤ 140737488351232 ∧ ∀ y ∈ x, Output.ok y) x.2) x.2)) rfl (by kernel_rfl) (RO.down (ro_sl (B := 128) (sz := 10) Try.underlying22 (by kernel_rfl) (by kernel_rfl) (fun _ => rfl) (ro_Node n)) (Nat.le_succ _)) (zH (o' := 2) (f := (fun x : (List Input) => [(PV.sl (List.map Input.cl x))])) (f' := (fun x : (List Flow) × (List Output) => (fun x : (List Flow) => [(PV.sl (List.map Flow.cl x))]) x.1 ++ (fun x : (List Output) => [(PV.sl (List.map Output.cl x))]) x.2)) (G := (fun x : (List Input) => List.length x * 40 ≤ 140737488351232 ∧ ∀ y ∈ x, Input.ok y)) (G' := (fun x : (List Flow) × (List Output) => (fun x : (List Flow) => List.length x * 96 ≤ 140737488351232 ∧ ∀ y ∈ x, Flow.ok y) x.1 ∧ (fun x : (List Output) => List.length x * 48 ≤ 140737488351232 ∧ ∀ y ∈ x, Output.ok y) x.2)) rfl (by kernel_rfl) (RO.down (ro_sl (B := 40) (sz := 4) Try.underlying23 (by kernel_rfl) (by kernel_rfl) (fun _ => rfl) (ro_Input n)) (Nat.le_succ _)) (zH (o' := 3) (f := (fun x : (List Flow) => [(PV.sl (List.map Flow.cl x))])) (f' := (fun x : (List Output) => [(PV.sl (List.map Output.cl x))])) (G := (fun x : (List Flow) => List.length x * 96 ≤ 140737488351232 ∧ ∀ y ∈ x, Flow.ok y)) (G' := (fun x : (List Output) => List.length x * 48 ≤ 140737488351232 ∧ ∀ y ∈ x, Output.ok y)) rfl (by kernel_rfl) (RO.down (ro_sl (B := 96) (sz := 8) Try.underlying24 (by kernel_rfl) (by kernel_rfl) (fun _ => rfl) (ro_Flow n)) (Nat.le_succ _)) (YS (f := (fun x : (List Output) => [(PV.sl (List.map Output.cl x))])) (G := (fun x : (List Output) => List.length x * 48 ≤ 140737488351232 ∧ ∀ y ∈ x, Output.ok y)) rfl (by kernel_rfl) (RO.down (ro_sl (B := 48) (sz := 4) Try.underlying25 (by kernel_rfl) (by kernel_rfl) (fun _ => rfl) (ro_Output n)) (Nat.le_succ _))))))).imp fun x ⟨y, hy, hg⟩ => by
 subst hy;exact ⟨hg.1, hg.2.1, hg.2.2.1, hg.2.2.2⟩) (Nat.le_succ n)
end Go.Proofs.Ytohmmfimedgccaa.E
end
section
namespace Go.Proofs.Ytohmmfimedgccaa.flatRight
open Go.ChangeShapes Go.WideShapes Go.ChangeAt Go.RowKit
theorem own : ownKnob Try.prog.godebug = none := by kernel_rfl
theorem laidOut : laidOutB Try.prog = true := by kernel_rfl
set_option maxRecDepth 100000 in
theorem lifted (os : Os) (started : os.Started) (H : Type) (enc : TypeId × Value → H) :
  ReturnsInHanded {} Try.checked os 6 .any (Rows.flatRightSpec.pre6 enc Try.prog Try.f6 Rows.flatRightRow.domain false) (Rows.flatRightSpec.post enc Try.prog Try.f6 false true false false) := by
 refine returnsInHanded_of_change_sized (C := Try.checked) own started (by kernel_rfl) Try.func6
  (ChangeSpec.witness6 (enc := enc) (C := Try.checked) false ⟨#[], #[.agg #[.slice none 0 0, .slice none 0 0, .slice none 0 0, .slice none 0 0], .int .i64 0, .agg #[.int .u8 0, .int .u8 0]], []⟩ 8 (by kernel_rfl) (by kernel_rfl) (by kernel_rfl) (by kernel_rfl)) ?_
 intro W base args ds gs before hval0 hW hcnd hsz0 _;have hval : ∀ (j : Nat) t v, Try.f6.params[j]? = some t → args[j]? = some v → Value.okWide Try.prog W .any base t v := hval0;have hW' := hW;obtain ⟨p, q, hA0, hV, rfl, hfz, hnd⟩ := hW;have hA : DataW.TrodAll enc Try.prog W 0 (fun _ => true) true Try.f6.params.toList args.toList ds p := hA0;rw [Try.params6] at hA hval;obtain ⟨v0, vs0, d0, ds0, p0, q0, hargs, rfl, rfl, h0, r0⟩ := trodAll_cons hA;obtain ⟨v1, vs1, d1, ds1, p1, q1, rfl, rfl, rfl, h1, r1⟩ := trodAll_cons r0;obtain ⟨v2, vs2, d2, ds2, p2, q2, rfl, rfl, rfl, h2, r2⟩ := trodAll_cons r1;obtain ⟨rfl, rfl, rfl⟩ := trodAll_nil r2;obtain rfl : args = #[v0, v1, v2] := by cases args; simp_all
 obtain ⟨rfl, rfl⟩ := trodVars_none hV;have k0 := h0;have lt0 : ∀ x ∈ p0, x.block < W.heap.size := by obtain ⟨m, hm⟩ := k0; exact DataW.trod_lt m _ _ _ hm
 obtain ⟨x0, y0, z0⟩ := E.arg_agg Try.underlying27 (hval 0 27 v0 rfl rfl) E.ro_Program h0 (fun x hx => of_decide_eq_true (List.all_eq_true.1 hsz0 x (DataW.weights_mem_each (j := 0) rfl rfl x hx)));have k1 := h1;have lt1 : ∀ x ∈ p1, x.block < W.heap.size := by obtain ⟨m, hm⟩ := k1; exact DataW.trod_lt m _ _ _ hm
 obtain ⟨x1, y1, z1⟩ := E.arg_one (f := fun x : Int => E.PV.v (.int .i64 x)) (by obtain ⟨n, rfl⟩ := okWide_int Try.underlying2 (hval 1 2 v1 rfl rfl); rfl) (fun n => E.ZG Try.underlying2 n) h1 (fun x hx => of_decide_eq_true (List.all_eq_true.1 hsz0 x (DataW.weights_mem_each (j := 1) rfl rfl x hx)));have k2 := h2;have lt2 : ∀ x ∈ p2, x.block < W.heap.size := by obtain ⟨m, hm⟩ := k2; exact DataW.trod_lt m _ _ _ hm
 obtain ⟨x2, y2, z2⟩ := E.arg_pair (f := fun x : Int => E.PV.v (.int .u8 x)) Try.underlying74 (by kernel_rfl) (by kernel_rfl) (hval 2 74 v2 rfl rfl) (fun n => E.ro_u8 Try.underlying5 n) h2 (fun x hx => of_decide_eq_true (List.all_eq_true.1 hsz0 x (DataW.weights_mem_each (j := 2) rfl rfl x hx)));clear hA0 hval0 hsz0;refine (E.law_calls Try.func6 rfl rfl (fun K hK => E.s_law6 x0 x1 x2 true (E.v_law6 x0 z0 x1 z1 x2 z2) [] K hK) ⟨rfl, fun i x p hx hp => by match i, hx, hp with | 0, hx, hp => obtain rfl := Option.some.inj hx; obtain rfl := Option.some.inj hp; exact y0 | 1, hx, hp => obtain rfl := Option.some.inj hx; obtain rfl := Option.some.inj hp; exact y1 | 2, hx, hp => obtain rfl := Option.some.inj hx; obtain rfl := Option.some.inj hp; exact y2 | i + 3, hx, _ => simp at hx⟩).mono fun e W' ⟨he, bel⟩ => ?_;subst he;exact ⟨_, rfl, _, _, _, [], _, [], hW', trodAll_mk1 (shut_bool Try.underlying4 _), (trodAll_cons_mk (Below.trod laidOut (by kernel_rfl) (of_decide_eq_true (by kernel_rfl)) k0 bel lt0) (trodAll_cons_mk (Below.trod laidOut (by kernel_rfl) (of_decide_eq_true (by kernel_rfl)) k1 bel lt1) (trodAll_cons_mk (Below.trod laidOut (by kernel_rfl) (of_decide_eq_true (by kernel_rfl)) k2 bel lt2) trodAll_mk0))), rfl, bel.frame _, fun h => by cases h⟩
theorem over : Rows.flatRightRow.holds Try.pinned (OpenSpec.ofChange Rows.flatRightSpec) :=
 OpenClaim.holds_of_wide 6 Try.f6 rfl rfl rfl rfl rfl rfl rfl ⟨rfl, rfl, rfl, rfl, rfl⟩ rfl rfl rfl rfl rfl (by kernel_rfl) Try.func6 (by kernel_rfl)
  (of_decide_eq_true (by kernel_rfl)) (by unfold Func.isWrapper; first | (rw [if_pos (by decide +kernel)]; kernel_rfl) | (rw [if_neg (by decide +kernel)]; exact ⟨rfl, rfl⟩))
  (fun os started H enc _ => lifted os started H enc)
theorem proved : Rows.FlatRightSaid := over
end Go.Proofs.Ytohmmfimedgccaa.flatRight
namespace Go.Proofs.Ytohmmfimedgccaa
theorem flatRight_holds : Rows.FlatRightSaid := flatRight.proved
end Go.Proofs.Ytohmmfimedgccaa
end
