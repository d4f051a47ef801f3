import Derived.Scope
import Derived.Test.YtohmmfimedgccaaProg
import Derived.KernelRfl
import Derived.ChangeArms
import Derived.DataReads
import Derived.WideShapes
import Derived.Deep.Slices
import Derived.SizedLaws
import Derived.Below
import Derived.Test.YtohmmfimedgccaaQD0
/- SyntaxDepth returns true at every input. PART 2 OF 7: EG EH EI EJ EE EK EL ET EM EP EN ER -/
section
namespace Go.Proofs.Ytohmmfimedgccaa.E
set_option linter.unusedVariables false
set_option linter.unusedSimpArgs false
section
variable {P : Program} {T : TypeId → Option TI} {σ σ' τ s H : Store} {F : Nat → Option AObj} {e e' : Env}
theorem ECs.mono {f : FuncId} {args : List PV} {K K' : PV → Store → Prop} (hK : ∀ r s, K r s → K' r s) (h : ECs P f args σ K) : ECs P f args σ K' := by
 intro μ w vs h1 h2
 have fin : ∀ x w', (∃ r σ' μ', Ext σ μ w σ' μ' w' ∧ SR σ' μ' w' ∧ R σ' μ' w' x r ∧ K r σ') → ∃ r σ' μ', Ext σ μ w σ' μ' w' ∧ SR σ' μ' w' ∧ R σ' μ' w' x r ∧ K' r σ' := by
  rintro x w' ⟨r, s, μ', k1, k2, k3, k4⟩
  exact ⟨r, s, μ', k1, k2, k3, hK r s k4⟩
 rcases h μ w vs h1 h2 with ⟨a, b⟩ | ⟨x, w', a, b⟩
 ·exact .inl ⟨a, b.mono fun e w' ⟨x, hx, hp⟩ => ⟨x, hx, fin x w' hp⟩⟩
 ·exact .inr ⟨x, w', a, fin x w' b⟩
theorem EC.mono {f : FuncId} {args : List PV} {K K' : PV → Store → Prop} (hK : ∀ r s, K r s → K' r s) (h : EC P f args σ K) : EC P f args σ K' := ⟨let ⟨r, s, h1, h2⟩ := h.1; ⟨r, s, h1, hK _ _ h2⟩, fun F hF => (h.2 F hF).mono fun r s ⟨s0, h1, h2, h3⟩ => ⟨s0, h1, h2, hK r s0 h3⟩⟩
theorem EC.keep {f : FuncId} {args : List PV} {K : PV → Store → Prop} (h : EC P f args σ K) : EC P f args σ fun r s => keepR σ s ∧ K r s := ⟨let ⟨r, s, h1, h2⟩ := h.1; ⟨r, s, h1, h1, h2⟩, fun F hF => (h.2 F hF).mono fun r s ⟨s0, h1, h2, h3⟩ => ⟨s0, h1, h2, h2, h3⟩⟩
theorem EC.here {f : FuncId} {args : List PV} {K : PV → Store → Prop} (h : EC P f args σ K) : ECs P f args σ K := by
 have := h.2 (fun _ => none) Fok.nil
 rw [ov_nil] at this
 exact this.mono fun r s ⟨s0, h1, h2, h3⟩ => by rw [h1, ov_nil]; exact h3
def ov2 (F G : Nat → Option AObj) : Nat → Option AObj := fun i => match F i with | some ob => some ob | none => G i
theorem ov_ov {G : Nat → Option AObj} (hF : Fok σ F) : ov (ov σ F) G = ov σ (ov2 F G) := by
 apply List.ext_getElem?
 intro i
 rw [ov_get?, ov_get?, ov_get?]
 cases hσ : σ[i]? with
 | none => rfl
 | some o =>
  simp only [Option.map_some, Option.some.injEq]
  cases hf : F i with
  | none => simp only [ovc_none hf]; unfold ovc ov2; rw [hf]
  | some ob =>
   obtain ⟨h1, h2⟩ := hF i ob hf
   rw [hσ] at h1
   injection h1 with h1
   subst h1
   simp only [ovc, ov2, hf]
   cases ob <;> first | exact absurd rfl h2 | rfl
theorem Fok2 {G : Nat → Option AObj} (hF : Fok σ F) (hG : Fok (ov σ F) G) : Fok σ (ov2 F G) := fun i ob h => by
 unfold ov2 at h
 split at h
 ·rename_i hf
  injection h with h
  subst h
  exact hF i _ hf
 ·rename_i hf
  obtain ⟨h1, h2⟩ := hG i ob h
  refine ⟨?_, h2⟩
  rw [ov_get?] at h1
  obtain ⟨o, ho, hc⟩ := Option.map_eq_some_iff.1 h1
  rw [ovc_none hf] at hc
  rw [ho, hc]
theorem Fok.ov2 {G : Nat → Option AObj} (hF : Fok σ F) (hG : Fok (ov σ F) G) : ∀ i ob, G i = some ob → F i = none := fun i ob hg => by
 cases hf : F i with
 | none => rfl
 | some ob' =>
  obtain ⟨h1, h2⟩ := hF i ob' hf
  have := (hG i ob hg).1
  rw [ov_get?, h1] at this
  simp only [Option.map_some, Option.some.injEq, ovc, hf] at this
  exact absurd this h2
theorem keepR_ov {s0 : Store} (hF : Fok σ F) (h2 : keepR σ s0) : keepR (ov σ F) (ov s0 F) := fun i hi => by
 rw [ov_get?] at hi ⊢
 obtain ⟨o, ho, hc⟩ := Option.map_eq_some_iff.1 hi
 cases hf : F i with
 | none =>
  rw [ovc_none hf] at hc
  rw [hc] at ho
  rw [h2 i ho]
  simp [ovc_none hf]
 | some ob =>
  obtain ⟨k1, k2⟩ := hF i ob hf
  rw [ho] at k1
  injection k1 with k1
  subst k1
  simp only [ovc, hf, Option.some.injEq] at hc
  exact absurd hc k2
theorem EC.frame {f : FuncId} {args : List PV} {K : PV → Store → Prop} (hF : Fok σ F) (h : EC P f args σ K) : EC P f args (ov σ F) fun r s => ∃ s0, s = ov s0 F ∧ keepR σ s0 ∧ K r s0 := by
 refine ⟨let ⟨r, s, h1, h2⟩ := h.1; ⟨r, ov s F, keepR_ov hF h1, s, rfl, h1, h2⟩, ?_⟩
 intro G hG
 have := h.2 (ov2 F G) (Fok2 hF hG)
 rw [ov_ov hF]
 exact this.mono fun r s ⟨s0, h1, h2, h3⟩ => ⟨ov s0 F, by rw [h1, ov_ov (h2.Fok hF)], keepR_ov hF h2, s0, rfl, h2, h3⟩
theorem stepK_mono {o : Oper} {K K' : Env → Store → Prop} (hK : ∀ e s, K e s → K' e s) (h : stepK P T o e s K) : stepK P T o e s K' := by
 unfold stepK at *
 split at h
 ·exact hK _ _ h
 ·exact hK _ _ h
 ·exact hK _ _ h
 ·exact h.mono fun r s hs => hK _ _ hs
 ·exact h
theorem evOps_mono {ops : Array Oper} {K K' : Env → Store → Prop} (hK : ∀ e s, K e s → K' e s) : ∀ (l : List Oper) (e : Env) (s : Store), evOps P T ops l e s K → evOps P T ops l e s K'
 | [], e, s, h => hK e s h
 | o :: l, e, s, h => by
  simp only [evOps] at h ⊢
  split at h
  ·exact stepK_mono (fun e s => evOps_mono hK l e s) h
  ·exact evOps_mono hK l _ _ h
  ·exact h
theorem stepD_mono {o : Oper} {base i : Nat} {K K' : Env → Store → Prop} (hK : ∀ e s, K e s → K' e s) (h : stepD P T H base o i e s K) : stepD P T H base o i e s K' := by
 unfold stepD at *
 split at h
 ·rename_i hE
  rw [if_pos hE]
  split at h
  ·exact hK _ _ h
  ·exact ⟨h.1, hK _ _ h.2⟩
  ·exact h.mono fun r s hs => ⟨hs.1, hK _ _ hs.2⟩
  ·exact h
 ·rename_i hE
  rw [if_neg hE]
  split at h
  ·exact hK _ _ h
  ·exact hK _ _ h
  ·exact h
theorem evD1_mono {ops : Array Oper} {base i : Nat} {o : Oper} {K K' : Env → Store → Prop} (hK : ∀ e s, K e s → K' e s) (h : evD1 P T ops H base i o e s K) : evD1 P T ops H base i o e s K' := by
 unfold evD1 at *
 split at h
 ·exact stepD_mono hK h
 ·exact hK _ _ h
 ·exact h
theorem evDl_mono {ops : Array Oper} {base : Nat} {K K' : Env → Store → Prop} (hK : ∀ e s, K e s → K' e s) : ∀ (l : List Oper) (i : Nat) (e : Env) (s : Store), evDl P T ops H base l i e s K → evDl P T ops H base l i e s K'
 | [], i, e, s, h => hK e s h
 | o :: l, i, e, s, h => evD1_mono (fun e s => evDl_mono hK l (i + 1) e s) h
theorem evDraw_mono {ops : Array Oper} {K K' : Env → Store → Prop} (hK : ∀ e s, K e s → K' e s) (h : evDraw P T ops e s K) : evDraw P T ops e s K' := by
 obtain ⟨h1, k, h2, h2', H, h3, h4⟩ := h
 exact ⟨h1, k, h2, h2', H, h3, evDl_mono (fun e s => evOps_mono hK _ e s) _ _ _ _ h4⟩
theorem ev_mono : ∀ (c : Code) {K K' : X → Env → Store → Prop} (hK : ∀ x e s, K x e s → K' x e s) (e : Env) (s : Store), ev P T c e s K → ev P T c e s K' := by
 intro c
 induction c with
 | skip => intro K K' hK e s h; exact hK _ _ _ h
 | label l => intro K K' hK e s h; exact hK _ _ _ h
 | exit id => intro K K' hK e s h; exact hK _ _ _ h
 | ret => intro K K' hK e s h; exact hK _ _ _ h
 | region id ops draw =>
  intro K K' hK e s h
  cases draw with
  | false => exact evOps_mono (hK .nrm) _ _ _ h
  | true => exact evDraw_mono (hK .nrm) h
 | seq a b iha ihb =>
  intro K K' hK e s h
  simp only [ev] at h ⊢
  refine iha (fun x e s hx => ?_) e s h
  cases x with
  | nrm => obtain ⟨e2, hw, hx⟩ := hx; exact ⟨e2, hw, ihb hK e2 s hx⟩
  | ext i => exact hK _ _ _ hx
  | ret => exact hK _ _ _ hx
 | cond c a b iha ihb =>
  intro K K' hK e s h
  simp only [ev] at h ⊢
  split at h
  ·split at h
   ·rename_i ht
    rw [if_pos ht]
    exact iha hK e s h
   ·rename_i ht
    rw [if_neg ht]
    exact ihb hK e s h
  ·exact h
 | block id c ih =>
  intro K K' hK e s h
  simp only [ev] at h ⊢
  refine ih (fun x e s hx => ?_) e s h
  cases x with
  | nrm => exact hK _ _ _ hx
  | ext i =>
   simp only at hx ⊢
   split
   ·rename_i hi
    rw [if_pos hi] at hx
    exact hK _ _ _ hx
   ·rename_i hi
    rw [if_neg hi] at hx
    exact hK _ _ _ hx
  | ret => exact hK _ _ _ hx
 | loop c ih =>
  intro K K' hK e s h
  intro I hI
  refine h I fun e s ⟨e2, hw, hr⟩ => hI e s ⟨e2, hw, ih (fun x e s hx => ?_) e2 s hr⟩
  cases x with
  | nrm => exact hx
  | ext i => exact hK _ _ _ hx
  | ret => exact hK _ _ _ hx
 | scope c ih => intro K K' hK e s h; exact ih hK e s h
 | _ => intro K K' hK e s h; exact h
def over (σ : Store) (F : Nat → Option AObj) (K : Env → Store → Prop) (e : Env) (s : Store) : Prop := ∃ s0, s = ov s0 F ∧ keepR σ s0 ∧ K e s0
theorem stepK_frame {o : Oper} {K : Env → Store → Prop} (hF : Fok σ F) (h : stepK P T o e σ K) : stepK P T o e (ov σ F) (over σ F K) := by
 unfold stepK at h
 have hk := stepK' (T := T) o.op e σ
 generalize hr : stepA T o.op e σ = r at h hk
 cases hk with
 | val p h1 =>
  unfold stepK
  rw [h1 _ sub_ov]
  exact ⟨σ, rfl, keepR.refl _, h⟩
 | new ob mk h1 =>
  unfold stepK
  rw [h1]
  simp only [ov_len]
  exact ⟨σ ++ [some ob], (ov_push hF _).symm, keepR.push _, h⟩
 | push p ob hne h1 =>
  unfold stepK
  rw [h1]
  simp only [ov_len]
  exact ⟨σ ++ [some ob], (ov_push hF _).symm, keepR.push _, h⟩
 | set p g o' ob hne hne' hg h1 =>
  have hfn : F g = none := hF.non (by rw [hg]; intro hh; injection hh with hh; injection hh with hh; exact hne' hh)
  unfold stepK
  rw [h1 _ (ov_get hg hne')]
  exact ⟨σ.set g (some ob), (ov_set hfn _).symm, keepR.set _ hg (by intro hh; injection hh with hh; exact hne' hh), h⟩
 | call f args h1 =>
  unfold stepK
  rw [h1]
  exact (EC.frame hF h).mono fun r s ⟨s0, k1, k2, k3⟩ => ⟨s0, k1, k2, k3⟩
 | bad => exact h.elim
theorem over_trans {K : Env → Store → Prop} (hk : keepR σ τ) {e : Env} {s : Store} (h : over τ F K e s) : over σ F K e s := by
 obtain ⟨s0, h1, h2, h3⟩ := h
 exact ⟨s0, h1, hk.trans h2, h3⟩
theorem evOps_frame {ops : Array Oper} {K : Env → Store → Prop} : ∀ (l : List Oper) (e : Env) (σ : Store), Fok σ F → evOps P T ops l e σ K → evOps P T ops l e (ov σ F) (over σ F K)
 | [], e, σ, hF, h => ⟨σ, rfl, keepR.refl _, h⟩
 | o :: l, e, σ, hF, h => by
  simp only [evOps] at h ⊢
  split at h
  ·refine stepK_mono (fun e s hs => ?_) (stepK_frame hF h)
   obtain ⟨s0, rfl, h2, h3⟩ := hs
   exact evOps_mono (fun e s => over_trans h2) l e _ (evOps_frame l e s0 (h2.Fok hF) h3)
  ·exact evOps_frame l _ σ hF h
  ·exact h
end
section
variable {P : Program} {T : TypeId → Option TI} {σ σ' τ s H : Store} {F : Nat → Option AObj} {e e' : Env}
theorem val_upd {d : Option Tmp} {p : PV} {x : Operand} (h : ∀ t, d = some t → x ≠ .tmp t) : val (upd e d p) x = val e x := by
 cases d with
 | none => rfl
 | some t =>
  cases x with
  | tmp u =>
   have : u ≠ t := fun he => h t rfl (by rw [he])
   simp only [val, upd_some, if_neg this]
  | _ => rfl
theorem upd_comm {d d' : Option Tmp} {p q : PV} (h : ∀ t, d = some t → d' ≠ some t) : upd (upd e d p) d' q = upd (upd e d' q) d p := by
 cases d with
 | none => rfl
 | some t =>
  cases d' with
  | none => rfl
  | some u =>
   have hne : u ≠ t := fun he => h t rfl (by rw [he])
   funext x
   simp only [upd_some]
   by_cases h1 : x = u
   ·subst h1
    rw [if_pos rfl, if_neg hne, if_pos rfl]
   ·rw [if_neg h1]
    by_cases h2 : x = t
    ·rw [if_pos h2, if_pos h2]
    ·rw [if_neg h2, if_neg h2, if_neg h1]
theorem stepA_congr {o : Op} (h : ∀ x ∈ o.operands.toList, val e' x = val e x) : stepA T o e' σ = stepA T o e σ := by
 have pairs : ∀ (ps : Array (Nat × Operand)), (∀ x ∈ ((ps.toList.map (·.2)).toArray).toList, val e' x = val e x) → (ps.toList.map fun q => (q.1, val e' q.2)) = (ps.toList.map fun q => (q.1, val e q.2)) := fun ps hp =>
  List.map_congr_left fun q hq => by rw [hp q.2 (by simp; exact ⟨q.1, by simpa using hq⟩)]
 cases o with
 | build t ps =>
  have := pairs ps h
  simp only [stepA, this]
 | buildSlice t n ps =>
  have := pairs ps h
  simp only [stepA, this]
 | makeFunc f first caps =>
  cases f with
  | func f =>
   have h1 : first.toList.map (val e') = first.toList.map (val e) := List.map_congr_left fun x hx => h x (by simp [Op.operands]; exact .inl (by simpa using hx))
   have h2 : caps.toList.map (val e') = caps.toList.map (val e) := List.map_congr_left fun x hx => h x (by simp [Op.operands]; exact .inr (by simpa using hx))
   simp only [stepA, h1, h2]
  | _ => rfl
 | call c =>
  have h1 : c.args.toList.map (val e') = c.args.toList.map (val e) := List.map_congr_left fun x hx => h x (by simp [Op.operands, Call.operands]; exact .inr (by simpa using hx))
  simp only [stepA]
  cases hc : c.callee with
  | builtin b => simp only [h1]
  | value f =>
   have h2 : val e' f = val e f := h f (by simp [Op.operands, Call.operands, hc])
   simp only [h1, h2]
  | invoke r m => rfl
 | slice t x lo hi mx =>
  cases mx with
  | some m => rfl
  | none =>
   have hx : val e' x = val e x := h x (by simp [Op.operands])
   cases lo with
   | none => cases hi with
    | none => simp only [stepA, hx]
    | some b =>
     have hb := h b (by simp [Op.operands])
     simp only [stepA, hx, hb]
   | some a =>
    have ha := h a (by simp [Op.operands])
    cases hi with
    | none => simp only [stepA, hx, ha]
    | some b =>
     have hb := h b (by simp [Op.operands])
     simp only [stepA, hx, ha, hb]
 | pick c a b =>
  have h1 := h c (by simp [Op.operands])
  have h2 := h a (by simp [Op.operands])
  have h3 := h b (by simp [Op.operands])
  simp only [stepA, h1, h2, h3]
 | makeMap t r => cases r <;> rfl
 | mapUpdate t m k v =>
  have h1 := h m (by simp [Op.operands])
  have h2 := h k (by simp [Op.operands])
  have h3 := h v (by simp [Op.operands])
  simp only [stepA, h1, h2, h3]
 | store t x y =>
  have h1 := h x (by simp [Op.operands])
  have h2 := h y (by simp [Op.operands])
  simp only [stepA, h1, h2]
 | binOp b t x y u =>
  have h1 := h x (by simp [Op.operands])
  have h2 := h y (by simp [Op.operands])
  simp only [stepA, h1, h2]
 | indexAddr t x y =>
  have h1 := h x (by simp [Op.operands])
  have h2 := h y (by simp [Op.operands])
  simp only [stepA, h1, h2]
 | index t x y =>
  have h1 := h x (by simp [Op.operands])
  have h2 := h y (by simp [Op.operands])
  simp only [stepA, h1, h2]
 | lookup t x y ok =>
  have h1 := h x (by simp [Op.operands])
  have h2 := h y (by simp [Op.operands])
  simp only [stepA, h1, h2]
 | move x => have h1 := h x (by simp [Op.operands]); simp only [stepA, h1]
 | assign x => have h1 := h x (by simp [Op.operands]); simp only [stepA, h1]
 | box t x => have h1 := h x (by simp [Op.operands]); simp only [stepA, h1]
 | load t x => have h1 := h x (by simp [Op.operands]); simp only [stepA, h1]
 | nilCheck x => have h1 := h x (by simp [Op.operands]); simp only [stepA, h1]
 | unOp b t x => have h1 := h x (by simp [Op.operands]); simp only [stepA, h1]
 | convert s d x => have h1 := h x (by simp [Op.operands]); simp only [stepA, h1]
 | fieldAddr t x f => have h1 := h x (by simp [Op.operands]); simp only [stepA, h1]
 | field t x f => have h1 := h x (by simp [Op.operands]); simp only [stepA, h1]
 | extract x i => have h1 := h x (by simp [Op.operands]); simp only [stepA, h1]
 | _ => rfl
theorem looks_op {ops : Array Oper} {o : Oper} {t : Tmp} (h : t ∉ o.looksAt ops) : ∀ x ∈ o.op.operands.toList, x ≠ .tmp t := fun x hx he => h (by
 unfold Oper.looksAt
 refine List.mem_append_left _ (List.mem_filterMap.2 ⟨x, hx, ?_⟩)
 rw [he])
theorem stepA_put {ops : Array Oper} {o : Oper} {d : Option Tmp} {p : PV} (h : ∀ t, d = some t → t ∉ o.looksAt ops) : stepA T o.op (upd e d p) σ = stepA T o.op e σ :=
 stepA_congr fun x hx => val_upd fun t ht => looks_op (h t ht) x hx
theorem wantedA_put {ops : Array Oper} {o : Oper} {d : Option Tmp} {p : PV} (h : ∀ t, d = some t → t ∉ o.looksAt ops) : wantedA ops o (upd e d p) = wantedA ops o e := by
 unfold wantedA
 cases hg : o.guard with
 | none => rfl
 | some g =>
  obtain ⟨j, want⟩ := g
  simp only
  cases ht : (ops[j]?).bind (·.dst) with
  | none => rfl
  | some t =>
   cases d with
   | none => rfl
   | some u =>
    have hne : t ≠ u := fun he => h u rfl (by
     unfold Oper.looksAt
     refine List.mem_append_right _ ?_
     rw [hg]
     simp only [ht, he]
     simp)
    simp only [upd_some, if_neg hne]
theorem new_isNew {o : Op} {ob : AObj} {mk : Nat → PV} (h : stepA T o e σ = .new ob mk) : isNew o = true ∧ isEff o = false ∧ ob ≠ .res := by
 have hk : ∀ {t : TypeId} {p q : PV} {r : AR}, appendA T t p q σ = r → r ≠ .new ob mk := fun hr he => by
  rcases append_cases hr (by rw [he]; simp) with ⟨_, h1, _⟩ | ⟨_, _, h1, _⟩ | ⟨_, _, _, _, h1, _⟩ <;> (rw [h1] at he; cases he)
 cases o with
 | alloc t => simp only [stepA] at h; split at h <;> cases h; exact ⟨rfl, rfl, by simp⟩
 | box t x => simp only [stepA] at h; split at h <;> cases h; exact ⟨rfl, rfl, by simp⟩
 | makeMap t r =>
  cases r with
  | some r => cases h
  | none =>
   simp only [stepA] at h
   split at h
   ·split at h <;> cases h
    exact ⟨rfl, rfl, by simp⟩
   ·cases h
 | call c =>
  exfalso
  simp only [stepA] at h
  split at h
  ·generalize hq : callA T _ c.argTypes (c.args.toList.map (val e)) σ = r at h
   unfold callA lenX at hq
   repeat' split at hq
   all_goals first | (subst hq; cases h; done) | (subst h; exact hk hq rfl)
  ·split at h <;> cases h
  ·cases h
 | makeFunc f a b => cases f <;> cases h
 | slice t x lo hi mx => cases mx with
  | some m => cases h
  | none => exfalso; revert h; simp only [stepA]; (repeat' split) <;> simp
 | _ => exfalso; revert h; simp only [stepA]; (repeat' split) <;> simp
inductive Kd3 (P : Program) (T : TypeId → Option TI) (ops : Array Oper) (H : Store) (base i : Nat) (o : Oper) (e : Env) : Prop
 | u (p : PV) : (∀ s K, evD1 P T ops H base i o e s K = K (upd e o.dst p) s) → Kd3 P T ops H base i o e
 | n (ob : AObj) (mk : Nat → PV) : isNew o.op = true → ob ≠ .res → (∀ s K, evD1 P T ops H base i o e s K = K (upd e o.dst (mk (base + newIdx ops i))) (s.set (base + newIdx ops i) (some ob))) → Kd3 P T ops H base i o e
 | f : isEff o.op = true → wantedA ops o e = some true → Kd3 P T ops H base i o e
 | no : (∀ s K, ¬ evD1 P T ops H base i o e s K) → Kd3 P T ops H base i o e
theorem kd3 (ops : Array Oper) (base i : Nat) (o : Oper) (e : Env) : Kd3 P T ops H base i o e := by
 cases hw : wantedA ops o e with
 | none => exact .no fun s K h => by simp only [evD1, hw] at h
 | some b =>
  cases b with
  | false => exact .u (.tu []) fun s K => by simp only [evD1, hw]
  | true =>
   cases hE : isEff o.op with
   | true => exact .f hE hw
   | false =>
    cases hr : stepA T o.op e H with
    | val p => exact .u p fun s K => by simp only [evD1, hw, stepD, hE, hr, Bool.false_eq_true, if_false]
    | new ob mk => exact .n ob mk (new_isNew hr).1 (new_isNew hr).2.2 fun s K => by simp only [evD1, hw, stepD, hE, hr, Bool.false_eq_true, if_false]
    | eff p s' => exact .no fun s K h => by simp only [evD1, hw, stepD, hE, hr, Bool.false_eq_true, if_false] at h
    | call f args => exact .no fun s K h => by simp only [evD1, hw, stepD, hE, hr, Bool.false_eq_true, if_false] at h
    | bad => exact .no fun s K h => by simp only [evD1, hw, stepD, hE, hr, Bool.false_eq_true, if_false] at h
theorem stepD_frame {o : Oper} {base i : Nat} {K : Env → Store → Prop} (hE : isEff o.op = true) (hF : Fok σ F) (h : stepD P T H base o i e σ K) : stepD P T H base o i e (ov σ F) (over σ F K) := by
 unfold stepD at *
 rw [if_pos hE] at h ⊢
 have hk := stepK' (T := T) o.op e σ
 generalize hr : stepA T o.op e σ = r at h hk
 cases hk with
 | val p h1 =>
  rw [h1 _ sub_ov]
  exact ⟨σ, rfl, keepR.refl _, h⟩
 | new ob mk h1 => exact h.elim
 | push p ob hne h1 =>
  rw [h1]
  simp only [ov_len]
  refine ⟨?_, σ ++ [some ob], (ov_push hF _).symm, keepR.push _, h.2⟩
  rw [← ov_push hF]
  exact fun i o hl => ov_live (h.1 i o hl)
 | set p g o' ob hne hne' hg h1 =>
  have hfn : F g = none := hF.non (by rw [hg]; intro hh; injection hh with hh; injection hh with hh; exact hne' hh)
  rw [h1 _ (ov_get hg hne')]
  refine ⟨?_, σ.set g (some ob), (ov_set hfn _).symm, keepR.set _ hg (by intro hh; injection hh with hh; exact hne' hh), h.2⟩
  rw [← ov_set hfn]
  exact fun i o hl => ov_live (h.1 i o hl)
 | call f args h1 =>
  rw [h1]
  refine (EC.frame hF h).mono fun r s ⟨s0, k1, k2, k3, k4⟩ => ⟨?_, s0, k1, k2, k4⟩
  rw [k1]
  exact fun i o hl => ov_live (k3 i o hl)
 | bad => exact h.elim
theorem stepD_keep {o : Oper} {base i : Nat} {K : Env → Store → Prop} (hE : isEff o.op = true) (hH : sub H σ) (h : stepD P T H base o i e σ K) : stepD P T H base o i e σ (fun e' s' => sub H s' ∧ keepR σ s' ∧ K e' s') := by
 unfold stepD at *
 rw [if_pos hE] at h ⊢
 have hk := stepK' (T := T) o.op e σ
 generalize hr : stepA T o.op e σ = r at h hk
 cases hk with
 | val p h1 => exact ⟨hH, keepR.refl _, h⟩
 | new ob mk h1 => exact h.elim
 | push p ob hne h1 => exact ⟨h.1, h.1, keepR.push _, h.2⟩
 | set p g o' ob hne hne' hg h1 => exact ⟨h.1, h.1, keepR.set _ hg (by intro hh; injection hh with hh; exact hne' hh), h.2⟩
 | call f args h1 => exact (EC.keep h).mono fun r s hs => ⟨hs.2.1, hs.2.1, hs.1, hs.2.2⟩
 | bad => exact h.elim
def one1 (i : Nat) (ob : AObj) : Nat → Option AObj := fun j => if j = i then some ob else none
theorem one1_ov {i : Nat} {ob : AObj} (h : s[i]? = some (some .res)) : ov s (one1 i ob) = s.set i (some ob) := by
 apply List.ext_getElem?
 intro j
 rw [ov_get?, List.getElem?_set]
 by_cases hj : i = j
 ·subst hj
  rw [if_pos rfl, if_pos (List.getElem?_eq_some_iff.1 h).1, h]
  simp [ovc, one1]
 ·rw [if_neg hj]
  cases hs : s[j]? with
  | none => rfl
  | some o => simp [ovc_none (show one1 i ob j = none from if_neg (fun e => hj e.symm))]
theorem one1_Fok {i : Nat} {ob : AObj} (h : s[i]? = some (some .res)) (hne : ob ≠ .res) : Fok s (one1 i ob) := fun j o hj => by
 unfold one1 at hj
 split at hj
 ·rename_i hij
  injection hj with hj
  subst hij hj
  exact ⟨h, hne⟩
 ·cases hj
theorem evD1_form {ops : Array Oper} {base i : Nat} {o : Oper} {K : Env → Store → Prop} (h : evD1 P T ops H base i o e s K) : evD1 P T ops H base i o e s fun e' s' => (∃ q, e' = upd e o.dst q) ∧ K e' s' := by
 unfold evD1 stepD at *
 split at h
 ·split at h
  ·rename_i hE
   rw [if_pos hE]
   split at h
   ·exact ⟨⟨_, rfl⟩, h⟩
   ·exact ⟨h.1, ⟨_, rfl⟩, h.2⟩
   ·exact h.mono fun r s hs => ⟨hs.1, ⟨_, rfl⟩, hs.2⟩
   ·exact h
  ·rename_i hE
   rw [if_neg hE]
   split at h
   ·exact ⟨⟨_, rfl⟩, h⟩
   ·exact ⟨⟨_, rfl⟩, h⟩
   ·exact h
 ·exact ⟨⟨_, rfl⟩, h⟩
 ·exact h
theorem evD1_false {ops : Array Oper} {base i : Nat} {o : Oper} : ¬ evD1 P T ops H base i o e s (fun _ _ => False) := fun h => by
 unfold evD1 stepD at h
 split at h
 ·split at h
  ·split at h
   ·exact h
   ·exact h.2
   ·obtain ⟨⟨_, _, _, h1⟩, _⟩ := h
    exact h1.2
   ·exact h
  ·split at h <;> exact h
 ·exact h
 ·exact h
theorem evD1_E {ops : Array Oper} {base i : Nat} {o : Oper} {K : Env → Store → Prop} (hw : wantedA ops o e = some true) : evD1 P T ops H base i o e s K = stepD P T H base o (newIdx ops i) e s K := by
 unfold evD1
 rw [hw]
theorem evD1_comm {ops : Array Oper} {base i j : Nat} {oi oj : Oper} {K : Env → Store → Prop} (hap : oi.apart ops oj = true) (hEE : ¬ (isEff oi.op = true ∧ isEff oj.op = true)) (hNE : ¬ (isNew oi.op = true ∧ isEff oj.op = true)) (hH : sub H s)
  (hres : isNew oj.op = true → s[base + newIdx ops j]? = some (some .res)) (hdist : isNew oi.op = true → isNew oj.op = true → newIdx ops i ≠ newIdx ops j)
  (h : evD1 P T ops H base i oi e s fun e s => evD1 P T ops H base j oj e s K) : evD1 P T ops H base j oj e s fun e s => evD1 P T ops H base i oi e s K := by
 obtain ⟨a1, a2, a3⟩ := Oper.apart_spec hap
 have a2' : ∀ d, oj.dst = some d → oi.dst ≠ some d := fun d h1 h2 => a2 d h2 h1
 -- the same at another frame
 have iform : ∀ q s' K', evD1 P T ops H base i oi (upd e oj.dst q) s' K' = evD1 P T ops H base i oi e s' (fun e' s'' => K' (upd e' oj.dst q) s'') := by
  intro q s' K'
  unfold evD1
  rw [wantedA_put a3]
  cases wantedA ops oi e with
  | none => rfl
  | some b =>
   cases b with
   | false => simp only [upd_comm a2]
   | true =>
    unfold stepD
    cases hE : isEff oi.op with
    | true =>
     simp only [if_true, stepA_put a3]
     cases stepA T oi.op e s' <;> simp only [upd_comm a2]
    | false =>
     simp only [Bool.false_eq_true, if_false, stepA_put a3]
     cases stepA T oi.op e H <;> simp only [upd_comm a2]
 have jform : ∀ q s' K', evD1 P T ops H base j oj (upd e oi.dst q) s' K' = evD1 P T ops H base j oj e s' (fun e' s'' => K' (upd e' oi.dst q) s'') := by
  intro q s' K'
  unfold evD1
  rw [wantedA_put a1]
  cases wantedA ops oj e with
  | none => rfl
  | some b =>
   cases b with
   | false => simp only [upd_comm a2']
   | true =>
    unfold stepD
    cases hE : isEff oj.op with
    | true =>
     simp only [if_true, stepA_put a1]
     cases stepA T oj.op e s' <;> simp only [upd_comm a2']
    | false =>
     simp only [Bool.false_eq_true, if_false, stepA_put a1]
     cases stepA T oj.op e H <;> simp only [upd_comm a2']
 have h' := evD1_form h
 rcases kd3 (P := P) (T := T) (H := H) ops base i oi e with ⟨p, hi⟩ | ⟨ob, mk, hin, hob, hi⟩ | ⟨hiE, hiw⟩ | hi
 ·rw [hi, jform] at h
  refine evD1_mono (fun e' s' hk => ?_) (evD1_form h)
  obtain ⟨⟨q, rfl⟩, hk⟩ := hk
  rw [iform, hi, upd_comm a2]
  exact hk
 ·rw [hi, jform] at h
  rcases kd3 (P := P) (T := T) (H := H) ops base j oj e with ⟨q, hj⟩ | ⟨ob2, mk2, hjn, hob2, hj⟩ | ⟨hjE, hjw⟩ | hj
  ·rw [hj] at h ⊢
   rw [iform, hi, upd_comm a2]
   exact h
  ·rw [hj] at h ⊢
   rw [iform, hi, upd_comm a2, List.set_comm _ _ (by have := hdist hin hjn; omega)]
   exact h
  ·exact absurd ⟨hin, hjE⟩ hNE
  ·exact absurd h (hj _ _)
 ·rcases kd3 (P := P) (T := T) (H := H) ops base j oj e with ⟨q, hj⟩ | ⟨ob2, mk2, hjn, hob2, hj⟩ | ⟨hjE, hjw⟩ | hj
  ·rw [hj, iform]
   refine evD1_mono (fun e' s' hk => ?_) h'
   obtain ⟨⟨r, rfl⟩, hk⟩ := hk
   rw [jform, hj] at hk
   rw [upd_comm a2]
   exact hk
  ·rw [hj, iform]
   have hslot := hres hjn
   have hF := one1_Fok hslot hob2
   rw [evD1_E hiw] at h' ⊢
   have h2 := stepD_frame hiE hF (stepD_keep hiE hH h')
   rw [one1_ov hslot] at h2
   refine stepD_mono (fun e' s' hk => ?_) h2
   obtain ⟨s0, rfl, k1, k2, k3, ⟨r, rfl⟩, hk⟩ := hk
   rw [jform, hj] at hk
   rw [upd_comm a2, one1_ov (k1 _ hslot)]
   exact hk
  ·exact absurd ⟨hiE, hjE⟩ hEE
  ·exfalso
   have : evD1 P T ops H base i oi e s fun _ _ => False := evD1_mono (fun e' s' hk => by
    obtain ⟨⟨r, rfl⟩, hk⟩ := hk
    rw [jform] at hk
    exact hj _ _ hk) h'
   exact evD1_false this
 ·exact absurd h (hi _ _)
end
section
variable {P : Program} {T : TypeId → Option TI} {ops : Array Oper} {H : Store} {base : Nat}
noncomputable def evOp (P : Program) (T : TypeId → Option TI) (ops : Array Oper) (H : Store) (base i : Nat) (e : Env) (s : Store) (K : Env → Store → Prop) : Prop := match ops[i]? with
 | none => K e s
 | some o => evD1 P T ops H base i o e s K
noncomputable def evAny (P : Program) (T : TypeId → Option TI) (ops : Array Oper) (H : Store) (base : Nat) (K : Env → Store → Prop) : Nat → Array Bool → Env → Store → Prop
 | 0, listed, e, s => Region.ready .any ops listed = [] ∧ K e s
 | fuel + 1, listed, e, s => (Region.ready .any ops listed = [] → K e s) ∧ ∀ i ∈ Region.ready .any ops listed, evOp P T ops H base i e s (evAny P T ops H base K fuel (listed.setIfInBounds i true))
theorem newIdx_succ {j : Nat} {o : Oper} (h : ops[j]? = some o) (hn : isNew o.op = true) : newIdx ops (j + 1) = newIdx ops j + 1 := by
 have hl : ops.toList[j]? = some o := by simpa using h
 unfold newIdx
 rw [List.take_add_one, hl]
 simp [List.filter_append, List.filter_cons, hn]
theorem newIdx_mono {j k : Nat} (hk : j ≤ k) : newIdx ops j ≤ newIdx ops k := by
 unfold newIdx
 exact ((List.take_sublist_take_left hk).filter _).length_le
theorem newIdx_lt {j k : Nat} {o : Oper} (h : ops[j]? = some o) (hn : isNew o.op = true) (hk : j < k) : newIdx ops j < newIdx ops k := by
 have h1 := newIdx_mono (ops := ops) (show j + 1 ≤ k from hk)
 rw [newIdx_succ h hn] at h1
 omega
theorem newIdx_inj {j k : Nat} {o o' : Oper} (h : ops[j]? = some o) (hn : isNew o.op = true) (h' : ops[k]? = some o') (hn' : isNew o'.op = true) (hne : j ≠ k) : newIdx ops j ≠ newIdx ops k := by
 rcases Nat.lt_or_gt_of_ne hne with hl | hl
 ·have := newIdx_lt h hn hl; omega
 ·have := newIdx_lt h' hn' hl; omega
theorem newIdx_all {j : Nat} {o : Oper} (h : ops[j]? = some o) (hn : isNew o.op = true) : newIdx ops j < newAll ops := by
 have hlt := (Array.getElem?_eq_some_iff.1 h).1
 have := newIdx_lt h hn (k := ops.toList.length) (by simpa using hlt)
 unfold newIdx at this
 rw [List.take_length] at this
 exact this
structure Inv (ops : Array Oper) (H : Store) (base : Nat) (listed : Array Bool) (s : Store) : Prop where
 sub : sub H s
 res : ∀ j o, ops[j]? = some o → isNew o.op = true → listed.getD j true = false → s[base + newIdx ops j]? = some (some .res)
 closed : ∀ j o, ops[j]? = some o → listed.getD j false = true → ∀ e ∈ o.after, Region.binds .any e = true → listed.getD e.on false = true
theorem waits_listed {listed : Array Bool} (hc : ∀ j o, ops[j]? = some o → listed.getD j false = true → ∀ e ∈ o.after, Region.binds .any e = true → listed.getD e.on false = true) :
  ∀ (n j k : Nat) (o : Oper), ops[j]? = some o → (∀ e ∈ o.after, Region.binds .any e = true → listed.getD e.on false = true) → waits ops n j k = true → listed.getD k false = true
 | 0, j, k, o, _, _, h => by simp [waits] at h
 | n + 1, j, k, o, hj, ha, h => by
  simp only [waits, hj, List.any_eq_true, Bool.and_eq_true, Bool.or_eq_true, beq_iff_eq] at h
  obtain ⟨e, he, hb, hk⟩ := h
  have h1 := ha e (by simpa using he) hb
  rcases hk with hk | hk
  ·rw [← hk]
   exact h1
  ·cases ho : ops[e.on]? with
   | none => cases n <;> simp [waits, ho] at hk
   | some o' => exact waits_listed hc n e.on k o' ho (hc _ _ ho h1) hk
theorem unl_set {listed : Array Bool} {i k : Nat} (h : (listed.setIfInBounds i true).getD k true = false) : listed.getD k true = false ∧ k ≠ i := by
 by_cases hik : i = k
 ·subst hik
  exfalso
  rw [Array.getD_eq_getD_getElem?] at h
  by_cases hlt : i < listed.size
  ·rw [Array.getElem?_setIfInBounds_self_of_lt hlt] at h
   simp at h
  ·rw [Array.getElem?_eq_none (by simpa using Nat.le_of_not_lt hlt)] at h
   simp at h
 ·rw [getD_set_ne true hik] at h
  exact ⟨h, fun e => hik e.symm⟩
theorem Inv.step {listed : Array Bool} {s s' : Store} {j : Nat} {o : Oper} (h : Inv ops H base listed s) (hj : ops[j]? = some o) (ha : ∀ e ∈ o.after, Region.binds .any e = true → listed.getD e.on false = true) (hs : E.sub H s')
  (hr : ∀ k ok, ops[k]? = some ok → isNew ok.op = true → k ≠ j → s[base + newIdx ops k]? = some (some .res) → s'[base + newIdx ops k]? = some (some .res)) : Inv ops H base (listed.setIfInBounds j true) s' := by
 refine ⟨hs, fun k ok hk hn hu => ?_, fun k ok hk hl e he hb => ?_⟩
 ·obtain ⟨h1, h2⟩ := unl_set hu
  exact hr k ok hk hn h2 (h.res k ok hk hn h1)
 ·by_cases hjk : j = k
  ·subst hjk
   rw [hj] at hk
   injection hk with hk
   subst hk
   exact getD_set_true (ha e he hb)
  ·rw [getD_set_ne false hjk] at hl
   exact getD_set_true (h.closed k ok hk hl e he hb)
theorem evD1_inv {listed : Array Bool} {s : Store} {e : Env} {j : Nat} {o : Oper} {K : Env → Store → Prop} (h : Inv ops H base listed s) (hr : j ∈ Region.ready .any ops listed) (hj : ops[j]? = some o) (hev : evD1 P T ops H base j o e s K) :
  evD1 P T ops H base j o e s fun e' s' => Inv ops H base (listed.setIfInBounds j true) s' ∧ K e' s' := by
 obtain ⟨hu, o', ho', ha⟩ := mem_ready.1 hr
 rw [hj] at ho'
 injection ho' with ho'
 subst ho'
 rcases kd3 (P := P) (T := T) (H := H) ops base j o e with ⟨p, hi⟩ | ⟨ob, mk, hin, hob, hi⟩ | ⟨hiE, hiw⟩ | hi
 ·rw [hi] at hev ⊢
  exact ⟨h.step hj ha h.sub fun k ok _ _ _ hk => hk, hev⟩
 ·rw [hi] at hev ⊢
  refine ⟨h.step hj ha (fun i oi hl => ?_) fun k ok hk hn hne hk' => ?_, hev⟩
  ·have hs := h.sub i oi hl
   refine set_live hs fun he => ?_
   have := h.res j o hj hin hu
   rw [← he, hs.1] at this
   injection this with this
   injection this with this
   exact hs.2 this
  ·rw [List.getElem?_set_ne (by have := newIdx_inj hk hn hj hin hne; omega)]
   exact hk'
 ·rw [evD1_E hiw] at hev ⊢
  exact stepD_mono (fun e' s' ⟨h1, h2, h3⟩ => ⟨h.step hj ha h1 fun k ok _ _ _ hk => h2 _ hk, h3⟩) (stepD_keep hiE h.sub hev)
 ·exact absurd hev (hi _ _)
theorem any_first {K : Env → Store → Prop} {i : Nat} {oi : Oper} (hi : ops[i]? = some oi) : ∀ (fuel : Nat) (listed : Array Bool) (e : Env) (s : Store), Inv ops H base listed s →
  (∀ j oj, ops[j]? = some oj → j ≠ i → listed.getD j true = false → (∀ e ∈ oj.after, Region.binds .any e = true → e.on ≠ i) → oi.apart ops oj = true) →
  (∀ j oj, ops[j]? = some oj → j ≠ i → listed.getD j true = false → (isEff oi.op || isNew oi.op) = true → isEff oj.op = true → waits ops ops.size j i = true) →
  i ∈ Region.ready .any ops listed → evD1 P T ops H base i oi e s (evAny P T ops H base K fuel (listed.setIfInBounds i true)) → evAny P T ops H base K (fuel + 1) listed e s := by
 intro fuel
 induction fuel with
 | zero =>
  intro listed e s _ _ _ hr h
  refine ⟨fun h0 => (by rw [h0] at hr; cases hr), fun j hj => ?_⟩
  by_cases hji : j = i
  ·subst hji
   unfold evOp
   rw [hi]
   exact h
  ·have := ready_mono hj hji
   exact absurd (evD1_mono (K' := fun _ _ => False) (fun e' s' hk => by rw [hk.1] at this; cases this) h) evD1_false
 | succ fuel ih =>
  intro listed e s hinv hfree hE hr h
  refine ⟨fun h0 => (by rw [h0] at hr; cases hr), fun j hj => ?_⟩
  by_cases hji : j = i
  ·subst hji
   unfold evOp
   rw [hi]
   exact h
  ·obtain ⟨hjun, oj, hoj, hall⟩ := mem_ready.1 hj
   have hiun := (mem_ready.1 hr).1
   have hnl : listed.getD i false ≠ true := fun h1 => by
    rcases Nat.lt_or_ge i listed.size with h' | h'
    ·simp [h'] at h1 hiun; rw [hiun] at h1; cases h1
    ·simp [Array.getElem?_eq_none h'] at h1
   have hnot : ∀ e ∈ oj.after, Region.binds .any e = true → e.on ≠ i := fun e he hb heq => hnl (heq ▸ hall e he hb)
   have hap := hfree j oj hoj hji hjun hnot
   have hw : ¬ waits ops ops.size j i = true := fun hw => hnl (waits_listed hinv.closed _ j i oj hoj hall hw)
   have h1 : evD1 P T ops H base i oi e s fun e' s' => evD1 P T ops H base j oj e' s' (evAny P T ops H base K fuel ((listed.setIfInBounds i true).setIfInBounds j true)) :=
    evD1_mono (fun e' s' hk => by
     have := hk.2 j (ready_mono hj hji)
     unfold evOp at this
     rw [hoj] at this
     exact this) h
   have h2 := evD1_comm hap (fun hh => hw (hE j oj hoj hji hjun (by simp [hh.1]) hh.2)) (fun hh => hw (hE j oj hoj hji hjun (by simp [hh.1]) hh.2)) hinv.sub (fun hn => hinv.res j oj hoj hn hjun)
    (fun hn hn' => newIdx_inj hi hn hoj hn' (fun e => hji e.symm)) h1
   unfold evOp
   rw [hoj]
   refine evD1_mono (fun e' s' hk => ?_) (evD1_inv hinv hj hoj h2)
   refine ih _ e' s' hk.1 (fun k ok hk hki hun hno => ?_) (fun k ok hk hki hun => ?_) (ready_mono hr (Ne.symm hji)) ?_
   ·exact hfree k ok hk hki (unl_set hun).1 hno
   ·exact hE k ok hk hki (unl_set hun).1
   ·rw [Array.setIfInBounds_comm _ _ hji]
    exact hk.2
theorem any_lex {K : Env → Store → Prop} (hE : ∀ j k oj ok, ops[j]? = some oj → ops[k]? = some ok → k < j → (isEff ok.op || isNew ok.op) = true → isEff oj.op = true → waits ops ops.size j k = true) :
  ∀ (l : List Oper) (k : Nat) (listed : Array Bool) (e : Env) (s : Store), (∀ j, l[j]? = ops[k + j]?) → (∀ j, j < k → listed.getD j true = true) → Inv ops H base listed s →
  Region.lexFrom .any ops l.length k listed = true → evDl P T ops H base l k e s K → evAny P T ops H base K l.length listed e s
 | [], _, _, _, _, _, _, _, hB, h => ⟨by simpa [Region.lexFrom] using hB, h⟩
 | o :: l, k, listed, e, s, hl, hlt, hinv, hB, h => by
  have h0 : ops[k]? = some o := by simpa using (hl 0).symm
  simp only [List.length_cons, Region.lexFrom, Bool.and_eq_true] at hB
  obtain ⟨⟨hr, hf⟩, hB'⟩ := hB
  have hr' : k ∈ Region.ready .any ops listed := by simpa using hr
  refine any_first h0 l.length listed e s hinv (Region.free_spec h0 hf) (fun j oj hoj hjk hun h1 h2 => hE j k oj o hoj h0 (Nat.lt_of_not_le fun hle => ?_) h1 h2) hr'
   (evD1_mono (fun e' s' hk => any_lex hE l (k + 1) _ e' s' (fun j => by have := hl (j + 1); simpa [Nat.add_assoc, Nat.add_comm 1 j] using this) (fun j hj => ?_) hk.1 hB' hk.2) (evD1_inv hinv hr' h0 h))
  ·have := hlt j (by omega)
   rw [this] at hun
   cases hun
  ·cases hg : (listed.setIfInBounds k true).getD j true with
   | true => rfl
   | false =>
    obtain ⟨h1, h2⟩ := unl_set hg
    have := hlt j (by omega)
    rw [this] at h1
    cases h1
theorem chkD_spec (h : chkD ops = true) : Region.lexB .any ops = true ∧ ∀ j k oj ok, ops[j]? = some oj → ops[k]? = some ok → k < j → (isEff ok.op || isNew ok.op) = true → isEff oj.op = true → waits ops ops.size j k = true := by
 simp only [chkD, Bool.and_eq_true, List.all_eq_true, List.mem_range] at h
 refine ⟨h.1, fun j k oj ok hj hk hkj h1 h2 => ?_⟩
 have := h.2 j (Array.getElem?_eq_some_iff.1 hj).1 k hkj
 rw [hj, hk] at this
 simpa [h1, h2] using this
theorem evDraw_any0 {e : Env} {s : Store} {K : Env → Store → Prop} (h2 : chkD ops = true) {H : Store} (h3 : E.sub H (s ++ List.replicate (newAll ops) (some .res))) (h4 : evDl P T ops H s.length ops.toList 0 e (s ++ List.replicate (newAll ops) (some .res)) K) :
  Inv ops H s.length (Array.replicate ops.size false) (s ++ List.replicate (newAll ops) (some .res)) ∧
  evAny P T ops H s.length K ops.size (Array.replicate ops.size false) e (s ++ List.replicate (newAll ops) (some .res)) := by
 obtain ⟨hB, hE⟩ := chkD_spec h2
 have hinv : Inv ops H s.length (Array.replicate ops.size false) (s ++ List.replicate (newAll ops) (some .res)) := by
  refine ⟨h3, fun j o hj hn _ => ?_, fun j o hj hl => ?_⟩
  ·have := newIdx_all hj hn
   rw [List.getElem?_append_right (by omega), List.getElem?_replicate]
   simp [this]
  ·rw [Array.getD_eq_getD_getElem?, Array.getElem?_replicate] at hl
   split at hl <;> simp at hl
 refine ⟨hinv, ?_⟩
 have hB2 := hB
 simp only [Region.lexB, Bool.and_eq_true] at hB2
 have := any_lex (P := P) (T := T) (K := K) hE ops.toList 0 _ e _ (by simp) (fun j hj => absurd hj (by omega)) hinv (by simpa using hB2.2) h4
 simpa using this
theorem evDraw_any {e : Env} {s : Store} {K : Env → Store → Prop} (h : evDraw P T ops e s K) : P.follows .mixedOrders = true ∧ ∃ k H, chkB ops k = true ∧ Inv (opsTo ops k) H s.length (Array.replicate (opsTo ops k).size false) (s ++ List.replicate (newAll (opsTo ops k)) (some .res)) ∧
  evAny P T (opsTo ops k) H s.length (fun e s => evOps P T ops (ops.toList.drop k) e s K) (opsTo ops k).size (Array.replicate (opsTo ops k).size false) e (s ++ List.replicate (newAll (opsTo ops k)) (some .res)) := by
 obtain ⟨h1, k, hB, h2, H, h3, h4⟩ := h
 obtain ⟨h5, h6⟩ := evDraw_any0 h2 h3 h4
 exact ⟨h1, k, H, hB, h5, h6⟩
end
section
variable {P : Program} {T : TypeId → Option TI} {σ σ' τ s H : Store} {F : Nat → Option AObj} {e e' : Env} {ops : Array Oper}
theorem evD1_frame {i : Nat} {o : Oper} {K : Env → Store → Prop} (hF : Fok s F) (hk : keepR s σ) (h : evD1 P T ops H s.length i o e σ K) : evD1 P T ops H s.length i o e (ov σ F) fun e' s' => ∃ s0, s' = ov s0 F ∧ keepR s s0 ∧ K e' s0 := by
 rcases kd3 (P := P) (T := T) (H := H) ops s.length i o e with ⟨p, hi⟩ | ⟨ob, mk, hin, hob, hi⟩ | ⟨hiE, hiw⟩ | hi
 ·rw [hi] at h ⊢
  exact ⟨σ, rfl, hk, h⟩
 ·rw [hi] at h ⊢
  have hn : F (s.length + newIdx ops i) = none := by
   cases hf : F (s.length + newIdx ops i) with
   | none => rfl
   | some ob =>
    have := (List.getElem?_eq_some_iff.1 (hF _ _ hf).1).1
    omega
  refine ⟨σ.set _ _, (ov_set hn _).symm, fun j hj => ?_, h⟩
  have := (List.getElem?_eq_some_iff.1 hj).1
  rw [List.getElem?_set_ne (by omega)]
  exact hk j hj
 ·rw [evD1_E hiw] at h ⊢
  exact stepD_mono (fun e' s' ⟨s0, h1, h2, h3⟩ => ⟨s0, h1, hk.trans h2, h3⟩) (stepD_frame hiE (hk.Fok hF) h)
 ·exact absurd h (hi _ _)
theorem evDl_frame {K : Env → Store → Prop} (hF : Fok s F) : ∀ (l : List Oper) (i : Nat) (e : Env) (σ : Store), keepR s σ → evDl P T ops H s.length l i e σ K → evDl P T ops H s.length l i e (ov σ F) fun e' s' => ∃ s0, s' = ov s0 F ∧ keepR s s0 ∧ K e' s0
 | [], i, e, σ, hk, h => ⟨σ, rfl, hk, h⟩
 | o :: l, i, e, σ, hk, h => evD1_mono (fun e' s' ⟨s0, h1, h2, h3⟩ => by
   rw [h1]
   exact evDl_frame hF l (i + 1) e' s0 h2 h3) (evD1_frame hF hk h)
theorem ov_app (hF : Fok s F) (n : Nat) : ov (s ++ List.replicate n (some .res)) F = ov s F ++ List.replicate n (some .res) := by
 induction n with
 | zero => simp
 | succ n ih =>
  rw [List.replicate_succ', ← List.append_assoc, ← List.append_assoc, ov_push, ih]
  intro i ob hi
  obtain ⟨h1, h2⟩ := hF i ob hi
  exact ⟨by rw [List.getElem?_append_left (List.getElem?_eq_some_iff.1 h1).1]; exact h1, h2⟩
theorem evDraw_frame {K : Env → Store → Prop} (hF : Fok s F) (h : evDraw P T ops e s K) : evDraw P T ops e (ov s F) (over s F K) := by
 obtain ⟨h1, k, hB, h2, H, h3, h4⟩ := h
 refine ⟨h1, k, hB, h2, H, ?_, ?_⟩
 ·rw [← ov_app hF]
  exact fun i o hl => ov_live (h3 i o hl)
 ·rw [← ov_app hF, ov_len]
  refine evDl_mono (fun e' s' hh => ?_) _ _ _ _ (evDl_frame hF _ _ _ _ (fun i hi => by rw [List.getElem?_append_left (List.getElem?_eq_some_iff.1 hi).1]; exact hi) h4)
  obtain ⟨s0, rfl, k2, k3⟩ := hh
  exact evOps_mono (fun e s hq => over_trans k2 hq) _ _ _ (evOps_frame _ _ _ (k2.Fok hF) k3)
def overX (σ : Store) (F : Nat → Option AObj) (K : X → Env → Store → Prop) (x : X) (e : Env) (s : Store) : Prop := ∃ s0, s = ov s0 F ∧ keepR σ s0 ∧ K x e s0
theorem ev_frame : ∀ (c : Code) {K : X → Env → Store → Prop} {σ : Store} (hF : Fok σ F) (e : Env), ev P T c e σ K → ev P T c e (ov σ F) (overX σ F K) := by
 intro c
 induction c with
 | skip => intro K σ hF e h; exact ⟨σ, rfl, keepR.refl _, h⟩
 | label l => intro K σ hF e h; exact ⟨σ, rfl, keepR.refl _, h⟩
 | exit id => intro K σ hF e h; exact ⟨σ, rfl, keepR.refl _, h⟩
 | ret => intro K σ hF e h; exact ⟨σ, rfl, keepR.refl _, h⟩
 | region id ops draw =>
  intro K σ hF e h
  cases draw with
  | false => exact evOps_frame _ _ _ hF h
  | true => exact evDraw_frame hF h
 | seq a b iha ihb =>
  intro K σ hF e h
  simp only [ev] at h ⊢
  refine ev_mono a (fun x e s hx => ?_) e _ (iha hF e h)
  obtain ⟨s0, rfl, h2, h3⟩ := hx
  cases x with
  | nrm => obtain ⟨e2, hw, h3⟩ := h3; exact ⟨e2, hw, ev_mono b (fun x e s ⟨s1, k1, k2, k3⟩ => ⟨s1, k1, h2.trans k2, k3⟩) e2 _ (ihb (h2.Fok hF) e2 h3)⟩
  | ext i => exact ⟨s0, rfl, h2, h3⟩
  | ret => exact ⟨s0, rfl, h2, h3⟩
 | cond c a b iha ihb =>
  intro K σ hF e h
  simp only [ev] at h ⊢
  split at h
  ·split at h
   ·rename_i ht
    rw [if_pos ht]
    exact iha hF e h
   ·rename_i ht
    rw [if_neg ht]
    exact ihb hF e h
  ·exact h
 | block id c ih =>
  intro K σ hF e h
  simp only [ev] at h ⊢
  refine ev_mono c (fun x e s hx => ?_) e _ (ih hF e h)
  obtain ⟨s0, rfl, h2, h3⟩ := hx
  cases x with
  | nrm => exact ⟨s0, rfl, h2, h3⟩
  | ext i =>
   simp only at h3 ⊢
   split
   ·rename_i hi
    rw [if_pos hi] at h3
    exact ⟨s0, rfl, h2, h3⟩
   ·rename_i hi
    rw [if_neg hi] at h3
    exact ⟨s0, rfl, h2, h3⟩
  | ret => exact ⟨s0, rfl, h2, h3⟩
 | loop c ih =>
  intro K σ hF e h
  intro I hI
  refine h (fun e s => keepR σ s → I e (ov s F)) (fun e s ⟨e2, hw, hr⟩ hk => hI e _ ⟨e2, hw, ?_⟩) (keepR.refl _)
  refine ev_mono c (fun x e s hx => ?_) e2 _ (ih (hk.Fok hF) e2 hr)
  obtain ⟨s0, rfl, h2, h3⟩ := hx
  cases x with
  | nrm => exact h3 (hk.trans h2)
  | ext i => exact ⟨s0, rfl, hk.trans h2, h3⟩
  | ret => exact ⟨s0, rfl, hk.trans h2, h3⟩
 | scope c ih => intro K σ hF e h; exact ih hF e h
 | _ => intro K σ hF e h; exact h.elim
theorem stepK_sat {o : Oper} {K : Env → Store → Prop} (h : stepK P T o e σ K) : ∃ e' s', keepR σ s' ∧ K e' s' := by
 unfold stepK at h
 have hk := stepK' (T := T) o.op e σ
 generalize hr : stepA T o.op e σ = r at h hk
 cases hk with
 | val p h1 => exact ⟨_, _, keepR.refl _, h⟩
 | new ob mk h1 => exact ⟨_, _, keepR.push _, h⟩
 | push p ob hne h1 => exact ⟨_, _, keepR.push _, h⟩
 | set p g o' ob hne hne' hg h1 => exact ⟨_, _, keepR.set _ hg (by intro hh; injection hh with hh; exact hne' hh), h⟩
 | call f args h1 => obtain ⟨⟨r, s, h2, h3⟩, _⟩ := h; exact ⟨_, _, h2, h3⟩
 | bad => exact h.elim
theorem evOps_sat {K : Env → Store → Prop} : ∀ (l : List Oper) (e : Env) (σ : Store), evOps P T ops l e σ K → ∃ e' s', keepR σ s' ∧ K e' s'
 | [], e, σ, h => ⟨e, σ, keepR.refl _, h⟩
 | o :: l, e, σ, h => by
  simp only [evOps] at h
  split at h
  ·obtain ⟨e1, s1, h1, h2⟩ := stepK_sat h
   obtain ⟨e2, s2, h3, h4⟩ := evOps_sat l e1 s1 h2
   exact ⟨e2, s2, h1.trans h3, h4⟩
  ·exact evOps_sat l _ σ h
  ·exact h.elim
theorem evD1_sat {i : Nat} {o : Oper} {K : Env → Store → Prop} (hk : keepR s σ) (h : evD1 P T ops H s.length i o e σ K) : ∃ e' s', keepR s s' ∧ K e' s' := by
 refine Classical.byContradiction fun hn => evD1_false (P := P) (T := T) (H := H) (ops := ops) (base := s.length) (i := i) (o := o) (e := e) (s := σ) ?_
 have := evD1_frame (F := fun _ => none) Fok.nil hk h
 rw [ov_nil] at this
 exact evD1_mono (fun e' s' ⟨s0, h1, h2, h3⟩ => hn ⟨e', s0, h2, h3⟩) this
theorem evDl_sat {K : Env → Store → Prop} : ∀ (l : List Oper) (i : Nat) (e : Env) (σ : Store), keepR s σ → evDl P T ops H s.length l i e σ K → ∃ e' s', keepR s s' ∧ K e' s'
 | [], i, e, σ, hk, h => ⟨e, σ, hk, h⟩
 | o :: l, i, e, σ, hk, h => by
  obtain ⟨e1, s1, h1, h2⟩ := evD1_sat hk h
  exact evDl_sat l _ e1 s1 h1 h2
theorem ev_sat : ∀ (c : Code) {K : X → Env → Store → Prop} (σ : Store) (e : Env), ev P T c e σ K → ∃ x e' s', keepR σ s' ∧ K x e' s' := by
 intro c
 induction c with
 | skip => intro K σ e h; exact ⟨_, _, _, keepR.refl _, h⟩
 | label l => intro K σ e h; exact ⟨_, _, _, keepR.refl _, h⟩
 | exit id => intro K σ e h; exact ⟨_, _, _, keepR.refl _, h⟩
 | ret => intro K σ e h; exact ⟨_, _, _, keepR.refl _, h⟩
 | region id ops draw =>
  intro K σ e h
  cases draw with
  | false =>
   obtain ⟨e', s', h1, h2⟩ := evOps_sat _ _ _ h
   exact ⟨_, e', s', h1, h2⟩
  | true =>
   obtain ⟨_, k, _, _, H, _, h4⟩ := h
   obtain ⟨e', s', h1, h2⟩ := evDl_sat (s := σ) _ _ _ _ (fun i hi => by rw [List.getElem?_append_left (List.getElem?_eq_some_iff.1 hi).1]; exact hi) h4
   obtain ⟨e2, s2, h3, h5⟩ := evOps_sat _ _ _ h2
   exact ⟨_, e2, s2, h1.trans h3, h5⟩
 | seq a b iha ihb =>
  intro K σ e h
  obtain ⟨x, e1, s1, h1, h2⟩ := iha σ e h
  cases x with
  | nrm =>
   obtain ⟨e3, _, h2⟩ := h2
   obtain ⟨y, e2, s2, h3, h4⟩ := ihb s1 e3 h2
   exact ⟨y, e2, s2, h1.trans h3, h4⟩
  | ext i => exact ⟨_, e1, s1, h1, h2⟩
  | ret => exact ⟨_, e1, s1, h1, h2⟩
 | cond c a b iha ihb =>
  intro K σ e h
  simp only [ev] at h
  split at h
  ·split at h
   ·exact iha σ e h
   ·exact ihb σ e h
  ·exact h.elim
 | block id c ih =>
  intro K σ e h
  obtain ⟨x, e1, s1, h1, h2⟩ := ih σ e h
  cases x with
  | nrm => exact ⟨_, e1, s1, h1, h2⟩
  | ext i =>
   simp only at h2
   split at h2
   ·exact ⟨_, e1, s1, h1, h2⟩
   ·exact ⟨_, e1, s1, h1, h2⟩
  | ret => exact ⟨_, e1, s1, h1, h2⟩
 | loop c ih =>
  intro K σ e h
  refine h (fun e s => ∃ x e' s', keepR s s' ∧ K x e' s') (fun e s ⟨e3, _, hr⟩ => ?_)
  obtain ⟨x, e1, s1, h1, h2⟩ := ih s e3 hr
  cases x with
  | nrm =>
   obtain ⟨y, e2, s2, h3, h4⟩ := h2
   exact ⟨y, e2, s2, h1.trans h3, h4⟩
  | ext i => exact ⟨_, e1, s1, h1, h2⟩
  | ret => exact ⟨_, e1, s1, h1, h2⟩
 | scope c ih => intro K σ e h; exact ih σ e h
 | _ => intro K σ e h; exact h.elim
def LF (P : Program) (T : TypeId → Option TI) (c : Code) (e : Env) (s : Store) (K : X → Env → Store → Prop) : Prop := ∃ e2, WkE e e2 ∧ ev P T c e2 s K
theorem Lp.round {c : Code} {K : X → Env → Store → Prop} (hw : WkE e e') (h : ev P T c e' σ fun x e' s' => match x with | .nrm => Lp (LF P T c) e' s' K | x => K x e' s') : Lp (LF P T c) e σ K := by
 intro I hI
 refine hI e σ ⟨e', hw, ev_mono c (fun x e s hx => ?_) e' σ h⟩
 cases x with
 | nrm => exact hx I hI
 | ext i => exact hx
 | ret => exact hx
end
theorem steps_tail {P : Program} {m X m' : Machine} (h : Steps P m m') (hs : step P m = .next X) : m' = m ∨ Steps P X m' := by
 obtain ⟨n, hn⟩ := h
 cases n with
 | zero => simp [runN] at hn; exact .inl hn.symm
 | succ n =>
  simp only [runN, hs] at hn
  exact .inr ⟨n, hn⟩
theorem exitTo_len {id : Nat} : ∀ {k k' : List Item}, exitTo id k = some k' → k'.length ≤ k.length
  | [], k', h => by simp [exitTo] at h
  | x :: k, k', h => by
    cases x <;> simp only [exitTo] at h <;> first
      | (have := exitTo_len h; simp; omega)
      | (split at h
         · injection h with h
           subst h
           simp
         · have := exitTo_len h
           simp
           omega)
theorem lone_todo {b : Frame} {a a' : Act} {k k' : List Item} {cs : List Frame} {w w' : World} (h : lone (b.at a k) cs w = lone (b.at a' k') cs w') : k = k' := by
 have h1 := congrArg Machine.gs h
 simp [lone, Frame.at] at h1
 exact h1.2.1
theorem wp_unroll {P : Program} {c : Code} {Q : Exit → Act → World → Prop} {a : Act} {w : World} (hg : ∀ l a w, ¬ Q (.goto l) a w) (hp : ∀ l a w, ¬ Q (.panic l) a w) (ho : ∀ a w, ¬ Q .outgrown a w)
  (h : c.wp P (Exit.then ((Code.loop c).wp P Q) Q) a w) : (Code.loop c).wp P Q a w := by
 intro b k cs
 obtain ⟨e, a1, w1, hq, harr⟩ := h b (.inLoop c :: k) cs
 cases e with
 | normal =>
  obtain ⟨e2, a2, w2, hq2, harr2⟩ := hq b k cs
  refine ⟨e2, a2, w2, hq2, .of_steps (Steps.trans (.one step_loop) (Steps.trans harr (.one step_inLoop))) ?_⟩
  cases e2 with
  | normal =>
   rcases steps_tail harr2 step_loop with he | he
   ·have := congrArg List.length (lone_todo he)
    simp at this
   ·exact he
  | exit id =>
   intro k' hk
   rcases steps_tail (harr2 k' hk) step_loop with he | he
   ·have h1 := congrArg List.length (lone_todo he)
    have h2 := exitTo_len hk
    simp at h1
    omega
   ·exact he
  | ret =>
   obtain ⟨todo, hs⟩ := harr2
   rcases steps_tail hs step_loop with he | he
   ·have h1 := congrArg Machine.gs he
    simp [lone, Frame.at] at h1
   ·exact ⟨todo, he⟩
  | goto l => exact absurd hq2 (hg _ _ _)
  | panic l => exact absurd hq2 (hp _ _ _)
  | outgrown => exact absurd hq2 (ho _ _)
 | exit id => exact ⟨_, a1, w1, hq, .of_steps (.one step_loop) (.pass (x := .inLoop c) rfl (fun _ _ => .inl (by simp)) harr)⟩
 | goto l => exact absurd hq (hg _ _ _)
 | ret => exact ⟨_, a1, w1, hq, .of_steps (.one step_loop) (.pass (x := .inLoop c) rfl (fun _ _ => .inl (by simp)) harr)⟩
 | panic ch => exact absurd hq (hp _ _ _)
 | outgrown => exact absurd hq (ho _ _)
section
variable {P : Program} {T : TypeId → Option TI} {σ σ' σ0 : Store} {μ μ' μ0 : Nat → Nat} {w w' w0 : World}
def exA : Exit → X → Prop
 | .normal, .nrm => True
 | .exit i, .ext j => i = j
 | .ret, .ret => True
 | _, _ => False
def RQ (n : Nat) (σ0 : Store) (μ0 : Nat → Nat) (w0 : World) (K : X → Env → Store → Prop) (x : Exit) (a : Act) (w : World) : Prop :=
 ∃ y env σ μ, exA x y ∧ Sim n σ μ env a w ∧ Ext σ0 μ0 w0 σ μ w ∧ K y env σ
theorem RQ.mono {n : Nat} {K K' : X → Env → Store → Prop} (hK : ∀ x e s, K x e s → K' x e s) {x : Exit} {a : Act} {w : World} (h : RQ n σ0 μ0 w0 K x a w) : RQ n σ0 μ0 w0 K' x a w := by
 obtain ⟨y, env, σ, μ, h1, h2, h3, h4⟩ := h
 exact ⟨y, env, σ, μ, h1, h2, h3, hK _ _ _ h4⟩
theorem Sim.put {n : Nat} {env : Env} {a : Act} (h : Sim n σ μ env a w) (he : Ext σ μ w σ' μ' w') (hs : SR σ' μ' w') {d : Option Tmp} (hd : ∀ t, d = some t → t < n) {x : Value} {p : PV} (hp : R σ' μ' w' x p) : Sim n σ' μ' (upd env d p) (a.put d x) w' := by
 refine ⟨hs, fun t => ?_, ?_, ?_⟩
 ·cases d with
  | none => exact (h.env t).ext h.sr he
  | some d =>
   have hlt := hd d rfl
   show R σ' μ' w' ((a.tmps.setIfInBounds d x).getD t undef) (if t = d then p else env t)
   by_cases htd : t = d
   ·subst htd
    rw [if_pos rfl, Array.getD_eq_getD_getElem?, Array.getElem?_setIfInBounds_self_of_lt (by rw [h.size]; exact hlt)]
    exact hp
   ·rw [if_neg htd, Array.getD_eq_getD_getElem?, Array.getElem?_setIfInBounds_ne (fun e => htd e.symm), ← Array.getD_eq_getD_getElem?]
    exact (h.env t).ext h.sr he
 ·cases d <;> simp [Act.put, h.size]
 ·cases d <;> exact h.defs
def dstOK (n : Nat) (ops : List Oper) : Bool := ops.all fun o => match o.dst with | some t => decide (t < n) | none => true
def codeOK (n : Nat) : Code → Bool
 | .region _ ops _ => dstOK n ops.toList
 | .seq a b => codeOK n a && codeOK n b
 | .cond _ a b => codeOK n a && codeOK n b
 | .block _ c => codeOK n c
 | .loop c => codeOK n c
 | .scope c => codeOK n c
 | _ => true
theorem wanted_ok {n : Nat} {env : Env} {a : Act} (h : Sim n σ μ env a w) {ops : Array Oper} {o : Oper} {b : Bool} (hw : wantedA ops o env = some b) (hops : dstOK n ops.toList = true) : Region.wanted o (yielded ops a.tmps) = b := by
 unfold wantedA at hw
 unfold Region.wanted
 split at hw
 ·rename_i hg
  injection hw with hw
  rw [hg]
  exact hw
 ·rename_i j want hg
  rw [hg]
  simp only
  split at hw
  ·rename_i t ht
   have hlt : t < n := by
    obtain ⟨o', ho', hd⟩ := Option.bind_eq_some_iff.1 ht
    have := List.all_eq_true.1 hops o' (by simpa using Array.mem_of_getElem? ho')
    rw [hd] at this
    simpa using this
   have hy : yielded ops a.tmps j = match a.tmps[t]? with | some (.bool b) => some b | _ => none := by
    unfold yielded
    rw [ht]
    rfl
   have hx : a.tmps[t]? = some (a.tmps.getD t undef) := by
    rw [Array.getElem?_eq_getElem (by rw [h.size]; exact hlt), Array.getD_eq_getD_getElem?, Array.getElem?_eq_getElem (by rw [h.size]; exact hlt)]
    rfl
   have hR := h.env t
   split at hw
   ·rename_i b' hb
    injection hw with hw
    rw [hb] at hR
    rw [hy, hx, R_v hR]
    simp only
    rw [← hw]
    cases b' <;> cases want <;> rfl
   ·rename_i hb
    injection hw with hw
    rw [hb] at hR
    generalize hq : a.tmps.getD t undef = v at hR
    cases hR with
    | tu vs ps h1 h2 =>
     rw [hy, hx, hq, ← hw]
     rfl
   ·cases hw
  ·cases hw
theorem good_wp {n : Nat} {o : Oper} {env : Env} {a : Act} {p : PV} (hs0 : SR σ0 μ0 w0) (hd0 : ∀ t, o.dst = some t → t < n) (h : Sim n σ μ env a w) (he : Ext σ0 μ0 w0 σ μ w) (hg : Good P σ μ w (execOp a.eval o) p σ')
  {K' : Act → World → Prop} {Q' : Exit → Act → World → Prop} (hK : ∀ a' w' μ', Sim n σ' μ' (upd env o.dst p) a' w' → Ext σ0 μ0 w0 σ' μ' w' → K' a' w') : o.wp P a w K' Q' := by
 obtain ⟨nx, x, w', μ', h1, h2, h3, h4, h5⟩ := hg
 have hrest := hK _ w' μ' (h.put h3 h4 hd0 h5) (he.trans hs0 h3)
 unfold Oper.wp
 rw [h1]
 rcases h2 with rfl | ⟨rfl, rfl⟩
 ·exact hrest
 ·exact hrest
theorem call_wp {n : Nat} {o : Oper} {env : Env} {a : Act} {f : FuncId} {args : List PV} {K : PV → Store → Prop} (hs0 : SR σ0 μ0 w0) (hd0 : ∀ t, o.dst = some t → t < n) (h : Sim n σ μ env a w) (he : Ext σ0 μ0 w0 σ μ w) (hg : StepOK P σ μ w (execOp a.eval o) (.call f args)) (hev : ECs P f args σ K)
  {K' : Act → World → Prop} {Q' : Exit → Act → World → Prop} (hK : ∀ a' w' σ' μ' p, Sim n σ' μ' (upd env o.dst p) a' w' → Ext σ0 μ0 w0 σ' μ' w' → K p σ' → K' a' w') : o.wp P a w K' Q' := by
 obtain ⟨vs, h1, h2⟩ := hg
 have hfin : ∀ x w', (∃ r σ' μ', Ext σ μ w σ' μ' w' ∧ SR σ' μ' w' ∧ R σ' μ' w' x r ∧ K r σ') → K' (a.put o.dst x) w' := by
  rintro x w' ⟨r, σ', μ', k1, k2, k3, k4⟩
  exact hK _ w' σ' μ' r (h.put k1 k2 hd0 k3) (he.trans hs0 k1) k4
 unfold Oper.wp
 rcases hev μ w vs h.sr h2 with ⟨c1, c2⟩ | ⟨x, w', c1, c2⟩
 ·rw [h1, c1, Oper.upon_enter]
  refine c2.mono fun e w' ⟨x, hx, hp⟩ => ?_
  subst hx
  exact hfin x w' hp
 ·rw [h1, c1, Oper.upon_value]
  exact hfin x w' c2
theorem skip_sim {n : Nat} {env : Env} {a : Act} (h : Sim n σ μ env a w) {d : Option Tmp} (hd : ∀ t, d = some t → t < n) : Sim n σ μ (upd env d (.tu [])) (a.put d undef) w :=
 h.put (Ext.refl _ _ _) h.sr hd (.tu #[] [] rfl fun i x p hx => by simp at hx)
theorem dst_lt {n : Nat} {l : List Oper} (hd : dstOK n l = true) {o : Oper} (ho : o ∈ l) : ∀ t, o.dst = some t → t < n := fun t ht => by
 have := List.all_eq_true.1 hd o ho
 rw [ht] at this
 simpa using this
theorem ops_ok {n : Nat} (hT : ∀ t ti, T t = some ti → TOK P t ti) {ops : Array Oper} (hops : dstOK n ops.toList = true) {K : Env → Store → Prop} {KX : X → Env → Store → Prop} (hs0 : SR σ0 μ0 w0) (hKX : ∀ e s, K e s → KX .nrm e s) : ∀ (l : List Oper) (σ : Store) (μ : Nat → Nat) (env : Env) (a : Act) (w : World), dstOK n l = true → Sim n σ μ env a w → Ext σ0 μ0 w0 σ μ w → evOps P T ops l env σ K →
  wpList P ops (RQ n σ0 μ0 w0 KX) l a w
 | [], σ, μ, env, a, w, _, h, he, hev => ⟨.nrm, env, σ, μ, trivial, h, he, hKX _ _ hev⟩
 | o :: l, σ, μ, env, a, w, hd, h, he, hev => by
  have hd0 : ∀ t, o.dst = some t → t < n := dst_lt hd List.mem_cons_self
  have hd1 : dstOK n l = true := by
   simp only [dstOK, List.all_cons, Bool.and_eq_true] at hd
   exact hd.2
  simp only [evOps] at hev
  unfold wpList
  split at hev
  ·rename_i hw
   rw [wanted_ok h hw hops]
   simp only [if_true]
   refine .inl ?_
   have hst := step_ok hT h o
   unfold stepK at hev
   split at hev
   ·rename_i p hq
    rw [hq] at hst
    exact good_wp hs0 hd0 h he hst fun a' w' μ' h1 h2 => ops_ok hT hops hs0 hKX l σ μ' _ _ w' hd1 h1 h2 hev
   ·rename_i ob mk hq
    rw [hq] at hst
    exact good_wp hs0 hd0 h he (hst.2 _ _ (NewAt.push σ hst.1)) fun a' w' μ' h1 h2 => ops_ok hT hops hs0 hKX l _ μ' _ _ w' hd1 h1 h2 hev
   ·rename_i p s' hq
    rw [hq] at hst
    exact good_wp hs0 hd0 h he hst fun a' w' μ' h1 h2 => ops_ok hT hops hs0 hKX l _ μ' _ _ w' hd1 h1 h2 hev
   ·rename_i f args hq
    rw [hq] at hst
    exact call_wp hs0 hd0 h he hst hev.here fun a' w' σ' μ' p h1 h2 h3 => ops_ok hT hops hs0 hKX l σ' μ' _ _ w' hd1 h1 h2 h3
   ·exact hev.elim
  ·rename_i hw
   rw [wanted_ok h hw hops]
   simp only [Bool.false_eq_true, if_false]
   exact ops_ok hT hops hs0 hKX l σ μ _ _ w hd1 (skip_sim h hd0) he hev
  ·exact hev.elim
theorem live_reps {k : Nat} {i : Nat} {o : AObj} (h : live (σ ++ List.replicate k (some .res)) i o) : live σ i o := by
 obtain ⟨h1, h2⟩ := h
 by_cases hi : i < σ.length
 ·rw [List.getElem?_append_left hi] at h1
  exact ⟨h1, h2⟩
 ·rw [List.getElem?_append_right (by omega), List.getElem?_replicate] at h1
  split at h1
  ·injection h1 with h1
   injection h1 with h1
   exact absurd h1.symm h2
  ·cases h1
theorem ext_reps (hs : SR σ μ w) (k : Nat) : Ext σ μ w (σ ++ List.replicate k (some .res)) μ w where
 os := rfl
 tape := rfl
 output := rfl
 size := Nat.le_refl _
 len := by simp
 known := fun i h => ⟨by simp; have := h.1; omega, by rw [List.getElem?_append_left h.1]; exact h.2⟩
 keep := fun _ _ _ => rfl
 tok := fun id e sz len cur _ h => ⟨cur, h, fun _ _ => rfl⟩
 evo := fun id o' _ h => ⟨o', live_reps h, evoO.same h.2 rfl rfl⟩
 fresh := fun id o' h => .inl ⟨(live_reps h).known, rfl⟩
theorem sr_reps (hs : SR σ μ w) (k : Nat) : SR (σ ++ List.replicate k (some .res)) μ w :=
 ⟨fun i j o o' hi hj => hs.inj i j o o' (live_reps hi) (live_reps hj), fun i o hl => (hs.obj i o (live_reps hl)).ext hs (ext_reps hs k) rfl⟩
theorem Sim.ext {n : Nat} {env : Env} {a : Act} (h : Sim n σ μ env a w) (he : Ext σ μ w σ' μ' w') (hs : SR σ' μ' w') : Sim n σ' μ' env a w' :=
 ⟨hs, fun t => (h.env t).ext h.sr he, h.size, h.defs⟩
theorem Sim.wk {n : Nat} {env env' : Env} {a : Act} (h : Sim n σ μ env a w) (hw : WkE env env') : Sim n σ μ env' a w :=
 ⟨h.sr, fun t => (h.env t).wk (hw t), h.size, h.defs⟩
theorem NewAt.slot {i : Nat} {ob : AObj} (h : σ[i]? = some (some .res)) (hne : ob ≠ .res) : NewAt σ (σ.set i (some ob)) i ob where
 len := by simp
 old := fun j o hl => by
  rcases live_set hl with h1 | ⟨h1, h2, _⟩
  ·exact .inl h1
  ·exact .inr ⟨h1, h2⟩
 knw := fun j hk => known_set hne hk
 new := fun hk => hk.2 h
 live := live_set_same (List.getElem?_eq_some_iff.1 h).1 hne
theorem chkB_edges {ops : Array Oper} {k j : Nat} {o : Oper} (h : chkB ops k = true) (ho : ops[j]? = some o) : ∀ e ∈ o.after, Region.binds .any e = true → e.on < j := fun e he hb => by
 have hj := (Array.getElem?_eq_some_iff.1 ho).1
 have h1 := List.all_eq_true.1 h j (List.mem_range.2 hj)
 simp only [Bool.and_eq_true] at h1
 have h2 := h1.1
 rw [ho] at h2
 have h3 := List.all_eq_true.1 h2 e (by simpa using he)
 simpa [hb] using h3
theorem chkB_waits {ops : Array Oper} {k j i : Nat} (h : chkB ops k = true) (hj : j < ops.size) (hk : k ≤ j) (hi : i < j) : waits ops ops.size j i = true := by
 have h1 := List.all_eq_true.1 h j (List.mem_range.2 hj)
 simp only [Bool.and_eq_true, Bool.or_eq_true, decide_eq_true_eq] at h1
 rcases h1.2 with h2 | h2
 ·omega
 ·exact List.all_eq_true.1 h2 i (List.mem_range.2 hi)
theorem first_unl (listed : Array Bool) : ∀ m : Nat, (∀ j, j < m → listed.getD j false = true) ∨ ∃ j0, j0 < m ∧ listed.getD j0 false = false ∧ ∀ i, i < j0 → listed.getD i false = true
 | 0 => .inl fun j hj => absurd hj (by omega)
 | m + 1 => by
  rcases first_unl listed m with h | ⟨j0, h1, h2, h3⟩
  ·cases hm : listed.getD m false with
   | true =>
    refine .inl fun j hj => ?_
    rcases Nat.lt_or_ge j m with h' | h'
    ·exact h j h'
    ·rw [show j = m by omega]; exact hm
   | false => exact .inr ⟨m, by omega, hm, h⟩
  ·exact .inr ⟨j0, by omega, h2, h3⟩
theorem getD_in {listed : Array Bool} {j : Nat} (h : j < listed.size) (a b : Bool) : listed.getD j a = listed.getD j b := by
 rw [Array.getD_eq_getD_getElem?, Array.getD_eq_getD_getElem?, Array.getElem?_eq_getElem h]; rfl
theorem set_getD {listed : Array Bool} {i j : Nat} {d : Bool} (h : j < listed.size) : (listed.setIfInBounds i true).getD j d = if i = j then true else listed.getD j d := by
 rw [Array.getD_eq_getD_getElem?, Array.getD_eq_getD_getElem?]
 by_cases hij : i = j
 ·subst hij
  rw [if_pos rfl, Array.getElem?_setIfInBounds_self_of_lt h]
  rfl
 ·rw [if_neg hij, Array.getElem?_setIfInBounds_ne hij]
theorem any_seq {n : Nat} (hT : ∀ t ti, T t = some ti → TOK P t ti) {ops : Array Oper} {k : Nat} (hB : chkB ops k = true) (hops : dstOK n ops.toList = true) {K : Env → Store → Prop} {KX : X → Env → Store → Prop} (hs0 : SR σ0 μ0 w0) (hKX : ∀ e s, K e s → KX .nrm e s) : ∀ (fuel m : Nat) (listed : Array Bool) (σ : Store) (μ : Nat → Nat) (env : Env) (a : Act) (w : World), k ≤ m → m ≤ ops.size → ops.size ≤ m + fuel → listed.size = ops.size →
  (∀ j, j < m → listed.getD j false = true) → (∀ j, m ≤ j → j < ops.size → listed.getD j false = false) → Sim n σ μ env a w → Ext σ0 μ0 w0 σ μ w → evOps P T ops (ops.toList.drop m) env σ K → wpAny P .any ops (RQ n σ0 μ0 w0 KX) fuel listed a w := by
 intro fuel
 induction fuel with
 | zero =>
  intro m listed σ μ env a w _ hm hf hsz hl _ h he hev
  have hend : ops.toList.drop m = [] := List.drop_of_length_le (by simp; omega)
  rw [hend] at hev
  refine ⟨?_, .nrm, env, σ, μ, trivial, h, he, hKX _ _ hev⟩
  refine List.eq_nil_iff_forall_not_mem.2 fun i hi => ?_
  obtain ⟨h1, o, ho, _⟩ := mem_ready.1 hi
  have hlt := (Array.getElem?_eq_some_iff.1 ho).1
  rw [getD_in (by omega) true false, hl i (by omega)] at h1
  cases h1
 | succ fuel ih =>
  intro m listed σ μ env a w hk hm hf hsz hl hu h he hev
  rcases Nat.lt_or_ge m ops.size with hlt | hge
  ·have hom : ops[m]? = some ops[m] := Array.getElem?_eq_getElem hlt
   have hrm : m ∈ Region.ready .any ops listed := mem_ready.2 ⟨by rw [getD_in (by omega) true false]; exact hu m (Nat.le_refl _) hlt, _, hom, fun e he' hb => hl _ (chkB_edges hB hom e he' hb)⟩
   refine ⟨fun h0 => (by rw [h0] at hrm; cases hrm), fun i hi => ?_⟩
   obtain ⟨hun, o, ho, hall⟩ := mem_ready.1 hi
   have hilt := (Array.getElem?_eq_some_iff.1 ho).1
   have him : i = m := by
    rcases Nat.lt_trichotomy i m with h1 | h1 | h1
    ·rw [getD_in (by omega) true false, hl i h1] at hun
     cases hun
    ·exact h1
    ·have hw := chkB_waits hB hilt (by omega) h1
     have hcl : ∀ j o, ops[j]? = some o → listed.getD j false = true → ∀ e ∈ o.after, Region.binds .any e = true → listed.getD e.on false = true := fun j o hj hlj e he' hb => by
      have hjm : j < m := Nat.lt_of_not_le fun hle => by
       rw [hu j hle (Array.getElem?_eq_some_iff.1 hj).1] at hlj
       cases hlj
      exact hl _ (Nat.lt_trans (chkB_edges hB hj e he' hb) hjm)
     have := waits_listed hcl _ i m o ho hall hw
     rw [hu m (Nat.le_refl _) hlt] at this
     cases this
   subst him
   have hd : ops.toList.drop i = o :: ops.toList.drop (i + 1) := by
    rw [List.drop_eq_getElem_cons (by simpa using hlt)]
    congr 1
    have := ho
    rw [hom] at this
    injection this
   rw [hd] at hev
   have hd0 : ∀ t, o.dst = some t → t < n := dst_lt hops (by simpa using Array.mem_of_getElem? ho)
   have go := fun σ μ env a w => ih (i + 1) (listed.setIfInBounds i true) σ μ env a w (by omega) (by omega) (by omega) (by simpa using hsz) (fun j hj => by
    rw [set_getD (by omega)]
    split
    ·rfl
    ·exact hl j (by omega)) (fun j hj hjs => by
    rw [set_getD (by omega), if_neg (by omega)]
    exact hu j (by omega) hjs)
   unfold wpOp
   rw [ho]
   simp only
   simp only [evOps] at hev
   split at hev
   ·rename_i hw
    rw [wanted_ok h hw hops]
    simp only [if_true]
    refine .inl ?_
    have hst := step_ok hT h o
    unfold stepK at hev
    split at hev
    ·rename_i p hq
     rw [hq] at hst
     exact good_wp hs0 hd0 h he hst fun a' w' μ' h1 h2 => go _ _ _ _ _ h1 h2 hev
    ·rename_i ob mk hq
     rw [hq] at hst
     exact good_wp hs0 hd0 h he (hst.2 _ _ (NewAt.push σ hst.1)) fun a' w' μ' h1 h2 => go _ _ _ _ _ h1 h2 hev
    ·rename_i p s' hq
     rw [hq] at hst
     exact good_wp hs0 hd0 h he hst fun a' w' μ' h1 h2 => go _ _ _ _ _ h1 h2 hev
    ·rename_i f args hq
     rw [hq] at hst
     exact call_wp hs0 hd0 h he hst hev.here fun a' w' σ' μ' p h1 h2 h3 => go _ _ _ _ _ h1 h2 h3
    ·exact hev.elim
   ·rename_i hw
    rw [wanted_ok h hw hops]
    simp only [Bool.false_eq_true, if_false]
    exact go _ _ _ _ _ (skip_sim h hd0) he hev
   ·exact hev.elim
  ·have hend : ops.toList.drop m = [] := List.drop_of_length_le (by simpa using hge)
   rw [hend] at hev
   refine ⟨fun _ => ⟨.nrm, env, σ, μ, trivial, h, he, hKX _ _ hev⟩, fun i hi => ?_⟩
   obtain ⟨h1, o, ho, _⟩ := mem_ready.1 hi
   have hlt := (Array.getElem?_eq_some_iff.1 ho).1
   rw [getD_in (by omega) true false, hl i (by omega)] at h1
   cases h1
theorem opsTo_get {ops : Array Oper} {k j : Nat} : (opsTo ops k)[j]? = if j < k then ops[j]? else none := by
 unfold opsTo
 rw [List.getElem?_toArray, List.getElem?_take]
 split
 ·simp
 ·rfl
theorem wanted_to {ops : Array Oper} {k : Nat} {o : Oper} {e : Env} {b : Bool} (h : wantedA (opsTo ops k) o e = some b) : wantedA ops o e = some b := by
 unfold wantedA at *
 split at h
 ·exact h
 ·rename_i j want hg
  by_cases hjk : j < k
  ·rw [opsTo_get, if_pos hjk] at h
   exact h
  ·rw [opsTo_get, if_neg hjk] at h
   simp at h
theorem any_ok {n : Nat} (hT : ∀ t ti, T t = some ti → TOK P t ti) {ops : Array Oper} {k : Nat} (hB : chkB ops k = true) {H : Store} {base : Nat} (hops : dstOK n ops.toList = true) {K : Env → Store → Prop} {KX : X → Env → Store → Prop} (hs0 : SR σ0 μ0 w0) (hKX : ∀ e s, K e s → KX .nrm e s) (hk : k ≤ ops.size) : ∀ (fuel : Nat) (la listed : Array Bool) (σ : Store) (μ : Nat → Nat) (env : Env) (a : Act) (w : World), listed.size = ops.size → la.size = k → (∀ j, j < k → la.getD j false = listed.getD j false) → (∀ j, k ≤ j → j < ops.size → listed.getD j false = false) → Inv (opsTo ops k) H base la σ → Sim n σ μ env a w → Ext σ0 μ0 w0 σ μ w →
  evAny P T (opsTo ops k) H base (fun e s => evOps P T ops (ops.toList.drop k) e s K) fuel la env σ → wpAny P .any ops (RQ n σ0 μ0 w0 KX) (fuel + (ops.size - k)) listed a w := by
 intro fuel
 induction fuel with
 | zero =>
  intro la listed σ μ env a w hsz hsa hla hu hinv h he hev
  rcases first_unl listed k with hall | ⟨j0, h1, h2, h3⟩
  ·exact any_seq hT hB hops hs0 hKX _ k listed σ μ env a w (Nat.le_refl _) hk (by omega) hsz hall hu h he hev.2
  ·have hj0 : j0 < ops.size := by omega
   have : j0 ∈ Region.ready .any (opsTo ops k) la := mem_ready.2 ⟨by rw [getD_in (by omega) true false, hla j0 h1]; exact h2, ops[j0], by rw [opsTo_get, if_pos h1, Array.getElem?_eq_getElem hj0], fun e he' hb => by
    have := chkB_edges hB (Array.getElem?_eq_getElem hj0) e he' hb
    rw [hla _ (by omega)]
    exact h3 _ this⟩
   rw [hev.1] at this
   cases this
 | succ fuel ih =>
  intro la listed σ μ env a w hsz hsa hla hu hinv h he hev
  rcases first_unl listed k with hall | ⟨j0, h1, h2, h3⟩
  ·refine any_seq hT hB hops hs0 hKX _ k listed σ μ env a w (Nat.le_refl _) hk (by omega) hsz hall hu h he (hev.1 ?_)
   refine List.eq_nil_iff_forall_not_mem.2 fun i hi => ?_
   obtain ⟨k1, o, ho, _⟩ := mem_ready.1 hi
   rw [opsTo_get] at ho
   split at ho
   ·rename_i hik
    rw [getD_in (by omega) true false, hla i hik, hall i hik] at k1
    cases k1
   ·cases ho
  ·have hj0 : j0 < ops.size := by omega
   have hr0 : j0 ∈ Region.ready .any ops listed := mem_ready.2 ⟨by rw [getD_in (by omega) true false]; exact h2, ops[j0], Array.getElem?_eq_getElem hj0, fun e he' hb => h3 _ (chkB_edges hB (Array.getElem?_eq_getElem hj0) e he' hb)⟩
   rw [show fuel + 1 + (ops.size - k) = (fuel + (ops.size - k)) + 1 by omega]
   refine ⟨fun h0 => (by rw [h0] at hr0; cases hr0), fun i hi => ?_⟩
   obtain ⟨hun, o, ho, hedge⟩ := mem_ready.1 hi
   have hilt := (Array.getElem?_eq_some_iff.1 ho).1
   have hcl : ∀ j o, ops[j]? = some o → listed.getD j false = true → ∀ e ∈ o.after, Region.binds .any e = true → listed.getD e.on false = true := fun j o hj hlj e he' hb => by
    have hjk : j < k := Nat.lt_of_not_le fun hle => by
     rw [hu j hle (Array.getElem?_eq_some_iff.1 hj).1] at hlj
     cases hlj
    have hlt := chkB_edges hB hj e he' hb
    rw [← hla j hjk] at hlj
    have := hinv.closed j o (by rw [opsTo_get, if_pos hjk]; exact hj) hlj e he' hb
    rw [hla _ (by omega)] at this
    exact this
   have hik : i < k := Nat.lt_of_not_le fun hle => by
    have := waits_listed hcl _ i j0 o ho hedge (chkB_waits hB hilt hle (by omega))
    rw [h2] at this
    cases this
   have hoA : (opsTo ops k)[i]? = some o := by rw [opsTo_get, if_pos hik]; exact ho
   have hiA : i ∈ Region.ready .any (opsTo ops k) la := mem_ready.2 ⟨by rw [getD_in (by omega) true false, hla i hik, getD_in (by omega) false true]; exact hun, o, hoA, fun e he' hb => by
    have := chkB_edges hB ho e he' hb
    rw [hla _ (by omega)]
    exact hedge e he' hb⟩
   have h1 := hev.2 i hiA
   have hd0 : ∀ t, o.dst = some t → t < n := dst_lt hops (by simpa using Array.mem_of_getElem? ho)
   unfold evOp at h1
   unfold wpOp
   rw [hoA] at h1
   rw [ho]
   simp only at h1 ⊢
   have h2 := evD1_inv hinv hiA hoA h1
   have go := fun σ μ env a w => ih (la.setIfInBounds i true) (listed.setIfInBounds i true) σ μ env a w (by simpa using hsz) (by simpa using hsa) (fun j hj => by
    rw [set_getD (by omega), set_getD (by omega), hla j hj]) (fun j hj hjs => by
    rw [set_getD (by omega), if_neg (by omega)]
    exact hu j hj hjs)
   unfold evD1 at h2
   split at h2
   ·rename_i hw
    rw [wanted_ok h (wanted_to hw) hops]
    simp only [if_true]
    refine .inl ?_
    have hst := step_ok hT h o
    unfold stepD at h2
    split at h2
    ·split at h2
     ·rename_i p hq
      rw [hq] at hst
      exact good_wp hs0 hd0 h he hst fun a' w' μ' k1 k2 => go _ _ _ _ _ h2.1 k1 k2 h2.2
     ·rename_i p s' hq
      rw [hq] at hst
      exact good_wp hs0 hd0 h he hst fun a' w' μ' k1 k2 => go _ _ _ _ _ h2.2.1 k1 k2 h2.2.2
     ·rename_i f args hq
      rw [hq] at hst
      exact call_wp hs0 hd0 h he hst h2.here fun a' w' σ' μ' p k1 k2 k3 => go _ _ _ _ _ k3.2.1 k1 k2 k3.2.2
     ·exact h2.elim
    ·have hk' := stepK' (T := T) o.op env H
     split at h2
     ·rename_i p hq
      rw [hq] at hk'
      cases hk' with
      | val _ hv =>
       rw [hv σ hinv.sub] at hst
       exact good_wp hs0 hd0 h he hst fun a' w' μ' k1 k2 => go _ _ _ _ _ h2.1 k1 k2 h2.2
     ·rename_i ob mk hq
      have hn := new_isNew hq
      rw [hq] at hk'
      cases hk' with
      | new _ _ hv =>
       rw [hv σ] at hst
       exact good_wp hs0 hd0 h he (hst.2 _ _ (NewAt.slot (hinv.res i o hoA hn.1 (by rw [getD_in (by omega) true false, hla i hik, getD_in (by omega) false true]; exact hun)) hst.1)) fun a' w' μ' k1 k2 => go _ _ _ _ _ h2.1 k1 k2 h2.2
     ·exact h2.elim
   ·rename_i hw
    rw [wanted_ok h (wanted_to hw) hops]
    simp only [Bool.false_eq_true, if_false]
    exact go _ _ _ _ _ h2.1 (skip_sim h hd0) he h2.2
   ·exact h2.elim
theorem evDraw_le {ops : Array Oper} {k : Nat} : (opsTo ops k).size = min k ops.size := by simp [opsTo]
theorem chkB_min {ops : Array Oper} {k : Nat} (h : chkB ops k = true) : chkB ops (min k ops.size) = true := by
 unfold chkB at *
 refine List.all_eq_true.2 fun j hj => ?_
 have h1 := List.all_eq_true.1 h j hj
 have h2 := List.mem_range.1 hj
 simp only [Bool.and_eq_true, Bool.or_eq_true, decide_eq_true_eq] at h1 ⊢
 exact ⟨h1.1, h1.2.imp (fun h => by omega) id⟩
theorem opsTo_min {ops : Array Oper} {k : Nat} : opsTo ops (min k ops.size) = opsTo ops k := by
 unfold opsTo
 congr 1
 rcases Nat.le_total k ops.size with h | h
 ·rw [Nat.min_eq_left h]
 ·rw [Nat.min_eq_right h, List.take_of_length_le (by simp), List.take_of_length_le (by simpa using h)]
theorem drop_min {ops : Array Oper} {k : Nat} : ops.toList.drop (min k ops.size) = ops.toList.drop k := by
 rcases Nat.le_total k ops.size with h | h
 ·rw [Nat.min_eq_left h]
 ·rw [Nat.min_eq_right h, List.drop_of_length_le (by simp), List.drop_of_length_le (by simpa using h)]
theorem draw_ok {n : Nat} (hT : ∀ t ti, T t = some ti → TOK P t ti) {id : Nat} {ops : Array Oper} (hops : dstOK n ops.toList = true) {K : X → Env → Store → Prop} (hs0 : SR σ0 μ0 w0) {env : Env} {a : Act} (h : Sim n σ μ env a w) (he : Ext σ0 μ0 w0 σ μ w) (hev : evDraw P T ops env σ (K .nrm)) :
  (Code.region id ops true).wp P (RQ n σ0 μ0 w0 K) a w := by
 obtain ⟨h1, k, H, hB, h2, h3⟩ := evDraw_any hev
 rw [← opsTo_min, ← drop_min] at h3
 rw [← opsTo_min] at h2
 have hg : w.grownBy { w with drawn := w.drawn + 1 } none := ⟨rfl, rfl, rfl, Nat.le_refl _, fun _ _ _ => rfl⟩
 have e1 := ext_same h.sr hg
 have s1 := sr_same h.sr hg
 have e2 := ext_reps s1 (newAll (opsTo ops (min k ops.size)))
 have hsz : (opsTo ops (min k ops.size)).size = min k ops.size := by rw [evDraw_le]; omega
 rw [hsz] at h2 h3
 have := any_ok hT (chkB_min hB) hops hs0 (fun _ _ hk => hk) (Nat.min_le_right _ _) _ _ (Array.replicate ops.size false) _ μ env a _ (by simp) (by simp) (fun j hj => by rw [Array.getD_eq_getD_getElem?, Array.getD_eq_getD_getElem?, Array.getElem?_replicate, Array.getElem?_replicate, if_pos hj, if_pos (by omega)]) (fun j _ hj => by rw [Array.getD_eq_getD_getElem?, Array.getElem?_replicate, if_pos hj]; rfl) h2 ((h.ext e1 s1).ext e2 (sr_reps s1 _)) ((he.trans hs0 e1).trans hs0 e2) h3
 rw [show min k ops.size + (ops.size - min k ops.size) = ops.size by omega] at this
 exact wp_region_any h1 this
theorem ev_ok {n : Nat} (hT : ∀ t ti, T t = some ti → TOK P t ti) (hs0 : SR σ0 μ0 w0) : ∀ (c : Code) (K : X → Env → Store → Prop) (σ : Store) (μ : Nat → Nat) (env : Env) (a : Act) (w : World), codeOK n c = true → Sim n σ μ env a w → Ext σ0 μ0 w0 σ μ w → ev P T c env σ K → c.wp P (RQ n σ0 μ0 w0 K) a w := by
 intro c
 induction c with
 | skip => intro K σ μ env a w _ h he hev; exact wp_skip ⟨.nrm, env, σ, μ, trivial, h, he, hev⟩
 | label l => intro K σ μ env a w _ h he hev; exact wp_label ⟨.nrm, env, σ, μ, trivial, h, he, hev⟩
 | exit id => intro K σ μ env a w _ h he hev; exact wp_exit ⟨.ext id, env, σ, μ, rfl, h, he, hev⟩
 | ret => intro K σ μ env a w _ h he hev; exact wp_ret ⟨.ret, env, σ, μ, trivial, h, he, hev⟩
 | region id ops draw =>
  intro K σ μ env a w hc h he hev
  cases draw with
  | false => exact wp_region_list (ops_ok hT hc hs0 (fun _ _ h => h) ops.toList σ μ env a w hc h he hev)
  | true => exact draw_ok hT hc hs0 h he hev
 | seq x y ihx ihy =>
  intro K σ μ env a w hc h he hev
  simp only [codeOK, Bool.and_eq_true] at hc
  refine wp_seq (wp_mono (ihx _ σ μ env a w hc.1 h he hev) fun e a' w' hq => ?_)
  obtain ⟨z, env', σ', μ', h1, h2, h3, h4⟩ := hq
  cases e <;> cases z <;> first | exact h1.elim | skip
  ·obtain ⟨e2, hw, h4⟩ := h4
   exact ihy K σ' μ' e2 a' w' hc.2 (h2.wk hw) h3 h4
  ·exact ⟨_, env', σ', μ', h1, h2, h3, h4⟩
  ·exact ⟨_, env', σ', μ', h1, h2, h3, h4⟩
 | cond c x y ihx ihy =>
  intro K σ μ env a w hc h he hev
  simp only [codeOK, Bool.and_eq_true] at hc
  simp only [ev] at hev
  split at hev
  ·rename_i t hv
   have hR := h.val c
   rw [hv] at hR
   refine wp_cond (R_v hR) ?_
   cases t with
   | true => exact ihx K σ μ env a w hc.1 h he hev
   | false => exact ihy K σ μ env a w hc.2 h he hev
  ·exact hev.elim
 | block id c ih =>
  intro K σ μ env a w hc h he hev
  refine wp_block (wp_mono (ih _ σ μ env a w hc h he hev) fun e a' w' hq => ?_)
  obtain ⟨z, env', σ', μ', h1, h2, h3, h4⟩ := hq
  cases e <;> cases z <;> first | exact h1.elim | skip
  ·exact ⟨.nrm, env', σ', μ', trivial, h2, h3, h4⟩
  ·rename_i i j
   have hij : i = j := h1
   subst hij
   simp only [Exit.inBlock]
   split
   ·rename_i hid
    simp only [hid, if_true] at h4
    exact ⟨.nrm, env', σ', μ', trivial, h2, h3, h4⟩
   ·rename_i hid
    simp only [hid, if_false] at h4
    exact ⟨.ext i, env', σ', μ', rfl, h2, h3, h4⟩
  ·exact ⟨.ret, env', σ', μ', trivial, h2, h3, h4⟩
 | loop c ih =>
  intro K σ μ env a w hc h he hev
  refine hev (fun e s => ∀ μ a w, Sim n s μ e a w → Ext σ0 μ0 w0 s μ w → (Code.loop c).wp P (RQ n σ0 μ0 w0 K) a w) (fun e s ⟨e2, hw, hr⟩ μ a w h he => ?_) μ a w h he
  refine wp_unroll (fun l a w hq => ?_) (fun l a w hq => ?_) (fun a w hq => ?_) (wp_mono (ih _ s μ e2 a w hc (h.wk hw) he hr) fun x a' w' hq => ?_)
  ·obtain ⟨z, _, _, _, h1, _⟩ := hq
   cases z <;> exact h1
  ·obtain ⟨z, _, _, _, h1, _⟩ := hq
   cases z <;> exact h1
  ·obtain ⟨z, _, _, _, h1, _⟩ := hq
   cases z <;> exact h1
  ·obtain ⟨z, env', σ', μ', h1, h2, h3, h4⟩ := hq
   cases x <;> cases z <;> first | exact h1.elim | skip
   ·exact h4 μ' a' w' h2 h3
   ·exact ⟨_, env', σ', μ', h1, h2, h3, h4⟩
   ·exact ⟨_, env', σ', μ', h1, h2, h3, h4⟩
 | scope c ih =>
  intro K σ μ env a w hc h he hev
  refine wp_scope_straight (wp_mono (ih K σ μ env a w hc h he hev) fun x a' w' hq => ?_)
  obtain ⟨z, env', σ', μ', h1, h2, h3, h4⟩ := hq
  cases x <;> cases z <;> first | exact h1.elim | exact ⟨_, env', σ', μ', h1, h2, h3, h4⟩
 | _ => intro K σ μ env a w _ h he hev; exact hev.elim
end
section
variable {P : Program} {T : TypeId → Option TI} {σ σ' σ0 s s' : Store} {μ μ' μ0 : Nat → Nat} {w w' w0 : World} {e : Env}
theorem enters_ {f : FuncId} {fn : Func} {c : Code} (hf : P.funcs[f]? = some fn) (hname : (fn.name == "runtime.NumGoroutine") = false) (hb : fn.body = some c) (args : Array Value) (w : World) : (callFunc f args).run P w = .ok (.enter f args) w := by
 have hc : fn.name ≠ "runtime.NumGoroutine" := by simpa using hname
 simp [callFunc, hf, hb, hc]
def resOne (T : TypeId → Option TI) (e : Env) (s : Store) (r : ResultVar) : Option PV := match r with
 | .tmp t => some (e t)
 | .cell a t => match T t, e a with
  | some ti, .pt id off => match s[id]? with
   | some (some (.box _ cells)) => getCells ti cells off
   | _ => none
  | _, _ => none
theorem resA_eq (rs : Array ResultVar) : resA T rs e s = (match rs.toList.mapM (resOne T e s) with | some [p] => some p | some ps => some (.tu ps) | none => none) := rfl
theorem resOne_sub {r : ResultVar} {p : PV} (hs : sub s s') (h : resOne T e s r = some p) : resOne T e s' r = some p := by
 cases r with
 | tmp t => exact h
 | cell a t =>
  unfold resOne at h ⊢
  simp only at h ⊢
  split at h
  ·rename_i ti id off h1 h2
   split at h
   ·rename_i bt cells ho
    rw [hs.get ho (by simp)]
    exact h
   ·cases h
  ·cases h
theorem mapM_sub (hs : sub s s') : ∀ (l : List ResultVar) {ps : List PV}, l.mapM (resOne T e s) = some ps → l.mapM (resOne T e s') = some ps
 | [], ps, h => h
 | r :: l, ps, h => by
  simp only [List.mapM_cons, Option.bind_eq_bind, Option.bind_eq_some_iff, Option.pure_def] at h ⊢
  obtain ⟨p, h1, qs, h2, h3⟩ := h
  exact ⟨p, resOne_sub hs h1, qs, mapM_sub hs l h2, h3⟩
theorem resA_sub {rs : Array ResultVar} {p : PV} (hs : sub s s') (h : resA T rs e s = some p) : resA T rs e s' = some p := by
 rw [resA_eq] at h ⊢
 cases hm : rs.toList.mapM (resOne T e s) with
 | none => rw [hm] at h; cases h
 | some ps =>
  rw [mapM_sub hs _ hm]
  rw [hm] at h
  exact h
def resS (tmps : Array Value) : ResultVar → Sem Value
 | .tmp t => pure (tmps.getD t undef)
 | .cell a t => do loadVar t (← asAddr (tmps.getD a undef))
theorem resOne_ok {n : Nat} (hT : ∀ t ti, T t = some ti → TOK P t ti) {a : Act} (h : Sim n σ μ e a w) {r : ResultVar} {p : PV} (hr : resOne T e σ r = some p) : ∃ x, (resS a.tmps r).run P w = .ok x w ∧ R σ μ w x p := by
 cases r with
 | tmp t =>
  simp only [resOne, Option.some.injEq] at hr
  exact ⟨_, rfl, hr ▸ h.env t⟩
 | cell c t =>
  simp only [resOne] at hr
  split at hr
  ·rename_i ti id off h1 h2
   split at hr
   ·rename_i bt cells ho
    have hx := h.env c
    rw [h2] at hx
    obtain ⟨y, h3, h4⟩ := load_pt h.sr (hT _ _ h1) hx ho hr
    refine ⟨y, ?_, h4⟩
    simp only [resS, asAddr, Sem.run_bind, Sem.run_pure, Result.andThen_ok]
    generalize a.tmps.getD c undef = v at hx h3 ⊢
    cases hx with
    | pt _ _ _ _ _ h5 =>
     obtain rfl := h5 ⟨_, _, ho, by simp⟩
     simpa [Instr.loadAt, Instr.sureAddr] using h3
   ·cases hr
  ·cases hr
theorem mapM_ok {n : Nat} (hT : ∀ t ti, T t = some ti → TOK P t ti) {a : Act} (h : Sim n σ μ e a w) : ∀ (l : List ResultVar) {ps : List PV}, l.mapM (resOne T e σ) = some ps → ∃ vs : List Value, (l.mapM (resS a.tmps)).run P w = .ok vs w ∧ vs.length = ps.length ∧ ∀ (i : Nat) x p, vs[i]? = some x → ps[i]? = some p → R σ μ w x p
 | [], ps, hm => by
  simp only [List.mapM_nil, Option.pure_def, Option.some.injEq] at hm
  subst hm
  exact ⟨[], by simp, rfl, fun i x p hx => by simp at hx⟩
 | r :: l, ps, hm => by
  simp only [List.mapM_cons, Option.bind_eq_bind, Option.bind_eq_some_iff, Option.pure_def, Option.some.injEq] at hm
  obtain ⟨p, h1, qs, h2, rfl⟩ := hm
  obtain ⟨x, h3, h4⟩ := resOne_ok hT h h1
  obtain ⟨vs, h5, h6, h7⟩ := mapM_ok hT h l h2
  refine ⟨x :: vs, by simp [h3, h5], by simp [h6], fun i y q hy hq => ?_⟩
  cases i with
  | zero => simp at hy hq; subst hy hq; exact h4
  | succ i => simp at hy hq; exact h7 i y q hy hq
theorem res_ok {n : Nat} (hT : ∀ t ti, T t = some ti → TOK P t ti) {a : Act} (h : Sim n σ μ e a w) {fn : Func} {p : PV} (hr : resA T fn.results e σ = some p) : ∃ v, (results fn a.tmps).run P w = .ok v w ∧ R σ μ w v p := by
 rw [resA_eq] at hr
 cases hm : fn.results.toList.mapM (resOne T e σ) with
 | none => rw [hm] at hr; cases hr
 | some ps =>
  rw [hm] at hr
  obtain ⟨vs, h1, h2, h3⟩ := mapM_ok hT h _ hm
  have hrun : (results fn a.tmps).run P w = .ok (if h : vs.toArray.size = 1 then vs.toArray[0] else .tuple vs.toArray) w := by
   have : (fn.results.mapM (resS a.tmps)) = List.toArray <$> fn.results.toList.mapM (resS a.tmps) := Array.mapM_eq_mapM_toList ..
   have h4 : results fn a.tmps = (do let vs ← fn.results.mapM (resS a.tmps); pure (if h : vs.size = 1 then vs[0] else .tuple vs)) := rfl
   rw [h4, this]
   simp only [Sem.run_bind, map_eq_pure_bind, bind_assoc, h1, Result.andThen_ok, Sem.run_pure, pure_bind]
  refine ⟨_, hrun, ?_⟩
  match ps, vs, h2, h3, hr with
  | [q], [x], _, h3, hr =>
   simp only [Option.some.injEq] at hr
   subst hr
   simp
   exact h3 0 x q rfl rfl
  | [], [], _, h3, hr =>
   simp only [Option.some.injEq] at hr
   subst hr
   simp
   exact .tu #[] [] rfl fun i x p hx => by simp at hx
  | q :: q' :: qs, x :: x' :: xs, h2, h3, hr =>
   simp only [Option.some.injEq] at hr
   subst hr
   simp
   exact .tu _ _ (by simpa using h2) fun i y p hy hp => h3 i y p (by simpa using hy) hp
def Bd (T : TypeId → Option TI) (fn : Func) (K : PV → Store → Prop) (x : X) (e : Env) (s : Store) : Prop := match x with
 | .ext _ => False
 | _ => ∃ r, resA T fn.results e s = some r ∧ K r s
theorem ECs.intro {f : FuncId} {fn : Func} {c : Code} {args : List PV} {K : PV → Store → Prop} (hT : ∀ t ti, T t = some ti → TOK P t ti) (hf : P.funcs[f]? = some fn) (hname : (fn.name == "runtime.NumGoroutine") = false) (hb : fn.body = some c) (hc : codeOK fn.ntmps c = true) (hn : args.length ≤ fn.ntmps)
  (h : ev P T c (argE args) σ (Bd T fn K)) : ECs P f args σ K := by
 intro μ w vs hs hvs
 refine .inl ⟨enters_ hf hname hb vs w, calls_of_wp hf hb ?_⟩
 have hsim : Sim fn.ntmps σ μ (argE args) { tmps := vs ++ Array.replicate (fn.ntmps - vs.size) undef, defers := [] } w := by
  refine ⟨hs, fun t => ?_, by have := hvs.1; simp; omega, rfl⟩
  rw [argE_at]
  by_cases ht : t < args.length
  ·have ht' : t < vs.size := by rw [hvs.1]; exact ht
   rw [List.getD_eq_getElem?_getD, List.getElem?_eq_getElem ht, Array.getD_eq_getD_getElem?, Array.getElem?_append_left ht', Array.getElem?_eq_getElem ht']
   exact hvs.2 t _ _ (Array.getElem?_eq_getElem ht') (List.getElem?_eq_getElem ht)
  ·rw [List.getD_eq_getElem?_getD, List.getElem?_eq_none (by omega)]
   exact .any _
 refine wp_mono (ev_ok hT hs c _ σ μ _ _ w hc hsim (Ext.refl _ _ _) h) fun x a w' hq => ?_
 obtain ⟨y, e', σ', μ', h1, h2, h3, h4⟩ := hq
 have fin : (∃ r, resA T fn.results e' σ' = some r ∧ K r σ') → a.defers = [] ∧ ∃ v, (results fn a.tmps).run P w' = .ok v w' ∧ ∃ x, Ending.returned v = .returned x ∧ ∃ r σ' μ', Ext σ μ w σ' μ' w' ∧ SR σ' μ' w' ∧ R σ' μ' w' x r ∧ K r σ' := by
  rintro ⟨r, hr, hk⟩
  obtain ⟨v, hv, hR⟩ := res_ok hT h2 hr
  exact ⟨h2.defs, v, hv, v, rfl, r, σ', μ', h3, h2.sr, hR, hk⟩
 cases x <;> cases y <;> first | exact h1.elim | exact h4.elim | exact fin h4
theorem Bd.frame {fn : Func} {F : Nat → Option AObj} {K : PV → Store → Prop} {x : X} (h : overX σ F (Bd T fn K) x e s) : Bd T fn (fun r s => ∃ s0, s = ov s0 F ∧ keepR σ s0 ∧ K r s0) x e s := by
 obtain ⟨s0, h1, h2, h3⟩ := h
 cases x with
 | ext i => exact h3
 | nrm =>
  obtain ⟨r, h4, h5⟩ := h3
  exact ⟨r, by rw [h1]; exact resA_sub sub_ov h4, s0, h1, h2, h5⟩
 | ret =>
  obtain ⟨r, h4, h5⟩ := h3
  exact ⟨r, by rw [h1]; exact resA_sub sub_ov h4, s0, h1, h2, h5⟩
theorem EC.intro {f : FuncId} {fn : Func} {c : Code} {args : List PV} {K : PV → Store → Prop} (hT : ∀ t ti, T t = some ti → TOK P t ti) (hf : P.funcs[f]? = some fn) (hname : (fn.name == "runtime.NumGoroutine") = false) (hb : fn.body = some c) (hc : codeOK fn.ntmps c = true) (hn : args.length ≤ fn.ntmps)
  (h : ev P T c (argE args) σ (Bd T fn K)) : EC P f args σ K := by
 refine ⟨?_, fun F hF => ECs.intro hT hf hname hb hc hn (ev_mono c (fun x e s hx => Bd.frame hx) _ _ (ev_frame c hF _ h))⟩
 obtain ⟨x, e', s', h1, h2⟩ := ev_sat c σ _ h
 cases x with
 | ext i => exact h2.elim
 | nrm => obtain ⟨r, _, h3⟩ := h2; exact ⟨r, s', h1, h3⟩
 | ret => obtain ⟨r, _, h3⟩ := h2; exact ⟨r, s', h1, h3⟩
theorem live_app {ex : Store} {i : Nat} {o : AObj} (h : live σ i o) : live (σ ++ ex) i o := ⟨by rw [List.getElem?_append_left (List.getElem?_eq_some_iff.1 h.1).1]; exact h.1, h.2⟩
def Cl (n : Nat) (p : PV) : Prop := ∀ (σ ex : Store) μ w v, n ≤ σ.length → R (σ ++ ex) μ w v p → R σ μ w v p
theorem owned_app {ex : Store} {g off : Nat} (h : owned σ μ g off) : owned (σ ++ ex) μ g off := by
 obtain ⟨id, o, h1, h2⟩ := h
 exact ⟨id, o, live_app h1, h2⟩
theorem StC.cut {ex : Store} {a : Addr} {x : Value} (h : StC (σ ++ ex) μ w a x) : StC σ μ w a x := ⟨h.1, fun ho => h.2 (owned_app ho)⟩
theorem known_cut {ex : Store} {i : Nat} (h : known (σ ++ ex) i) (hi : i < σ.length) : known σ i := ⟨hi, by have := h.2; rwa [List.getElem?_append_left hi] at this⟩
theorem Cl.v {n : Nat} (x : Value) : Cl n (.v x) := fun σ ex μ w v _ h => by cases h with | v _ h1 => exact .v _ h1
theorem Cl.any {n : Nat} : Cl n .any := fun σ ex μ w v _ h => .any _
theorem Cl.e0 {n : Nat} : Cl n .e0 := fun σ ex μ w v _ h => by cases h; exact .e0 _
theorem Cl.pt {n id off : Nat} (hi : id < n) : Cl n (.pt id off) := fun σ ex μ w v hn h => by
 cases h with
 | pt _ _ _ h1 h2 h3 => exact .pt _ _ _ (known_cut h1 (by omega)) h2 fun ⟨t, c, hb⟩ => h3 ⟨t, c, live_app hb⟩
theorem Cl.ms {n id sz len : Nat} (hi : id < n) : Cl n (.ms id sz len) := fun σ ex μ w v hn h => by
 cases h with
 | ms _ _ _ _ h1 h2 h3 => exact .ms _ _ _ _ (known_cut h1 (by omega)) h2 fun ⟨t, c, hb⟩ => h3 ⟨t, c, live_app hb⟩
theorem Cl.mp {n id : Nat} (hi : id < n) : Cl n (.mp id) := fun σ ex μ w v hn h => by
 cases h with
 | mp _ _ h1 h2 h3 => exact .mp _ _ (known_cut h1 (by omega)) h2 fun ⟨k, t, c, hb⟩ => h3 ⟨k, t, c, live_app hb⟩
theorem Cl.sl {n : Nat} {rows : List (List PV)} (hr : ∀ r ∈ rows, ∀ p ∈ r, Cl n p) : Cl n (.sl rows) := fun σ ex μ w v hn h => by
 cases h with
 | sl0 A c => exact .sl0 A c
 | sl a c sz _ u h1 h2 h3 h4 h5 => exact .sl a c sz _ u h1 h2 (fun i j hi hj => (h3 i j hi hj).cut) h4 fun i j r p h6 h7 => hr r (List.mem_of_getElem? h6) p (List.mem_of_getElem? h7) σ ex μ w _ hn (h5 i j r p h6 h7)
theorem Cl.ow {n t : Nat} {rows : List (List PV)} (ht : t < n) (hr : Cl n (.sl rows)) : Cl n (.ow t rows) := fun σ ex μ w v hn h => by
 cases h with
 | ow _ _ _ h1 h2 h3 => exact .ow _ _ _ (hr σ ex μ w _ hn h1) (known_cut h2 (by omega)) fun e sz len hl => h3 e sz len (live_app hl)
theorem Cl.rp {n off : Nat} {row : List PV} (hr : ∀ p ∈ row, Cl n p) : Cl n (.rp row off) := fun σ ex μ w v hn h => by
 cases h with
 | rp b _ _ u h1 h2 h3 => exact .rp b _ _ u (fun j hj => (h1 j hj).cut) h2 fun j p hp => hr p (List.mem_of_getElem? hp) σ ex μ w _ hn (h3 j p hp)
theorem Cl.ag {n : Nat} {ps : List PV} (hr : ∀ p ∈ ps, Cl n p) : Cl n (.ag ps) := fun σ ex μ w v hn h => by
 cases h with
 | ag vs _ h1 h2 h3 => exact .ag vs _ h1 h2 fun i x p hx hp => hr p (List.mem_of_getElem? hp) σ ex μ w _ hn (h3 i x p hx hp)
theorem Cl.tu {n : Nat} {ps : List PV} (hr : ∀ p ∈ ps, Cl n p) : Cl n (.tu ps) := fun σ ex μ w v hn h => by
 cases h with
 | tu vs _ h1 h3 => exact .tu vs _ h1 fun i x p hx hp => hr p (List.mem_of_getElem? hp) σ ex μ w _ hn (h3 i x p hx hp)
theorem Cl.fn {n : Nat} {f : FuncId} {ps qs : List PV} (hr : ∀ p ∈ ps, Cl n p) (hq : ∀ p ∈ qs, Cl n p) : Cl n (.fn f ps qs) := fun σ ex μ w v hn h => by
 cases h with
 | fn _ vs cs _ _ h1 h2 h3 h4 => exact .fn f vs cs _ _ h1 h2 (fun i x p hx hp => hr p (List.mem_of_getElem? hp) σ ex μ w _ hn (h3 i x p hx hp)) (fun i x p hx hp => hq p (List.mem_of_getElem? hp) σ ex μ w _ hn (h4 i x p hx hp))
theorem Cl.ifc {n : Nat} {t : TypeId} {p : PV} (hr : Cl n p) : Cl n (.ifc t p) := fun σ ex μ w v hn h => by
 cases h with
 | ifc _ x _ h1 => exact .ifc t x _ (hr σ ex μ w _ hn h1)
theorem R.Cl {v : Value} {p : PV} (h : R σ μ w v p) : Cl σ.length p := by
 induction h with
 | v x hx => exact E.Cl.v x
 | e0 A => exact .e0
 | sl0 A c => exact .sl (by simp)
 | sl a c sz rows u h1 h2 h3 h4 h5 ih =>
  refine .sl fun r hr p hp => ?_
  obtain ⟨i, h6⟩ := List.getElem?_of_mem hr
  obtain ⟨j, h7⟩ := List.getElem?_of_mem hp
  exact ih i j r p h6 h7
 | ow t rows v h1 h2 h3 ih => exact .ow h2.1 ih
 | rp b row off u h1 h2 h3 ih =>
  refine .rp fun p hp => ?_
  obtain ⟨j, h7⟩ := List.getElem?_of_mem hp
  exact ih j p h7
 | pt id off v h1 h2 h3 => exact .pt h1.1
 | ms id sz len v h1 h2 h3 => exact .ms h1.1
 | mp id v h1 h2 h3 => exact .mp h1.1
 | ag vs ps h1 h2 h3 ih =>
  refine .ag fun p hp => ?_
  obtain ⟨j, h7⟩ := List.getElem?_of_mem hp
  have hj := (List.getElem?_eq_some_iff.1 h7).1
  exact ih j _ p (Array.getElem?_eq_getElem (by omega)) h7
 | tu vs ps h1 h2 ih =>
  refine .tu fun p hp => ?_
  obtain ⟨j, h7⟩ := List.getElem?_of_mem hp
  have hj := (List.getElem?_eq_some_iff.1 h7).1
  exact ih j _ p (Array.getElem?_eq_getElem (by omega)) h7
 | fn f vs cs ps qs h1 h2 h3 h4 ih1 ih2 =>
  refine .fn (fun p hp => ?_) fun p hp => ?_
  ·obtain ⟨j, h7⟩ := List.getElem?_of_mem hp
   have hj := (List.getElem?_eq_some_iff.1 h7).1
   exact ih1 j _ p (Array.getElem?_eq_getElem (by omega)) h7
  ·obtain ⟨j, h7⟩ := List.getElem?_of_mem hp
   have hj := (List.getElem?_eq_some_iff.1 h7).1
   exact ih2 j _ p (Array.getElem?_eq_getElem (by omega)) h7
 | ifc t x p h1 ih => exact .ifc ih
 | any v => exact .any
end
section
variable {P : Program} {T : TypeId → Option TI} {σ σ' σ0 s s' ex : Store} {μ μ' μ0 : Nat → Nat} {w w' w0 : World} {e : Env} {F : Nat → Option AObj}
def ClO (n : Nat) : AObj → Prop
 | .box _ cells => ∀ c ∈ cells, Cl n c
 | .map _ m _ => ∀ k p, m k = some p → Cl n p
 | _ => True
theorem SR.ClO (h : SR σ μ w) {i : Nat} {o : AObj} (hl : live σ i o) : ClO σ.length o := by
 have ho := h.obj i o hl
 cases o with
 | res => trivial
 | tok e sz len => trivial
 | box t cells =>
  obtain ⟨cs, _, h2, _, h4⟩ := ho
  intro c hc
  obtain ⟨j, hj⟩ := List.getElem?_of_mem hc
  have hlt := (List.getElem?_eq_some_iff.1 hj).1
  exact (h4 j _ c (Array.getElem?_eq_getElem (by omega)) hj).Cl
 | map kk m n =>
  obtain ⟨es, clock, _, _, _, h4, h5⟩ := ho
  intro k p hk
  obtain ⟨i, en, he, hke⟩ := h5 k p hk
  obtain ⟨_, p', hp', hR⟩ := h4 i en he
  rw [hke, hk] at hp'
  injection hp' with hp'
  subst hp'
  exact hR.Cl
theorem ORep.cut {g : Nat} {o : AObj} (hc : E.ClO σ.length o) (h : ORep (σ ++ ex) μ w g o) : ORep σ μ w g o := by
 cases o with
 | res => trivial
 | tok e sz len => exact h
 | box t cells =>
  obtain ⟨cs, h1, h2, h3, h4⟩ := h
  exact ⟨cs, h1, h2, h3, fun i x p hx hp => hc p (List.mem_of_getElem? hp) σ ex μ w x (Nat.le_refl _) (h4 i x p hx hp)⟩
 | map kk m n =>
  obtain ⟨es, clock, h1, h2, h3, h4, h5⟩ := h
  refine ⟨es, clock, h1, h2, h3, fun i en he => ?_, h5⟩
  obtain ⟨k1, p, k2, k3⟩ := h4 i en he
  exact ⟨k1, p, k2, hc _ p k2 σ ex μ w _ (Nat.le_refl _) k3⟩
theorem Ext.cut (hl : σ0.length = σ.length) (h : Ext σ0 μ0 w0 (σ ++ ex) μ w) : Ext σ0 μ0 w0 σ μ w where
 os := h.os
 tape := h.tape
 output := h.output
 size := h.size
 len := by omega
 known := fun i hi => known_cut (h.known i hi) (by have := hi.1; omega)
 keep := h.keep
 tok := h.tok
 evo := fun i o hk ho => h.evo i o hk (live_app ho)
 fresh := fun i o ho => h.fresh i o (live_app ho)
theorem SR.cut (hc : ∀ i o, live σ i o → E.ClO σ.length o) (h : SR (σ ++ ex) μ w) : SR σ μ w :=
 ⟨fun i j o o' hi hj => h.inj i j o o' (live_app hi) (live_app hj), fun i o ho => (h.obj i o (live_app ho)).cut (hc i o ho)⟩
theorem ov_split (σ ex : Store) (F : Nat → Option AObj) : ∃ ex', ov (σ ++ ex) F = ov σ F ++ ex' := by
 unfold ov
 rw [List.mapIdx_append]
 exact ⟨_, rfl⟩
theorem EC.drop {f : FuncId} {args : List PV} {K : PV → Store → Prop}
  (h : EC P f args σ fun r s => ∃ σ' ex, s = σ' ++ ex ∧ σ'.length = σ.length ∧ (∀ i ob, live σ' i ob → live σ i ob ∨ ClO σ.length ob) ∧ Cl σ.length r ∧ K r σ') : EC P f args σ K := by
 have kr : ∀ {σ' ex : Store}, σ'.length = σ.length → keepR σ (σ' ++ ex) → keepR σ σ' := fun hl hk i hi => by
  have := hk i hi
  rwa [List.getElem?_append_left (by have := (List.getElem?_eq_some_iff.1 hi).1; omega)] at this
 refine ⟨?_, fun F hF μ w vs hs hvs => ?_⟩
 ·obtain ⟨r, s, h1, σ', ex, rfl, hl, _, _, hk⟩ := h.1
  exact ⟨r, σ', kr hl h1, hk⟩
 ·have fin : ∀ x w', (∃ r σ1 μ', Ext (ov σ F) μ w σ1 μ' w' ∧ SR σ1 μ' w' ∧ R σ1 μ' w' x r ∧ ∃ s0, σ1 = ov s0 F ∧ keepR σ s0 ∧ ∃ σ' ex, s0 = σ' ++ ex ∧ σ'.length = σ.length ∧ (∀ i ob, live σ' i ob → live σ i ob ∨ ClO σ.length ob) ∧ Cl σ.length r ∧ K r σ') →
    ∃ r σ1 μ', Ext (ov σ F) μ w σ1 μ' w' ∧ SR σ1 μ' w' ∧ R σ1 μ' w' x r ∧ ∃ s0, σ1 = ov s0 F ∧ keepR σ s0 ∧ K r s0 := by
   rintro x w' ⟨r, σ1, μ', k1, k2, k3, s0, rfl, k5, σ', ex, rfl, hl, hob, hr, hk⟩
   obtain ⟨ex', he⟩ := ov_split σ' ex F
   rw [he] at k1 k2 k3
   have hkr := kr hl k5
   have hlen : (ov σ' F).length = σ.length := by rw [ov_len, hl]
   refine ⟨r, ov σ' F, μ', k1.cut (by rw [ov_len, ov_len, hl]), k2.cut fun i o ho => ?_, hr _ _ _ _ _ (by omega) k3, σ', rfl, hkr, hk⟩
   rw [hlen]
   have hfin : live (ov σ F) i o → ClO σ.length o := fun hi => by
    have := hs.ClO hi
    rwa [ov_len] at this
   cases hf : F i with
   | none =>
    have : live σ' i o := by
     obtain ⟨h1, h2⟩ := ho
     rw [ov_get?] at h1
     obtain ⟨o', h3, h4⟩ := Option.map_eq_some_iff.1 h1
     rw [ovc_none hf] at h4
     exact ⟨h4 ▸ h3, h2⟩
    rcases hob i o this with h1 | h1
    ·exact hfin (ov_live h1)
    ·exact h1
   | some ob =>
    obtain ⟨h1, h2⟩ := hF i ob hf
    have e1 : (ov σ F)[i]? = some (some ob) := by rw [ov_get?, h1]; simp [ovc, hf]
    have e2 : (ov σ' F)[i]? = some (some ob) := by rw [ov_get?, hkr i h1]; simp [ovc, hf]
    have : o = ob := by
     have := ho.1.symm.trans e2
     injection this with this
     injection this
    subst this
    exact hfin ⟨e1, h2⟩
  rcases h.2 F hF μ w vs hs hvs with ⟨a, b⟩ | ⟨x, w', a, b⟩
  ·exact .inl ⟨a, b.mono fun e w' ⟨x, hx, hp⟩ => ⟨x, hx, fin x w' hp⟩⟩
  ·exact .inr ⟨x, w', a, fin x w' b⟩
theorem EC.pure {f : FuncId} {args : List PV} {K : PV → Store → Prop} (h : EC P f args σ fun r s => (∃ ex, s = σ ++ ex) ∧ Cl σ.length r ∧ K r σ) : EC P f args σ K :=
 EC.drop (h.mono fun r s ⟨⟨ex, h1⟩, h2, h3⟩ => ⟨σ, ex, h1, rfl, fun i ob hl => .inl hl, h2, h3⟩)
theorem EC.wkb {f : FuncId} {args : List PV} {K : PV → Store → Prop}
  (h : EC P f args σ fun r s => ∃ i t c c', s[i]? = some (some (.box t c)) ∧ c.length = c'.length ∧ (∀ (j : Nat) p q, c[j]? = some p → c'[j]? = some q → Wk p q) ∧ K r (s.set i (some (.box t c')))) : EC P f args σ K := by
 have kr : ∀ {s : Store} {i : Nat} {t : TypeId} {c : List PV} (o : Option AObj), s[i]? = some (some (.box t c)) → keepR σ s → keepR σ (s.set i o) := fun o hi hk j hj => by
  have := hk j hj
  rw [List.getElem?_set_ne]
  ·exact this
  ·rintro rfl
   rw [hi] at this
   injection this with this
   injection this with this
   cases this
 refine ⟨?_, fun F hF μ w vs hs hvs => ?_⟩
 ·obtain ⟨r, s, h1, i, t, c, c', h2, _, _, hk⟩ := h.1
  exact ⟨r, _, kr _ h2 h1, hk⟩
 ·have fin : ∀ x w', (∃ r σ1 μ', Ext (ov σ F) μ w σ1 μ' w' ∧ SR σ1 μ' w' ∧ R σ1 μ' w' x r ∧ ∃ s0, σ1 = ov s0 F ∧ keepR σ s0 ∧ ∃ i t c c', s0[i]? = some (some (.box t c)) ∧ c.length = c'.length ∧ (∀ (j : Nat) p q, c[j]? = some p → c'[j]? = some q → Wk p q) ∧ K r (s0.set i (some (.box t c')))) →
    ∃ r σ1 μ', Ext (ov σ F) μ w σ1 μ' w' ∧ SR σ1 μ' w' ∧ R σ1 μ' w' x r ∧ ∃ s0, σ1 = ov s0 F ∧ keepR σ s0 ∧ K r s0 := by
   rintro x w' ⟨r, σ1, μ', k1, k2, k3, s0, rfl, k5, i, t, c, c', h1, h2, h3, hk⟩
   have hFi : F i = none := by
    cases hf : F i with
    | none => rfl
    | some ob =>
     have := k5 i (hF i ob hf).1
     rw [h1] at this
     injection this with this
     injection this with this
     cases this
   have hl : live (ov s0 F) i (.box t c) := ⟨by rw [ov_get?, h1]; simp [ovc_none hFi], by simp⟩
   have he : ov (s0.set i (some (.box t c'))) F = (ov s0 F).set i (some (.box t c')) := by
    apply List.ext_getElem?
    intro j
    have hlt := (List.getElem?_eq_some_iff.1 h1).1
    by_cases hj : i = j
    ·subst hj
     rw [ov_get?, List.getElem?_set_self hlt, List.getElem?_set_self (by rw [ov_len]; exact hlt)]
     simp [ovc_none hFi]
    ·rw [ov_get?, List.getElem?_set_ne hj, List.getElem?_set_ne hj, ov_get?]
   have hg : w'.grownBy w' (some (μ' i)) := ⟨rfl, rfl, rfl, Nat.le_refl _, fun _ _ _ => rfl⟩
   have e1 : Ext (ov s0 F) μ' w' ((ov s0 F).set i (some (.box t c'))) μ' w' := ext_set (o' := .box t c') k2 hl (by simp) (show evoO μ' μ' w' w' i (.box t c) (.box t c') from rfl) hg (fun _ _ _ _ h => by cases h)
   have e2 : SR ((ov s0 F).set i (some (.box t c'))) μ' w' := sr_set k2 hl e1 hg (by
    obtain ⟨cs, g1, g2, g3, g4⟩ := k2.obj _ _ hl
    refine ⟨cs, g1, by omega, g3, fun j y q hy hq => ?_⟩
    have hj := (List.getElem?_eq_some_iff.1 hq).1
    have hp : c[j]? = some c[j] := List.getElem?_eq_getElem (by omega)
    exact ((g4 j y _ hy hp).wk (h3 j _ q hp hq)).ext k2 e1)
   exact ⟨r, _, μ', k1.trans hs e1, e2, k3.ext k2 e1, _, he.symm, kr _ h1 k5, hk⟩
  rcases h.2 F hF μ w vs hs hvs with ⟨a, b⟩ | ⟨x, w', a, b⟩
  ·exact .inl ⟨a, b.mono fun e w' ⟨x, hx, hp⟩ => ⟨x, hx, fin x w' hp⟩⟩
  ·exact .inr ⟨x, w', a, fin x w' b⟩
end
end Go.Proofs.Ytohmmfimedgccaa.E
end
section
namespace Go.Proofs.Ytohmmfimedgccaa.E
set_option maxRecDepth 100000
def T (n : Nat) : Option TI := if n < 208 then (if n < 104 then (if n < 52 then (if n < 26 then (if n < 13 then (if n < 6 then (if n < 3 then (if n < 1 then (none) else (if n < 2 then (some ⟨1, 8, false, false, [.f], .other⟩) else (some ⟨1, 8, false, false, [(.i .i64)], .int .i64⟩))) else (if n < 4 then (some ⟨1, 8, false, false, [(.i .i64)], .int .i64⟩) else (if n < 5 then (some ⟨1, 1, false, false, [.b], .bool⟩) else (some ⟨1, 1, false, false, [(.i .u8)], .int .u8⟩)))) else (if n < 9 then (if n < 7 then (some ⟨1, 1, false, false, [(.i .u8)], .int .u8⟩) else (if n < 8 then (some ⟨4, 24, true, true, [(.i .i64), (.i .i64), .b, (.i .u8)], .st [(0, 2), (1, 3), (2, 4), (3, 6)]⟩) else (some ⟨4, 24, true, true, [(.i .i64), (.i .i64), .b, (.i .u8)], .st [(0, 2), (1, 3), (2, 4), (3, 6)]⟩))) else (if n < 11 then (if n < 10 then (some ⟨1, 16, false, false, [.s], .str⟩) else (some ⟨1, 16, false, false, [.s], .str⟩)) else (if n < 12 then (some ⟨1, 16, false, false, [.s], .str⟩) else (some ⟨1, 8, false, false, [(.i .u64)], .int .u64⟩))))) else (if n < 19 then (if n < 16 then (if n < 14 then (none) else (if n < 15 then (none) else (some ⟨1, 8, false, false, [.p], .other⟩))) else (if n < 17 then (some ⟨1, 8, false, false, [.p], .other⟩) else (if n < 18 then (some ⟨1, 8, false, false, [.p], .other⟩) else (some ⟨1, 8, true, false, [.p], .st [(0, 17)]⟩)))) else (if n < 22 then (if n < 20 then (some ⟨1, 8, true, false, [.p], .st [(0, 17)]⟩) else (if n < 21 then (some ⟨1, 16, false, false, [.c], .ifc⟩) else (some ⟨1, 4, false, false, [(.i .i32)], .int .i32⟩))) else (if n < 24 then (if n < 23 then (some ⟨1, 24, false, false, [.sl], .slc 99⟩) else (some ⟨1, 24, false, false, [.sl], .slc 96⟩)) else (if n < 25 then (some ⟨1, 24, false, false, [.sl], .slc 41⟩) else (some ⟨1, 24, false, false, [.sl], .slc 65⟩)))))) else (if n < 39 then (if n < 32 then (if n < 29 then (if n < 27 then (some ⟨4, 96, true, false, [.sl, .sl, .sl, .sl], .st [(0, 22), (1, 23), (2, 24), (3, 25)]⟩) else (if n < 28 then (some ⟨4, 96, true, false, [.sl, .sl, .sl, .sl], .st [(0, 22), (1, 23), (2, 24), (3, 25)]⟩) else (some ⟨1, 8, false, false, [.f], .other⟩))) else (if n < 30 then (some ⟨1, 8, false, false, [.f], .other⟩) else (if n < 31 then (some ⟨1, 8, false, false, [(.i .i64)], .int .i64⟩) else (none)))) else (if n < 35 then (if n < 33 then (some ⟨1, 8, false, false, [.f], .other⟩) else (if n < 34 then (some ⟨1, 24, false, false, [.sl], .slc 43⟩) else (none))) else (if n < 37 then (if n < 36 then (some ⟨1, 8, false, false, [.f], .other⟩) else (some ⟨1, 8, false, false, [.f], .other⟩)) else (if n < 38 then (some ⟨1, 24, false, false, [.sl], .slc 39⟩) else (some ⟨6, 72, true, false, [(.i .i64), .s, (.i .i64), (.i .i64), .sl, (.i .i64)], .st [(0, 3), (1, 9), (2, 2), (3, 2), (4, 37), (5, 3)]⟩))))) else (if n < 45 then (if n < 42 then (if n < 40 then (some ⟨6, 72, true, false, [(.i .i64), .s, (.i .i64), (.i .i64), .sl, (.i .i64)], .st [(0, 3), (1, 9), (2, 2), (3, 2), (4, 37), (5, 3)]⟩) else (if n < 41 then (some ⟨8, 96, true, false, [.s, (.i .i64), .s, (.i .i64), (.i .i64), .sl, (.i .i64), (.i .i64)], .st [(0, 9), (1, 39), (7, 3)]⟩) else (some ⟨8, 96, true, false, [.s, (.i .i64), .s, (.i .i64), (.i .i64), .sl, (.i .i64), (.i .i64)], .st [(0, 9), (1, 39), (7, 3)]⟩))) else (if n < 43 then (some ⟨2, 16, true, true, [(.i .i64), (.i .i64)], .st [(0, 2), (1, 2)]⟩) else (if n < 44 then (some ⟨2, 16, true, true, [(.i .i64), (.i .i64)], .st [(0, 2), (1, 2)]⟩) else (none)))) else (if n < 48 then (if n < 46 then (some ⟨1, 8, false, false, [.f], .other⟩) else (if n < 47 then (some ⟨1, 24, false, false, [.sl], .slc 61⟩) else (some ⟨1, 24, false, false, [.sl], .slc 73⟩))) else (if n < 50 then (if n < 49 then (some ⟨4, 96, true, false, [.sl, .sl, .sl, .sl], .st [(0, 33), (1, 22), (2, 46), (3, 47)]⟩) else (some ⟨4, 96, true, false, [.sl, .sl, .sl, .sl], .st [(0, 33), (1, 22), (2, 46), (3, 47)]⟩)) else (if n < 51 then (none) else (some ⟨1, 8, false, false, [.f], .other⟩))))))) else (if n < 78 then (if n < 65 then (if n < 58 then (if n < 55 then (if n < 53 then (some ⟨1, 24, false, false, [.sl], .slc 58⟩) else (if n < 54 then (some ⟨1, 8, false, false, [.f], .other⟩) else (some ⟨1, 8, false, false, [.f], .other⟩))) else (if n < 56 then (some ⟨1, 8, false, false, [.f], .other⟩) else (if n < 57 then (some ⟨1, 8, false, false, [.f], .other⟩) else (some ⟨2, 16, true, true, [(.i .i64), (.i .i64)], .st [(0, 3), (1, 3)]⟩)))) else (if n < 61 then (if n < 59 then (some ⟨2, 16, true, true, [(.i .i64), (.i .i64)], .st [(0, 3), (1, 3)]⟩) else (if n < 60 then (some ⟨1, 24, false, false, [.sl], .slc 68⟩) else (some ⟨4, 48, true, false, [(.i .i64), (.i .i64), (.i .i64), .sl], .st [(0, 3), (1, 43), (3, 59)]⟩))) else (if n < 63 then (if n < 62 then (some ⟨4, 48, true, false, [(.i .i64), (.i .i64), (.i .i64), .sl], .st [(0, 3), (1, 43), (3, 59)]⟩) else (some ⟨1, 8, false, false, [.f], .other⟩)) else (if n < 64 then (some ⟨1, 8, false, false, [.f], .other⟩) else (some ⟨4, 48, true, true, [.s, .s, (.i .i64), (.i .i64)], .st [(0, 9), (1, 9), (2, 2), (3, 3)]⟩))))) else (if n < 71 then (if n < 68 then (if n < 66 then (some ⟨4, 48, true, true, [.s, .s, (.i .i64), (.i .i64)], .st [(0, 9), (1, 9), (2, 2), (3, 3)]⟩) else (if n < 67 then (some ⟨1, 24, false, false, [.sl], .slc 119⟩) else (some ⟨2, 32, true, false, [(.i .i64), .sl], .st [(0, 3), (1, 66)]⟩))) else (if n < 69 then (some ⟨2, 32, true, false, [(.i .i64), .sl], .st [(0, 3), (1, 66)]⟩) else (if n < 70 then (none) else (some ⟨1, 8, false, false, [.f], .other⟩)))) else (if n < 74 then (if n < 72 then (some ⟨1, 8, false, false, [.f], .other⟩) else (if n < 73 then (some ⟨5, 56, true, false, [(.i .i64), (.i .i64), (.i .i64), .sl, (.i .i64)], .st [(0, 43), (2, 68), (4, 2)]⟩) else (some ⟨5, 56, true, false, [(.i .i64), (.i .i64), (.i .i64), .sl, (.i .i64)], .st [(0, 43), (2, 68), (4, 2)]⟩))) else (if n < 76 then (if n < 75 then (some ⟨2, 2, true, false, [(.i .u8), (.i .u8)], .arr 2 5⟩) else (none)) else (if n < 77 then (some ⟨1, 8, false, false, [.f], .other⟩) else (some ⟨1, 8, false, false, [.f], .other⟩)))))) else (if n < 91 then (if n < 84 then (if n < 81 then (if n < 79 then (some ⟨1, 8, false, false, [.f], .other⟩) else (if n < 80 then (some ⟨1, 8, false, false, [.f], .other⟩) else (some ⟨1, 8, false, false, [.f], .other⟩))) else (if n < 82 then (some ⟨1, 24, false, false, [.sl], .slc 85⟩) else (if n < 83 then (none) else (some ⟨1, 8, false, false, [.f], .other⟩)))) else (if n < 87 then (if n < 85 then (some ⟨4, 40, true, true, [(.i .i64), .s, (.i .i64), (.i .i64)], .st [(0, 3), (1, 9), (2, 2), (3, 3)]⟩) else (if n < 86 then (some ⟨4, 40, true, true, [(.i .i64), .s, (.i .i64), (.i .i64)], .st [(0, 3), (1, 9), (2, 2), (3, 3)]⟩) else (none))) else (if n < 89 then (if n < 88 then (some ⟨1, 8, false, false, [.f], .other⟩) else (some ⟨1, 8, false, false, [.f], .other⟩)) else (if n < 90 then (some ⟨1, 24, false, false, [.sl], .slc 5⟩) else (some ⟨3, 24, true, false, [(.i .i64), (.i .i64), (.i .i64)], .arr 3 3⟩))))) else (if n < 97 then (if n < 94 then (if n < 92 then (some ⟨3, 24, true, false, [(.i .i64), (.i .i64), (.i .i64)], .arr 3 2⟩) else (if n < 93 then (some ⟨1, 8, false, false, [.f], .other⟩) else (some ⟨1, 8, false, false, [.f], .other⟩))) else (if n < 95 then (some ⟨1, 8, false, false, [.f], .other⟩) else (if n < 96 then (some ⟨4, 40, true, true, [.s, (.i .i64), (.i .i64), (.i .i64)], .st [(0, 9), (1, 2), (2, 2), (3, 3)]⟩) else (some ⟨4, 40, true, true, [.s, (.i .i64), (.i .i64), (.i .i64)], .st [(0, 9), (1, 2), (2, 2), (3, 3)]⟩)))) else (if n < 100 then (if n < 98 then (some ⟨1, 24, false, false, [.sl], .slc 9⟩) else (if n < 99 then (some ⟨10, 128, true, false, [.s, .sl, (.i .i64), (.i .i64), .s, (.i .i64), (.i .i64), .sl, (.i .i64), (.i .i64)], .st [(0, 9), (1, 97), (2, 2), (3, 39), (9, 3)]⟩) else (some ⟨10, 128, true, false, [.s, .sl, (.i .i64), (.i .i64), .s, (.i .i64), (.i .i64), .sl, (.i .i64), (.i .i64)], .st [(0, 9), (1, 97), (2, 2), (3, 39), (9, 3)]⟩))) else (if n < 102 then (if n < 101 then (some ⟨1, 8, false, false, [.f], .other⟩) else (some ⟨1, 8, false, false, [.f], .other⟩)) else (if n < 103 then (some ⟨1, 8, false, false, [.f], .other⟩) else (some ⟨1, 8, false, false, [.f], .other⟩)))))))) else (if n < 156 then (if n < 130 then (if n < 117 then (if n < 110 then (if n < 107 then (if n < 105 then (some ⟨1, 8, false, false, [.p], .other⟩) else (if n < 106 then (some ⟨2, 16, true, true, [(.i .i64), (.i .i64)], .st [(0, 3), (1, 30)]⟩) else (some ⟨2, 16, true, true, [(.i .i64), (.i .i64)], .st [(0, 3), (1, 30)]⟩))) else (if n < 108 then (some ⟨1, 8, false, false, [.m], .map 9 3⟩) else (if n < 109 then (some ⟨1, 8, false, false, [.f], .other⟩) else (some ⟨1, 8, false, false, [.f], .other⟩)))) else (if n < 113 then (if n < 111 then (some ⟨1, 8, false, false, [.f], .other⟩) else (if n < 112 then (some ⟨1, 8, false, false, [.f], .other⟩) else (some ⟨1, 8, false, false, [.f], .other⟩))) else (if n < 115 then (if n < 114 then (some ⟨1, 8, false, false, [.f], .other⟩) else (some ⟨1, 8, false, false, [.f], .other⟩)) else (if n < 116 then (some ⟨1, 8, false, false, [.f], .other⟩) else (none))))) else (if n < 123 then (if n < 120 then (if n < 118 then (some ⟨1, 8, false, false, [.f], .other⟩) else (if n < 119 then (some ⟨3, 24, true, true, [(.i .i64), (.i .i64), (.i .i64)], .st [(0, 3), (1, 2), (2, 2)]⟩) else (some ⟨3, 24, true, true, [(.i .i64), (.i .i64), (.i .i64)], .st [(0, 3), (1, 2), (2, 2)]⟩))) else (if n < 121 then (some ⟨1, 8, false, false, [.p], .other⟩) else (if n < 122 then (some ⟨1, 8, false, false, [.m], .map 9 43⟩) else (some ⟨3, 24, true, false, [(.i .i64), (.i .i64), .m], .st [(0, 106), (2, 121)]⟩)))) else (if n < 126 then (if n < 124 then (some ⟨3, 24, true, false, [(.i .i64), (.i .i64), .m], .st [(0, 106), (2, 121)]⟩) else (if n < 125 then (some ⟨1, 8, false, false, [.f], .other⟩) else (some ⟨1, 8, false, false, [.f], .other⟩))) else (if n < 128 then (if n < 127 then (some ⟨1, 8, false, false, [.f], .other⟩) else (some ⟨1, 8, false, false, [.p], .other⟩)) else (if n < 129 then (some ⟨1, 24, false, false, [.sl], .slc 164⟩) else (some ⟨9, 152, true, false, [.sl, .sl, .sl, .sl, .m, .sl, .m, (.i .i64), (.i .i64)], .st [(0, 27), (4, 107), (5, 128), (6, 107), (7, 3), (8, 30)]⟩)))))) else (if n < 143 then (if n < 136 then (if n < 133 then (if n < 131 then (some ⟨9, 152, true, false, [.sl, .sl, .sl, .sl, .m, .sl, .m, (.i .i64), (.i .i64)], .st [(0, 27), (4, 107), (5, 128), (6, 107), (7, 3), (8, 30)]⟩) else (if n < 132 then (some ⟨1, 8, false, false, [.f], .other⟩) else (some ⟨1, 8, false, false, [.f], .other⟩))) else (if n < 134 then (some ⟨1, 8, false, false, [.f], .other⟩) else (if n < 135 then (some ⟨1, 8, false, false, [.f], .other⟩) else (none)))) else (if n < 139 then (if n < 137 then (some ⟨1, 8, false, false, [.f], .other⟩) else (if n < 138 then (some ⟨1, 8, false, false, [.f], .other⟩) else (some ⟨1, 8, false, false, [.f], .other⟩))) else (if n < 141 then (if n < 140 then (some ⟨1, 8, false, false, [.f], .other⟩) else (some ⟨1, 8, false, false, [.f], .other⟩)) else (if n < 142 then (some ⟨1, 8, false, false, [.f], .other⟩) else (some ⟨1, 8, false, false, [.f], .other⟩))))) else (if n < 149 then (if n < 146 then (if n < 144 then (some ⟨1, 8, false, false, [.f], .other⟩) else (if n < 145 then (some ⟨1, 8, false, false, [.f], .other⟩) else (some ⟨1, 8, false, false, [.f], .other⟩))) else (if n < 147 then (some ⟨1, 8, false, false, [.f], .other⟩) else (if n < 148 then (some ⟨1, 8, false, false, [.f], .other⟩) else (some ⟨1, 8, false, false, [.f], .other⟩)))) else (if n < 152 then (if n < 150 then (some ⟨1, 8, false, false, [.f], .other⟩) else (if n < 151 then (some ⟨1, 8, false, false, [.f], .other⟩) else (none))) else (if n < 154 then (if n < 153 then (some ⟨1, 8, false, false, [.f], .other⟩) else (some ⟨1, 8, false, false, [.p], .other⟩)) else (if n < 155 then (some ⟨9, 152, true, false, [.sl, (.i .i64), (.i .i64), (.i .i64), (.i .i64), .sl, .sl, .sl, .sl], .st [(0, 81), (1, 3), (2, 3), (3, 3), (4, 30), (5, 27)]⟩) else (some ⟨9, 152, true, false, [.sl, (.i .i64), (.i .i64), (.i .i64), (.i .i64), .se, .se, .se, .se], .st [(0, 81), (1, 3), (2, 3), (3, 3), (4, 30), (5, 27)]⟩))))))) else (if n < 182 then (if n < 169 then (if n < 162 then (if n < 159 then (if n < 157 then (some ⟨1, 8, false, false, [.f], .other⟩) else (if n < 158 then (some ⟨5, 80, true, false, [.s, .s, .s, .s, .s], .arr 5 9⟩) else (some ⟨1, 8, false, false, [.f], .other⟩))) else (if n < 160 then (some ⟨1, 8, false, false, [.f], .other⟩) else (if n < 161 then (some ⟨1, 8, false, false, [.f], .other⟩) else (some ⟨1, 8, false, false, [.f], .other⟩)))) else (if n < 165 then (if n < 163 then (some ⟨1, 8, false, false, [.f], .other⟩) else (if n < 164 then (some ⟨3, 56, true, false, [(.i .i64), .sl, .sl], .st [(0, 3), (1, 37), (2, 97)]⟩) else (some ⟨3, 56, true, false, [(.i .i64), .sl, .sl], .st [(0, 3), (1, 37), (2, 97)]⟩))) else (if n < 167 then (if n < 166 then (some ⟨1, 8, false, false, [.f], .other⟩) else (some ⟨1, 8, false, false, [.f], .other⟩)) else (if n < 168 then (some ⟨1, 8, false, false, [.f], .other⟩) else (some ⟨1, 8, false, false, [.f], .other⟩))))) else (if n < 175 then (if n < 172 then (if n < 170 then (some ⟨1, 8, false, false, [.f], .other⟩) else (if n < 171 then (some ⟨1, 8, false, false, [.f], .other⟩) else (some ⟨1, 8, false, false, [.f], .other⟩))) else (if n < 173 then (some ⟨1, 8, false, false, [.f], .other⟩) else (if n < 174 then (some ⟨1, 8, false, false, [.f], .other⟩) else (some ⟨1, 8, false, false, [.f], .other⟩)))) else (if n < 178 then (if n < 176 then (some ⟨1, 8, false, false, [.f], .other⟩) else (if n < 177 then (some ⟨1, 8, false, false, [.f], .other⟩) else (none))) else (if n < 180 then (if n < 179 then (some ⟨1, 8, false, false, [.f], .other⟩) else (some ⟨1, 8, false, false, [.f], .other⟩)) else (if n < 181 then (some ⟨1, 8, false, false, [.f], .other⟩) else (some ⟨1, 8, false, false, [.f], .other⟩)))))) else (if n < 195 then (if n < 188 then (if n < 185 then (if n < 183 then (some ⟨1, 8, false, false, [.f], .other⟩) else (if n < 184 then (some ⟨1, 8, false, false, [.f], .other⟩) else (some ⟨1, 8, false, false, [.f], .other⟩))) else (if n < 186 then (some ⟨1, 8, false, false, [.f], .other⟩) else (if n < 187 then (some ⟨1, 8, false, false, [.f], .other⟩) else (some ⟨1, 8, false, false, [.f], .other⟩)))) else (if n < 191 then (if n < 189 then (some ⟨1, 8, false, false, [.f], .other⟩) else (if n < 190 then (some ⟨1, 8, false, false, [.f], .other⟩) else (some ⟨1, 8, false, false, [.f], .other⟩))) else (if n < 193 then (if n < 192 then (some ⟨1, 8, false, false, [.f], .other⟩) else (some ⟨4, 40, true, false, [.p, .p, .p, .s], .st [(0, 17), (1, 17), (2, 17), (3, 9)]⟩)) else (if n < 194 then (some ⟨4, 40, true, false, [.p, .p, .p, .s], .st [(0, 17), (1, 17), (2, 17), (3, 9)]⟩) else (some ⟨0, 0, true, false, [], .arr 0 16⟩))))) else (if n < 201 then (if n < 198 then (if n < 196 then (some ⟨0, 0, true, false, [], .st [(0, 194)]⟩) else (if n < 197 then (some ⟨0, 0, true, false, [], .st [(0, 194)]⟩) else (some ⟨1, 8, false, false, [.f], .other⟩))) else (if n < 199 then (some ⟨1, 4, false, false, [(.i .u32)], .int .u32⟩) else (if n < 200 then (some ⟨1, 1, false, false, [(.i .u8)], .int .u8⟩) else (some ⟨1, 1, false, false, [(.i .u8)], .int .u8⟩)))) else (if n < 204 then (if n < 202 then (some ⟨1, 8, false, false, [.f], .other⟩) else (if n < 203 then (some ⟨1, 8, false, false, [.p], .other⟩) else (some ⟨1, 4, false, false, [(.i .i32)], .int .i32⟩))) else (if n < 206 then (if n < 205 then (some ⟨1, 4, false, false, [(.i .i32)], .int .i32⟩) else (some ⟨11, 48, true, false, [(.i .u64), (.i .u64), (.i .u32), (.i .u8), (.i .u8), (.i .u8), (.i .u8), .f, .p, (.i .i32), (.i .i32)], .st [(0, 12), (1, 12), (2, 198), (3, 199), (4, 5), (5, 5), (6, 200), (7, 201), (8, 202), (9, 203), (10, 204)]⟩)) else (if n < 207 then (some ⟨11, 48, true, false, [(.i .u64), (.i .u64), (.i .u32), (.i .u8), (.i .u8), (.i .u8), (.i .u8), .f, .p, (.i .i32), (.i .i32)], .st [(0, 12), (1, 12), (2, 198), (3, 199), (4, 5), (5, 5), (6, 200), (7, 201), (8, 202), (9, 203), (10, 204)]⟩) else (some ⟨1, 8, false, false, [.p], .other⟩))))))))) else none
theorem T_all : ((List.range 208).all fun t => match T t with | some ti => decide (TI.of Try.prog t = some { ti with zero := ti.zero.map Z.n }) | none => true) = true := by kernel_rfl
theorem T_ok (t : TypeId) (ti : TI) (h : T t = some ti) : TI.of Try.prog t = some { ti with zero := ti.zero.map Z.n } := by
 by_cases hlt : t < 208
 ·have := List.all_eq_true.1 T_all t (List.mem_range.2 hlt)
  rw [h] at this
  exact of_decide_eq_true this
 ·unfold T at h
  rw [if_neg hlt] at h
  cases h
end Go.Proofs.Ytohmmfimedgccaa.E
end
section
namespace Go.Proofs.Ytohmmfimedgccaa.E
set_option linter.unusedVariables false
set_option linter.unusedSimpArgs false
theorem hT (t : TypeId) (ti : TI) (h : T t = some ti) : TOK Try.prog t ti := TI.of_ok' (T_ok t ti h)
section
variable {P : Program} {T : TypeId → Option TI} {σ σ' s s' : Store} {e : Env} {Q : X → Env → Store → Prop}
noncomputable def Ev : (P : Program) → (T : TypeId → Option TI) → (c : Code) → (e : Env) → (s : Store) → (Q : X → Env → Store → Prop) → Prop := Classical.choose (⟨@ev, rfl⟩ : ∃ f, f = @ev)
theorem Ev_eq : @Ev = @ev := Classical.choose_spec (⟨@ev, rfl⟩ : ∃ f, f = @ev)
theorem Ev.of {c : Code} (h : ev P T c e s Q) : Ev P T c e s Q := by rw [Ev_eq]; exact h
theorem Ev.to {c : Code} (h : Ev P T c e s Q) : ev P T c e s Q := by rw [Ev_eq] at h; exact h
theorem w_ct {c : Operand} {a b : Code} (hc : val e c = .v (.bool true)) (h1 : Ev P T a e s Q) : Ev P T (.cond c a b) e s Q := by
 refine .of ?_
 unfold ev
 rw [hc]
 exact h1.to
theorem w_cf {c : Operand} {a b : Code} (hc : val e c = .v (.bool false)) (h1 : Ev P T b e s Q) : Ev P T (.cond c a b) e s Q := by
 refine .of ?_
 unfold ev
 rw [hc]
 exact h1.to
theorem Ev.mono {c : Code} {Q' : X → Env → Store → Prop} (h : Ev P T c e s Q) (hQ : ∀ x e s, Q x e s → Q' x e s) : Ev P T c e s Q' := .of (ev_mono c hQ e s h.to)
def Sq (P : Program) (T : TypeId → Option TI) (b : Code) (K : X → Env → Store → Prop) (x : X) (e : Env) (s : Store) : Prop := match x with | .nrm => Ev P T b e s K | x => K x e s
theorem w_seq {a b : Code} (h : Ev P T a e s (Sq P T b Q)) : Ev P T (.seq a b) e s Q := .of (ev_mono a (fun x e s hx => by cases x <;> first | exact ⟨_, WkE.refl _, hx.to⟩ | exact hx) e s h.to)
theorem w_sq {b : Code} (h : Ev P T b e s Q) : Sq P T b Q .nrm e s := h
theorem w_sqx {b : Code} {i : Nat} (h : Q (.ext i) e s) : Sq P T b Q (.ext i) e s := h
theorem w_sqr {b : Code} (h : Q .ret e s) : Sq P T b Q .ret e s := h
def Ct (I : Env → Store → Prop) (K : X → Env → Store → Prop) (x : X) (e : Env) (s : Store) : Prop := match x with | .nrm => I e s | x => K x e s
theorem w_skip (h : Q .nrm e s) : Ev P T .skip e s Q := .of h
theorem w_exit {i : Nat} (h : Q (.ext i) e s) : Ev P T (.exit i) e s Q := .of h
theorem w_ret (h : Q .ret e s) : Ev P T .ret e s Q := .of h
def Bk (id : Nat) (K : X → Env → Store → Prop) (x : X) (e : Env) (s : Store) : Prop := match x with | .ext i => if i = id then K .nrm e s else K (.ext i) e s | x => K x e s
theorem w_block {id : Nat} {c : Code} (h : Ev P T c e s (Bk id Q)) : Ev P T (.block id c) e s Q := .of (ev_mono c (fun x e s hx => by cases x <;> exact hx) e s h.to)
theorem w_bk {id : Nat} (h : Q .nrm e s) : Bk id Q .nrm e s := h
theorem w_bkx {id : Nat} (h : Q .nrm e s) : Bk id Q (.ext id) e s := by
 show (if id = id then _ else _)
 rw [if_pos rfl]
 exact h
theorem w_bky {id i : Nat} (hne : i ≠ id) (h : Q (.ext i) e s) : Bk id Q (.ext i) e s := by
 show (if i = id then _ else _)
 rw [if_neg hne]
 exact h
theorem w_bkr {id : Nat} (h : Q .ret e s) : Bk id Q .ret e s := h
def Lp0 (P : Program) (T : TypeId → Option TI) (c : Code) (e : Env) (s : Store) (Q : X → Env → Store → Prop) : Prop := Lp (LF P T c) e s Q
noncomputable def LpV : (P : Program) → (T : TypeId → Option TI) → (c : Code) → (e : Env) → (s : Store) → (Q : X → Env → Store → Prop) → Prop := Classical.choose (⟨@Lp0, rfl⟩ : ∃ f, f = @Lp0)
theorem LpV_eq : @LpV = @Lp0 := Classical.choose_spec (⟨@Lp0, rfl⟩ : ∃ f, f = @Lp0)
theorem LpV.of {c : Code} (h : Lp (LF P T c) e s Q) : LpV P T c e s Q := by rw [LpV_eq]; exact h
theorem LpV.to {c : Code} (h : LpV P T c e s Q) : Lp (LF P T c) e s Q := by rw [LpV_eq] at h; exact h
theorem w_loop {c : Code} (h : LpV P T c e s Q) : Ev P T (.loop c) e s Q := .of h.to
theorem w_end {fn : Func} {K : PV → Store → Prop} {x : X} {r : PV} (hx : x ≠ .nrm → x = .ret) (h1 : resA T fn.results e s = some r) (h2 : K r s) : Bd T fn K x e s := by
 cases x with
 | nrm => exact ⟨r, h1, h2⟩
 | ret => exact ⟨r, h1, h2⟩
 | ext i => cases hx (by simp)
theorem w_fn {f : FuncId} {fn : Func} {c : Code} {args : List PV} {K : PV → Store → Prop} (hf : Try.prog.funcs[f]? = some fn) (hname : (fn.name == "runtime.NumGoroutine") = false) (hb : fn.body = some c) (hc : (codeOK fn.ntmps c && decide (args.length ≤ fn.ntmps)) = true)
  (h : Ev Try.prog E.T c (argE args) σ (Bd E.T fn K)) : EC Try.prog f args σ K := by
 simp only [Bool.and_eq_true, decide_eq_true_eq] at hc
 exact EC.intro hT hf hname hb hc.1 hc.2 h.to
end
theorem set_concat {α : Type} {l : List α} {a b : α} : (l ++ [a]).set l.length b = l ++ [b] := by simp
theorem wrap_id {n : Int} (h1 : -9223372036854775808 ≤ n) (h2 : n < 9223372036854775808) : IntKind.i64.wrap n = n := by
 simp only [IntKind.wrap, IntKind.signed, IntKind.bits]
 simp
 omega
theorem wrap_inc {i n : Nat} (h : i < n) (hn : n < 9223372036854775808) : IntKind.i64.wrap ((i : Int) + 1) = ((i + 1 : Nat) : Int) := by
 rw [wrap_id (by omega) (by omega)]
 omega
theorem call_isEff {T : TypeId → Option TI} {o : Op} {e : Env} {σ : Store} {f : FuncId} {args : List PV} (h : stepA T o e σ = .call f args) : isEff o = true := by
 have hk : ∀ {t : TypeId} {p q : PV} {r : AR}, appendA T t p q σ = r → r ≠ .call f args := fun hr he => by
  rcases append_cases hr (by rw [he]; simp) with ⟨_, h1, _⟩ | ⟨_, _, h1, _⟩ | ⟨_, _, _, _, h1, _⟩ <;> (rw [h1] at he; cases he)
 cases o with
 | call c =>
  simp only [stepA] at h
  split at h
  ·exfalso
   generalize hq : callA T _ c.argTypes (c.args.toList.map (val e)) σ = r at h
   unfold callA lenX at hq
   repeat' split at hq
   all_goals first | (subst hq; cases h; done) | (subst h; exact hk hq rfl)
  ·rename_i hc
   simp only [isEff, hc]
  ·cases h
 | makeFunc f a b => cases f <;> cases h
 | makeMap t r =>
  cases r with
  | some r => cases h
  | none => exfalso; revert h; simp only [stepA]; (repeat' split) <;> simp
 | slice t x lo hi mx => cases mx with
  | some m => cases h
  | none => exfalso; revert h; simp only [stepA]; (repeat' split) <;> simp
 | _ => exfalso; revert h; simp only [stepA]; (repeat' split) <;> simp
theorem eff_isEff {T : TypeId → Option TI} {o : Op} {e : Env} {σ σ' : Store} {p : PV} (h : stepA T o e σ = .eff p σ') : isEff o = true := by
 cases o with
 | call c =>
  simp only [stepA] at h
  split at h
  ·rename_i b hb
   simp only [isEff, hb]
   generalize hq : callA T _ c.argTypes (c.args.toList.map (val e)) σ = r at h
   unfold callA lenX at hq
   repeat' split at hq
   all_goals first | rfl | (subst hq; cases h)
  ·split at h <;> cases h
  ·cases h
 | store t x y => rfl
 | mapUpdate t a b c => rfl
 | makeFunc f a b => cases f <;> cases h
 | makeMap t r =>
  cases r with
  | some r => cases h
  | none => exfalso; revert h; simp only [stepA]; (repeat' split) <;> simp
 | slice t x lo hi mx => cases mx with
  | some m => cases h
  | none => exfalso; revert h; simp only [stepA]; (repeat' split) <;> simp
 | _ => exfalso; revert h; simp only [stepA]; (repeat' split) <;> simp
def Rest (P : Program) (T : TypeId → Option TI) (ops : Array Oper) (rest : List Oper) (e : Env) (d : Option Tmp) (K : Env → Store → Prop) (r : PV) (s : Store) : Prop := evOps P T ops rest (upd e d r) s K
noncomputable def evG (P : Program) (T : TypeId → Option TI) (ops : Array Oper) : List Oper → Env → Store → (Env → Store → Prop) → Prop
 | [], e, s, K => K e s
 | o :: rest, e, s, K => match wantedA ops o e with
  | some true => (match stepA T o.op e s with
   | .val p => evG P T ops rest (upd e o.dst p) s K
   | .new ob mk => evG P T ops rest (upd e o.dst (mk s.length)) (s ++ [some ob]) K
   | .eff p s' => evG P T ops rest (upd e o.dst p) s' K
   | .call f args => EC P f args s (Rest P T ops rest e o.dst K)
   | .bad => False)
  | some false => evG P T ops rest (upd e o.dst (.tu [])) s K
  | none => False
theorem evG_eq {P : Program} {T : TypeId → Option TI} {ops : Array Oper} {K : Env → Store → Prop} : ∀ (l : List Oper) (e : Env) (s : Store), evG P T ops l e s K = evOps P T ops l e s K
 | [], e, s => rfl
 | o :: rest, e, s => by
  unfold evG evOps stepK
  cases wantedA ops o e with
  | none => rfl
  | some b =>
   cases b with
   | false => exact evG_eq rest _ _
   | true =>
    simp only
    cases stepA T o.op e s with
    | val p => exact evG_eq rest _ _
    | new ob mk => exact evG_eq rest _ _
    | eff p s' => exact evG_eq rest _ _
    | call f args => rfl
    | bad => rfl
noncomputable def evH : (P : Program) → (T : TypeId → Option TI) → (ops : Array Oper) → List Oper → Env → Store → (Env → Store → Prop) → Prop := Classical.choose (⟨@evG, rfl⟩ : ∃ f, f = @evG)
theorem evH_eq : @evH = @evG := Classical.choose_spec (⟨@evG, rfl⟩ : ∃ f, f = @evG)
theorem evH_nil {P : Program} {T : TypeId → Option TI} {ops : Array Oper} {K : Env → Store → Prop} (e : Env) (s : Store) : evH P T ops [] e s K = K e s := by rw [evH_eq]; rfl
theorem evH_cons {P : Program} {T : TypeId → Option TI} {ops : Array Oper} {K : Env → Store → Prop} (o : Oper) (rest : List Oper) (e : Env) (s : Store) : evH P T ops (o :: rest) e s K = match wantedA ops o e with
  | some true => (match stepA T o.op e s with
   | .val p => evH P T ops rest (upd e o.dst p) s K
   | .new ob mk => evH P T ops rest (upd e o.dst (mk s.length)) (s ++ [some ob]) K
   | .eff p s' => evH P T ops rest (upd e o.dst p) s' K
   | .call f args => EC P f args s (Rest P T ops rest e o.dst K)
   | .bad => False)
  | some false => evH P T ops rest (upd e o.dst (.tu [])) s K
  | none => False := by rw [evH_eq]; rfl
def pureD (ops : Array Oper) : Bool := chkD ops && ops.toList.all (fun o => !isEff o.op && !isNew o.op) && newAll ops == 0
theorem evDl_pure {P : Program} {T : TypeId → Option TI} {ops : Array Oper} {base : Nat} {K : Env → Store → Prop} : ∀ (l : List Oper) (i : Nat) (e : Env) (s : Store), (∀ o ∈ l, isEff o.op = false ∧ isNew o.op = false) → evOps P T ops l e s K → evDl P T ops s base l i e s K
 | [], i, e, s, _, h => h
 | o :: l, i, e, s, hl, h => by
  obtain ⟨hE, hN⟩ := hl o List.mem_cons_self
  have hl' := fun o' ho' => hl o' (List.mem_cons_of_mem _ ho')
  unfold evDl evD1
  simp only [evOps] at h
  split at h
  ·unfold stepD
   rw [hE]
   simp only [Bool.false_eq_true, if_false]
   unfold stepK at h
   split at h
   ·rename_i p hr
    rw [hr]
    exact evDl_pure l _ _ _ hl' h
   ·rename_i ob mk hr
    rw [(new_isNew hr).1] at hN
    cases hN
   ·rename_i p s' hr
    exfalso
    have h1 := eff_isEff hr
    rw [hE] at h1
    cases h1
   ·rename_i f args hr
    exfalso
    have h1 := call_isEff hr
    rw [hE] at h1
    cases h1
   ·exact h.elim
  ·exact evDl_pure l _ _ _ hl' h
  ·exact h.elim
theorem opsTo_all (ops : Array Oper) : opsTo ops ops.size = ops := by
 unfold opsTo
 rw [List.take_of_length_le (by simp)]
theorem evDraw_pure {P : Program} {T : TypeId → Option TI} {ops : Array Oper} {e : Env} {s : Store} {K : Env → Store → Prop} (hm : P.follows .mixedOrders = true) (hp : (pureD ops && chkB ops ops.size) = true) (h : evOps P T ops ops.toList e s K) : evDraw P T ops e s K := by
 simp only [pureD, Bool.and_eq_true, List.all_eq_true, Bool.not_eq_true', beq_iff_eq] at hp
 obtain ⟨⟨⟨h1, h2⟩, h3⟩, h4⟩ := hp
 have hd : ops.toList.drop ops.size = [] := List.drop_of_length_le (by simp)
 refine ⟨hm, ops.size, h4, by rw [opsTo_all]; exact h1, s, ?_, ?_⟩
 ·rw [opsTo_all, h3]
  simp
  exact fun _ _ h => h
 ·rw [opsTo_all, h3, hd]
  simpa [evOps] using evDl_pure ops.toList 0 e s h2 h
end Go.Proofs.Ytohmmfimedgccaa.E
end
section
namespace Go.Proofs.Ytohmmfimedgccaa.E
set_option linter.unusedVariables false
section
variable {α β V W : Type}
def getI (xs : List α) (i : Int) : Option α := if 0 ≤ i then xs[i.toNat]? else none
def appO (b : Nat) (xs ys : List α) : Option (List α) := if (xs.length + ys.length) * b ≤ 140737488355328 ∧ xs.length + ys.length ≤ 140737488355328 then some (xs ++ ys) else none
def catO (a b : ByteArray) : Option ByteArray := if a.size + b.size ≤ 9223372036854775807 then some (a ++ b) else none
def getB (s : ByteArray) (i : Int) : Option Int := if 0 ≤ i then (s.data.toList[i.toNat]?).map fun b => (b.toNat : Int) else none
def subS (s : ByteArray) (l h : Int) : Option ByteArray := if 0 ≤ l ∧ l ≤ h ∧ h ≤ s.size then some (s.extract l.toNat h.toNat) else none
def appZ (b : Nat) (xs ys : List α) : Option (List α) := match xs with
 | [] => appO b [] ys
 | _ => none
theorem appZ_some {b : Nat} {xs ys zs : List α} (h : appZ b xs ys = some zs) : xs = [] ∧ appO b [] ys = some zs := by
 cases xs with
 | nil => exact ⟨rfl, h⟩
 | cons x l => cases h
def strInts (s : ByteArray) : List Int := s.data.toList.map fun b => (b.toNat : Int)
def bytesStr (l : List Int) : ByteArray := ⟨(l.map fun n => UInt8.ofNat n.toNat).toArray⟩
theorem getI_some {xs : List α} {i : Int} {x : α} (h : getI xs i = some x) : 0 ≤ i ∧ xs[i.toNat]? = some x := by
 unfold getI at h
 split at h
 ·exact ⟨‹_›, h⟩
 ·cases h
theorem appO_some {b : Nat} {xs ys zs : List α} (h : appO b xs ys = some zs) : ((xs.length + ys.length) * b ≤ 140737488355328 ∧ xs.length + ys.length ≤ 140737488355328) ∧ xs ++ ys = zs := by
 unfold appO at h
 split at h
 ·exact ⟨‹_›, Option.some.inj h⟩
 ·cases h
theorem catO_some {a b c : ByteArray} (h : catO a b = some c) : a.size + b.size ≤ 9223372036854775807 ∧ a ++ b = c := by
 unfold catO at h
 split at h
 ·exact ⟨‹_›, Option.some.inj h⟩
 ·cases h
theorem getB_some {s : ByteArray} {i n : Int} (h : getB s i = some n) : 0 ≤ i ∧ ∃ b : UInt8, s.data.toList[i.toNat]? = some b ∧ (b.toNat : Int) = n := by
 unfold getB at h
 split at h
 ·obtain ⟨b, h1, h2⟩ := Option.map_eq_some_iff.1 h
  exact ⟨‹_›, b, h1, h2⟩
 ·cases h
theorem subS_some {s r : ByteArray} {l h : Int} (hh : subS s l h = some r) : (0 ≤ l ∧ l ≤ h ∧ h ≤ s.size) ∧ s.extract l.toNat h.toNat = r := by
 unfold subS at hh
 split at hh
 ·exact ⟨‹_›, Option.some.inj hh⟩
 ·cases hh
theorem bnd_some {x : Option α} {f : α → Option β} {b : β} (h : x.bind f = some b) : ∃ a, x = some a ∧ f a = some b := Option.bind_eq_some_iff.1 h
theorem ite_some {c : Bool} {a b : Option α} {r : α} (h : (if c then a else b) = some r) : (c = true ∧ a = some r) ∨ (c = false ∧ b = some r) := by
 cases c
 ·exact .inr ⟨rfl, h⟩
 ·exact .inl ⟨rfl, h⟩
theorem some_inj {a b : α} (h : some a = some b) : a = b := Option.some.inj h
def iterN (f : V → Option (V ⊕ W)) : Nat → V → Option W
 | 0, _ => none
 | n + 1, v => (f v).bind fun x => match x with | .inl v' => iterN f n v' | .inr r => some r
theorem iterN_up {f : V → Option (V ⊕ W)} {r : W} : ∀ {n : Nat} {v : V}, iterN f n v = some r → ∀ {m : Nat}, n ≤ m → iterN f m v = some r
 | 0, _, h, _, _ => by cases h
 | n + 1, v, h, m, hm => by
  obtain ⟨k, rfl⟩ : ∃ k, m = k + 1 := ⟨m - 1, by omega⟩
  rw [iterN] at h ⊢
  cases hf : f v with
  | none => rw [hf] at h; cases h
  | some x =>
   rw [hf] at h
   cases x with
   | inl v' => exact iterN_up (n := n) (v := v') h (by omega)
   | inr r' => exact h
open Classical in
noncomputable def iterO (f : V → Option (V ⊕ W)) (v : V) : Option W := if h : ∃ r, ∃ n, iterN f n v = some r then some (Classical.choose h) else none
theorem iterO_iff {f : V → Option (V ⊕ W)} {v : V} {r : W} : iterO f v = some r ↔ ∃ n, iterN f n v = some r := by
 unfold iterO
 by_cases h : ∃ r, ∃ n, iterN f n v = some r
 ·rw [dif_pos h]
  obtain ⟨n, hn⟩ := Classical.choose_spec h
  constructor
  ·intro e
   cases e
   exact ⟨n, hn⟩
  ·rintro ⟨m, hm⟩
   have h1 := iterN_up hn (Nat.le_max_left n m)
   rw [iterN_up hm (Nat.le_max_right n m)] at h1
   exact h1.symm
 ·rw [dif_neg h]
  exact ⟨fun e => (by cases e), fun e => absurd ⟨r, e⟩ h⟩
theorem iterO_eq (f : V → Option (V ⊕ W)) (v : V) : iterO f v = (f v).bind fun x => match x with | .inl v' => iterO f v' | .inr r => some r := by
 refine Option.ext fun r => ?_
 rw [iterO_iff]
 cases hf : f v with
 | none =>
  refine ⟨fun ⟨n, h⟩ => ?_, fun h => (by cases h)⟩
  cases n with
  | zero => cases h
  | succ n => rw [iterN, hf] at h; cases h
 | some x =>
  cases x with
  | inl v' =>
   show _ ↔ iterO f v' = some r
   rw [iterO_iff]
   refine ⟨fun ⟨n, h⟩ => ?_, fun ⟨n, h⟩ => ⟨n + 1, by rw [iterN, hf]; exact h⟩⟩
   cases n with
   | zero => cases h
   | succ n => rw [iterN, hf] at h; exact ⟨n, h⟩
  | inr r' =>
   show _ ↔ some r' = some r
   refine ⟨fun ⟨n, h⟩ => ?_, fun h => ⟨1, by rw [iterN, hf]; exact h⟩⟩
   cases n with
   | zero => cases h
   | succ n => rw [iterN, hf] at h; exact h
theorem iterO_some {f : V → Option (V ⊕ W)} {M : V → W → Prop} (h1 : ∀ v v' r, f v = some (.inl v') → M v' r → M v r) (h2 : ∀ v r, f v = some (.inr r) → M v r) : ∀ v r, iterO f v = some r → M v r := by
 intro v r h
 obtain ⟨n, hn⟩ := iterO_iff.1 h
 clear h
 induction n generalizing v with
 | zero => cases hn
 | succ n ih =>
  rw [iterN] at hn
  obtain ⟨x, hx, h⟩ := Option.bind_eq_some_iff.1 hn
  cases x with
  | inl v' => exact h1 v v' r hx (ih v' h)
  | inr r' =>
   obtain rfl := Option.some.inj h
   exact h2 v _ hx
theorem iterO_next {f : V → Option (V ⊕ W)} {v v' : V} (h : f v = some (.inl v')) : iterO f v = iterO f v' := by rw [iterO_eq, h]; rfl
theorem iterO_end {f : V → Option (V ⊕ W)} {v : V} {r : W} (h : f v = some (.inr r)) : iterO f v = some r := by rw [iterO_eq, h]; rfl
end
structure Mp (V : Type) where
 get : ByteArray → Option V
 n : Nat
def Mp.emp {V : Type} : Mp V := ⟨fun _ => none, 0⟩
def Mp.put {V : Type} (m : Mp V) (k : ByteArray) (v : V) : Mp V := ⟨fun x => if x = k then some v else m.get x, m.n + 1⟩
instance {V : Type} : Inhabited (Mp V) := ⟨Mp.emp⟩
end Go.Proofs.Ytohmmfimedgccaa.E
end
section
namespace Go.Proofs.Ytohmmfimedgccaa.E
set_option linter.unusedVariables false
set_option linter.unusedSimpArgs false
def mpF {V : Type} (f : V → PV) (g : ByteArray → Option V) : Value → Option PV := fun x => match x with | .string s => (g s).map f | _ => none
theorem mpF_str {V : Type} (f : V → PV) (g : ByteArray → Option V) (s : ByteArray) : mpF f g (.string s) = (g s).map f := rfl
inductive WkL : List PV → List PV → Prop
 | nil : WkL [] []
 | cons {p q : PV} {ps qs : List PV} : Wk p q → WkL ps qs → WkL (p :: ps) (q :: qs)
theorem Wk.of_eq {p q : PV} (h : p = q) : Wk p q := h ▸ .refl p
theorem WkL.len {ps qs : List PV} (h : WkL ps qs) : ps.length = qs.length := by
 induction h with
 | nil => rfl
 | cons h1 h2 ih => simp [ih]
theorem WkL.get {ps qs : List PV} (h : WkL ps qs) : ∀ (i : Nat) p q, ps[i]? = some p → qs[i]? = some q → Wk p q := by
 induction h with
 | nil => intro i p q h1; simp at h1
 | cons h1 h2 ih =>
  intro i p q h3 h4
  cases i with
  | zero => simp at h3 h4; subst h3 h4; exact h1
  | succ i => exact ih i p q (by simpa using h3) (by simpa using h4)
theorem WkL.refl : ∀ (ps : List PV), WkL ps ps
 | [] => .nil
 | p :: ps => .cons (.refl p) (WkL.refl ps)
theorem Wk.agl {ps qs : List PV} (h : WkL ps qs) : Wk (.ag ps) (.ag qs) := .ag h.len h.get
theorem Wk.tul {ps qs : List PV} (h : WkL ps qs) : Wk (.tu ps) (.tu qs) := .tu h.len h.get
inductive WkLL : List (List PV) → List (List PV) → Prop
 | nil : WkLL [] []
 | cons {r q : List PV} {rs qs : List (List PV)} : WkL r q → WkLL rs qs → WkLL (r :: rs) (q :: qs)
theorem WkLL.len {ps qs : List (List PV)} (h : WkLL ps qs) : ps.length = qs.length := by
 induction h with
 | nil => rfl
 | cons h1 h2 ih => simp [ih]
theorem WkLL.get {ps qs : List (List PV)} (h : WkLL ps qs) : ∀ (i : Nat) p q, ps[i]? = some p → qs[i]? = some q → WkL p q := by
 induction h with
 | nil => intro i p q h1; simp at h1
 | cons h1 h2 ih =>
  intro i p q h3 h4
  cases i with
  | zero => simp at h3 h4; subst h3 h4; exact h1
  | succ i => exact ih i p q (by simpa using h3) (by simpa using h4)
theorem Wk.owr {t : Nat} {rows : List (List PV)} : Wk (.ow t rows) (.sl rows) := .ow (.refl _)
theorem WkE.upd {e e' : Env} {t : Tmp} {p q : PV} (h : WkE e e') (he : e t = p) (hw : Wk p q) : WkE e (upd e' (some t) q) := fun x => by
 rw [upd_some]
 split
 ·rename_i hx
  rw [hx, he]
  exact hw
 ·exact h x
section
variable {P : Program} {T : TypeId → Option TI} {σ σ' s s' : Store} {e : Env} {Q : X → Env → Store → Prop}
theorem EC.wka {f : FuncId} {args args' : List PV} {K : PV → Store → Prop} (hw : WkL args args') (h : EC P f args' σ K) : EC P f args σ K :=
 ⟨h.1, fun F hF μ w vs hs hvs => h.2 F hF μ w vs hs ⟨by rw [hvs.1, hw.len], fun i x q hx hq => (hvs.2 i x _ hx (List.getElem?_eq_getElem (by have := (List.getElem?_eq_some_iff.1 hq).1; have := hw.len; omega))).wk (hw.get i _ q (List.getElem?_eq_getElem (by have := (List.getElem?_eq_some_iff.1 hq).1; have := hw.len; omega)) hq)⟩⟩
theorem CT.mono {f : FuncId} {vs : Array Value} {w : World} {Q Q' : Value → World → Prop} (hQ : ∀ x w, Q x w → Q' x w) (h : CT P f vs w Q) : CT P f vs w Q' := by
 rcases h with ⟨a, b⟩ | ⟨x, w', a, b⟩
 ·exact .inl ⟨a, b.mono fun e w' ⟨x, hx, hp⟩ => ⟨x, hx, hQ x w' hp⟩⟩
 ·exact .inr ⟨x, w', a, hQ x w' b⟩
theorem EC.wkr {f : FuncId} {args : List PV} {K : PV → Store → Prop} (h : EC P f args σ fun r s => ∃ r', Wk r r' ∧ K r' s) : EC P f args σ K := by
 refine ⟨?_, fun F hF μ w vs hs hvs => (h.2 F hF μ w vs hs hvs).mono fun x w' hx => ?_⟩
 ·obtain ⟨r, s, h1, r', _, h2⟩ := h.1
  exact ⟨r', s, h1, h2⟩
 ·obtain ⟨r, σ', μ', k1, k2, k3, s0, k4, k5, r', k6, k7⟩ := hx
  exact ⟨r', σ', μ', k1, k2, k3.wk k6, s0, k4, k5, k7⟩
def Cw (I : Env → Store → Prop) (K : X → Env → Store → Prop) (x : X) (e : Env) (s : Store) : Prop := match x with | .nrm => ∃ e2, WkE e e2 ∧ I e2 s | x => K x e s
theorem w_sa {a b : Code} (I : Env → Store → Prop) (h : Ev P T a e s (Cw I Q)) (rest : ∀ e s, I e s → Ev P T b e s Q) : Ev P T (.seq a b) e s Q :=
 .of (ev_mono a (fun x e s hx => by
  cases x with
  | nrm => obtain ⟨e2, hw, hi⟩ := hx; exact ⟨e2, hw, (rest e2 s hi).to⟩
  | ext i => exact hx
  | ret => exact hx) e s h.to)
def Iq {V W : Type} (I : V → Env → Store → Prop) (x : V ⊕ W) (r : W) (Q : X → Env → Store → Prop) (y : X) (e : Env) (s : Store) : Prop := match y with
 | .nrm => ∃ v', x = .inl v' ∧ ∃ e2, WkE e e2 ∧ I v' e2 s
 | y => ∃ r', x = .inr r' ∧ (r' = r → Q y e s)
theorem w_iter {V W : Type} {c : Code} {f : V → Option (V ⊕ W)} {v : V} {r : W} (h : iterO f v = some r) (I : V → Env → Store → Prop) (hI : ∃ e2, WkE e e2 ∧ I v e2 s)
  (step : ∀ v x e s, f v = some x → I v e s → Ev P T c e s (Iq I x r Q)) : Ev P T (.loop c) e s Q := by
 have main : ∀ v r', iterO f v = some r' → r' = r → ∀ e s, (∃ e2, WkE e e2 ∧ I v e2 s) → LpV P T c e s Q := by
  refine iterO_some (fun v v' r' hf ih hr e s hi => ?_) (fun v r' hf hr e s hi => ?_)
  ·obtain ⟨e2, hw, hi⟩ := hi
   refine .of (Lp.round hw (ev_mono c (fun y e s hy => ?_) e2 s (step v _ e2 s hf hi).to))
   cases y with
   | nrm =>
    obtain ⟨v1, h1, h2⟩ := hy
    obtain rfl := Sum.inl.inj h1
    exact (ih hr e s h2).to
   | ext i => obtain ⟨_, h1, _⟩ := hy; cases h1
   | ret => obtain ⟨_, h1, _⟩ := hy; cases h1
  ·obtain ⟨e2, hw, hi⟩ := hi
   refine .of (Lp.round hw (ev_mono c (fun y e s hy => ?_) e2 s (step v _ e2 s hf hi).to))
   cases y with
   | nrm => obtain ⟨_, h1, _⟩ := hy; cases h1
   | ext i => obtain ⟨r1, h1, h2⟩ := hy; exact h2 ((Sum.inr.inj h1).symm.trans hr)
   | ret => obtain ⟨r1, h1, h2⟩ := hy; exact h2 ((Sum.inr.inj h1).symm.trans hr)
 exact w_loop (main v r h rfl e s hI)
theorem sub_self (s : Store) : sub s s = True := eq_true fun _ _ h => h
theorem sub_apps (s l : Store) : sub s (s ++ l) = True := eq_true fun i o h => ⟨by rw [List.getElem?_append_left (List.getElem?_eq_some_iff.1 h.1).1]; exact h.1, h.2⟩
def Pre (σ s : Store) : Prop := ∃ ex, s = σ ++ ex
theorem Pre.refl (σ : Store) : Pre σ σ := ⟨[], by simp⟩
theorem Pre.app (h : Pre σ s) (x : Store) : Pre σ (s ++ x) := by
 obtain ⟨ex, rfl⟩ := h
 exact ⟨_, List.append_assoc _ _ _⟩
theorem Pre.set (h : Pre σ s) {i : Nat} (hi : σ.length ≤ i) (o : Option AObj) : Pre σ (s.set i o) := by
 obtain ⟨ex, rfl⟩ := h
 exact ⟨ex.set (i - σ.length) o, by rw [List.set_append_right _ _ hi]⟩
theorem Pre.le (h : Pre σ s) : σ.length ≤ s.length := by
 obtain ⟨ex, rfl⟩ := h
 simp
structure Bx (σ s : Store) (i : Nat) (t : TypeId) (c : List PV) : Prop where
 le : σ.length ≤ i
 get : s[i]? = some (some (.box t c))
variable {i j : Nat} {t : TypeId} {c c' : List PV}
theorem Bx.new (h : Pre σ s) (t : TypeId) (c : List PV) : Bx σ (s ++ [some (.box t c)]) s.length t c := ⟨h.le, by simp⟩
theorem Bx.app (h : Bx σ s i t c) (x : Store) : Bx σ (s ++ x) i t c := ⟨h.le, by rw [List.getElem?_append_left (List.getElem?_eq_some_iff.1 h.get).1]; exact h.get⟩
theorem Bx.any (h : Bx σ s i t c) : ∀ x, (s ++ x)[i]? = some (some (.box t c)) := fun x => (h.app x).get
theorem Bx.any2 (h : Bx σ s i t c) : ∀ x y, (s ++ x ++ y)[i]? = some (some (.box t c)) := fun x y => ((h.app x).app y).get
theorem Bx.lt (h : Bx σ s i t c) : i < s.length := (List.getElem?_eq_some_iff.1 h.get).1
theorem Bx.same (h : Bx σ s i t c) (t' : TypeId) (c' : List PV) : Bx σ (s.set i (some (.box t' c'))) i t' c' := ⟨h.le, by rw [List.getElem?_set_self h.lt]⟩
theorem Bx.ne (h : Bx σ s i t c) (hne : j ≠ i) (o : Option AObj) : Bx σ (s.set j o) i t c := ⟨h.le, by rw [List.getElem?_set_ne hne]; exact h.get⟩
theorem appn2 (s : Store) (a b : Option AObj) : (s ++ [a] ++ [b])[s.length]? = some a := by simp
theorem appn3 (s : Store) (a b c : Option AObj) : (s ++ [a] ++ [b] ++ [c])[s.length]? = some a := by simp
def Acc (σ s : Store) (p : PV) (e : TypeId) (sz : Nat) (rows : List (List PV)) : Prop :=
 (rows = [] ∧ (p = .v (.slice none 0 0) ∨ p = .e0)) ∨ ∃ t, p = .ow t rows ∧ σ.length ≤ t ∧ s[t]? = some (some (.tok e sz rows.length))
def Keep (p : PV) (s s' : Store) : Prop := (∀ i o, s[i]? = some (some o) → (∀ r, p ≠ .ow i r) → s'[i]? = some (some o)) ∧ s.length ≤ s'.length
variable {p q : PV} {ty : TypeId} {sz : Nat} {rows ns : List (List PV)}
theorem Acc.nil (σ s : Store) (ty : TypeId) (sz : Nat) : Acc σ s (.v (.slice none 0 0)) ty sz [] := .inl ⟨rfl, .inl rfl⟩
theorem Acc.e0 (σ s : Store) (ty : TypeId) (sz : Nat) : Acc σ s .e0 ty sz [] := .inl ⟨rfl, .inr rfl⟩
theorem Acc.wk (h : Acc σ s p ty sz rows) : Wk p (.sl rows) := by
 rcases h with ⟨rfl, rfl | rfl⟩ | ⟨t, rfl, _⟩
 ·exact .nil
 ·exact .e0
 ·exact .owr
theorem Acc.rowsOf (h : Acc σ s p ty sz rows) : rowsOf p = some rows := by
 rcases h with ⟨rfl, rfl | rfl⟩ | ⟨t, rfl, _⟩ <;> rfl
theorem Acc.keep (h : Acc σ s p ty sz rows) (k : Keep q s s') (ha : ∀ t r r', p = .ow t r → q ≠ .ow t r') : Acc σ s' p ty sz rows := by
 rcases h with h | ⟨t, h1, h2, h3⟩
 ·exact .inl h
 ·exact .inr ⟨t, h1, h2, k.1 t _ h3 fun r => ha t _ r h1⟩
theorem Acc.app (h : Acc σ s p ty sz rows) (x : Store) : Acc σ (s ++ x) p ty sz rows := by
 rcases h with h | ⟨t, h1, h2, h3⟩
 ·exact .inl h
 ·exact .inr ⟨t, h1, h2, by rw [List.getElem?_append_left (List.getElem?_eq_some_iff.1 h3).1]; exact h3⟩
theorem Acc.set (h : Acc σ s p ty sz rows) (hb : Bx σ s i t c) (o : Option AObj) : Acc σ (s.set i o) p ty sz rows := by
 rcases h with h | ⟨k, h1, h2, h3⟩
 ·exact .inl h
 ·refine .inr ⟨k, h1, h2, ?_⟩
  rw [List.getElem?_set_ne]
  ·exact h3
  ·rintro rfl
   have := hb.get.symm.trans h3
   injection this with this
   injection this with this
   cases this
theorem Bx.keep (h : Bx σ s i t c) (ha : Acc σ s q ty sz rows) (k : Keep q s s') : Bx σ s' i t c := by
 refine ⟨h.le, k.1 i _ h.get fun r hr => ?_⟩
 rcases ha with ⟨_, rfl | rfl⟩ | ⟨k, rfl, h2, h3⟩
 ·cases hr
 ·cases hr
 ·injection hr with h4 h5
  subst h4
  have := h.get.symm.trans h3
  injection this with this
  injection this with this
  cases this
theorem Acc.push {tl : TypeId} {ti : TI} {a b : Nat} {g m : Bool} {z : List Z} (hT : T tl = some ⟨a, b, g, m, z, .slc ty⟩) (hE : T ty = some ti) (h : Acc σ s p ty ti.sz rows) (hp : Pre σ s) (hr : ∀ r ∈ rows, r.length = ti.sz) (hn : ∀ r ∈ ns, r.length = ti.sz) (hne : ns ≠ []) (h0 : 0 < ti.sz)
  (hb : (rows.length + ns.length) * ti.bytes ≤ 140737488355328 ∧ rows.length + ns.length ≤ 140737488355328) : ∃ p' s', (∀ x, E.rowsOf x = some ns → appendA T tl p x s = .eff p' s') ∧ Acc σ s' p' ty ti.sz (rows ++ ns) ∧ Pre σ s' ∧ Keep p s s' ∧ (∀ q : PV, (∀ t r r', q = .ow t r → p ≠ .ow t r' ∧ t < s.length) → ∀ t r r', q = .ow t r → p' ≠ .ow t r') ∧ (∀ H, sub H s → (∀ t r, p = .ow t r → H.length ≤ t) → sub H s') ∧ (∀ n, n ≤ s.length → (∀ t r, p = .ow t r → n ≤ t) → ∀ t r, p' = .ow t r → n ≤ t) := by
 have hc : (∀ r ∈ ns, r.length = ti.sz) ∧ 0 < ti.sz := ⟨hn, h0⟩
 rcases h with ⟨rfl, rfl | rfl⟩ | ⟨k, rfl, h2, h3⟩
 ·refine ⟨.ow s.length ns, s ++ [some (.tok ty ti.sz ns.length)], fun x hx => ?_, .inr ⟨_, rfl, hp.le, by simp⟩, hp.app _, ⟨fun i o hi _ => by rw [List.getElem?_append_left (List.getElem?_eq_some_iff.1 hi).1]; exact hi, by simp⟩, fun q hq t r r' h1 h2 => ?_, fun H hH _ i o hl => ?_, fun n hn _ t r h1 => ?_⟩
  ·simp only [appendA, hT, hE, hx, hne, if_false]
   rw [if_pos hc, if_pos (by simpa using hb)]
  ·injection h2 with h2
   have := (hq t r [] h1).2
   omega
  ·exact of_eq_true (sub_apps _ _) i o (hH i o hl)
  ·injection h1 with h1
   omega
 ·refine ⟨.ow s.length ns, s ++ [some (.tok ty ti.sz ns.length)], fun x hx => ?_, .inr ⟨_, rfl, hp.le, by simp⟩, hp.app _, ⟨fun i o hi _ => by rw [List.getElem?_append_left (List.getElem?_eq_some_iff.1 hi).1]; exact hi, by simp⟩, fun q hq t r r' h1 h2 => ?_, fun H hH _ i o hl => ?_, fun n hn _ t r h1 => ?_⟩
  ·simp only [appendA, hT, hE, hx, hne, if_false]
   rw [if_pos hc, if_pos (by simpa using hb)]
  ·injection h2 with h2
   have := (hq t r [] h1).2
   omega
  ·exact of_eq_true (sub_apps _ _) i o (hH i o hl)
  ·injection h1 with h1
   omega
 ·refine ⟨.ow k (rows ++ ns), s.set k (some (.tok ty ti.sz (rows.length + ns.length))), fun x hx => ?_, .inr ⟨k, rfl, h2, by rw [List.getElem?_set_self (List.getElem?_eq_some_iff.1 h3).1, List.length_append]⟩, hp.set h2 _, ⟨fun i o hi hne => by rw [List.getElem?_set_ne (by rintro rfl; exact hne _ rfl)]; exact hi, by simp⟩, fun q hq t r r' h1 h4 => ?_, fun H hH hk i o hl => ?_, fun n hn hk t r h1 => ?_⟩
  ·simp only [appendA, hT, hE, hx, hne, if_false]
   rw [if_pos hc]
   simp only [h3]
   rw [if_pos ⟨trivial, trivial, trivial, hr, hb⟩]
  ·injection h4 with h4
   subst h4
   exact (hq k r rows h1).1 rfl
  ·have h5 := hH i o hl
   have h6 := hk k rows rfl
   have h7 := (List.getElem?_eq_some_iff.1 hl.1).1
   exact ⟨by rw [List.getElem?_set_ne (by omega)]; exact h5.1, h5.2⟩
  ·injection h1 with h1
   subst h1
   exact hk k rows rfl
theorem Acc.lenX {tl : TypeId} {a b : Nat} {g m : Bool} {z : List Z} (hT : T tl = some ⟨a, b, g, m, z, .slc ty⟩) (h : Acc σ s p ty sz rows) : E.lenX T tl p s = .val (.v (.int .i64 rows.length)) := by
 rcases h with ⟨rfl, rfl | rfl⟩ | ⟨t, rfl, _⟩ <;> simp [E.lenX, hT, E.rowsOf]
theorem Acc.cast {r r' : List (List PV)} (hr : r = r') (h : Acc σ s p ty sz r) : Acc σ s p ty sz r' := hr ▸ h
theorem Acc.lt (h : Acc σ s p ty sz rows) : ∀ t r, p = .ow t r → t < s.length := by
 rcases h with ⟨_, rfl | rfl⟩ | ⟨k, rfl, h2, h3⟩
 ·intro t r hh; cases hh
 ·intro t r hh; cases hh
 ·intro t r hh
  injection hh with hh
  subst hh
  exact (List.getElem?_eq_some_iff.1 h3).1
inductive Cn : PV → Prop
 | v (x : Value) : Cn (.v x)
 | e0 : Cn .e0
 | sl {rows : List (List PV)} : (∀ r ∈ rows, ∀ p ∈ r, Cn p) → Cn (.sl rows)
 | ag {ps : List PV} : (∀ p ∈ ps, Cn p) → Cn (.ag ps)
 | tu {ps : List PV} : (∀ p ∈ ps, Cn p) → Cn (.tu ps)
theorem Cn.cl {p : PV} (h : Cn p) (n : Nat) : Cl n p := by
 induction h with
 | v x => exact .v x
 | e0 => exact .e0
 | sl h ih => exact .sl ih
 | ag h ih => exact .ag ih
 | tu h ih => exact .tu ih
def Pw (σ : Store) (K : PV → Store → Prop) (r : PV) (s : Store) : Prop := Pre σ s ∧ ∃ r', Wk r r' ∧ Cn r' ∧ K r' σ
end
theorem w_fp {σ : Store} {f : FuncId} {fn : Func} {c : Code} {args : List PV} {K : PV → Store → Prop} (hf : Try.prog.funcs[f]? = some fn) (hname : (fn.name == "runtime.NumGoroutine") = false) (hb : fn.body = some c) (hc : (codeOK fn.ntmps c && decide (args.length ≤ fn.ntmps)) = true)
  (h : Ev Try.prog E.T c (argE args) σ (Bd E.T fn (Pw σ K))) : EC Try.prog f args σ K :=
 EC.pure (EC.wkr ((w_fn hf hname hb hc h).mono fun r s ⟨h1, r', h2, h3, h4⟩ => ⟨r', h2, h1, h3.cl _, h4⟩))
theorem cj2 {a0 a1 : Prop} (h0 : a0) (h1 : a1) : a0 ∧ a1 := ⟨h0, h1⟩
theorem cj3 {a0 a1 a2 : Prop} (h0 : a0) (h1 : a1) (h2 : a2) : a0 ∧ a1 ∧ a2 := ⟨h0, h1, h2⟩
theorem cj4 {a0 a1 a2 a3 : Prop} (h0 : a0) (h1 : a1) (h2 : a2) (h3 : a3) : a0 ∧ a1 ∧ a2 ∧ a3 := ⟨h0, h1, h2, h3⟩
theorem cj5 {a0 a1 a2 a3 a4 : Prop} (h0 : a0) (h1 : a1) (h2 : a2) (h3 : a3) (h4 : a4) : a0 ∧ a1 ∧ a2 ∧ a3 ∧ a4 := ⟨h0, h1, h2, h3, h4⟩
theorem cj6 {a0 a1 a2 a3 a4 a5 : Prop} (h0 : a0) (h1 : a1) (h2 : a2) (h3 : a3) (h4 : a4) (h5 : a5) : a0 ∧ a1 ∧ a2 ∧ a3 ∧ a4 ∧ a5 := ⟨h0, h1, h2, h3, h4, h5⟩
theorem cj7 {a0 a1 a2 a3 a4 a5 a6 : Prop} (h0 : a0) (h1 : a1) (h2 : a2) (h3 : a3) (h4 : a4) (h5 : a5) (h6 : a6) : a0 ∧ a1 ∧ a2 ∧ a3 ∧ a4 ∧ a5 ∧ a6 := ⟨h0, h1, h2, h3, h4, h5, h6⟩
theorem cj8 {a0 a1 a2 a3 a4 a5 a6 a7 : Prop} (h0 : a0) (h1 : a1) (h2 : a2) (h3 : a3) (h4 : a4) (h5 : a5) (h6 : a6) (h7 : a7) : a0 ∧ a1 ∧ a2 ∧ a3 ∧ a4 ∧ a5 ∧ a6 ∧ a7 := ⟨h0, h1, h2, h3, h4, h5, h6, h7⟩
theorem cj9 {a0 a1 a2 a3 a4 a5 a6 a7 a8 : Prop} (h0 : a0) (h1 : a1) (h2 : a2) (h3 : a3) (h4 : a4) (h5 : a5) (h6 : a6) (h7 : a7) (h8 : a8) : a0 ∧ a1 ∧ a2 ∧ a3 ∧ a4 ∧ a5 ∧ a6 ∧ a7 ∧ a8 := ⟨h0, h1, h2, h3, h4, h5, h6, h7, h8⟩
theorem cj10 {a0 a1 a2 a3 a4 a5 a6 a7 a8 a9 : Prop} (h0 : a0) (h1 : a1) (h2 : a2) (h3 : a3) (h4 : a4) (h5 : a5) (h6 : a6) (h7 : a7) (h8 : a8) (h9 : a9) : a0 ∧ a1 ∧ a2 ∧ a3 ∧ a4 ∧ a5 ∧ a6 ∧ a7 ∧ a8 ∧ a9 := ⟨h0, h1, h2, h3, h4, h5, h6, h7, h8, h9⟩
theorem cj11 {a0 a1 a2 a3 a4 a5 a6 a7 a8 a9 a10 : Prop} (h0 : a0) (h1 : a1) (h2 : a2) (h3 : a3) (h4 : a4) (h5 : a5) (h6 : a6) (h7 : a7) (h8 : a8) (h9 : a9) (h10 : a10) : a0 ∧ a1 ∧ a2 ∧ a3 ∧ a4 ∧ a5 ∧ a6 ∧ a7 ∧ a8 ∧ a9 ∧ a10 := ⟨h0, h1, h2, h3, h4, h5, h6, h7, h8, h9, h10⟩
theorem cj12 {a0 a1 a2 a3 a4 a5 a6 a7 a8 a9 a10 a11 : Prop} (h0 : a0) (h1 : a1) (h2 : a2) (h3 : a3) (h4 : a4) (h5 : a5) (h6 : a6) (h7 : a7) (h8 : a8) (h9 : a9) (h10 : a10) (h11 : a11) : a0 ∧ a1 ∧ a2 ∧ a3 ∧ a4 ∧ a5 ∧ a6 ∧ a7 ∧ a8 ∧ a9 ∧ a10 ∧ a11 := ⟨h0, h1, h2, h3, h4, h5, h6, h7, h8, h9, h10, h11⟩
theorem cj13 {a0 a1 a2 a3 a4 a5 a6 a7 a8 a9 a10 a11 a12 : Prop} (h0 : a0) (h1 : a1) (h2 : a2) (h3 : a3) (h4 : a4) (h5 : a5) (h6 : a6) (h7 : a7) (h8 : a8) (h9 : a9) (h10 : a10) (h11 : a11) (h12 : a12) : a0 ∧ a1 ∧ a2 ∧ a3 ∧ a4 ∧ a5 ∧ a6 ∧ a7 ∧ a8 ∧ a9 ∧ a10 ∧ a11 ∧ a12 := ⟨h0, h1, h2, h3, h4, h5, h6, h7, h8, h9, h10, h11, h12⟩
theorem cj14 {a0 a1 a2 a3 a4 a5 a6 a7 a8 a9 a10 a11 a12 a13 : Prop} (h0 : a0) (h1 : a1) (h2 : a2) (h3 : a3) (h4 : a4) (h5 : a5) (h6 : a6) (h7 : a7) (h8 : a8) (h9 : a9) (h10 : a10) (h11 : a11) (h12 : a12) (h13 : a13) : a0 ∧ a1 ∧ a2 ∧ a3 ∧ a4 ∧ a5 ∧ a6 ∧ a7 ∧ a8 ∧ a9 ∧ a10 ∧ a11 ∧ a12 ∧ a13 := ⟨h0, h1, h2, h3, h4, h5, h6, h7, h8, h9, h10, h11, h12, h13⟩
theorem cj16 {a0 a1 a2 a3 a4 a5 a6 a7 a8 a9 a10 a11 a12 a13 a14 a15 : Prop} (h0 : a0) (h1 : a1) (h2 : a2) (h3 : a3) (h4 : a4) (h5 : a5) (h6 : a6) (h7 : a7) (h8 : a8) (h9 : a9) (h10 : a10) (h11 : a11) (h12 : a12) (h13 : a13) (h14 : a14) (h15 : a15) : a0 ∧ a1 ∧ a2 ∧ a3 ∧ a4 ∧ a5 ∧ a6 ∧ a7 ∧ a8 ∧ a9 ∧ a10 ∧ a11 ∧ a12 ∧ a13 ∧ a14 ∧ a15 := ⟨h0, h1, h2, h3, h4, h5, h6, h7, h8, h9, h10, h11, h12, h13, h14, h15⟩
theorem cj17 {a0 a1 a2 a3 a4 a5 a6 a7 a8 a9 a10 a11 a12 a13 a14 a15 a16 : Prop} (h0 : a0) (h1 : a1) (h2 : a2) (h3 : a3) (h4 : a4) (h5 : a5) (h6 : a6) (h7 : a7) (h8 : a8) (h9 : a9) (h10 : a10) (h11 : a11) (h12 : a12) (h13 : a13) (h14 : a14) (h15 : a15) (h16 : a16) : a0 ∧ a1 ∧ a2 ∧ a3 ∧ a4 ∧ a5 ∧ a6 ∧ a7 ∧ a8 ∧ a9 ∧ a10 ∧ a11 ∧ a12 ∧ a13 ∧ a14 ∧ a15 ∧ a16 := ⟨h0, h1, h2, h3, h4, h5, h6, h7, h8, h9, h10, h11, h12, h13, h14, h15, h16⟩
theorem cj18 {a0 a1 a2 a3 a4 a5 a6 a7 a8 a9 a10 a11 a12 a13 a14 a15 a16 a17 : Prop} (h0 : a0) (h1 : a1) (h2 : a2) (h3 : a3) (h4 : a4) (h5 : a5) (h6 : a6) (h7 : a7) (h8 : a8) (h9 : a9) (h10 : a10) (h11 : a11) (h12 : a12) (h13 : a13) (h14 : a14) (h15 : a15) (h16 : a16) (h17 : a17) : a0 ∧ a1 ∧ a2 ∧ a3 ∧ a4 ∧ a5 ∧ a6 ∧ a7 ∧ a8 ∧ a9 ∧ a10 ∧ a11 ∧ a12 ∧ a13 ∧ a14 ∧ a15 ∧ a16 ∧ a17 := ⟨h0, h1, h2, h3, h4, h5, h6, h7, h8, h9, h10, h11, h12, h13, h14, h15, h16, h17⟩
theorem cj19 {a0 a1 a2 a3 a4 a5 a6 a7 a8 a9 a10 a11 a12 a13 a14 a15 a16 a17 a18 : Prop} (h0 : a0) (h1 : a1) (h2 : a2) (h3 : a3) (h4 : a4) (h5 : a5) (h6 : a6) (h7 : a7) (h8 : a8) (h9 : a9) (h10 : a10) (h11 : a11) (h12 : a12) (h13 : a13) (h14 : a14) (h15 : a15) (h16 : a16) (h17 : a17) (h18 : a18) : a0 ∧ a1 ∧ a2 ∧ a3 ∧ a4 ∧ a5 ∧ a6 ∧ a7 ∧ a8 ∧ a9 ∧ a10 ∧ a11 ∧ a12 ∧ a13 ∧ a14 ∧ a15 ∧ a16 ∧ a17 ∧ a18 := ⟨h0, h1, h2, h3, h4, h5, h6, h7, h8, h9, h10, h11, h12, h13, h14, h15, h16, h17, h18⟩
theorem cj20 {a0 a1 a2 a3 a4 a5 a6 a7 a8 a9 a10 a11 a12 a13 a14 a15 a16 a17 a18 a19 : Prop} (h0 : a0) (h1 : a1) (h2 : a2) (h3 : a3) (h4 : a4) (h5 : a5) (h6 : a6) (h7 : a7) (h8 : a8) (h9 : a9) (h10 : a10) (h11 : a11) (h12 : a12) (h13 : a13) (h14 : a14) (h15 : a15) (h16 : a16) (h17 : a17) (h18 : a18) (h19 : a19) : a0 ∧ a1 ∧ a2 ∧ a3 ∧ a4 ∧ a5 ∧ a6 ∧ a7 ∧ a8 ∧ a9 ∧ a10 ∧ a11 ∧ a12 ∧ a13 ∧ a14 ∧ a15 ∧ a16 ∧ a17 ∧ a18 ∧ a19 := ⟨h0, h1, h2, h3, h4, h5, h6, h7, h8, h9, h10, h11, h12, h13, h14, h15, h16, h17, h18, h19⟩
theorem w_assoc {P : Program} {T : TypeId → Option TI} {s : Store} {e : Env} {Q : X → Env → Store → Prop} {a b c : Code} (h : Ev P T (.seq a (.seq b c)) e s Q) : Ev P T (.seq (.seq a b) c) e s Q :=
 .of (ev_mono a (fun x e s hx => by
  cases x with
  | nrm =>
   obtain ⟨e2, hw, hx⟩ := hx
   refine ⟨e2, hw, ev_mono b (fun y e s hy => ?_) e2 s hx⟩
   cases y <;> exact hy
  | ext i => exact hx
  | ret => exact hx) e s h.to)
theorem cw_n {I : Env → Store → Prop} {K : X → Env → Store → Prop} {e : Env} {s : Store} (h : ∃ e2, WkE e e2 ∧ I e2 s) : Cw I K .nrm e s := h
theorem cw_x {I : Env → Store → Prop} {K : X → Env → Store → Prop} {e : Env} {s : Store} {i : Nat} (h : K (.ext i) e s) : Cw I K (.ext i) e s := h
theorem cw_r {I : Env → Store → Prop} {K : X → Env → Store → Prop} {e : Env} {s : Store} (h : K .ret e s) : Cw I K .ret e s := h
theorem iq_n {V W : Type} {I : V → Env → Store → Prop} {x : V ⊕ W} {r : W} {Q : X → Env → Store → Prop} {e : Env} {s : Store} {v' : V} (hx : x = .inl v') (h : ∃ e2, WkE e e2 ∧ I v' e2 s) : Iq I x r Q .nrm e s := ⟨v', hx, h⟩
theorem iq_x {V W : Type} {I : V → Env → Store → Prop} {x : V ⊕ W} {r r' : W} {Q : X → Env → Store → Prop} {e : Env} {s : Store} {i : Nat} (hx : x = .inr r') (h : r' = r → Q (.ext i) e s) : Iq I x r Q (.ext i) e s := ⟨r', hx, h⟩
theorem iq_r {V W : Type} {I : V → Env → Store → Prop} {x : V ⊕ W} {r r' : W} {Q : X → Env → Store → Prop} {e : Env} {s : Store} (hx : x = .inr r') (h : r' = r → Q .ret e s) : Iq I x r Q .ret e s := ⟨r', hx, h⟩
theorem w_an {P : Program} {T : TypeId → Option TI} {s : Store} {e : Env} {Q : X → Env → Store → Prop} {c : Code} (I : Env → Store → Prop) (h : Ev P T c e s (Ct I Q)) (k : ∀ e s, I e s → Q .nrm e s) : Ev P T c e s Q :=
 h.mono fun x e s hx => by cases x <;> first | exact k e s hx | exact hx
theorem ct_n {I : Env → Store → Prop} {K : X → Env → Store → Prop} {e : Env} {s : Store} (h : I e s) : Ct I K .nrm e s := h
theorem ct_r {I : Env → Store → Prop} {K : X → Env → Store → Prop} {e : Env} {s : Store} (h : K .ret e s) : Ct I K .ret e s := h
theorem w_fin {fn : Func} {K : PV → Store → Prop} {x : X} {r r' : PV} {σ s : Store} {e : Env} (hx : x ≠ .nrm → x = .ret) (h1 : resA T fn.results e s = some r) (hp : Pre σ s) (hw : Wk r r') (hc : Cn r') (hk : K r' σ) : Bd T fn (Pw σ K) x e s := w_end hx h1 ⟨hp, r', hw, hc, hk⟩
def CnL (l : List PV) : Prop := ∀ p ∈ l, Cn p
theorem CnL.nil : CnL [] := fun p hp => by simp at hp
theorem CnL.cons {p : PV} {l : List PV} (h : Cn p) (hl : CnL l) : CnL (p :: l) := fun q hq => by
 rcases List.mem_cons.1 hq with rfl | hq
 ·exact h
 ·exact hl q hq
theorem Cn.rows {α : Type} {f : α → List PV} (h : ∀ x, CnL (f x)) (l : List α) : Cn (.sl (l.map f)) := .sl fun r hr p hp => by
 obtain ⟨x, _, rfl⟩ := List.mem_map.1 hr
 exact h x p hp
theorem map_get {α β : Type} {f : α → β} {l : List α} {i : Nat} {x : α} (h : l[i]? = some x) : (l.map f)[i]? = some (f x) := by rw [List.getElem?_map, h]; rfl
theorem map_len {α : Type} {f : α → List PV} {n : Nat} (h : ∀ x, (f x).length = n) (l : List α) : ∀ r ∈ l.map f, r.length = n := fun r hr => by
 obtain ⟨x, _, rfl⟩ := List.mem_map.1 hr
 exact h x
theorem ite_t {α : Type} {c : Bool} {a b : Option α} {r : α} (hc : c = true) (h : (if c then a else b) = some r) : a = some r := by rw [hc] at h; exact h
theorem ite_f {α : Type} {c : Bool} {a b : Option α} {r : α} (hc : c = false) (h : (if c then a else b) = some r) : b = some r := by rw [hc] at h; exact h
noncomputable def evDc (P : Program) (T : TypeId → Option TI) (ops : Array Oper) (H : Store) (base : Nat) : List Oper → Nat → Env → Store → (Env → Store → Prop) → Prop
 | [], _, e, s, K => K e s
 | o :: rest, j, e, s, K => match wantedA ops o e with
  | some true => if isEff o.op then (match stepA T o.op e s with
    | .val p => evDc P T ops H base rest j (upd e o.dst p) s K
    | .eff p s' => sub H s' ∧ evDc P T ops H base rest j (upd e o.dst p) s' K
    | .call f args => EC P f args s (fun r s' => sub H s' ∧ evDc P T ops H base rest j (upd e o.dst r) s' K)
    | _ => False)
   else (match stepA T o.op e H with
    | .val p => evDc P T ops H base rest (if isNew o.op then j + 1 else j) (upd e o.dst p) s K
    | .new ob mk => evDc P T ops H base rest (j + 1) (upd e o.dst (mk (base + j))) (s.set (base + j) (some ob)) K
    | _ => False)
  | some false => evDc P T ops H base rest (if isNew o.op then j + 1 else j) (upd e o.dst (.tu [])) s K
  | none => False
theorem newIdx_next {ops : Array Oper} {i : Nat} {o : Oper} (h : ops.toList[i]? = some o) : newIdx ops (i + 1) = if isNew o.op then newIdx ops i + 1 else newIdx ops i := by
 unfold newIdx
 rw [List.take_add_one, h]
 simp only [Option.toList_some, List.filter_append, List.length_append, List.filter_cons, List.filter_nil]
 split <;> simp
theorem eff_not_new {o : Op} (h : isEff o = true) : isNew o = false := by
 cases o <;> simp [isEff, isNew] at h ⊢
theorem evDc_evDl {P : Program} {T : TypeId → Option TI} {ops : Array Oper} {H : Store} {base : Nat} {K : Env → Store → Prop} : ∀ (l : List Oper) (i : Nat) (e : Env) (s : Store), ops.toList.drop i = l → evDc P T ops H base l (newIdx ops i) e s K → evDl P T ops H base l i e s K
 | [], i, e, s, _, h => h
 | o :: l, i, e, s, hl, h => by
  have hi : ops.toList[i]? = some o := by
   have := congrArg (fun x => x[0]?) hl
   simpa using this
  have hl' : ops.toList.drop (i + 1) = l := by
   have := congrArg List.tail hl
   simpa using this
  have hn := newIdx_next hi
  have go := fun e s => evDc_evDl (P := P) (T := T) (H := H) (base := base) (K := K) l (i + 1) e s hl'
  rw [hn] at go
  unfold evDl evD1
  unfold evDc at h
  split at h
  ·rename_i hw
   rw [hw]
   simp only
   unfold stepD
   split at h
   ·rename_i hE
    rw [if_pos hE]
    rw [eff_not_new hE] at go
    simp only [Bool.false_eq_true, if_false] at go
    split at h
    ·rename_i p hr
     rw [hr]
     exact go _ _ h
    ·rename_i p s' hr
     rw [hr]
     exact ⟨h.1, go _ _ h.2⟩
    ·rename_i f args hr
     rw [hr]
     exact h.mono fun r s' hk => ⟨hk.1, go _ _ hk.2⟩
    ·exact h.elim
   ·rename_i hE
    rw [if_neg hE]
    split at h
    ·rename_i p hr
     rw [hr]
     exact go _ _ h
    ·rename_i ob mk hr
     rw [(new_isNew hr).1] at go
     simp only [if_true] at go
     rw [hr]
     exact go _ _ h
    ·exact h.elim
  ·rename_i hw
   rw [hw]
   exact go _ _ h
  ·exact h.elim
def RestD (P : Program) (T : TypeId → Option TI) (ops : Array Oper) (H : Store) (base : Nat) (rest : List Oper) (j : Nat) (e : Env) (d : Option Tmp) (K : Env → Store → Prop) (r : PV) (s : Store) : Prop := sub H s ∧ evDc P T ops H base rest j (upd e d r) s K
noncomputable def evDC : (P : Program) → (T : TypeId → Option TI) → (ops : Array Oper) → (H : Store) → (base : Nat) → List Oper → Nat → Env → Store → (Env → Store → Prop) → Prop := Classical.choose (⟨@evDc, rfl⟩ : ∃ f, f = @evDc)
theorem evDC_eq : @evDC = @evDc := Classical.choose_spec (⟨@evDc, rfl⟩ : ∃ f, f = @evDc)
theorem evDC_nil {P : Program} {T : TypeId → Option TI} {ops : Array Oper} {H : Store} {base j : Nat} {K : Env → Store → Prop} (e : Env) (s : Store) : evDC P T ops H base [] j e s K = K e s := by rw [evDC_eq]; rfl
theorem evDC_cons {P : Program} {T : TypeId → Option TI} {ops : Array Oper} {H : Store} {base j : Nat} {K : Env → Store → Prop} (o : Oper) (rest : List Oper) (e : Env) (s : Store) : evDC P T ops H base (o :: rest) j e s K = match wantedA ops o e with
  | some true => if isEff o.op then (match stepA T o.op e s with
    | .val p => evDC P T ops H base rest j (upd e o.dst p) s K
    | .eff p s' => sub H s' ∧ evDC P T ops H base rest j (upd e o.dst p) s' K
    | .call f args => EC P f args s (RestD P T ops H base rest j e o.dst K)
    | _ => False)
   else (match stepA T o.op e H with
    | .val p => evDC P T ops H base rest (if isNew o.op then j + 1 else j) (upd e o.dst p) s K
    | .new ob mk => evDC P T ops H base rest (j + 1) (upd e o.dst (mk (base + j))) (s.set (base + j) (some ob)) K
    | _ => False)
  | some false => evDC P T ops H base rest (if isNew o.op then j + 1 else j) (upd e o.dst (.tu [])) s K
  | none => False := by rw [evDC_eq]; rfl
theorem set_app0 (s l : Store) (a b : Option AObj) : (s ++ a :: l).set s.length b = s ++ b :: l := by simp
theorem set_app1 (s l : Store) (a b c : Option AObj) : (s ++ a :: b :: l).set (s.length + 1) c = s ++ a :: c :: l := by simp
theorem set_app2 (s l : Store) (a b c d : Option AObj) : (s ++ a :: b :: c :: l).set (s.length + 2) d = s ++ a :: b :: d :: l := by simp
theorem get_app0 (s l : Store) (a : Option AObj) : (s ++ a :: l)[s.length]? = some a := by simp
theorem get_app1 (s l : Store) (a b : Option AObj) : (s ++ a :: b :: l)[s.length + 1]? = some b := by simp
theorem get_app2 (s l : Store) (a b c : Option AObj) : (s ++ a :: b :: c :: l)[s.length + 2]? = some c := by simp
theorem Bx.at {σ s : Store} (h : Pre σ s) {l : Store} {j : Nat} {t : TypeId} {c : List PV} (hl : l[j]? = some (some (.box t c))) : Bx σ (s ++ l) (s.length + j) t c := ⟨by have := h.le; omega, by rw [List.getElem?_append_right (by omega), Nat.add_sub_cancel_left]; exact hl⟩
theorem sub_hid0 (s : Store) (i : Nat) : sub (s.set i none) s = True := eq_true fun j o h => ⟨by
 by_cases hj : i = j
 ·subst hj
  have := h.1
  by_cases hi : i < s.length
  ·rw [List.getElem?_set_self hi] at this; cases this
  ·rw [List.getElem?_eq_none (by simp; omega)] at this; cases this
 ·rw [← h.1, List.getElem?_set_ne hj], h.2⟩
theorem sub_hid (s : Store) (i : Nat) (o : Option AObj) : sub (s.set i none) (s.set i o) = True := eq_true fun j o' h => ⟨by
 by_cases hj : i = j
 ·subst hj
  have := h.1
  by_cases hi : i < s.length
  ·rw [List.getElem?_set_self hi] at this; cases this
  ·rw [List.getElem?_eq_none (by simp; omega)] at this; cases this
 ·rw [List.getElem?_set_ne hj, ← h.1, List.getElem?_set_ne hj], h.2⟩
theorem sub_appT {H s : Store} (h : sub H s) (l : Store) : sub H (s ++ l) := fun i o hl => of_eq_true (sub_apps s l) i o (h i o hl)
theorem sub_hid1 (s l : Store) (i : Nat) : sub (s.set i none) (s ++ l) = True := eq_true (sub_appT (of_eq_true (sub_hid0 s i)) l)
theorem sub_hid2 (s l : Store) (i : Nat) (o : Option AObj) : sub (s.set i none) (s.set i o ++ l) = True := eq_true (sub_appT (of_eq_true (sub_hid s i o)) l)
theorem sub_hid3 {s l : Store} {i : Nat} (h : i < s.length) (o : Option AObj) : sub (s.set i none) (List.set (s ++ l) i o) := by rw [List.set_append_left _ _ h]; exact of_eq_true (sub_hid2 s l i o)
theorem hget {s : Store} {i j : Nat} {x : Option AObj} (h : s[j]? = some x) (hne : i ≠ j) : (s.set i none)[j]? = some x := by rw [List.getElem?_set_ne hne]; exact h
theorem set_app0h (s l : Store) (i : Nat) (o a b : Option AObj) : (s.set i o ++ a :: l).set s.length b = s.set i o ++ b :: l := by
 have := set_app0 (s.set i o) l a b
 rwa [List.length_set] at this
theorem set_app1h (s l : Store) (i : Nat) (o a b c : Option AObj) : (s.set i o ++ a :: b :: l).set (s.length + 1) c = s.set i o ++ a :: c :: l := by
 have := set_app1 (s.set i o) l a b c
 rwa [List.length_set] at this
theorem get_app0h (s l : Store) (i : Nat) (o a : Option AObj) : (s.set i o ++ a :: l)[s.length]? = some a := by
 have := get_app0 (s.set i o) l a
 rwa [List.length_set] at this
theorem get_app1h (s l : Store) (i : Nat) (o a b : Option AObj) : (s.set i o ++ a :: b :: l)[s.length + 1]? = some b := by
 have := get_app1 (s.set i o) l a b
 rwa [List.length_set] at this
def oz : List (List PV) → PV
 | [] => .e0
 | r :: l => .sl (r :: l)
theorem Wk.oz (l : List (List PV)) : Wk (oz l) (.sl l) := by cases l; exact .e0; exact .refl _
theorem Acc.oz {σ s : Store} {p : PV} {ty : TypeId} {sz : Nat} {rows : List (List PV)} (h : Acc σ s p ty sz rows) (hne : rows ≠ []) : Wk p (oz rows) := by
 cases rows with
 | nil => exact absurd rfl hne
 | cons r l => exact h.wk
theorem Acc.ow {σ s : Store} {p : PV} {ty : TypeId} {sz : Nat} {rows : List (List PV)} (h : Acc σ s p ty sz rows) (hne : rows ≠ []) : ∃ t, p = .ow t rows := by
 rcases h with ⟨h, _⟩ | ⟨t, h, _⟩
 ·exact absurd h hne
 ·exact ⟨t, h⟩
theorem Cn.oz {l : List (List PV)} (h : Cn (.sl l)) : Cn (oz l) := by cases l; exact .e0; exact h
theorem oz_nil {α : Type} {l : List α} {f : α → List PV} (h : l = []) : oz (l.map f) = .e0 := by rw [h]; rfl
theorem oz_one (l : List (List PV)) : (oz l).one = true := by cases l <;> rfl
theorem ss {φ : Prop} {α : Sort _} {a b : α} (f : φ) (h : φ → a = b := by (intro hf; simp (maxSteps := 1000000) -implicitDefEqProofs only [hf, evH_nil, evH_cons, fillA, resA, List.mapM_cons, List.mapM_nil, Option.bind_eq_bind, Option.pure_def, evDC_nil, evDC_cons, isEff, isNew, sub_self, sub_apps, Nat.add_zero, Nat.zero_add, set_app0, set_app1, set_app2, get_app0, get_app1, get_app2, wantedA, List.getElem?_toArray, stepA, upd_some, upd_none, val, argE_at, Nat.reduceLT, reduceIte, List.getD_cons_zero, List.getD_cons_succ, List.getElem?_cons_succ, List.getElem?_cons_zero, getCells, abin, abinI, abinS, aun, Nat.reduceEqDiff, Nat.reduceAdd, ofV, Option.map_some, Option.bind_some, Bool.false_eq_true, splice, PV.flat, PV.one, Value.oneCell', List.all_cons, List.all_nil, Bool.and_true, Bool.true_and, List.length_cons, List.length_nil, List.length_map, List.take_succ_cons, List.take_zero, List.drop_succ_cons, List.drop_zero, List.cons_append, List.nil_append, Nat.reduceLeDiff, and_self, and_true, true_and, beq_self_eq_true, Bool.not_true, Bool.not_false, callA, lenX, rowsOf, intOf?, List.getElem?_concat_length, if_true, ite_true, ite_false, reduceBEq, List.map_cons, List.map_nil, List.toList_toArray, beq_true, beq_false, List.append_nil, set_concat, decide_true, decide_false, eq_self, Int.reduceEq, Int.reduceLT, Int.reduceLE, Int.reduceNeg, zrow, zpv, Z.val, Z.pv, buildRows, List.replicate_succ, List.replicate_zero, List.set_cons_zero, List.set_cons_succ, Nat.reduceMul, Nat.zero_lt_one, Array.size, appn2, appn3, Option.some.injEq, ne_eq, not_false_eq_true, not_true_eq_false, false_and, and_false, List.cons.injEq, reduceCtorEq, Option.map_none, Option.isSome_some, Option.isSome_none, Option.getD_some, Option.getD_none, List.headD_cons, Option.isSome_map, mpF_str, keyA, kkOf, eqFs, eqC, sub_hid, sub_hid0, sub_hid1, sub_hid2, strR, ↓oz_one]; try rfl)) : a = b := h f
theorem w_x {φ : Prop} {id : Nat} {ops : Array Oper} {e : Env} {s : Store} {Q : X → Env → Store → Prop} {B : (Env → Store → Prop) → Prop} (f : φ) (h : φ → ∀ K, evH Try.prog T ops ops.toList e s K = B K := by (intro hf K; exact ss hf))
  (k : B fun e s => Q .nrm e s) : Ev Try.prog T (.region id ops false) e s Q := .of (by
 show evOps Try.prog T ops ops.toList e s (fun e s => Q .nrm e s)
 rw [← evG_eq, ← evH_eq, h f]
 exact k)
theorem w_y {φ : Prop} {ops : Array Oper} {l : List Oper} {d : Option Tmp} {r : PV} {e : Env} {s : Store} {K : Env → Store → Prop} {B : (Env → Store → Prop) → Prop} (f : φ) (h : φ → ∀ K, evH Try.prog T ops l (upd e d r) s K = B K := by (intro hf K; exact ss hf))
  (k : B K) : Rest Try.prog T ops l e d K r s := by
 unfold Rest
 rw [← evG_eq, ← evH_eq, h f]
 exact k
theorem w_xp {φ : Prop} {id : Nat} {ops : Array Oper} {e : Env} {s : Store} {Q : X → Env → Store → Prop} {B : (Env → Store → Prop) → Prop} (f : φ) (hp : (pureD ops && chkB ops ops.size) = true := by kernel_rfl) (h : φ → ∀ K, evH Try.prog T ops ops.toList e s K = B K := by (intro hf K; exact ss hf))
  (k : B fun e s => Q .nrm e s) : Ev Try.prog T (.region id ops true) e s Q := .of (by
 refine evDraw_pure (by kernel_rfl) hp ?_
 rw [← evG_eq, ← evH_eq, h f]
 exact k)
theorem xv {φ : Prop} {a b : PV} (f : φ) (h : φ → a = b := by (intro hf; exact ss hf)) : a = b := h f
theorem xr {φ : Prop} {rs : Array ResultVar} {e : Env} {s : Store} {r : PV} (f : φ) (h : φ → resA T rs e s = some r := by (intro hf; exact ss hf)) : resA T rs e s = some r := h f
theorem xt {φ : Prop} {c : Operand} {a b : Code} {e : Env} {s : Store} {Q : X → Env → Store → Prop} (f : φ) (h1 : Ev Try.prog T a e s Q) (hc : φ → val e c = .v (.bool true) := by (intro hf; exact ss hf)) : Ev Try.prog T (.cond c a b) e s Q := w_ct (hc f) h1
theorem xf {φ : Prop} {c : Operand} {a b : Code} {e : Env} {s : Store} {Q : X → Env → Store → Prop} (f : φ) (h1 : Ev Try.prog T b e s Q) (hc : φ → val e c = .v (.bool false) := by (intro hf; exact ss hf)) : Ev Try.prog T (.cond c a b) e s Q := w_cf (hc f) h1
theorem w_xd {φ : Prop} {id : Nat} {ops : Array Oper} {e : Env} {s : Store} {Q : X → Env → Store → Prop} {B : (Env → Store → Prop) → Prop} (k : Nat) (n : Nat) (f : φ) (hc : (chkB ops k && chkD (opsTo ops k) && newAll (opsTo ops k) == n) = true := by kernel_rfl)
  (h : φ → ∀ K, evDC Try.prog T (opsTo ops k) s s.length (opsTo ops k).toList 0 e (s ++ List.replicate n (some .res)) K = B K := by (simp only [opsTo, List.take_succ_cons, List.take_zero, List.take_nil]; (intro hf K; exact ss hf)))
  (hk : B fun e s => evH Try.prog T ops (ops.toList.drop k) e s fun e s => Q .nrm e s) : Ev Try.prog T (.region id ops true) e s Q := .of (by
 simp only [Bool.and_eq_true, beq_iff_eq] at hc
 obtain ⟨⟨h0, h1⟩, h2⟩ := hc
 refine ⟨by kernel_rfl, k, h0, h1, s, ?_, ?_⟩
 ·rw [sub_apps]; trivial
 ·rw [h2]
  refine evDc_evDl (opsTo ops k).toList 0 e _ (by simp) ?_
  have h0 : newIdx (opsTo ops k) 0 = 0 := by simp [newIdx]
  rw [h0, ← evDC_eq, h f]
  rw [evH_eq] at hk
  simpa only [evG_eq] using hk)
theorem w_xs {φ : Prop} {ops : Array Oper} {l : List Oper} {e : Env} {s : Store} {K : Env → Store → Prop} {B : (Env → Store → Prop) → Prop} (f : φ) (h : φ → ∀ K, evH Try.prog T ops l e s K = B K := by (intro hf K; exact ss hf)) (k : B K) : evH Try.prog T ops l e s K := by
 rw [h f]
 exact k
theorem w_yd {φ : Prop} {ops : Array Oper} {H : Store} {base j : Nat} {l : List Oper} {d : Option Tmp} {r : PV} {e : Env} {s : Store} {K : Env → Store → Prop} {B : (Env → Store → Prop) → Prop} (f : φ) (hs : sub H s := by (first | exact fun _ _ h => h | exact of_eq_true (sub_apps _ _) | exact of_eq_true (sub_hid _ _ _) | exact of_eq_true (sub_hid2 _ _ _ _)))
  (h : φ → ∀ K, evDC Try.prog T ops H base l j (upd e d r) s K = B K := by (intro hf K; exact ss hf))
  (k : B K) : RestD Try.prog T ops H base l j e d K r s := by
 refine ⟨hs, ?_⟩
 rw [← evDC_eq, h f]
 exact k
theorem w_xh {φ : Prop} {id : Nat} {ops : Array Oper} {e : Env} {s : Store} {Q : X → Env → Store → Prop} {B : (Env → Store → Prop) → Prop} (i : Nat) (k : Nat) (n : Nat) (f : φ) (hc : (chkB ops k && chkD (opsTo ops k) && newAll (opsTo ops k) == n) = true := by kernel_rfl)
  (h : φ → ∀ K, evDC Try.prog T (opsTo ops k) (s.set i none) s.length (opsTo ops k).toList 0 e (s ++ List.replicate n (some .res)) K = B K := by (simp only [opsTo, List.take_succ_cons, List.take_zero, List.take_nil]; (intro hf K; exact ss hf)))
  (hk : B fun e s => evH Try.prog T ops (ops.toList.drop k) e s fun e s => Q .nrm e s) : Ev Try.prog T (.region id ops true) e s Q := .of (by
 simp only [Bool.and_eq_true, beq_iff_eq] at hc
 obtain ⟨⟨h0, h1⟩, h2⟩ := hc
 refine ⟨by kernel_rfl, k, h0, h1, s.set i none, ?_, ?_⟩
 ·exact of_eq_true (sub_hid1 s _ i)
 ·rw [h2]
  refine evDc_evDl (opsTo ops k).toList 0 e _ (by simp) ?_
  have h0 : newIdx (opsTo ops k) 0 = 0 := by simp [newIdx]
  rw [h0, ← evDC_eq, h f]
  rw [evH_eq] at hk
  simpa only [evG_eq] using hk)
theorem hsap {s : Store} {i : Nat} (h : i < s.length) : ∀ (l : Store) (o : Option AObj), List.set (s ++ l) i o = List.set s i o ++ l := fun l o => List.set_append_left _ _ h
theorem Bx.cast {σ s : Store} {i : Nat} {t : TypeId} {c c' : List PV} (he : c = c') (h : Bx σ s i t c) : Bx σ s i t c' := he ▸ h
theorem Cn.sl0 : Cn (.sl []) := .sl fun r hr => absurd hr (by simp)
theorem arr_get {α : Type} {f : α → PV} {l : List α} {n : Int} {y : α} {cs : List PV} {k : Nat} (h : getI l n = some y) (hc : cs = l.map f) (hk : l.length = k) : cs[n.toNat * 1]? = some (f y) ∧ 0 ≤ n ∧ n < (k : Int) := by
 obtain ⟨h1, h2⟩ := getI_some h
 refine ⟨by rw [Nat.mul_one, hc, List.getElem?_map, h2]; rfl, h1, ?_⟩
 have := (List.getElem?_eq_some_iff.1 h2).1
 omega
structure Gx (s : Store) (i : Nat) (o : AObj) : Prop where
 get : s[i]? = some (some o)
section
variable {σ τ s s' : Store} {i j : Nat} {o o' : AObj}
theorem Gx.lt (h : Gx s i o) : i < s.length := (List.getElem?_eq_some_iff.1 h.get).1
theorem Gx.app (h : Gx s i o) (x : Store) : Gx (s ++ x) i o := ⟨by rw [List.getElem?_append_left h.lt]; exact h.get⟩
theorem Gx.any (h : Gx s i o) : ∀ x, (s ++ x)[i]? = some (some o) := fun x => (h.app x).get
theorem Gx.any2 (h : Gx s i o) : ∀ x y, (s ++ x ++ y)[i]? = some (some o) := fun x y => ((h.app x).app y).get
theorem Gx.same (h : Gx s i o) (o' : AObj) : Gx (s.set i (some o')) i o' := ⟨by rw [List.getElem?_set_self h.lt]⟩
theorem Gx.ne (h : Gx s i o) (hne : j ≠ i) (x : Option AObj) : Gx (s.set j x) i o := ⟨by rw [List.getElem?_set_ne hne]; exact h.get⟩
theorem Gx.new (s : Store) (o : AObj) : Gx (s ++ [some o]) s.length o := ⟨by simp⟩
theorem Gx.at (s : Store) {l : Store} {j : Nat} {o : AObj} (hl : l[j]? = some (some o)) : Gx (s ++ l) (s.length + j) o := ⟨by rw [List.getElem?_append_right (by omega), Nat.add_sub_cancel_left]; exact hl⟩
theorem Gx.cast (h : Gx s i o) (he : o = o') : Gx s i o' := he ▸ h
theorem Gx.apart (h : Gx s i o) (h' : Gx s j o') (hne : o ≠ o') : i ≠ j := fun e => hne (by subst e; have := h.get.symm.trans h'.get; injection this with this; injection this)
theorem Bx.gx {t : TypeId} {c : List PV} (h : Bx σ s i t c) : Gx s i (.box t c) := ⟨h.get⟩
theorem Gx.keep {q : PV} {ty : TypeId} {sz : Nat} {rows : List (List PV)} (h : Gx s i o) (ho : ∀ a b c, o ≠ .tok a b c) (ha : Acc σ s q ty sz rows) (k : Keep q s s') : Gx s' i o := by
 refine ⟨k.1 i _ h.get fun r hr => ?_⟩
 rcases ha with ⟨_, rfl | rfl⟩ | ⟨k, rfl, h2, h3⟩
 ·cases hr
 ·cases hr
 ·injection hr with h4 h5
  subst h4
  have := h.get.symm.trans h3
  injection this with this
  injection this with this
  exact ho _ _ _ this
theorem Acc.setg {p : PV} {ty : TypeId} {sz : Nat} {rows : List (List PV)} (h : Acc σ s p ty sz rows) (hb : Gx s i o) (ho : ∀ a b c, o ≠ .tok a b c) (x : Option AObj) : Acc σ (s.set i x) p ty sz rows := by
 rcases h with h | ⟨k, h1, h2, h3⟩
 ·exact .inl h
 ·refine .inr ⟨k, h1, h2, ?_⟩
  rw [List.getElem?_set_ne]
  ·exact h3
  ·rintro rfl
   have := hb.get.symm.trans h3
   injection this with this
   injection this with this
   exact ho _ _ _ this
theorem Pre.setp (h : Pre τ s) {i : Nat} (hi : i < τ.length) (o : Option AObj) : Pre (τ.set i o) (s.set i o) := by
 obtain ⟨ex, rfl⟩ := h
 exact ⟨ex, by rw [List.set_append_left _ _ hi]⟩
theorem Pre.trans {ρ : Store} (h : Pre τ s) (h' : Pre s ρ) : Pre τ ρ := by
 obtain ⟨ex, rfl⟩ := h
 obtain ⟨ey, rfl⟩ := h'
 exact ⟨ex ++ ey, by rw [List.append_assoc]⟩
def Fr (σ τ : Store) (S : List Nat) : Prop := τ.length = σ.length ∧ ∀ j, j ∉ S → τ[j]? = σ[j]?
theorem Fr.refl (σ : Store) (S : List Nat) : Fr σ σ S := ⟨rfl, fun _ _ => rfl⟩
theorem Fr.set {S : List Nat} (h : Fr σ τ S) {i : Nat} (hi : i ∈ S) (o : Option AObj) : Fr σ (τ.set i o) S := ⟨by simp [h.1], fun j hj => by rw [List.getElem?_set_ne (by rintro rfl; exact hj hi)]; exact h.2 j hj⟩
theorem Fr.ge {S : List Nat} (h : Fr σ τ S) {i : Nat} (hi : σ.length ≤ i) : τ.length ≤ i := by rw [h.1]; exact hi
theorem Fr.lt {S : List Nat} (h : Fr σ τ S) {i : Nat} (hi : i < σ.length) : i < τ.length := by rw [h.1]; exact hi
theorem Bx.newf {S : List Nat} (hf : Fr σ τ S) (h : Pre τ s) (t : TypeId) (c : List PV) : Bx σ (s ++ [some (.box t c)]) s.length t c := ⟨by rw [← hf.1]; exact h.le, by simp⟩
theorem Bx.atf {S : List Nat} (hf : Fr σ τ S) (h : Pre τ s) {l : Store} {j : Nat} {t : TypeId} {c : List PV} (hl : l[j]? = some (some (.box t c))) : Bx σ (s ++ l) (s.length + j) t c := ⟨by rw [← hf.1]; have := h.le; omega, by rw [List.getElem?_append_right (by omega), Nat.add_sub_cancel_left]; exact hl⟩
theorem Bx.atfh {S : List Nat} (hf : Fr σ τ S) (h : Pre τ s) {n : Nat} (hn : n = s.length) {l : Store} {j : Nat} {t : TypeId} {c : List PV} (hl : l[j]? = some (some (.box t c))) : Bx σ (s ++ l) (n + j) t c := hn ▸ Bx.atf hf h hl
theorem Acc.ft {S : List Nat} (hf : Fr σ τ S) {p : PV} {ty : TypeId} {sz : Nat} {rows : List (List PV)} (h : Acc σ s p ty sz rows) : Acc τ s p ty sz rows := by
 rcases h with h | ⟨k, h1, h2, h3⟩
 ·exact .inl h
 ·exact .inr ⟨k, h1, hf.ge h2, h3⟩
theorem Acc.fb {S : List Nat} (hf : Fr σ τ S) {p : PV} {ty : TypeId} {sz : Nat} {rows : List (List PV)} (h : Acc τ s p ty sz rows) : Acc σ s p ty sz rows := by
 rcases h with h | ⟨k, h1, h2, h3⟩
 ·exact .inl h
 ·exact .inr ⟨k, h1, by rw [← hf.1]; exact h2, h3⟩
def setAll (σ : Store) : List (Nat × AObj) → Store
 | [] => σ
 | (i, o) :: l => setAll (σ.set i (some o)) l
theorem setAll_len : ∀ (l : List (Nat × AObj)) (σ : Store), (setAll σ l).length = σ.length
 | [], σ => rfl
 | (i, o) :: l, σ => by rw [setAll, setAll_len l]; simp
theorem setAll_out : ∀ (l : List (Nat × AObj)) (σ : Store) (j : Nat), j ∉ l.map (·.1) → (setAll σ l)[j]? = σ[j]?
 | [], σ, j, _ => rfl
 | (i, o) :: l, σ, j, h => by
  simp only [List.map_cons, List.mem_cons, not_or] at h
  rw [setAll, setAll_out l _ j h.2, List.getElem?_set_ne (fun e => h.1 e.symm)]
theorem setAll_in : ∀ (l : List (Nat × AObj)) (σ : Store) (i : Nat) (o : AObj), (l.map (·.1)).Nodup → (i, o) ∈ l → i < σ.length → (setAll σ l)[i]? = some (some o)
 | [], σ, i, o, _, h, _ => by cases h
 | (k, o') :: l, σ, i, o, hn, h, hi => by
  simp only [List.map_cons, List.nodup_cons] at hn
  rw [setAll]
  rcases List.mem_cons.1 h with h | h
  ·injection h with h1 h2
   subst h1 h2
   rw [setAll_out l _ i hn.1, List.getElem?_set_self hi]
  ·exact setAll_in l _ i o hn.2 h (by simpa using hi)
theorem Fr.eq {l : List (Nat × AObj)} (h : Fr σ τ (l.map (·.1))) (hn : (l.map (·.1)).Nodup) (hl : ∀ x ∈ l, x.1 < σ.length ∧ τ[x.1]? = some (some x.2)) : τ = setAll σ l := by
 apply List.ext_getElem?
 intro j
 by_cases hj : j ∈ l.map (·.1)
 ·obtain ⟨⟨i, o⟩, hx, rfl⟩ := List.mem_map.1 hj
  obtain ⟨h1, h2⟩ := hl _ hx
  rw [h2, setAll_in l σ i o hn hx h1]
 ·rw [h.2 j hj, setAll_out l σ j hj]
theorem Pre.get (h : Pre τ s) {i : Nat} (hi : i < τ.length) : s[i]? = τ[i]? := by
 obtain ⟨ex, rfl⟩ := h
 rw [List.getElem?_append_left hi]
theorem Gx.back (h : Gx s i o) (hp : Pre τ s) (hi : i < τ.length) : τ[i]? = some (some o) := by rw [← hp.get hi]; exact h.get
inductive CnO : AObj → Prop
 | box {t : TypeId} {c : List PV} : (∀ p ∈ c, Cn p) → CnO (.box t c)
 | map {kk : KK} {m : Value → Option PV} {n : Nat} : (∀ k p, m k = some p → Cn p) → CnO (.map kk m n)
theorem CnO.cl {o : AObj} (h : CnO o) (n : Nat) : ClO n o := by
 cases h with
 | box h => exact fun c hc => (h c hc).cl n
 | map h => exact fun k p hk => (h k p hk).cl n
theorem CnO.mp {V : Type} {f : V → PV} (h : ∀ v, Cn (f v)) (g : ByteArray → Option V) (n : Nat) : CnO (.map .s (mpF f g) n) := .map fun k p hk => by
 unfold mpF at hk
 split at hk
 ·obtain ⟨v, _, rfl⟩ := Option.map_eq_some_iff.1 hk
  exact h v
 ·cases hk
def ClL (n : Nat) (l : List PV) : Prop := ∀ p ∈ l, Cl n p
theorem ClL.nil {n : Nat} : ClL n [] := fun p hp => by simp at hp
theorem ClL.cons {n : Nat} {p : PV} {l : List PV} (h : Cl n p) (hl : ClL n l) : ClL n (p :: l) := fun q hq => by
 rcases List.mem_cons.1 hq with rfl | hq
 ·exact h
 ·exact hl q hq
theorem ClO.bx {n : Nat} {t : TypeId} {c : List PV} (h : ClL n c) : ClO n (.box t c) := h
def Pq (σ : Store) (l : List (Nat × AObj)) (K : PV → Store → Prop) (r : PV) (s : Store) : Prop := Pre (setAll σ l) s ∧ ∃ r', Wk r r' ∧ Cn r' ∧ K r' (setAll σ l)
end
theorem w_fq {σ : Store} {f : FuncId} {fn : Func} {c : Code} {args : List PV} {K : PV → Store → Prop} {Q : PV → Store → Prop} (hf : Try.prog.funcs[f]? = some fn) (hname : (fn.name == "runtime.NumGoroutine") = false) (hb : fn.body = some c) (hc : (codeOK fn.ntmps c && decide (args.length ≤ fn.ntmps)) = true)
  (hQ : ∀ r s, Q r s → ∃ l : List (Nat × AObj), (l.map (·.1)).Nodup ∧ (∀ x ∈ l, x.1 < σ.length ∧ ClO σ.length x.2) ∧ Pq σ l K r s)
  (h : Ev Try.prog E.T c (argE args) σ (Bd E.T fn Q)) : EC Try.prog f args σ K :=
 EC.drop (EC.wkr ((w_fn hf hname hb hc h).mono fun r s hq => by
  obtain ⟨l, hn, hl, ⟨ex, he⟩, r', h2, h3, h4⟩ := hQ r s hq
  refine ⟨r', h2, setAll σ l, ex, he, setAll_len _ _, fun i ob hi => ?_, h3.cl _, h4⟩
  by_cases hj : i ∈ l.map (·.1)
  ·obtain ⟨⟨i', o⟩, hx, rfl⟩ := List.mem_map.1 hj
   have h5 := setAll_in l σ i' o hn hx (hl _ hx).1
   have := hi.1.symm.trans h5
   injection this with this
   injection this with this
   subst this
   exact .inr (hl _ hx).2
  ·exact .inl ⟨by rw [← setAll_out l σ i hj]; exact hi.1, hi.2⟩))
theorem w_fw {σ : Store} {f : FuncId} {fn : Func} {c : Code} {args : List PV} {K : PV → Store → Prop} {Q : PV → Store → Prop} (hf : Try.prog.funcs[f]? = some fn) (hname : (fn.name == "runtime.NumGoroutine") = false) (hb : fn.body = some c) (hc : (codeOK fn.ntmps c && decide (args.length ≤ fn.ntmps)) = true)
  (hQ : ∀ r s, Q r s → ∃ (i : Nat) (t : TypeId) (c c' : List PV), Gx s i (.box t c) ∧ WkL c c' ∧ ∃ l : List (Nat × AObj), (l.map (·.1)).Nodup ∧ (∀ x ∈ l, x.1 < σ.length ∧ ClO σ.length x.2) ∧ Pq σ l K r (List.set s i (some (.box t c'))))
  (h : Ev Try.prog E.T c (argE args) σ (Bd E.T fn Q)) : EC Try.prog f args σ K :=
 EC.drop (EC.wkr (EC.wkb ((w_fn hf hname hb hc h).mono fun r s hq => by
  obtain ⟨i, t, c, c', hx, hw, l, hn, hl, ⟨ex, he⟩, r', h2, h3, h4⟩ := hQ r s hq
  refine ⟨i, t, c, c', hx.get, hw.len, hw.get, r', h2, setAll σ l, ex, he, setAll_len _ _, fun i ob hi => ?_, h3.cl _, h4⟩
  by_cases hj : i ∈ l.map (·.1)
  ·obtain ⟨⟨i', o⟩, hx, rfl⟩ := List.mem_map.1 hj
   have h5 := setAll_in l σ i' o hn hx (hl _ hx).1
   have := hi.1.symm.trans h5
   injection this with this
   injection this with this
   subst this
   exact .inr (hl _ hx).2
  ·exact .inl ⟨by rw [← setAll_out l σ i hj]; exact hi.1, hi.2⟩)))
end Go.Proofs.Ytohmmfimedgccaa.E
end
section
namespace Go.Proofs.Ytohmmfimedgccaa.E
set_option linter.unusedVariables false
def RC (w : World) (cs : List Value) (ps : List PV) : Prop := cs.length = ps.length ∧ ∀ (i : Nat) v p, cs[i]? = some v → ps[i]? = some p → v.oneCell' = true ∧ R [] (fun _ => 0) w v p
theorem RC.one {w : World} {v : Value} {p : PV} (h1 : v.oneCell' = true) (h : R [] (fun _ => 0) w v p) : RC w [v] [p] := ⟨rfl, fun i x q hx hq => by
 match i with
 | 0 => simp at hx hq; subst hx hq; exact ⟨h1, h⟩
 | n + 1 => simp at hx⟩
theorem RC.app {w : World} {cs ds : List Value} {ps qs : List PV} (h : RC w cs ps) (h' : RC w ds qs) : RC w (cs ++ ds) (ps ++ qs) := ⟨by simp [h.1, h'.1], fun i v p hv hp => by
 by_cases hi : i < cs.length
 ·rw [List.getElem?_append_left hi] at hv
  rw [List.getElem?_append_left (by have := h.1; omega)] at hp
  exact h.2 i v p hv hp
 ·rw [List.getElem?_append_right (by omega)] at hv
  rw [List.getElem?_append_right (by have := h.1; omega), ← h.1] at hp
  exact h'.2 _ v p hv hp⟩
def RO {α : Type} (P : Program) (t : TypeId) (f : α → List PV) (G : α → Prop) (n : Nat) : Prop :=
 ∀ (H : Type) (enc : TypeId × Value → H) (w : World) (base : Nat) (spare : Nat → Bool) (held : Bool) (m : Nat), m ≤ n → ∀ (cs : List Value) (r : DataW H × List MemPlace),
  DataW.trod enc P w base spare held m t cs = some r → (∀ x ∈ DataW.weights P t r.1, x ≤ reachBytes) → ∃ x, RC w cs (f x) ∧ G x
theorem RO.down {α : Type} {P : Program} {t : TypeId} {f : α → List PV} {G : α → Prop} {n k : Nat} (h : RO P t f G n) (hk : k ≤ n) : RO P t f G k :=
 fun H enc w base spare held m hm cs r hr hw => h H enc w base spare held m (Nat.le_trans hm hk) cs r hr hw
theorem RO.imp {α : Type} {P : Program} {t : TypeId} {f : α → List PV} {G G' : α → Prop} {n : Nat} (h : RO P t f G n) (hg : ∀ x, G x → G' x) : RO P t f G' n :=
 fun H enc w base spare held m hm cs r hr hw => let ⟨x, h1, h2⟩ := h H enc w base spare held m hm cs r hr hw; ⟨x, h1, hg x h2⟩
theorem ro_int {P : Program} {t : TypeId} {k : IntKind} (ht : P.underlying t = some (.int k)) (n : Nat) : RO P t (fun x : Int => [.v (.int k x)]) (fun x => (Lit.int k x).wf = true) n := by
 intro H enc w base spare held m _ cs r hr _
 obtain ⟨x, rfl, _, hw⟩ := DataW.trod_int ht hr
 exact ⟨x, .one rfl (.v _ rfl), hw⟩
theorem list_of {α : Type} {n : Nat} {Q : Nat → α → Prop} (h : ∀ i, i < n → ∃ x, Q i x) : ∃ l : List α, l.length = n ∧ ∀ i x, l[i]? = some x → Q i x := by
 induction n with
 | zero => exact ⟨[], rfl, fun i x hi => by simp at hi⟩
 | succ n ih =>
  obtain ⟨l, hl, hq⟩ := ih fun i hi => h i (by omega)
  obtain ⟨x, hx⟩ := h n (by omega)
  refine ⟨l ++ [x], by simp [hl], fun i y hi => ?_⟩
  by_cases hlt : i < l.length
  ·rw [List.getElem?_append_left hlt] at hi
   exact hq i y hi
  ·rw [List.getElem?_append_right (by omega)] at hi
   have h0 : i - l.length = 0 := by
    rcases Nat.eq_zero_or_pos (i - l.length) with h | h
    ·exact h
    ·rw [List.getElem?_eq_none (by simp; omega)] at hi
     cases hi
   rw [h0] at hi
   simp only [List.getElem?_cons_zero, Option.some.injEq] at hi
   rw [← hi, show i = n by omega]
   exact hx
theorem weightsAll_mem {H : Type} {P : Program} {e : TypeId} : ∀ {l : List (DataW H)} {i : Nat} {d : DataW H} {x : Nat}, l[i]? = some d → x ∈ DataW.weights P e d → x ∈ DataW.weightsAll P e l
 | [], i, d, x, h, _ => by simp at h
 | y :: l, 0, d, x, h, hx => by
  simp at h
  subst h
  unfold DataW.weightsAll
  exact List.mem_append_left _ hx
 | y :: l, i + 1, d, x, h, hx => by
  unfold DataW.weightsAll
  exact List.mem_append_right _ (weightsAll_mem (by simpa using h) hx)
theorem ro_slice {α : Type} {P : Program} {t e : TypeId} {f : α → List PV} {G : α → Prop} {n sz : Nat} (ht : P.underlying t = some (.slice e)) (hsz : P.cellsOf e = sz) (hf : ∀ x, (f x).length = sz) (h : RO P e f G n) :
  RO P t (fun xs : List α => [.sl (xs.map f)]) (fun xs => xs.length * P.bytesOf e ≤ reachBytes ∧ ∀ x ∈ xs, G x) (n + 1) := by
 intro H enc w base spare held m hm cs r hr hwt
 rcases DataW.trod_slice ht hr with ⟨rfl, rfl⟩ | ⟨a, len, cap, elems, rest, k, rfl, rfl, rfl, _, hl, hc, hlen, hel, _⟩
 ·exact ⟨[], .one rfl (.sl0 _ _), by simp, by simp⟩
 ·have hW : ∀ x ∈ DataW.weights P t (DataW.slice (elems.map (·.1)) (rest.map (·.1))), x ≤ reachBytes := hwt
  have hW1 := hW (((elems.map (·.1)).length + (rest.map (·.1)).length) * P.bytesOf e) (by simp [DataW.weights, ht])
  have hk : ∀ i, i < len → ∃ x : α, (∃ c, c.length = sz ∧ RC w c (f x) ∧ ∀ j u, c[j]? = some u → w.cell? (a.add (i * sz + j)) = some u) ∧ G x := by
   intro i hi
   have h1 := hel i hi
   rw [List.getElem?_eq_getElem (by omega)] at h1
   obtain ⟨c, h2, h3⟩ := Option.bind_eq_some_iff.1 h1
   obtain ⟨x, hx, hg⟩ := h H enc w base spare held k (by omega) c _ h3 (fun q hq => hW q (by
    simp only [DataW.weights, ht, List.mem_cons, List.mem_append]
    exact .inr (.inl (weightsAll_mem (i := i) (by rw [List.getElem?_map, List.getElem?_eq_getElem (by omega)]; rfl) hq))))
   obtain ⟨_, hcl, hcc⟩ := World.cells?_some h2
   refine ⟨x, ⟨c, by rw [hcl, hsz], hx, fun j u hu => ?_⟩, hg⟩
   have hj : j < c.length := (List.getElem?_eq_some_iff.1 hu).1
   rw [← Go.Deep.add_add, ← hsz, hcc j (by omega)]
   exact hu
  obtain ⟨l, hll, hq⟩ := list_of hk
  refine ⟨l, .one rfl ?_, ?_, ?_⟩
  ·have hlm : (l.map f).length = len := by simp [hll]
   have hsome : ∀ i, i < len → ∃ x, l[i]? = some x := fun i hi => ⟨_, List.getElem?_eq_getElem (by omega)⟩
   have := R.sl (σ := []) (μ := fun _ => 0) (w := w) a cap sz (l.map f) (fun i j => (w.cell? (a.add (i * sz + j))).getD (.bool false)) (by rw [hlm]; exact hl) (fun r hr => by obtain ⟨x, _, rfl⟩ := List.mem_map.1 hr; exact hf x)
    (fun i j hi hj => by
     rw [hlm] at hi
     obtain ⟨x, hx⟩ := hsome i hi
     obtain ⟨⟨c, h1, h2, h3⟩, _⟩ := hq i x hx
     have h4 := h3 j _ (List.getElem?_eq_getElem (by omega : j < c.length))
     refine ⟨by rw [h4]; rfl, ?_⟩
     rintro ⟨id, o, hl, _⟩
     have := hl.1
     simp at this)
    (fun i j hi hj => by
     rw [hlm] at hi
     obtain ⟨x, hx⟩ := hsome i hi
     obtain ⟨⟨c, h1, h2, h3⟩, _⟩ := hq i x hx
     have h4 := h3 j _ (List.getElem?_eq_getElem (by omega : j < c.length))
     rw [h4]
     exact (h2.2 j _ _ (List.getElem?_eq_getElem (by omega)) (List.getElem?_eq_getElem (by rw [hf]; omega))).1)
    (fun i j r p hr hp => by
     rw [List.getElem?_map] at hr
     obtain ⟨x, hx, rfl⟩ := Option.map_eq_some_iff.1 hr
     obtain ⟨⟨c, h1, h2, h3⟩, _⟩ := hq i x hx
     have hj := (List.getElem?_eq_some_iff.1 hp).1
     rw [hf] at hj
     have h4 := h3 j _ (List.getElem?_eq_getElem (by omega : j < c.length))
     rw [h4]
     exact (h2.2 j _ _ (List.getElem?_eq_getElem (by omega)) hp).2)
   rw [hlm] at this
   exact this
  ·rw [List.length_map, List.length_map] at hW1
   rw [hll, ← hlen]
   exact Nat.le_trans (Nat.mul_le_mul_right _ (Nat.le_add_right _ _)) hW1
  ·intro x hx
   obtain ⟨i, hi⟩ := List.getElem?_of_mem hx
   exact (hq i x hi).2
theorem arg_one {α : Type} {P : Program} {t : TypeId} {f : α → PV} {G : α → Prop} {H : Type} {enc : TypeId × Value → H} {w : World} {base : Nat} {spare : Nat → Bool} {held : Bool} {v : Value} {D : DataW H} {p : List MemPlace}
  (h1 : v.oneCell' = true) (h : ∀ n, RO P t (fun x => [f x]) G n) (hr : DataW.Trod enc P w base spare held t v D p) (hw : ∀ x ∈ DataW.weights P t D, x ≤ reachBytes) : ∃ (x : α), R [] (fun _ => 0) w v (f x) ∧ G x := by
 obtain ⟨n, hn⟩ := hr
 obtain ⟨x, hx, hg⟩ := h n H enc w base spare held n (Nat.le_refl _) _ _ hn hw
 have hc : v.cells = #[v] := by cases v <;> first | rfl | cases h1
 rw [hc] at hx
 exact ⟨x, (hx.2 0 v (f x) rfl rfl).2, hg⟩
theorem law_calls {f : FuncId} {fn : Func} {c : Code} {args : List PV} {vs : Array Value} {w : World} (hf : Try.prog.funcs[f]? = some fn) (hname : (fn.name == "runtime.NumGoroutine") = false) (hb : fn.body = some c)
  (h : ∀ K : PV → Store → Prop, K (.v (.bool true)) [] → EC Try.prog f args [] K) (hv : RL [] (fun _ => 0) w vs args) :
  Calls Try.prog f vs w fun e w' => e = .returned (.bool true) ∧ Go.RowKit.Below w.heap.size w w' := by
 have h1 := (h (fun r s => r = .v (.bool true)) rfl).here (fun _ => 0) w vs ⟨fun i j o o' hi => by have := hi.1; simp at this, fun i o hi => by have := hi.1; simp at this⟩ hv
 rcases h1 with ⟨_, h2⟩ | ⟨x, w', h2, _⟩
 ·refine h2.mono fun e w' ⟨x, hx, r, σ', μ', k1, k2, k3, k4⟩ => ?_
  subst hx k4
  cases k3
  exact ⟨rfl, k1.os, k1.tape, k1.output, k1.size, fun k hk => k1.keep k hk fun id o hl => by have := hl.1; simp at this⟩
 ·rw [enters_ hf hname hb vs w] at h2
  cases h2
end Go.Proofs.Ytohmmfimedgccaa.E
end
