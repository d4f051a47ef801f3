import Derived.Test.YtohmmfimedgccaaQF2
/- CheckFinds returns true at every input. PART 4 OF 8: PA PB G44 G46 G11 PC PD G1049 -/
section
namespace Go.Proofs.Ytohmmfimedgccaa.E
set_option linter.unusedVariables false
set_option linter.unusedSimpArgs false
set_option maxRecDepth 10000
noncomputable def m_small := B_ref03_small
noncomputable def m_digit := B_ref03_digit
noncomputable def m_words := B_lex_Words
noncomputable def m_word := B_ref03_Word m_words
noncomputable def m_right := B_ref03_Right m_small m_digit m_word
theorem s_small : Sat_ref03_small m_small := W_ref03_small
theorem s_digit : Sat_ref03_digit m_digit := W_ref03_digit
theorem s_words : Sat_lex_Words m_words := W_lex_Words
theorem s_word : Sat_ref03_Word m_word := W_ref03_Word _ s_words
theorem s_right : Sat_ref03_Right m_right := W_ref03_Right _ _ _ s_small s_digit s_word
theorem t_word (s : ByteArray) : ∃ b, m_word s = some b := by
 unfold m_word B_ref03_Word m_words B_lex_Words
 simp only [Option.bind_some]
 obtain ⟨r, h1, _⟩ := iter_idx (f := ref03_Word_L0 lex_Words_K0 s) (fun i v => v = (i : Int)) lex_Words_K0.length (fun _ => True) (fun i v hi hv => by
  subst hv
  unfold ref03_Word_L0
  simp only [dlt hi, if_true, getI_at hi, Option.bind_some]
  split
  ·exact .inr ⟨_, rfl, trivial⟩
  ·exact .inl ⟨_, rfl, winc hi (by unfold maxLen; decide)⟩) (fun v hv => by
  subst hv
  unfold ref03_Word_L0
  simp only [dge, Bool.false_eq_true, if_false]
  exact ⟨_, rfl, trivial⟩) (v0 := (0 : Int)) rfl
 rw [h1]
 cases r <;> exact ⟨_, rfl⟩
theorem t_right (s : ByteArray) (hs : s.size ≤ maxLen) : ∃ b, m_right s = some b := by
 unfold m_right B_ref03_Right
 obtain ⟨r, h1, _⟩ := iter_idx (f := ref03_Right_L0 s m_digit m_small) (fun i v => v = (i : Int)) s.size (fun _ => True) (fun i v hi hv => by
  subst hv
  unfold ref03_Right_L0
  obtain ⟨b, hb⟩ := getB_at hi
  simp only [dlt hi, if_true, hb, Option.bind_some, m_small, B_ref03_small, m_digit, B_ref03_digit]
  have hw := winc hi hs
  repeat' split
  all_goals simp only [Option.bind_some]
  all_goals repeat' split
  all_goals first
   | exact .inr ⟨_, rfl, trivial⟩
   | exact .inl ⟨_, rfl, hw⟩) (fun v hv => by
  subst hv
  unfold ref03_Right_L0
  simp only [dge, Bool.false_eq_true, if_false]
  exact ⟨_, rfl, trivial⟩) (v0 := (0 : Int)) rfl
 obtain ⟨w, hw⟩ := t_word s
 rw [h1]
 cases r with
 | inl r => exact ⟨_, rfl⟩
 | inr _ =>
  simp only [Option.bind_some, hw]
  split <;> exact ⟨_, rfl⟩
noncomputable def m_number := B_ref04_number
theorem s_number : Sat_ref04_number m_number := W_ref04_number
theorem v_number (n lo hi : Int) : m_number n lo hi = some (decide (lo ≤ n) && decide (n ≤ hi)) := rfl
mutual
def sizeE : Expr → Nat
 | ⟨_, _, _, _, xs, _⟩ => 1 + sizeL xs
def sizeL : List Expr → Nat
 | [] => 0
 | e :: l => sizeE e + sizeL l
end
theorem sizeE_eq (e : Expr) : sizeE e = 1 + sizeL e.args := by cases e; rw [sizeE]
theorem sizeL_app : ∀ (a b : List Expr), sizeL (a ++ b) = sizeL a + sizeL b
 | [], b => by simp [sizeL]
 | e :: l, b => by simp [sizeL, sizeL_app l b]; omega
theorem sizeL_take {l : List Expr} {i : Nat} (h : i < l.length) : sizeL (l.take (i + 1)) = sizeL (l.take i) + sizeE l[i] := by
 rw [List.take_succ_eq_append_getElem h, sizeL_app]
 simp [sizeL]
def pSize (x : Expr × Int) (r : Int) : Prop := Sp_ref04_Size x.1 x.2 r ∧ (0 ≤ x.2 → 1 ≤ r ∧ r ≤ x.2 + 1 ∧ (r ≤ x.2 → r = sizeE x.1))
noncomputable def m_size (e : Expr) (m : Int) : Option Int := pick pSize (e, m)
theorem s_size : Sat_ref04_Size m_size := fun _ _ _ h => (pick_spec h).1
theorem t_size (e : Expr) : e.ok → ∀ m : Int, 0 ≤ m → m ≤ 1000 → ∃ r, m_size e m = some r ∧ pSize (e, m) r := by
 induction e using Expr.induct with
 | h e ih =>
  intro hok m hm hm2
  refine pick_ex ?_
  obtain ⟨r, h1, h2⟩ := iter_idx (f := ref04_Size_L0 e m m_size) (fun i v => v.2 = (i : Int) ∧ 1 ≤ v.1 ∧ v.1 ≤ m + 1 ∧ (v.1 ≤ m → v.1 = 1 + sizeL (e.args.take i))) e.args.length (fun r => 1 ≤ r ∧ r ≤ m + 1 ∧ (r ≤ m → r = 1 + sizeL e.args)) (fun i v hi hv => by
   obtain ⟨n, k⟩ := v
   obtain ⟨rfl, h2, h3, h4⟩ := hv
   simp only at h2 h3 h4
   unfold ref04_Size_L0
   by_cases hn : n ≤ m
   ·have hmem := List.getElem_mem hi
    obtain ⟨r, h5, _, h6⟩ := ih _ hmem (hok.arg _ hmem) (m - n) (by omega) (by omega)
    obtain ⟨h7, h8, h9⟩ := h6 (by simp; omega)
    simp only at h7 h8 h9
    simp only [dlt hi, decide_eq_true hn, Bool.and_self, if_true, getI_at hi, Option.bind_some]
    rw [wrap_i (by omega) (by omega), h5]
    simp only [Option.bind_some]
    refine .inl ⟨_, rfl, winc hi hok.len, ?_⟩
    simp only
    rw [wrap_i (by omega) (by omega)]
    refine ⟨by omega, by omega, fun hle => ?_⟩
    rw [sizeL_take hi]
    have := h4 hn
    have := h9 (by omega)
    omega
   ·simp only [decide_eq_false hn, Bool.and_false, Bool.false_eq_true, if_false]
    exact .inr ⟨_, rfl, h2, h3, fun h => absurd h hn⟩) (fun v hv => by
   obtain ⟨n, k⟩ := v
   obtain ⟨rfl, h2, h3, h4⟩ := hv
   unfold ref04_Size_L0
   simp only [dge, Bool.false_and, Bool.false_eq_true, if_false]
   rw [List.take_length] at h4
   exact ⟨_, rfl, h2, h3, h4⟩) (v0 := ((1 : Int), (0 : Int))) ⟨rfl, by omega, by simp only; omega, fun _ => by simp [sizeL]⟩
  have hB : B_ref04_Size m_size e m = some r := by unfold B_ref04_Size; rw [h1]; rfl
  exact ⟨r, W_ref04_Size _ s_size _ _ _ hB, fun _ => ⟨h2.1, h2.2.1, fun h => by rw [h2.2.2 h, sizeE_eq]; simp⟩⟩
def pDepth (x : Expr × Int) (r : Int) : Prop := Sp_ref04_Depth x.1 x.2 r ∧ 0 ≤ r ∧ r ≤ x.2
noncomputable def m_depth (e : Expr) (m : Int) : Option Int := pick pDepth (e, m)
theorem s_depth : Sat_ref04_Depth m_depth := fun _ _ _ h => (pick_spec h).1
theorem t_depth (e : Expr) : e.ok → ∀ m : Int, 0 ≤ m → m ≤ 1000 → ∃ r, m_depth e m = some r ∧ pDepth (e, m) r := by
 induction e using Expr.induct with
 | h e ih =>
  intro hok m hm hm2
  refine pick_ex ?_
  by_cases h0 : m = 0
  ·have hB : B_ref04_Depth m_depth e m = some 0 := by unfold B_ref04_Depth; simp [h0]
   exact ⟨0, W_ref04_Depth _ s_depth _ _ _ hB, by omega, by simp only; omega⟩
  ·obtain ⟨r, h1, h2⟩ := iter_idx (f := ref04_Depth_L0 e m m_depth) (fun i v => v.2 = (i : Int) ∧ 0 ≤ v.1 ∧ v.1 ≤ m - 1) e.args.length (fun r => 0 ≤ r ∧ r ≤ m - 1) (fun i v hi hv => by
    obtain ⟨n, k⟩ := v
    obtain ⟨rfl, h2, h3⟩ := hv
    simp only at h2 h3
    unfold ref04_Depth_L0
    have hmem := List.getElem_mem hi
    obtain ⟨r, h5, _, h6, h7⟩ := ih _ hmem (hok.arg _ hmem) (m - 1) (by omega) (by omega)
    simp only at h6 h7
    simp only [dlt hi, if_true, getI_at hi, Option.bind_some]
    rw [wrap_i (n := m - 1) (by omega) (by omega), h5]
    simp only [Option.bind_some]
    refine .inl ⟨_, rfl, winc hi hok.len, ?_⟩
    simp only
    split <;> omega) (fun v hv => by
    obtain ⟨n, k⟩ := v
    obtain ⟨rfl, h2, h3⟩ := hv
    unfold ref04_Depth_L0
    simp only [dge, Bool.false_eq_true, if_false]
    exact ⟨_, rfl, h2, h3⟩) (v0 := ((0 : Int), (0 : Int))) ⟨rfl, by omega, by simp only; omega⟩
   have hB : B_ref04_Depth m_depth e m = some (r + 1) := by
    unfold B_ref04_Depth
    rw [decide_eq_false h0, h1]
    simp only [Bool.false_eq_true, if_false, Option.bind_some]
    rw [wrap_i (by omega) (by omega)]
   exact ⟨r + 1, W_ref04_Depth _ s_depth _ _ _ hB, by omega, by simp only; omega⟩
inductive Expr.bfit : Expr → Prop
 | mk {e : Expr} : (∀ x ∈ e.args, Expr.bfit x) → (e.kind = 11 → e.args = []) → Expr.bfit e
def pBody (e : Expr) (r : Bool) : Prop := Sp_ref04_Body e r ∧ (r = true → e.bfit)
noncomputable def m_body : Expr → Option Bool := pick pBody
theorem s_body : Sat_ref04_Body m_body := fun _ _ h => (pick_spec h).1
theorem t_body (e : Expr) : e.ok → ∃ r, m_body e = some r ∧ pBody e r := by
 induction e using Expr.induct with
 | h e ih =>
  intro hok
  refine pick_ex ?_
  obtain ⟨r, h1, h2⟩ := iter_idx (f := ref04_Body_L0 e m_body) (fun i v => v = (i : Int) ∧ ∀ j (hj : j < e.args.length), j < i → e.args[j].bfit) e.args.length (fun r => r = .inl false ∨ (r = .inr () ∧ ∀ x ∈ e.args, x.bfit)) (fun i v hi hv => by
   obtain ⟨rfl, h2⟩ := hv
   unfold ref04_Body_L0
   have hmem := List.getElem_mem hi
   obtain ⟨r, h5, _, h6⟩ := ih _ hmem (hok.arg _ hmem)
   simp only [dlt hi, if_true, getI_at hi, Option.bind_some, h5]
   cases r with
   | false => exact .inr ⟨_, rfl, .inl rfl⟩
   | true =>
    refine .inl ⟨_, rfl, winc hi hok.len, fun j hj hlt => ?_⟩
    by_cases hji : j = i
    ·subst hji; exact h6 rfl
    ·exact h2 j hj (by omega)) (fun v hv => by
   obtain ⟨rfl, h2⟩ := hv
   unfold ref04_Body_L0
   simp only [dge, Bool.false_eq_true, if_false]
   refine ⟨_, rfl, .inr ⟨rfl, fun x hx => ?_⟩⟩
   obtain ⟨j, hj, rfl⟩ := List.getElem_of_mem hx
   exact h2 j hj hj) (v0 := (0 : Int)) ⟨rfl, fun j _ h => by omega⟩
  obtain ⟨b, hb⟩ := t_right e.name hok.nm
  have hL1 : ∃ q, iterO (ref04_Body_L1 e) (0 : Int) = some q ∧ True := iter_idx (f := ref04_Body_L1 e) (fun i v => v = (i : Int)) ref04_Body_K0.length (fun _ => True) (fun i v hi hv => by
   subst hv
   unfold ref04_Body_L1
   simp only [dlt hi, if_true, getI_at hi, Option.bind_some]
   split
   ·exact .inr ⟨_, rfl, trivial⟩
   ·exact .inl ⟨_, rfl, winc hi (by unfold maxLen; decide)⟩) (fun v hv => by
   subst hv
   unfold ref04_Body_L1
   simp only [dge, Bool.false_eq_true, if_false]
   exact ⟨_, rfl, trivial⟩) (v0 := (0 : Int)) rfl
  obtain ⟨q, hq, _⟩ := hL1
  have hB : ∃ r, B_ref04_Body m_right m_number m_body e = some r ∧ (r = true → e.bfit) := by
   unfold B_ref04_Body
   rw [h1]
   rcases h2 with rfl | ⟨rfl, hall⟩
   ·exact ⟨false, rfl, fun h => by cases h⟩
   ·simp only [Option.bind_some, hb, v_number, hq]
    by_cases hd : e.d = 0
    ·by_cases k11 : e.kind = 11
     ·simp only [hd, k11, decide_true, Bool.not_true, Bool.false_eq_true, if_false, if_true, Option.bind_some]
      refine ⟨_, rfl, fun h => .mk hall fun _ => ?_⟩
      simp only [Bool.and_eq_true, decide_eq_true_eq] at h
      exact List.length_eq_zero_iff.1 (by omega)
     ·have hfit : e.bfit := .mk hall fun h => absurd h k11
      simp only [hd, decide_true, Bool.not_true, Bool.false_eq_true, if_false, decide_eq_false k11]
      repeat' split
      all_goals simp only [Option.bind_some]
      all_goals repeat' split
      all_goals first
       | exact ⟨_, rfl, fun _ => hfit⟩
       | skip
    ·simp only [decide_eq_false hd, Bool.not_false, if_true]
     exact ⟨_, rfl, fun h => by cases h⟩
  obtain ⟨r, hr, hf⟩ := hB
  exact ⟨r, W_ref04_Body _ _ _ s_right s_number s_body _ _ hr, hf⟩
theorem iter_all {α : Type} {xs : List α} (hlen : xs.length ≤ maxLen) {f : Int → Option (Int ⊕ (Bool ⊕ Unit))} (Q : α → Prop)
  (step : ∀ i (hi : i < xs.length), f i = some (.inr (.inl false)) ∨ (f i = some (.inl (IntKind.i64.wrap ((i : Int) + 1))) ∧ Q xs[i])) (fin : f (xs.length : Int) = some (.inr (.inr ()))) : ∃ r, iterO f 0 = some r ∧ (r = .inl false ∨ (r = .inr () ∧ ∀ x ∈ xs, Q x)) := by
 refine iter_idx (v0 := (0 : Int)) (fun i v => v = (i : Int) ∧ ∀ j (hj : j < xs.length), j < i → Q xs[j]) xs.length (fun r : Bool ⊕ Unit => r = .inl false ∨ (r = .inr () ∧ ∀ x ∈ xs, Q x)) (fun i v hi hv => ?_) (fun v hv => ?_) ⟨rfl, fun j _ h => by omega⟩
 ·obtain ⟨rfl, h2⟩ := hv
  rcases step i hi with h | ⟨h, hq⟩
  ·exact .inr ⟨_, h, .inl rfl⟩
  ·refine .inl ⟨_, h, winc hi hlen, fun j hj hlt => ?_⟩
   by_cases hji : j = i
   ·subst hji; exact hq
   ·exact h2 j hj (by omega)
 ·obtain ⟨rfl, h2⟩ := hv
  refine ⟨_, fin, .inr ⟨rfl, fun x hx => ?_⟩⟩
  obtain ⟨j, hj, rfl⟩ := List.getElem_of_mem hx
  exact h2 j hj hj
inductive Expr.fit : Expr → Prop
 | mk {e : Expr} : (∀ x ∈ e.args, Expr.fit x) → ((e.kind = 1 ∧ e.args = []) ∨ (e.kind = 2 ∧ 1 ≤ e.args.length ∧ e.args.length ≤ 6) ∨ (e.args.length = 1 ∧ (((e.kind = 3 ∨ e.kind = 4) ∧ 1 ≤ e.n ∧ e.n ≤ 100) ∨ (e.kind = 5 ∧ 0 ≤ e.n ∧ e.n ≤ 100 ∧ 1 ≤ e.d ∧ e.d ≤ 100) ∨ e.kind = 6 ∨ e.kind = 7 ∨ e.kind = 8))) → Expr.fit e
theorem Expr.fit.arg {e : Expr} (h : e.fit) : ∀ x ∈ e.args, x.fit := by cases h; assumption
theorem Expr.fit.kinds {e : Expr} (h : e.fit) : (e.kind = 1 ∧ e.args = []) ∨ (e.kind = 2 ∧ 1 ≤ e.args.length ∧ e.args.length ≤ 6) ∨ (e.args.length = 1 ∧ (((e.kind = 3 ∨ e.kind = 4) ∧ 1 ≤ e.n ∧ e.n ≤ 100) ∨ (e.kind = 5 ∧ 0 ≤ e.n ∧ e.n ≤ 100 ∧ 1 ≤ e.d ∧ e.d ≤ 100) ∨ e.kind = 6 ∨ e.kind = 7 ∨ e.kind = 8)) := by cases h; assumption
theorem Expr.bfit.arg {e : Expr} (h : e.bfit) : ∀ x ∈ e.args, x.bfit := by cases h; assumption
theorem Expr.bfit.leaf {e : Expr} (h : e.bfit) : e.kind = 11 → e.args = [] := by cases h; assumption
def pExpr (e : Expr) (r : Bool) : Prop := Sp_ref04_Expr e r ∧ (r = true → e.fit)
noncomputable def m_expr : Expr → Option Bool := pick pExpr
theorem s_expr : Sat_ref04_Expr m_expr := fun _ _ h => (pick_spec h).1
theorem t_expr (e : Expr) : e.ok → ∃ r, m_expr e = some r ∧ pExpr e r := by
 induction e using Expr.induct with
 | h e ih =>
  intro hok
  refine pick_ex ?_
  obtain ⟨r, h1, h2⟩ := iter_all (xs := e.args) hok.len (f := ref04_Expr_L0 e m_expr) Expr.fit (fun i hi => by
   unfold ref04_Expr_L0
   have hmem := List.getElem_mem hi
   obtain ⟨r, h5, _, h6⟩ := ih _ hmem (hok.arg _ hmem)
   simp only [dlt hi, if_true, getI_at hi, Option.bind_some, h5]
   cases r with
   | false => exact .inl rfl
   | true => exact .inr ⟨rfl, h6 rfl⟩) (by
   unfold ref04_Expr_L0
   simp only [dge, Bool.false_eq_true, if_false])
  obtain ⟨b, hb⟩ := t_right e.name hok.nm
  have hB : ∃ r, B_ref04_Expr m_right m_number m_expr e = some r ∧ (r = true → e.fit) := by
   unfold B_ref04_Expr
   rw [h1]
   rcases h2 with rfl | ⟨rfl, hall⟩
   ·exact ⟨false, rfl, fun h => by cases h⟩
   ·simp only [Option.bind_some, hb, v_number]
    by_cases k1 : e.kind = 1
    ·simp only [k1, decide_true, if_true, Option.bind_some]
     refine ⟨_, rfl, fun h => .mk hall (.inl ⟨k1, ?_⟩)⟩
     simp only [Bool.and_eq_true, decide_eq_true_eq] at h
     exact List.length_eq_zero_iff.1 (by omega)
    ·by_cases k2 : e.kind = 2
     ·simp only [k2, decide_true, if_true, Option.bind_some, Int.reduceEq, decide_false, Bool.false_eq_true, if_false]
      refine ⟨_, rfl, fun h => .mk hall (.inr (.inl ⟨k2, ?_⟩))⟩
      simp only [Bool.and_eq_true, decide_eq_true_eq] at h
      omega
     ·simp only [decide_eq_false k1, decide_eq_false k2, Bool.false_eq_true, if_false, Option.bind_some]
      split
      ·exact ⟨_, rfl, fun h => by cases h⟩
      ·rename_i hc
       have hlen : e.args.length = 1 := by
        simp only [Bool.or_eq_true, Bool.not_eq_true', not_or, Bool.not_eq_false, decide_eq_true_eq] at hc
        omega
       have go : ∀ r : Bool, (r = true → ((e.kind = 3 ∨ e.kind = 4) ∧ 1 ≤ e.n ∧ e.n ≤ 100) ∨ (e.kind = 5 ∧ 0 ≤ e.n ∧ e.n ≤ 100 ∧ 1 ≤ e.d ∧ e.d ≤ 100) ∨ e.kind = 6 ∨ e.kind = 7 ∨ e.kind = 8) → (r = true → e.fit) := fun r hr h => .mk hall (.inr (.inr ⟨hlen, hr h⟩))
       by_cases k3 : e.kind = 3
       ·simp only [k3, decide_true, if_true, Option.bind_some]
        exact ⟨_, rfl, go _ fun h => by simp only [Bool.and_eq_true, decide_eq_true_eq] at h; omega⟩
       by_cases k4 : e.kind = 4
       ·simp only [k4, decide_true, if_true, Option.bind_some, Int.reduceEq, decide_false, Bool.false_eq_true, if_false]
        exact ⟨_, rfl, go _ fun h => by simp only [Bool.and_eq_true, decide_eq_true_eq] at h; omega⟩
       simp only [decide_eq_false k3, decide_eq_false k4, Bool.false_eq_true, if_false, Option.bind_some]
       by_cases k5 : e.kind = 5
       ·simp only [k5, decide_true, if_true]
        split
        ·rename_i hn
         simp only [Option.bind_some]
         exact ⟨_, rfl, go _ fun h => by simp only [Bool.and_eq_true, decide_eq_true_eq] at h; omega⟩
        ·rename_i hn
         simp only [Option.bind_some]
         exact ⟨_, rfl, go _ fun h => by simp only [Bool.and_eq_true, decide_eq_true_eq] at h; exact absurd h.2 (by simp)⟩
       by_cases k6 : e.kind = 6
       ·simp only [k6, Int.reduceEq, decide_false, decide_true, Bool.false_eq_true, if_false, if_true, Option.bind_some]
        exact ⟨_, rfl, go _ fun _ => by omega⟩
       by_cases k8 : e.kind = 8
       ·simp only [k8, Int.reduceEq, decide_false, decide_true, Bool.false_eq_true, if_false, if_true, Option.bind_some]
        exact ⟨_, rfl, go _ fun _ => by omega⟩
       simp only [decide_eq_false k5, decide_eq_false k6, decide_eq_false k8, Bool.false_eq_true, if_false, Option.bind_some]
       exact ⟨_, rfl, go _ fun h => by simp only [Bool.and_eq_true, decide_eq_true_eq] at h; omega⟩
  obtain ⟨r, hr, hf⟩ := hB
  exact ⟨r, W_ref04_Expr _ _ _ s_right s_number s_expr _ _ hr, hf⟩
theorem Node.ok.nm {x : Node} (h : x.ok) : x.name.size ≤ maxLen := ml h.name
theorem Node.ok.plen {x : Node} (h : x.ok) : x.params.length ≤ maxLen := mlB h.params.1 (by omega)
theorem Node.ok.param {x : Node} (h : x.ok) : ∀ s ∈ x.params, s.size ≤ maxLen := fun s hs => ml (h.params.2 s hs)
structure Node.fit (x : Node) : Prop where
 params : 1 ≤ x.params.length ∧ x.params.length ≤ 6
 budget : 1 ≤ x.budget ∧ x.budget ≤ 1000
 size : sizeE x.body ≤ 100
 body : x.body.bfit
structure Flow.fit (x : Flow) : Prop where
 size : sizeE x.e ≤ 100
 e : x.e.fit
structure Program.fit (p : Program) : Prop where
 all : p.nodes.length + p.inputs.length + p.flows.length + p.outputs.length ≤ 40
 node : ∀ x ∈ p.nodes, x.fit
 input : ∀ x ∈ p.inputs, 1 ≤ x.period ∧ x.period ≤ 1000 ∧ 0 ≤ x.phase ∧ x.phase ≤ 1000
 flow : ∀ x ∈ p.flows, x.fit
 output : ∀ x ∈ p.outputs, 1 ≤ x.deadline ∧ x.deadline ≤ 1000
noncomputable def m_read := B_ref04_Right m_right m_number m_size m_depth m_body m_expr
theorem s_read : Sat_ref04_Right m_read := W_ref04_Right _ _ _ _ _ _ s_right s_number s_size s_depth s_body s_expr
theorem t_read (p : Program) (hok : p.ok) : ∃ r, m_read p = some r ∧ (r = true → p.fit) := by
 have w := hok.nodes.1; have w2 := hok.inputs.1; have w3 := hok.flows.1; have w4 := hok.outputs.1
 obtain ⟨r0, h0, g0⟩ := iter_all (xs := p.nodes) (mlB hok.nodes.1 (by omega)) (f := ref04_Right_L0 p m_right m_body m_depth m_size m_number) Node.fit (fun i hi => by
  unfold ref04_Right_L0
  have hmem := List.getElem_mem hi
  have hx := hok.nodes.2 _ hmem
  obtain ⟨b, hb⟩ := t_right _ (ml hx.name)
  obtain ⟨sz, hsz, _, gsz⟩ := t_size _ hx.body 100 (by omega) (by omega)
  obtain ⟨dp, hdp, _⟩ := t_depth _ hx.body 30 (by omega) (by omega)
  obtain ⟨bd, hbd, _, gbd⟩ := t_body _ hx.body
  obtain ⟨q, hq, gq⟩ := iter_all (xs := p.nodes[i].params) hx.plen (f := ref04_Right_L1 p.nodes[i] m_right) (fun _ => True) (fun k hk => by
   unfold ref04_Right_L1
   obtain ⟨c, hc⟩ := t_right _ (hx.param _ (List.getElem_mem hk))
   simp only [dlt hk, if_true, getI_at hk, Option.bind_some, hc]
   cases c
   ·exact .inl rfl
   ·exact .inr ⟨rfl, trivial⟩) (by
   unfold ref04_Right_L1
   simp only [dge, Bool.false_eq_true, if_false])
  obtain ⟨s1, s2, s3⟩ := gsz (by simp)
  simp only at s1 s2 s3
  simp only [dlt hi, if_true, getI_at hi, Option.bind_some, hb, v_number, hsz, hdp, hbd, hq]
  cases b with
  | false => exact .inl (by simp)
  | true =>
   by_cases p1 : ((p.nodes[i].params.length : Nat) : Int) < 1
   ·exact .inl (by simp [p1])
   by_cases p2 : (6 : Int) < ((p.nodes[i].params.length : Nat) : Int)
   ·exact .inl (by simp [p1, p2])
   by_cases b1 : 1 ≤ p.nodes[i].budget ∧ p.nodes[i].budget ≤ 1000
   ·by_cases z1 : 100 < sz
    ·exact .inl (by simp [p1, p2, b1, z1])
    by_cases d1 : 20 < dp
    ·exact .inl (by simp [p1, p2, b1, z1, d1])
    cases bd with
    | false => exact .inl (by simp [p1, p2, b1, z1, d1])
    | true =>
     rcases gq with rfl | ⟨rfl, _⟩
     ·exact .inl (by simp [p1, p2, b1, z1, d1])
     ·exact .inr ⟨by simp [p1, p2, b1, z1, d1], ⟨by omega, by omega⟩, b1, by have := s3 (by omega); omega, gbd rfl⟩
   ·refine .inl ?_
    have : (decide (1 ≤ p.nodes[i].budget) && decide (p.nodes[i].budget ≤ 1000)) = false := by simpa using b1
    simp [p1, p2, this]) (by
  unfold ref04_Right_L0
  simp only [dge, Bool.false_eq_true, if_false])
 obtain ⟨r2, h2, g2⟩ := iter_all (xs := p.inputs) (mlB hok.inputs.1 (by omega)) (f := ref04_Right_L2 p m_right m_number) (fun x => 1 ≤ x.period ∧ x.period ≤ 1000 ∧ 0 ≤ x.phase ∧ x.phase ≤ 1000) (fun i hi => by
  unfold ref04_Right_L2
  obtain ⟨b, hb⟩ := t_right _ (ml (hok.inputs.2 _ (List.getElem_mem hi)).name)
  simp only [dlt hi, if_true, getI_at hi, Option.bind_some, hb, v_number]
  cases b with
  | false => exact .inl (by simp)
  | true =>
   by_cases b1 : 1 ≤ p.inputs[i].period ∧ p.inputs[i].period ≤ 1000
   ·by_cases b2 : 0 ≤ p.inputs[i].phase ∧ p.inputs[i].phase ≤ 1000
    ·exact .inr ⟨by simp [b1, b2], b1.1, b1.2, b2⟩
    ·refine .inl ?_
     have : (decide (0 ≤ p.inputs[i].phase) && decide (p.inputs[i].phase ≤ 1000)) = false := by simpa using b2
     simp [b1, this]
   ·refine .inl ?_
    have : (decide (1 ≤ p.inputs[i].period) && decide (p.inputs[i].period ≤ 1000)) = false := by simpa using b1
    simp [this]) (by
  unfold ref04_Right_L2
  simp only [dge, Bool.false_eq_true, if_false])
 obtain ⟨r3, h3, g3⟩ := iter_all (xs := p.flows) (mlB hok.flows.1 (by omega)) (f := ref04_Right_L3 p m_right m_depth m_expr m_size) Flow.fit (fun i hi => by
  unfold ref04_Right_L3
  have hx := hok.flows.2 _ (List.getElem_mem hi)
  obtain ⟨b, hb⟩ := t_right _ (ml hx.name)
  obtain ⟨sz, hsz, _, gsz⟩ := t_size _ hx.e 100 (by omega) (by omega)
  obtain ⟨dp, hdp, _⟩ := t_depth _ hx.e 30 (by omega) (by omega)
  obtain ⟨bd, hbd, _, gbd⟩ := t_expr _ hx.e
  obtain ⟨s1, s2, s3⟩ := gsz (by simp)
  simp only at s1 s2 s3
  simp only [dlt hi, if_true, getI_at hi, Option.bind_some, hb, hsz, hdp, hbd]
  cases b with
  | false => exact .inl (by simp)
  | true =>
   by_cases z1 : 100 < sz
   ·exact .inl (by simp [z1])
   by_cases d1 : 20 < dp
   ·exact .inl (by simp [z1, d1])
   cases bd with
   | false => exact .inl (by simp [z1, d1])
   | true => exact .inr ⟨by simp [z1, d1], by have := s3 (by omega); omega, gbd rfl⟩) (by
  unfold ref04_Right_L3
  simp only [dge, Bool.false_eq_true, if_false])
 obtain ⟨r4, h4, g4⟩ := iter_all (xs := p.outputs) (mlB hok.outputs.1 (by omega)) (f := ref04_Right_L4 p m_right m_number) (fun x => 1 ≤ x.deadline ∧ x.deadline ≤ 1000) (fun i hi => by
  unfold ref04_Right_L4
  have hx := hok.outputs.2 _ (List.getElem_mem hi)
  obtain ⟨b, hb⟩ := t_right _ (ml hx.name)
  obtain ⟨c, hc⟩ := t_right _ (ml hx.flow)
  simp only [dlt hi, if_true, getI_at hi, Option.bind_some, hb, hc, v_number]
  cases b with
  | false => exact .inl (by simp)
  | true =>
   cases c with
   | false => exact .inl (by simp)
   | true =>
    by_cases b1 : 1 ≤ p.outputs[i].deadline ∧ p.outputs[i].deadline ≤ 1000
    ·exact .inr ⟨by simp [b1], b1⟩
    ·refine .inl ?_
     have : (decide (1 ≤ p.outputs[i].deadline) && decide (p.outputs[i].deadline ≤ 1000)) = false := by simpa using b1
     simp [this]) (by
  unfold ref04_Right_L4
  simp only [dge, Bool.false_eq_true, if_false])
 unfold m_read B_ref04_Right
 rw [wrap_i (n := (p.nodes.length : Int) + p.inputs.length) (by omega) (by omega), wrap_i (n := (p.nodes.length : Int) + p.inputs.length + p.flows.length) (by omega) (by omega), wrap_i (n := (p.nodes.length : Int) + p.inputs.length + p.flows.length + p.outputs.length) (by omega) (by omega)]
 by_cases hc : (40 : Int) < (p.nodes.length : Int) + p.inputs.length + p.flows.length + p.outputs.length
 ·rw [if_pos (by simpa using hc)]
  exact ⟨false, rfl, fun h => by cases h⟩
 ·rw [if_neg (by simpa using hc), h0]
  rcases g0 with rfl | ⟨rfl, g0⟩
  ·exact ⟨false, rfl, fun h => by cases h⟩
  simp only [Option.bind_some]
  rw [h2]
  rcases g2 with rfl | ⟨rfl, g2⟩
  ·exact ⟨false, rfl, fun h => by cases h⟩
  simp only [Option.bind_some]
  rw [h3]
  rcases g3 with rfl | ⟨rfl, g3⟩
  ·exact ⟨false, rfl, fun h => by cases h⟩
  simp only [Option.bind_some]
  rw [h4]
  rcases g4 with rfl | ⟨rfl, g4⟩
  ·exact ⟨false, rfl, fun h => by cases h⟩
  exact ⟨true, rfl, fun _ => ⟨by omega, g0, g2, g3, g4⟩⟩
end Go.Proofs.Ytohmmfimedgccaa.E
end
section
namespace Go.Proofs.Ytohmmfimedgccaa.E
set_option maxRecDepth 100000
set_option maxHeartbeats 4000000
set_option linter.unusedVariables false
set_option linter.unusedSimpArgs false
noncomputable def B_check_finder_fresh (f_check_finder_fail : check_finder → Int → Int → Option (Unit × check_finder)) (a0 : check_finder) (a1 : (Mp Int)) (a2 : ByteArray) (a3 : Int) : Option (Unit × check_finder × (Mp Int)) :=
 (putO a1 a2 (IntKind.i64.wrap ((Option.getD (Mp.get a1 a2) (0 : Int)) + (1 : Int)))).bind fun y1 =>
 (if (decide ((1 : Int) < (Option.getD (Mp.get y1 a2) (0 : Int)))) then
  (f_check_finder_fail a0 a3 (3 : Int)).bind fun y9 =>
  some y9.2
 else
  some a0 : Option check_finder).bind fun vf_7 =>
 some ((), vf_7, y1)
abbrev check_finder_fresh_V0 : Int → PV := fun v : Int => (PV.v (.int .i64 v))
theorem W_check_finder_fresh (f_check_finder_fail : check_finder → Int → Int → Option (Unit × check_finder)) (S_check_finder_fail : Sat_check_finder_fail f_check_finder_fail) : Sat_check_finder_fresh (B_check_finder_fresh f_check_finder_fail) := by
 intro a0 a1 a2 a3 r h σ K j0 j1 H0 H1 hK
 refine w_fq (Q := fun r s => ∃ l : List (Nat × AObj), (l.map (·.1)).Nodup ∧ (∀ x ∈ l, x.1 < σ.length ∧ ClO σ.length x.2) ∧ Pq σ l K r s) Try.func44 rfl rfl (by kernel_rfl) (fun _ _ h => h) ?_
 unfold B_check_finder_fresh at h
 have hP := Pre.refl σ
 have jl0 := H0.lt
 have jl1 := H1.lt
 have hF := Fr.refl σ [j0, j1]
 have E0 : argE [(.pt j0 0), (.mp j1), (.v (.string a2)), (.v (.int .i64 a3))] 0 = (.pt j0 0) := rfl
 have E1 : argE [(.pt j0 0), (.mp j1), (.v (.string a2)), (.v (.int .i64 a3))] 1 = (.mp j1) := rfl
 have E2 : argE [(.pt j0 0), (.mp j1), (.v (.string a2)), (.v (.int .i64 a3))] 2 = (.v (.string a2)) := rfl
 have E3 : argE [(.pt j0 0), (.mp j1), (.v (.string a2)), (.v (.int .i64 a3))] 3 = (.v (.int .i64 a3)) := rfl
 have TT := cj6 Expr.rlen T_104 T_107 T_3 T_30 T_9
 obtain ⟨y1, h2, h⟩ := bnd_some h
 refine w_sa (fun e s => ∃ τ : Store, Gx s j0 (AObj.box 106 [(.v (.int .i64 a0.at_)), (.v (.int .i64 a0.e))]) ∧ Gx s j1 (AObj.map .s (mpF check_finder_fresh_V0 (Mp.get y1)) (Mp.n y1)) ∧ e 0 = (.pt j0 0) ∧ e 1 = (.mp j1) ∧ e 2 = (.v (.string a2)) ∧ e 3 = (.v (.int .i64 a3)) ∧ Fr σ τ [j0, j1] ∧ Pre τ s) ?_ fun e s hI => ?_
 ·have R3 : Option.getD (Option.map check_finder_fresh_V0 (Mp.get a1 a2)) (.v (.int .i64 (0 : Int))) = (.v (.int .i64 (Option.getD (Mp.get a1 a2) (0 : Int)))) := by cases Mp.get a1 a2 <;> rfl
  refine w_x (cj11 E0 E1 E2 E3 H0.get H1.get R3 (putO_some h2).1 (H0.ne (Gx.apart H1 H0 (by intro h; cases h)) (some (AObj.map .s (upm (mpF check_finder_fresh_V0 (Mp.get a1)) (.string a2) (.v (.int .i64 (IntKind.i64.wrap ((Option.getD (Mp.get a1 a2) (0 : Int)) + (1 : Int)))))) (Mp.n a1 + 1)))).get (Gx.cast (Gx.same H1 (AObj.map .s (upm (mpF check_finder_fresh_V0 (Mp.get a1)) (.string a2) (.v (.int .i64 (IntKind.i64.wrap ((Option.getD (Mp.get a1 a2) (0 : Int)) + (1 : Int)))))) (Mp.n a1 + 1))) (mpF_put (f := check_finder_fresh_V0) h2)).get TT) (k := ?_)
  have q1 := Gx.apart H1 H0 (by intro h; cases h)
  have q2 := Gx.same H1 (AObj.map .s (upm (mpF check_finder_fresh_V0 (Mp.get a1)) (.string a2) (.v (.int .i64 (IntKind.i64.wrap ((Option.getD (Mp.get a1 a2) (0 : Int)) + (1 : Int)))))) (Mp.n a1 + 1))
  have q3 := Gx.cast q2 (mpF_put (f := check_finder_fresh_V0) h2)
  have q4 := cj11 E0 E1 E2 E3 H0.get H1.get R3 (putO_some h2).1 (H0.ne q1 (some (AObj.map .s (upm (mpF check_finder_fresh_V0 (Mp.get a1)) (.string a2) (.v (.int .i64 (IntKind.i64.wrap ((Option.getD (Mp.get a1 a2) (0 : Int)) + (1 : Int)))))) (Mp.n a1 + 1)))).get q3.get TT
  exact cw_n ⟨_, WkE.refl _, (List.set σ j1 (some (AObj.map .s (upm (mpF check_finder_fresh_V0 (Mp.get a1)) (.string a2) (.v (.int .i64 (IntKind.i64.wrap ((Option.getD (Mp.get a1 a2) (0 : Int)) + (1 : Int)))))) (Mp.n a1 + 1)))), (H0.ne q1 (some (AObj.map .s (upm (mpF check_finder_fresh_V0 (Mp.get a1)) (.string a2) (.v (.int .i64 (IntKind.i64.wrap ((Option.getD (Mp.get a1 a2) (0 : Int)) + (1 : Int)))))) (Mp.n a1 + 1)))), q3, (xv q4), (xv q4), (xv q4), (xv q4), (hF.set (by simp) (some (AObj.map .s (upm (mpF check_finder_fresh_V0 (Mp.get a1)) (.string a2) (.v (.int .i64 (IntKind.i64.wrap ((Option.getD (Mp.get a1 a2) (0 : Int)) + (1 : Int)))))) (Mp.n a1 + 1)))), (hP.setp (hF.lt jl1) (some (AObj.map .s (upm (mpF check_finder_fresh_V0 (Mp.get a1)) (.string a2) (.v (.int .i64 (IntKind.i64.wrap ((Option.getD (Mp.get a1 a2) (0 : Int)) + (1 : Int)))))) (Mp.n a1 + 1))))⟩
 obtain ⟨τ, X0, X1, E0, E1, E2, E3, hF, hP⟩ := hI
 refine w_sa (fun e s => ∃ τ : Store, Gx s j0 (AObj.box 106 [(.v (.int .i64 a0.at_)), (.v (.int .i64 a0.e))]) ∧ Gx s j1 (AObj.map .s (mpF check_finder_fresh_V0 (Mp.get y1)) (Mp.n y1)) ∧ e 0 = (.pt j0 0) ∧ e 3 = (.v (.int .i64 a3)) ∧ e 15 = (.v (.bool (decide ((1 : Int) < (Option.getD (Mp.get y1 a2) (0 : Int)))))) ∧ Fr σ τ [j0, j1] ∧ Pre τ s) ?_ fun e s hI => ?_
 ·have R4 : Option.getD (Option.map check_finder_fresh_V0 (Mp.get y1 a2)) (.v (.int .i64 (0 : Int))) = (.v (.int .i64 (Option.getD (Mp.get y1 a2) (0 : Int)))) := by cases Mp.get y1 a2 <;> rfl
  refine w_x (cj8 E0 E1 E2 E3 X0.get X1.get R4 TT) (k := ?_)
  have q5 := cj8 E0 E1 E2 E3 X0.get X1.get R4 TT
  exact cw_n ⟨_, WkE.refl _, τ, X0, X1, (xv q5), (xv q5), (xv q5), hF, hP⟩
 obtain ⟨τ, X0, X1, E0, E3, E15, hF, hP⟩ := hI
 obtain ⟨x5, h6, h⟩ := bnd_some h
 refine w_an (fun e s => ∃ vf_7 : check_finder, ∃ τ : Store, vf_7 = x5 ∧ Gx s j0 (AObj.box 106 [(.v (.int .i64 vf_7.at_)), (.v (.int .i64 vf_7.e))]) ∧ Gx s j1 (AObj.map .s (mpF check_finder_fresh_V0 (Mp.get y1)) (Mp.n y1)) ∧ Fr σ τ [j0, j1] ∧ Pre τ s) ?_ fun e s hI => ?_
 ·rcases ite_some h6 with ⟨hb8, h6⟩ | ⟨hb8, h6⟩
  ·refine xt (cj4 E0 E3 E15 hb8) ?_
   obtain ⟨y9, h10, h6⟩ := bnd_some h6
   refine w_x (cj8 E0 E3 E15 X0.get X1.get (Gx.same X0 (AObj.box 106 [(.v (.int .i64 y9.2.at_)), (.v (.int .i64 y9.2.e))])).get (X1.ne (Gx.apart X0 X1 (by intro h; cases h)) (some (AObj.box 106 [(.v (.int .i64 y9.2.at_)), (.v (.int .i64 y9.2.e))]))).get TT) (k := ?_)
   refine EC.wka (.cons (.refl _) (.cons (.refl _) (.cons (.refl _) .nil))) (S_check_finder_fail _ _ _ _ h10 _ _ _ X0 ?_)
   refine w_y (cj8 E0 E3 E15 X0.get X1.get (Gx.same X0 (AObj.box 106 [(.v (.int .i64 y9.2.at_)), (.v (.int .i64 y9.2.e))])).get (X1.ne (Gx.apart X0 X1 (by intro h; cases h)) (some (AObj.box 106 [(.v (.int .i64 y9.2.at_)), (.v (.int .i64 y9.2.e))]))).get TT) (k := ?_)
   obtain rfl := some_inj h6
   exact ct_n ⟨_, (List.set τ j0 (some (AObj.box 106 [(.v (.int .i64 y9.2.at_)), (.v (.int .i64 y9.2.e))]))), rfl, (Gx.same X0 (AObj.box 106 [(.v (.int .i64 y9.2.at_)), (.v (.int .i64 y9.2.e))])), (X1.ne (Gx.apart X0 X1 (by intro h; cases h)) (some (AObj.box 106 [(.v (.int .i64 y9.2.at_)), (.v (.int .i64 y9.2.e))]))), (hF.set (by simp) (some (AObj.box 106 [(.v (.int .i64 y9.2.at_)), (.v (.int .i64 y9.2.e))]))), (hP.setp (hF.lt jl0) (some (AObj.box 106 [(.v (.int .i64 y9.2.at_)), (.v (.int .i64 y9.2.e))])))⟩
  ·refine xf (cj4 E0 E3 E15 hb8) ?_
   refine w_skip ?_
   obtain rfl := some_inj h6
   exact ct_n ⟨_, τ, rfl, X0, X1, hF, hP⟩
 obtain ⟨vf_7, τ, rfl, X0, X1, hF, hP⟩ := hI
 try dsimp only at h
 obtain rfl := some_inj h
 have hn11 : (List.map (·.1) ([(j0, (AObj.box 106 [(.v (.int .i64 vf_7.at_)), (.v (.int .i64 vf_7.e))])), (j1, (AObj.map .s (mpF check_finder_fresh_V0 (Mp.get y1)) (Mp.n y1)))] : List (Nat × AObj))).Nodup := (List.nodup_cons.2 ⟨(by simp only [List.map_cons, List.map_nil, List.mem_cons, List.not_mem_nil, or_false, not_or]; exact (Gx.apart X0 X1 (by intro h; cases h))), (List.nodup_cons.2 ⟨(fun h => by simp at h), List.nodup_nil⟩)⟩)
 have he12 := Fr.eq (l := [(j0, (AObj.box 106 [(.v (.int .i64 vf_7.at_)), (.v (.int .i64 vf_7.e))])), (j1, (AObj.map .s (mpF check_finder_fresh_V0 (Mp.get y1)) (Mp.n y1)))]) hF hn11 (List.forall_mem_cons.2 ⟨⟨jl0, (Gx.back X0 hP (hF.lt jl0))⟩, (List.forall_mem_cons.2 ⟨⟨jl1, (Gx.back X1 hP (hF.lt jl1))⟩, (fun x hx => absurd hx (by simp))⟩)⟩)
 exact w_end (fun h => absurd rfl h) (xr (rs := #[]) trivial) ⟨[(j0, (AObj.box 106 [(.v (.int .i64 vf_7.at_)), (.v (.int .i64 vf_7.e))])), (j1, (AObj.map .s (mpF check_finder_fresh_V0 (Mp.get y1)) (Mp.n y1)))], hn11, (List.forall_mem_cons.2 ⟨⟨jl0, (ClO.bx (ClL.cons (Cn.cl (.v _) _) (ClL.cons (Cn.cl (.v _) _) ClL.nil)))⟩, (List.forall_mem_cons.2 ⟨⟨jl1, ((CnO.mp (fun _ => (.v _)) _ _).cl _)⟩, (fun x hx => absurd hx (by simp))⟩)⟩), he12 ▸ hP, (.tu []), (.refl _), (.tu CnL.nil), hK⟩
noncomputable def check_finder_expr_L0 (a1 : Expr) (a2 : (Mp Int)) (a3 : (Mp Int)) (f_check_finder_expr : check_finder → Expr → (Mp Int) → (Mp Int) → Option (Unit × check_finder)) : (Int × check_finder) → Option ((Int × check_finder) ⊕ check_finder)
 | (v61_31, v0_32) =>
  if (decide (v61_31 < ((List.length a1.args : Nat) : Int))) then
   ((getI a1.args v61_31).bind fun y39 =>
   (f_check_finder_expr v0_32 y39 a2 a3).bind fun y42 =>
   some y42.2 : Option check_finder).bind fun v0_38 =>
   some (.inl ((IntKind.i64.wrap (v61_31 + (1 : Int))), v0_38))
  else
   some (.inr v0_32)
noncomputable def B_check_finder_expr (f_check_finder_expr : check_finder → Expr → (Mp Int) → (Mp Int) → Option (Unit × check_finder)) (f_check_finder_fail : check_finder → Int → Int → Option (Unit × check_finder)) (a0 : check_finder) (a1 : Expr) (a2 : (Mp Int)) (a3 : (Mp Int)) : Option (Unit × check_finder) :=
 ((if ((decide (a1.kind = (1 : Int))) && (decide ((Option.getD (Mp.get a2 a1.name) (0 : Int)) = (0 : Int)))) then
  (f_check_finder_fail a0 a1.at_ (3 : Int)).bind fun y10 =>
  some y10.2
 else
  (if ((decide (a1.kind = (2 : Int))) && (decide ((Option.getD (Mp.get a3 a1.name) (0 : Int)) = (0 : Int)))) then
   (f_check_finder_fail a0 a1.at_ (3 : Int)).bind fun y18 =>
   some y18.2
  else
   (if ((decide (a1.kind = (2 : Int))) && (!decide ((Option.getD (Mp.get a3 a1.name) (0 : Int)) = ((List.length a1.args : Nat) : Int)))) then
    (f_check_finder_fail a0 a1.at_ (4 : Int)).bind fun y26 =>
    some y26.2
   else
    some a0 : Option check_finder).bind fun v0_24 =>
   some v0_24 : Option check_finder).bind fun v0_16 =>
  some v0_16 : Option check_finder).bind fun v0_8 =>
 some v0_8 : Option check_finder).bind fun v0_3 =>
 (iterO (check_finder_expr_L0 a1 a2 a3 f_check_finder_expr) ((0 : Int), v0_3) : Option check_finder).bind fun v0_30 =>
 some ((), v0_30)
abbrev check_finder_expr_V0 : Int → PV := fun v : Int => (PV.v (.int .i64 v))
abbrev check_finder_expr_A0 (a1 : Expr) : List PV := [(.v (.int .i64 a1.kind)), (.v (.string a1.name)), (.v (.int .i64 a1.n)), (.v (.int .i64 a1.d)), (.sl (Expr.rows a1.args)), (.v (.int .i64 a1.at_))]
theorem W_check_finder_expr (f_check_finder_expr : check_finder → Expr → (Mp Int) → (Mp Int) → Option (Unit × check_finder)) (f_check_finder_fail : check_finder → Int → Int → Option (Unit × check_finder)) (S_check_finder_expr : Sat_check_finder_expr f_check_finder_expr) (S_check_finder_fail : Sat_check_finder_fail f_check_finder_fail) : Sat_check_finder_expr (B_check_finder_expr f_check_finder_expr f_check_finder_fail) := by
 intro a0 a1 a2 a3 r h σ K j0 j2 j3 H0 H2 H3 hK
 refine w_fq (Q := fun r s => ∃ l : List (Nat × AObj), (l.map (·.1)).Nodup ∧ (∀ x ∈ l, x.1 < σ.length ∧ ClO σ.length x.2) ∧ Pq σ l K r s) Try.func46 rfl rfl (by kernel_rfl) (fun _ _ h => h) ?_
 unfold B_check_finder_expr at h
 have hP := Pre.refl σ
 have jl0 := H0.lt
 have jl2 := H2.lt
 have jl3 := H3.lt
 have hF := Fr.refl σ [j0]
 have E0 : argE [(.pt j0 0), (.ag (check_finder_expr_A0 a1)), (.mp j2), (.mp j3)] 0 = (.pt j0 0) := rfl
 have E1 : argE [(.pt j0 0), (.ag (check_finder_expr_A0 a1)), (.mp j2), (.mp j3)] 1 = (.ag (check_finder_expr_A0 a1)) := rfl
 have E2 : argE [(.pt j0 0), (.ag (check_finder_expr_A0 a1)), (.mp j2), (.mp j3)] 2 = (.mp j2) := rfl
 have E3 : argE [(.pt j0 0), (.ag (check_finder_expr_A0 a1)), (.mp j2), (.mp j3)] 3 = (.mp j3) := rfl
 have TT := cj9 Expr.rlen T_104 T_107 T_2 T_3 T_30 T_37 T_39 T_9
 refine w_sa (fun e s => ∃ i5 : Nat, ∃ τ : Store, Gx s j0 (AObj.box 106 [(.v (.int .i64 a0.at_)), (.v (.int .i64 a0.e))]) ∧ Gx s j2 (AObj.map .s (mpF check_finder_expr_V0 (Mp.get a2)) (Mp.n a2)) ∧ Gx s j3 (AObj.map .s (mpF check_finder_expr_V0 (Mp.get a3)) (Mp.n a3)) ∧ Bx σ s i5 39 (check_finder_expr_A0 a1) ∧ e 0 = (.pt j0 0) ∧ e 2 = (.mp j2) ∧ e 3 = (.mp j3) ∧ e 5 = (.pt i5 0) ∧ j0 ≠ i5 ∧ Fr σ τ [j0] ∧ Pre τ s) ?_ fun e s hI => ?_
 ·refine w_x (cj14 E0 E1 E2 E3 H0.get H0.any H0.any2 H2.get H2.any H2.any2 H3.get H3.any H3.any2 TT) (k := ?_)
  have q1 := cj14 E0 E1 E2 E3 H0.get H0.any H0.any2 H2.get H2.any H2.any2 H3.get H3.any H3.any2 TT
  exact cw_n ⟨_, WkE.refl _, σ.length, σ, (H0.app [some (AObj.box 39 (check_finder_expr_A0 a1))]), (H2.app [some (AObj.box 39 (check_finder_expr_A0 a1))]), (H3.app [some (AObj.box 39 (check_finder_expr_A0 a1))]), (Bx.newf hF hP 39 (check_finder_expr_A0 a1)), (xv q1), (xv q1), (xv q1), (xv q1), (Nat.ne_of_lt H0.lt), hF, (hP.app _)⟩
 obtain ⟨i5, τ, X0, X2, X3, X5, E0, E2, E3, E5, N0__5, hF, hP⟩ := hI
 obtain ⟨x1, h2, h⟩ := bnd_some h
 refine w_sa (fun e s => ∃ v0_3 : check_finder, ∃ τ : Store, v0_3 = x1 ∧ Gx s j0 (AObj.box 106 [(.v (.int .i64 v0_3.at_)), (.v (.int .i64 v0_3.e))]) ∧ Gx s j2 (AObj.map .s (mpF check_finder_expr_V0 (Mp.get a2)) (Mp.n a2)) ∧ Gx s j3 (AObj.map .s (mpF check_finder_expr_V0 (Mp.get a3)) (Mp.n a3)) ∧ Bx σ s i5 39 (check_finder_expr_A0 a1) ∧ e 0 = (.pt j0 0) ∧ e 2 = (.mp j2) ∧ e 3 = (.mp j3) ∧ e 5 = (.pt i5 0) ∧ j0 ≠ i5 ∧ Fr σ τ [j0] ∧ Pre τ s) ?_ fun e s hI => ?_
 ·refine w_block ?_
  refine w_sa (fun e s => ∃ τ : Store, Gx s j0 (AObj.box 106 [(.v (.int .i64 a0.at_)), (.v (.int .i64 a0.e))]) ∧ Gx s j2 (AObj.map .s (mpF check_finder_expr_V0 (Mp.get a2)) (Mp.n a2)) ∧ Gx s j3 (AObj.map .s (mpF check_finder_expr_V0 (Mp.get a3)) (Mp.n a3)) ∧ Bx σ s i5 39 (check_finder_expr_A0 a1) ∧ e 0 = (.pt j0 0) ∧ e 2 = (.mp j2) ∧ e 3 = (.mp j3) ∧ e 5 = (.pt i5 0) ∧ e 10 = (.v (.bool ((decide (a1.kind = (1 : Int))) && (decide ((Option.getD (Mp.get a2 a1.name) (0 : Int)) = (0 : Int)))))) ∧ j0 ≠ i5 ∧ Fr σ τ [j0] ∧ Pre τ s) ?_ fun e s hI => ?_
  ·cases hb4 : (decide (a1.kind = (1 : Int)))
   ·refine w_x (cj10 E0 E2 E3 E5 X0.get X2.get X3.get X5.get hb4 TT) (k := ?_)
    have q2 := cj10 E0 E2 E3 E5 X0.get X2.get X3.get X5.get hb4 TT
    exact cw_n ⟨_, WkE.refl _, τ, X0, X2, X3, X5, (xv q2), (xv q2), (xv q2), (xv q2), (xv q2), N0__5, hF, hP⟩
   ·have R5 : Option.getD (Option.map check_finder_expr_V0 (Mp.get a2 a1.name)) (.v (.int .i64 (0 : Int))) = (.v (.int .i64 (Option.getD (Mp.get a2 a1.name) (0 : Int)))) := by cases Mp.get a2 a1.name <;> rfl
    refine w_x (cj11 E0 E2 E3 E5 X0.get X2.get X3.get X5.get hb4 R5 TT) (k := ?_)
    have q3 := cj11 E0 E2 E3 E5 X0.get X2.get X3.get X5.get hb4 R5 TT
    exact cw_n ⟨_, WkE.refl _, τ, X0, X2, X3, X5, (xv q3), (xv q3), (xv q3), (xv q3), (xv q3), N0__5, hF, hP⟩
  obtain ⟨τ, X0, X2, X3, X5, E0, E2, E3, E5, E10, N0__5, hF, hP⟩ := hI
  obtain ⟨x6, h7, h2⟩ := bnd_some h2
  refine w_an (fun e s => ∃ v0_8 : check_finder, ∃ τ : Store, v0_8 = x6 ∧ Gx s j0 (AObj.box 106 [(.v (.int .i64 v0_8.at_)), (.v (.int .i64 v0_8.e))]) ∧ Gx s j2 (AObj.map .s (mpF check_finder_expr_V0 (Mp.get a2)) (Mp.n a2)) ∧ Gx s j3 (AObj.map .s (mpF check_finder_expr_V0 (Mp.get a3)) (Mp.n a3)) ∧ Bx σ s i5 39 (check_finder_expr_A0 a1) ∧ e 0 = (.pt j0 0) ∧ e 2 = (.mp j2) ∧ e 3 = (.mp j3) ∧ e 5 = (.pt i5 0) ∧ j0 ≠ i5 ∧ Fr σ τ [j0] ∧ Pre τ s) ?_ fun e s hI => ?_
  ·rcases ite_some h7 with ⟨hb9, h7⟩ | ⟨hb9, h7⟩
   ·refine xt (cj6 E0 E2 E3 E5 E10 hb9) ?_
    obtain ⟨y10, h11, h7⟩ := bnd_some h7
    refine w_x (cj14 E0 E2 E3 E5 E10 X0.get X2.get X3.get X5.get (Gx.same X0 (AObj.box 106 [(.v (.int .i64 y10.2.at_)), (.v (.int .i64 y10.2.e))])).get (X2.ne (Gx.apart X0 X2 (by intro h; cases h)) (some (AObj.box 106 [(.v (.int .i64 y10.2.at_)), (.v (.int .i64 y10.2.e))]))).get (X3.ne (Gx.apart X0 X3 (by intro h; cases h)) (some (AObj.box 106 [(.v (.int .i64 y10.2.at_)), (.v (.int .i64 y10.2.e))]))).get (X5.ne N0__5 (some (AObj.box 106 [(.v (.int .i64 y10.2.at_)), (.v (.int .i64 y10.2.e))]))).get TT) (k := ?_)
    refine EC.wka (.cons (.refl _) (.cons (.refl _) (.cons (.refl _) .nil))) (S_check_finder_fail _ _ _ _ h11 _ _ _ X0 ?_)
    refine w_y (cj14 E0 E2 E3 E5 E10 X0.get X2.get X3.get X5.get (Gx.same X0 (AObj.box 106 [(.v (.int .i64 y10.2.at_)), (.v (.int .i64 y10.2.e))])).get (X2.ne (Gx.apart X0 X2 (by intro h; cases h)) (some (AObj.box 106 [(.v (.int .i64 y10.2.at_)), (.v (.int .i64 y10.2.e))]))).get (X3.ne (Gx.apart X0 X3 (by intro h; cases h)) (some (AObj.box 106 [(.v (.int .i64 y10.2.at_)), (.v (.int .i64 y10.2.e))]))).get (X5.ne N0__5 (some (AObj.box 106 [(.v (.int .i64 y10.2.at_)), (.v (.int .i64 y10.2.e))]))).get TT) (k := ?_)
    obtain rfl := some_inj h7
    have q4 := Gx.apart X0 X2 (by intro h; cases h)
    have q5 := Gx.apart X0 X3 (by intro h; cases h)
    have q6 := Gx.same X0 (AObj.box 106 [(.v (.int .i64 y10.2.at_)), (.v (.int .i64 y10.2.e))])
    have q7 := X2.ne q4 (some (AObj.box 106 [(.v (.int .i64 y10.2.at_)), (.v (.int .i64 y10.2.e))]))
    have q8 := X3.ne q5 (some (AObj.box 106 [(.v (.int .i64 y10.2.at_)), (.v (.int .i64 y10.2.e))]))
    have q9 := X5.ne N0__5 (some (AObj.box 106 [(.v (.int .i64 y10.2.at_)), (.v (.int .i64 y10.2.e))]))
    have q10 := cj14 E0 E2 E3 E5 E10 X0.get X2.get X3.get X5.get q6.get q7.get q8.get q9.get TT
    exact ct_n ⟨_, (List.set τ j0 (some (AObj.box 106 [(.v (.int .i64 y10.2.at_)), (.v (.int .i64 y10.2.e))]))), rfl, q6, q7, q8, q9, (xv q10), (xv q10), (xv q10), (xv q10), N0__5, (hF.set (by simp) (some (AObj.box 106 [(.v (.int .i64 y10.2.at_)), (.v (.int .i64 y10.2.e))]))), (hP.setp (hF.lt jl0) (some (AObj.box 106 [(.v (.int .i64 y10.2.at_)), (.v (.int .i64 y10.2.e))])))⟩
   ·refine xf (cj6 E0 E2 E3 E5 E10 hb9) ?_
    refine w_sa (fun e s => ∃ τ : Store, Gx s j0 (AObj.box 106 [(.v (.int .i64 a0.at_)), (.v (.int .i64 a0.e))]) ∧ Gx s j2 (AObj.map .s (mpF check_finder_expr_V0 (Mp.get a2)) (Mp.n a2)) ∧ Gx s j3 (AObj.map .s (mpF check_finder_expr_V0 (Mp.get a3)) (Mp.n a3)) ∧ Bx σ s i5 39 (check_finder_expr_A0 a1) ∧ e 0 = (.pt j0 0) ∧ e 2 = (.mp j2) ∧ e 3 = (.mp j3) ∧ e 5 = (.pt i5 0) ∧ e 25 = (.v (.bool ((decide (a1.kind = (2 : Int))) && (decide ((Option.getD (Mp.get a3 a1.name) (0 : Int)) = (0 : Int)))))) ∧ j0 ≠ i5 ∧ Fr σ τ [j0] ∧ Pre τ s) ?_ fun e s hI => ?_
    ·cases hb12 : (decide (a1.kind = (2 : Int)))
     ·refine w_x (cj11 E0 E2 E3 E5 E10 X0.get X2.get X3.get X5.get hb12 TT) (k := ?_)
      have q11 := cj11 E0 E2 E3 E5 E10 X0.get X2.get X3.get X5.get hb12 TT
      exact cw_n ⟨_, WkE.refl _, τ, X0, X2, X3, X5, (xv q11), (xv q11), (xv q11), (xv q11), (xv q11), N0__5, hF, hP⟩
     ·have R13 : Option.getD (Option.map check_finder_expr_V0 (Mp.get a3 a1.name)) (.v (.int .i64 (0 : Int))) = (.v (.int .i64 (Option.getD (Mp.get a3 a1.name) (0 : Int)))) := by cases Mp.get a3 a1.name <;> rfl
      refine w_x (cj12 E0 E2 E3 E5 E10 X0.get X2.get X3.get X5.get hb12 R13 TT) (k := ?_)
      have q12 := cj12 E0 E2 E3 E5 E10 X0.get X2.get X3.get X5.get hb12 R13 TT
      exact cw_n ⟨_, WkE.refl _, τ, X0, X2, X3, X5, (xv q12), (xv q12), (xv q12), (xv q12), (xv q12), N0__5, hF, hP⟩
    obtain ⟨τ, X0, X2, X3, X5, E0, E2, E3, E5, E25, N0__5, hF, hP⟩ := hI
    obtain ⟨x14, h15, h7⟩ := bnd_some h7
    refine w_an (fun e s => ∃ v0_16 : check_finder, ∃ τ : Store, v0_16 = x14 ∧ Gx s j0 (AObj.box 106 [(.v (.int .i64 v0_16.at_)), (.v (.int .i64 v0_16.e))]) ∧ Gx s j2 (AObj.map .s (mpF check_finder_expr_V0 (Mp.get a2)) (Mp.n a2)) ∧ Gx s j3 (AObj.map .s (mpF check_finder_expr_V0 (Mp.get a3)) (Mp.n a3)) ∧ Bx σ s i5 39 (check_finder_expr_A0 a1) ∧ e 0 = (.pt j0 0) ∧ e 2 = (.mp j2) ∧ e 3 = (.mp j3) ∧ e 5 = (.pt i5 0) ∧ j0 ≠ i5 ∧ Fr σ τ [j0] ∧ Pre τ s) ?_ fun e s hI => ?_
    ·rcases ite_some h15 with ⟨hb17, h15⟩ | ⟨hb17, h15⟩
     ·refine xt (cj6 E0 E2 E3 E5 E25 hb17) ?_
      obtain ⟨y18, h19, h15⟩ := bnd_some h15
      refine w_x (cj14 E0 E2 E3 E5 E25 X0.get X2.get X3.get X5.get (Gx.same X0 (AObj.box 106 [(.v (.int .i64 y18.2.at_)), (.v (.int .i64 y18.2.e))])).get (X2.ne (Gx.apart X0 X2 (by intro h; cases h)) (some (AObj.box 106 [(.v (.int .i64 y18.2.at_)), (.v (.int .i64 y18.2.e))]))).get (X3.ne (Gx.apart X0 X3 (by intro h; cases h)) (some (AObj.box 106 [(.v (.int .i64 y18.2.at_)), (.v (.int .i64 y18.2.e))]))).get (X5.ne N0__5 (some (AObj.box 106 [(.v (.int .i64 y18.2.at_)), (.v (.int .i64 y18.2.e))]))).get TT) (k := ?_)
      refine EC.wka (.cons (.refl _) (.cons (.refl _) (.cons (.refl _) .nil))) (S_check_finder_fail _ _ _ _ h19 _ _ _ X0 ?_)
      refine w_y (cj14 E0 E2 E3 E5 E25 X0.get X2.get X3.get X5.get (Gx.same X0 (AObj.box 106 [(.v (.int .i64 y18.2.at_)), (.v (.int .i64 y18.2.e))])).get (X2.ne (Gx.apart X0 X2 (by intro h; cases h)) (some (AObj.box 106 [(.v (.int .i64 y18.2.at_)), (.v (.int .i64 y18.2.e))]))).get (X3.ne (Gx.apart X0 X3 (by intro h; cases h)) (some (AObj.box 106 [(.v (.int .i64 y18.2.at_)), (.v (.int .i64 y18.2.e))]))).get (X5.ne N0__5 (some (AObj.box 106 [(.v (.int .i64 y18.2.at_)), (.v (.int .i64 y18.2.e))]))).get TT) (k := ?_)
      obtain rfl := some_inj h15
      have q13 := Gx.apart X0 X2 (by intro h; cases h)
      have q14 := Gx.apart X0 X3 (by intro h; cases h)
      have q15 := Gx.same X0 (AObj.box 106 [(.v (.int .i64 y18.2.at_)), (.v (.int .i64 y18.2.e))])
      have q16 := X2.ne q13 (some (AObj.box 106 [(.v (.int .i64 y18.2.at_)), (.v (.int .i64 y18.2.e))]))
      have q17 := X3.ne q14 (some (AObj.box 106 [(.v (.int .i64 y18.2.at_)), (.v (.int .i64 y18.2.e))]))
      have q18 := X5.ne N0__5 (some (AObj.box 106 [(.v (.int .i64 y18.2.at_)), (.v (.int .i64 y18.2.e))]))
      have q19 := cj14 E0 E2 E3 E5 E25 X0.get X2.get X3.get X5.get q15.get q16.get q17.get q18.get TT
      exact ct_n ⟨_, (List.set τ j0 (some (AObj.box 106 [(.v (.int .i64 y18.2.at_)), (.v (.int .i64 y18.2.e))]))), rfl, q15, q16, q17, q18, (xv q19), (xv q19), (xv q19), (xv q19), N0__5, (hF.set (by simp) (some (AObj.box 106 [(.v (.int .i64 y18.2.at_)), (.v (.int .i64 y18.2.e))]))), (hP.setp (hF.lt jl0) (some (AObj.box 106 [(.v (.int .i64 y18.2.at_)), (.v (.int .i64 y18.2.e))])))⟩
     ·refine xf (cj6 E0 E2 E3 E5 E25 hb17) ?_
      refine w_sa (fun e s => ∃ τ : Store, Gx s j0 (AObj.box 106 [(.v (.int .i64 a0.at_)), (.v (.int .i64 a0.e))]) ∧ Gx s j2 (AObj.map .s (mpF check_finder_expr_V0 (Mp.get a2)) (Mp.n a2)) ∧ Gx s j3 (AObj.map .s (mpF check_finder_expr_V0 (Mp.get a3)) (Mp.n a3)) ∧ Bx σ s i5 39 (check_finder_expr_A0 a1) ∧ e 0 = (.pt j0 0) ∧ e 2 = (.mp j2) ∧ e 3 = (.mp j3) ∧ e 5 = (.pt i5 0) ∧ e 40 = (.v (.bool ((decide (a1.kind = (2 : Int))) && (!decide ((Option.getD (Mp.get a3 a1.name) (0 : Int)) = ((List.length a1.args : Nat) : Int)))))) ∧ j0 ≠ i5 ∧ Fr σ τ [j0] ∧ Pre τ s) ?_ fun e s hI => ?_
      ·cases hb20 : (decide (a1.kind = (2 : Int)))
       ·refine w_x (cj11 E0 E2 E3 E5 E25 X0.get X2.get X3.get X5.get hb20 TT) (k := ?_)
        have q20 := cj11 E0 E2 E3 E5 E25 X0.get X2.get X3.get X5.get hb20 TT
        exact cw_n ⟨_, WkE.refl _, τ, X0, X2, X3, X5, (xv q20), (xv q20), (xv q20), (xv q20), (xv q20), N0__5, hF, hP⟩
       ·have R21 : Option.getD (Option.map check_finder_expr_V0 (Mp.get a3 a1.name)) (.v (.int .i64 (0 : Int))) = (.v (.int .i64 (Option.getD (Mp.get a3 a1.name) (0 : Int)))) := by cases Mp.get a3 a1.name <;> rfl
        refine w_x (cj12 E0 E2 E3 E5 E25 X0.get X2.get X3.get X5.get hb20 R21 TT) (k := ?_)
        have q21 := cj12 E0 E2 E3 E5 E25 X0.get X2.get X3.get X5.get hb20 R21 TT
        exact cw_n ⟨_, WkE.refl _, τ, X0, X2, X3, X5, (xv q21), (xv q21), (xv q21), (xv q21), (xv q21), N0__5, hF, hP⟩
      obtain ⟨τ, X0, X2, X3, X5, E0, E2, E3, E5, E40, N0__5, hF, hP⟩ := hI
      obtain ⟨x22, h23, h15⟩ := bnd_some h15
      refine w_an (fun e s => ∃ v0_24 : check_finder, ∃ τ : Store, v0_24 = x22 ∧ Gx s j0 (AObj.box 106 [(.v (.int .i64 v0_24.at_)), (.v (.int .i64 v0_24.e))]) ∧ Gx s j2 (AObj.map .s (mpF check_finder_expr_V0 (Mp.get a2)) (Mp.n a2)) ∧ Gx s j3 (AObj.map .s (mpF check_finder_expr_V0 (Mp.get a3)) (Mp.n a3)) ∧ Bx σ s i5 39 (check_finder_expr_A0 a1) ∧ e 0 = (.pt j0 0) ∧ e 2 = (.mp j2) ∧ e 3 = (.mp j3) ∧ e 5 = (.pt i5 0) ∧ j0 ≠ i5 ∧ Fr σ τ [j0] ∧ Pre τ s) ?_ fun e s hI => ?_
      ·rcases ite_some h23 with ⟨hb25, h23⟩ | ⟨hb25, h23⟩
       ·refine xt (cj6 E0 E2 E3 E5 E40 hb25) ?_
        obtain ⟨y26, h27, h23⟩ := bnd_some h23
        refine w_x (cj14 E0 E2 E3 E5 E40 X0.get X2.get X3.get X5.get (Gx.same X0 (AObj.box 106 [(.v (.int .i64 y26.2.at_)), (.v (.int .i64 y26.2.e))])).get (X2.ne (Gx.apart X0 X2 (by intro h; cases h)) (some (AObj.box 106 [(.v (.int .i64 y26.2.at_)), (.v (.int .i64 y26.2.e))]))).get (X3.ne (Gx.apart X0 X3 (by intro h; cases h)) (some (AObj.box 106 [(.v (.int .i64 y26.2.at_)), (.v (.int .i64 y26.2.e))]))).get (X5.ne N0__5 (some (AObj.box 106 [(.v (.int .i64 y26.2.at_)), (.v (.int .i64 y26.2.e))]))).get TT) (k := ?_)
        refine EC.wka (.cons (.refl _) (.cons (.refl _) (.cons (.refl _) .nil))) (S_check_finder_fail _ _ _ _ h27 _ _ _ X0 ?_)
        refine w_y (cj14 E0 E2 E3 E5 E40 X0.get X2.get X3.get X5.get (Gx.same X0 (AObj.box 106 [(.v (.int .i64 y26.2.at_)), (.v (.int .i64 y26.2.e))])).get (X2.ne (Gx.apart X0 X2 (by intro h; cases h)) (some (AObj.box 106 [(.v (.int .i64 y26.2.at_)), (.v (.int .i64 y26.2.e))]))).get (X3.ne (Gx.apart X0 X3 (by intro h; cases h)) (some (AObj.box 106 [(.v (.int .i64 y26.2.at_)), (.v (.int .i64 y26.2.e))]))).get (X5.ne N0__5 (some (AObj.box 106 [(.v (.int .i64 y26.2.at_)), (.v (.int .i64 y26.2.e))]))).get TT) (k := ?_)
        obtain rfl := some_inj h23
        have q22 := Gx.apart X0 X2 (by intro h; cases h)
        have q23 := Gx.apart X0 X3 (by intro h; cases h)
        have q24 := Gx.same X0 (AObj.box 106 [(.v (.int .i64 y26.2.at_)), (.v (.int .i64 y26.2.e))])
        have q25 := X2.ne q22 (some (AObj.box 106 [(.v (.int .i64 y26.2.at_)), (.v (.int .i64 y26.2.e))]))
        have q26 := X3.ne q23 (some (AObj.box 106 [(.v (.int .i64 y26.2.at_)), (.v (.int .i64 y26.2.e))]))
        have q27 := X5.ne N0__5 (some (AObj.box 106 [(.v (.int .i64 y26.2.at_)), (.v (.int .i64 y26.2.e))]))
        have q28 := cj14 E0 E2 E3 E5 E40 X0.get X2.get X3.get X5.get q24.get q25.get q26.get q27.get TT
        exact ct_n ⟨_, (List.set τ j0 (some (AObj.box 106 [(.v (.int .i64 y26.2.at_)), (.v (.int .i64 y26.2.e))]))), rfl, q24, q25, q26, q27, (xv q28), (xv q28), (xv q28), (xv q28), N0__5, (hF.set (by simp) (some (AObj.box 106 [(.v (.int .i64 y26.2.at_)), (.v (.int .i64 y26.2.e))]))), (hP.setp (hF.lt jl0) (some (AObj.box 106 [(.v (.int .i64 y26.2.at_)), (.v (.int .i64 y26.2.e))])))⟩
       ·refine xf (cj6 E0 E2 E3 E5 E40 hb25) ?_
        refine w_skip ?_
        obtain rfl := some_inj h23
        have q29 := cj5 E0 E2 E3 E5 E40
        exact ct_n ⟨_, τ, rfl, X0, X2, X3, X5, (xv q29), (xv q29), (xv q29), (xv q29), N0__5, hF, hP⟩
      obtain ⟨v0_24, τ, rfl, X0, X2, X3, X5, E0, E2, E3, E5, N0__5, hF, hP⟩ := hI
      try dsimp only at h15
      obtain rfl := some_inj h15
      have q30 := cj4 E0 E2 E3 E5
      exact ct_n ⟨_, τ, rfl, X0, X2, X3, X5, (xv q30), (xv q30), (xv q30), (xv q30), N0__5, hF, hP⟩
    obtain ⟨v0_16, τ, rfl, X0, X2, X3, X5, E0, E2, E3, E5, N0__5, hF, hP⟩ := hI
    try dsimp only at h7
    obtain rfl := some_inj h7
    have q31 := cj4 E0 E2 E3 E5
    exact ct_n ⟨_, τ, rfl, X0, X2, X3, X5, (xv q31), (xv q31), (xv q31), (xv q31), N0__5, hF, hP⟩
  obtain ⟨v0_8, τ, rfl, X0, X2, X3, X5, E0, E2, E3, E5, N0__5, hF, hP⟩ := hI
  try dsimp only at h2
  refine w_bk ?_
  obtain rfl := some_inj h2
  have q32 := cj4 E0 E2 E3 E5
  exact cw_n ⟨_, WkE.refl _, _, τ, rfl, X0, X2, X3, X5, (xv q32), (xv q32), (xv q32), (xv q32), N0__5, hF, hP⟩
 obtain ⟨v0_3, τ, rfl, X0, X2, X3, X5, E0, E2, E3, E5, N0__5, hF, hP⟩ := hI
 try dsimp only at h
 refine w_sa (fun e s => ∃ τ : Store, Gx s j0 (AObj.box 106 [(.v (.int .i64 v0_3.at_)), (.v (.int .i64 v0_3.e))]) ∧ Gx s j2 (AObj.map .s (mpF check_finder_expr_V0 (Mp.get a2)) (Mp.n a2)) ∧ Gx s j3 (AObj.map .s (mpF check_finder_expr_V0 (Mp.get a3)) (Mp.n a3)) ∧ e 0 = (.pt j0 0) ∧ e 2 = (.mp j2) ∧ e 3 = (.mp j3) ∧ e 59 = (.sl (Expr.rows a1.args)) ∧ e 60 = (.v (.int .i64 ((List.length a1.args : Nat) : Int))) ∧ e 61 = (.v (.int .i64 (0 : Int))) ∧ Fr σ τ [j0] ∧ Pre τ s) ?_ fun e s hI => ?_
 ·refine w_x (cj9 E0 E2 E3 E5 X0.get X2.get X3.get X5.get TT) (k := ?_)
  have q33 := cj9 E0 E2 E3 E5 X0.get X2.get X3.get X5.get TT
  exact cw_n ⟨_, WkE.refl _, τ, X0, X2, X3, (xv q33), (xv q33), (xv q33), (xv q33), (xv q33), (xv q33), hF, hP⟩
 obtain ⟨τ, X0, X2, X3, E0, E2, E3, E59, E60, E61, hF, hP⟩ := hI
 obtain ⟨x28, h29, h⟩ := bnd_some h
 refine w_an (fun e s => ∃ v0_30 : check_finder, ∃ τ : Store, v0_30 = x28 ∧ Gx s j0 (AObj.box 106 [(.v (.int .i64 v0_30.at_)), (.v (.int .i64 v0_30.e))]) ∧ Gx s j2 (AObj.map .s (mpF check_finder_expr_V0 (Mp.get a2)) (Mp.n a2)) ∧ Gx s j3 (AObj.map .s (mpF check_finder_expr_V0 (Mp.get a3)) (Mp.n a3)) ∧ Fr σ τ [j0] ∧ Pre τ s) ?_ fun e s hI => ?_
 ·refine w_block ?_
  have q34 := cj6 E0 E2 E3 E59 E60 E61
  refine w_iter h29 (fun v e s => ∃ v61_31 : Int, ∃ v0_32 : check_finder, ∃ τ : Store, (v61_31, v0_32) = v ∧ Gx s j0 (AObj.box 106 [(.v (.int .i64 v0_32.at_)), (.v (.int .i64 v0_32.e))]) ∧ Gx s j2 (AObj.map .s (mpF check_finder_expr_V0 (Mp.get a2)) (Mp.n a2)) ∧ Gx s j3 (AObj.map .s (mpF check_finder_expr_V0 (Mp.get a3)) (Mp.n a3)) ∧ e 0 = (.pt j0 0) ∧ e 2 = (.mp j2) ∧ e 3 = (.mp j3) ∧ e 59 = (.sl (Expr.rows a1.args)) ∧ e 60 = (.v (.int .i64 ((List.length a1.args : Nat) : Int))) ∧ e 61 = (.v (.int .i64 v61_31)) ∧ Fr σ τ [j0] ∧ Pre τ s) ⟨_, WkE.refl _, _, _, τ, rfl, X0, X2, X3, (xv q34), (xv q34), (xv q34), (xv q34), (xv q34), (xv q34), hF, hP⟩ fun v x33 e s hf34 hI => ?_
  obtain ⟨v61_31, v0_32, τ, rfl, X0, X2, X3, E0, E2, E3, E59, E60, E61, hF, hP⟩ := hI
  unfold check_finder_expr_L0 at hf34
  try dsimp only at hf34
  refine w_sa (fun e s => ∃ τ : Store, Gx s j0 (AObj.box 106 [(.v (.int .i64 v0_32.at_)), (.v (.int .i64 v0_32.e))]) ∧ Gx s j2 (AObj.map .s (mpF check_finder_expr_V0 (Mp.get a2)) (Mp.n a2)) ∧ Gx s j3 (AObj.map .s (mpF check_finder_expr_V0 (Mp.get a3)) (Mp.n a3)) ∧ e 0 = (.pt j0 0) ∧ e 2 = (.mp j2) ∧ e 3 = (.mp j3) ∧ e 59 = (.sl (Expr.rows a1.args)) ∧ e 60 = (.v (.int .i64 ((List.length a1.args : Nat) : Int))) ∧ e 61 = (.v (.int .i64 v61_31)) ∧ e 62 = (.v (.bool (decide (v61_31 < ((List.length a1.args : Nat) : Int))))) ∧ Fr σ τ [j0] ∧ Pre τ s) ?_ fun e s hI => ?_
  ·refine w_x (cj10 E0 E2 E3 E59 E60 E61 X0.get X2.get X3.get TT) (k := ?_)
   have q35 := cj10 E0 E2 E3 E59 E60 E61 X0.get X2.get X3.get TT
   exact cw_n ⟨_, WkE.refl _, τ, X0, X2, X3, (xv q35), (xv q35), (xv q35), (xv q35), (xv q35), (xv q35), (xv q35), hF, hP⟩
  obtain ⟨τ, X0, X2, X3, E0, E2, E3, E59, E60, E61, E62, hF, hP⟩ := hI
  refine w_seq ?_
  rcases ite_some hf34 with ⟨hb35, hf34⟩ | ⟨hb35, hf34⟩
  ·refine xt (cj8 E0 E2 E3 E59 E60 E61 E62 hb35) ?_
   refine w_skip ?_
   refine w_sq ?_
   obtain ⟨x36, h37, hf34⟩ := bnd_some hf34
   refine w_sa (fun e s => ∃ v0_38 : check_finder, ∃ τ : Store, v0_38 = x36 ∧ Gx s j0 (AObj.box 106 [(.v (.int .i64 v0_38.at_)), (.v (.int .i64 v0_38.e))]) ∧ Gx s j2 (AObj.map .s (mpF check_finder_expr_V0 (Mp.get a2)) (Mp.n a2)) ∧ Gx s j3 (AObj.map .s (mpF check_finder_expr_V0 (Mp.get a3)) (Mp.n a3)) ∧ e 0 = (.pt j0 0) ∧ e 2 = (.mp j2) ∧ e 3 = (.mp j3) ∧ e 59 = (.sl (Expr.rows a1.args)) ∧ e 60 = (.v (.int .i64 ((List.length a1.args : Nat) : Int))) ∧ e 61 = (.v (.int .i64 v61_31)) ∧ Fr σ τ [j0] ∧ Pre τ s) ?_ fun e s hI => ?_
   ·refine w_block ?_
    obtain ⟨y39, h40, h37⟩ := bnd_some h37
    refine w_sa (fun e s => ∃ i9 : Nat, ∃ τ : Store, Gx s j0 (AObj.box 106 [(.v (.int .i64 v0_32.at_)), (.v (.int .i64 v0_32.e))]) ∧ Gx s j2 (AObj.map .s (mpF check_finder_expr_V0 (Mp.get a2)) (Mp.n a2)) ∧ Gx s j3 (AObj.map .s (mpF check_finder_expr_V0 (Mp.get a3)) (Mp.n a3)) ∧ Bx σ s i9 39 [(.v (.int .i64 y39.kind)), (.v (.string y39.name)), (.v (.int .i64 y39.n)), (.v (.int .i64 y39.d)), (.sl (Expr.rows y39.args)), (.v (.int .i64 y39.at_))] ∧ e 0 = (.pt j0 0) ∧ e 2 = (.mp j2) ∧ e 3 = (.mp j3) ∧ e 9 = (.pt i9 0) ∧ e 59 = (.sl (Expr.rows a1.args)) ∧ e 60 = (.v (.int .i64 ((List.length a1.args : Nat) : Int))) ∧ e 61 = (.v (.int .i64 v61_31)) ∧ j0 ≠ i9 ∧ Fr σ τ [j0] ∧ Pre τ s) ?_ fun e s hI => ?_
    ·have R41 : (Expr.rows a1.args)[(v61_31).toNat]? = some [(.v (.int .i64 y39.kind)), (.v (.string y39.name)), (.v (.int .i64 y39.n)), (.v (.int .i64 y39.d)), (.sl (Expr.rows y39.args)), (.v (.int .i64 y39.at_))] := Expr.rget (getI_some h40).2
     refine w_x (cj19 E0 E2 E3 E59 E60 E61 E62 X0.get X0.any X0.any2 X2.get X2.any X2.any2 X3.get X3.any X3.any2 R41 (getI_some h40).1 TT) (k := ?_)
     have q36 := cj19 E0 E2 E3 E59 E60 E61 E62 X0.get X0.any X0.any2 X2.get X2.any X2.any2 X3.get X3.any X3.any2 R41 (getI_some h40).1 TT
     exact cw_n ⟨_, WkE.refl _, s.length, τ, (X0.app [some (AObj.box 39 [(.v (.int .i64 y39.kind)), (.v (.string y39.name)), (.v (.int .i64 y39.n)), (.v (.int .i64 y39.d)), (.sl (Expr.rows y39.args)), (.v (.int .i64 y39.at_))])]), (X2.app [some (AObj.box 39 [(.v (.int .i64 y39.kind)), (.v (.string y39.name)), (.v (.int .i64 y39.n)), (.v (.int .i64 y39.d)), (.sl (Expr.rows y39.args)), (.v (.int .i64 y39.at_))])]), (X3.app [some (AObj.box 39 [(.v (.int .i64 y39.kind)), (.v (.string y39.name)), (.v (.int .i64 y39.n)), (.v (.int .i64 y39.d)), (.sl (Expr.rows y39.args)), (.v (.int .i64 y39.at_))])]), (Bx.newf hF hP 39 [(.v (.int .i64 y39.kind)), (.v (.string y39.name)), (.v (.int .i64 y39.n)), (.v (.int .i64 y39.d)), (.sl (Expr.rows y39.args)), (.v (.int .i64 y39.at_))]), (xv q36), (xv q36), (xv q36), (xv q36), (xv q36), (xv q36), (xv q36), (Nat.ne_of_lt X0.lt), hF, (hP.app _)⟩
    obtain ⟨i9, τ, X0, X2, X3, X9, E0, E2, E3, E9, E59, E60, E61, N0__9, hF, hP⟩ := hI
    obtain ⟨y42, h43, h37⟩ := bnd_some h37
    refine w_x (cj16 E0 E2 E3 E9 E59 E60 E61 X0.get X2.get X3.get X9.get (Gx.same X0 (AObj.box 106 [(.v (.int .i64 y42.2.at_)), (.v (.int .i64 y42.2.e))])).get (X2.ne (Gx.apart X0 X2 (by intro h; cases h)) (some (AObj.box 106 [(.v (.int .i64 y42.2.at_)), (.v (.int .i64 y42.2.e))]))).get (X3.ne (Gx.apart X0 X3 (by intro h; cases h)) (some (AObj.box 106 [(.v (.int .i64 y42.2.at_)), (.v (.int .i64 y42.2.e))]))).get (X9.ne N0__9 (some (AObj.box 106 [(.v (.int .i64 y42.2.at_)), (.v (.int .i64 y42.2.e))]))).get TT) (k := ?_)
    refine EC.wka (.cons (.refl _) (.cons (.refl _) (.cons (.refl _) (.cons (.refl _) .nil)))) (S_check_finder_expr _ _ _ _ _ h43 _ _ _ _ _ X0 X2 X3 ?_)
    refine w_y (cj16 E0 E2 E3 E9 E59 E60 E61 X0.get X2.get X3.get X9.get (Gx.same X0 (AObj.box 106 [(.v (.int .i64 y42.2.at_)), (.v (.int .i64 y42.2.e))])).get (X2.ne (Gx.apart X0 X2 (by intro h; cases h)) (some (AObj.box 106 [(.v (.int .i64 y42.2.at_)), (.v (.int .i64 y42.2.e))]))).get (X3.ne (Gx.apart X0 X3 (by intro h; cases h)) (some (AObj.box 106 [(.v (.int .i64 y42.2.at_)), (.v (.int .i64 y42.2.e))]))).get (X9.ne N0__9 (some (AObj.box 106 [(.v (.int .i64 y42.2.at_)), (.v (.int .i64 y42.2.e))]))).get TT) (k := ?_)
    refine w_bk ?_
    obtain rfl := some_inj h37
    have q37 := Gx.apart X0 X2 (by intro h; cases h)
    have q38 := Gx.apart X0 X3 (by intro h; cases h)
    have q39 := Gx.same X0 (AObj.box 106 [(.v (.int .i64 y42.2.at_)), (.v (.int .i64 y42.2.e))])
    have q40 := X2.ne q37 (some (AObj.box 106 [(.v (.int .i64 y42.2.at_)), (.v (.int .i64 y42.2.e))]))
    have q41 := X3.ne q38 (some (AObj.box 106 [(.v (.int .i64 y42.2.at_)), (.v (.int .i64 y42.2.e))]))
    have q42 := X9.ne N0__9 (some (AObj.box 106 [(.v (.int .i64 y42.2.at_)), (.v (.int .i64 y42.2.e))]))
    have q43 := cj16 E0 E2 E3 E9 E59 E60 E61 X0.get X2.get X3.get X9.get q39.get q40.get q41.get q42.get TT
    exact cw_n ⟨_, WkE.refl _, _, (List.set τ j0 (some (AObj.box 106 [(.v (.int .i64 y42.2.at_)), (.v (.int .i64 y42.2.e))]))), rfl, q39, q40, q41, (xv q43), (xv q43), (xv q43), (xv q43), (xv q43), (xv q43), (hF.set (by simp) (some (AObj.box 106 [(.v (.int .i64 y42.2.at_)), (.v (.int .i64 y42.2.e))]))), (hP.setp (hF.lt jl0) (some (AObj.box 106 [(.v (.int .i64 y42.2.at_)), (.v (.int .i64 y42.2.e))])))⟩
   obtain ⟨v0_38, τ, rfl, X0, X2, X3, E0, E2, E3, E59, E60, E61, hF, hP⟩ := hI
   try dsimp only at hf34
   refine w_x (cj10 E0 E2 E3 E59 E60 E61 X0.get X2.get X3.get TT) (k := ?_)
   obtain rfl := some_inj hf34
   have q44 := cj10 E0 E2 E3 E59 E60 E61 X0.get X2.get X3.get TT
   exact iq_n rfl ⟨_, WkE.refl _, _, _, τ, rfl, X0, X2, X3, (xv q44), (xv q44), (xv q44), (xv q44), (xv q44), (xv q44), hF, hP⟩
  ·refine xf (cj8 E0 E2 E3 E59 E60 E61 E62 hb35) ?_
   refine w_exit ?_
   refine w_sqx ?_
   obtain rfl := some_inj hf34
   refine iq_x rfl fun hr44 => ?_
   obtain rfl := hr44
   refine w_bkx ?_
   exact ct_n ⟨_, τ, rfl, X0, X2, X3, hF, hP⟩
 obtain ⟨v0_30, τ, rfl, X0, X2, X3, hF, hP⟩ := hI
 try dsimp only at h
 obtain rfl := some_inj h
 have hn45 : (List.map (·.1) ([(j0, (AObj.box 106 [(.v (.int .i64 v0_30.at_)), (.v (.int .i64 v0_30.e))]))] : List (Nat × AObj))).Nodup := (List.nodup_cons.2 ⟨(fun h => by simp at h), List.nodup_nil⟩)
 have he46 := Fr.eq (l := [(j0, (AObj.box 106 [(.v (.int .i64 v0_30.at_)), (.v (.int .i64 v0_30.e))]))]) hF hn45 (List.forall_mem_cons.2 ⟨⟨jl0, (Gx.back X0 hP (hF.lt jl0))⟩, (fun x hx => absurd hx (by simp))⟩)
 exact w_end (fun h => absurd rfl h) (xr (rs := #[]) trivial) ⟨[(j0, (AObj.box 106 [(.v (.int .i64 v0_30.at_)), (.v (.int .i64 v0_30.e))]))], hn45, (List.forall_mem_cons.2 ⟨⟨jl0, (ClO.bx (ClL.cons (Cn.cl (.v _) _) (ClL.cons (Cn.cl (.v _) _) ClL.nil)))⟩, (fun x hx => absurd hx (by simp))⟩), he46 ▸ hP, (.tu []), (.refl _), (.tu CnL.nil), hK⟩
noncomputable def check_Names_L4 (a0 : Program) (f_check_Names_c1 : Flow → Output → Option Bool) (f_check_finder_fail : check_finder → Int → Int → Option (Unit × check_finder)) (f_check_finder_fresh : check_finder → (Mp Int) → ByteArray → Int → Option (Unit × check_finder × (Mp Int))) (f_slices_ContainsFunc_Flow : (List Flow) → (Flow → Option Bool) → Option Bool) : (Int × check_finder × (Mp Int)) → Option ((Int × check_finder × (Mp Int)) ⊕ check_finder)
 | (v96_87, v20_88, v24_89) =>
  if (decide (v96_87 < ((List.length a0.outputs : Nat) : Int))) then
   ((getI a0.outputs v96_87).bind fun y97 =>
   (f_check_finder_fresh v20_88 v24_89 y97.name y97.at_).bind fun y100 =>
   (f_slices_ContainsFunc_Flow a0.flows (fun z0 => f_check_Names_c1 z0 y97)).bind fun y102 =>
   (if (!y102) then
    (f_check_finder_fail y100.2.1 y97.at_ (3 : Int)).bind fun y108 =>
    some y108.2
   else
    some y100.2.1 : Option check_finder).bind fun v20_106 =>
   some (v20_106, y100.2.2) : Option (check_finder × (Mp Int))).bind fun (v20_95, v24_96) =>
   some (.inl ((IntKind.i64.wrap (v96_87 + (1 : Int))), v20_95, v24_96))
  else
   some (.inr v20_88)
noncomputable def check_Names_L3 (v22_4 : (Mp Int)) (v23_50 : (Mp Int)) (a0 : Program) (f_check_finder_expr : check_finder → Expr → (Mp Int) → (Mp Int) → Option (Unit × check_finder)) : (Int × check_finder) → Option ((Int × check_finder) ⊕ check_finder)
 | (v82_70, v20_71) =>
  if (decide (v82_70 < ((List.length a0.flows : Nat) : Int))) then
   ((getI a0.flows v82_70).bind fun y78 =>
   (f_check_finder_expr v20_71 y78.e v23_50 v22_4).bind fun y81 =>
   some y81.2 : Option check_finder).bind fun v20_77 =>
   some (.inl ((IntKind.i64.wrap (v82_70 + (1 : Int))), v20_77))
  else
   some (.inr v20_71)
noncomputable def check_Names_L2 (a0 : Program) (f_check_finder_fresh : check_finder → (Mp Int) → ByteArray → Int → Option (Unit × check_finder × (Mp Int))) : (Int × check_finder × (Mp Int)) → Option ((Int × check_finder × (Mp Int)) ⊕ (check_finder × (Mp Int)))
 | (v67_51, v20_52, v23_53) =>
  if (decide (v67_51 < ((List.length a0.flows : Nat) : Int))) then
   ((getI a0.flows v67_51).bind fun y61 =>
   (f_check_finder_fresh v20_52 v23_53 y61.name y61.at_).bind fun y64 =>
   some (y64.2.1, y64.2.2) : Option (check_finder × (Mp Int))).bind fun (v20_59, v23_60) =>
   some (.inl ((IntKind.i64.wrap (v67_51 + (1 : Int))), v20_59, v23_60))
  else
   some (.inr (v20_52, v23_53))
noncomputable def check_Names_L1 (a0 : Program) (f_check_finder_fresh : check_finder → (Mp Int) → ByteArray → Int → Option (Unit × check_finder × (Mp Int))) : (Int × check_finder × (Mp Int)) → Option ((Int × check_finder × (Mp Int)) ⊕ (check_finder × (Mp Int)))
 | (v52_31, v20_32, v23_33) =>
  if (decide (v52_31 < ((List.length a0.inputs : Nat) : Int))) then
   ((getI a0.inputs v52_31).bind fun y41 =>
   (f_check_finder_fresh v20_32 v23_33 y41.name y41.at_).bind fun y44 =>
   some (y44.2.1, y44.2.2) : Option (check_finder × (Mp Int))).bind fun (v20_39, v23_40) =>
   some (.inl ((IntKind.i64.wrap (v52_31 + (1 : Int))), v20_39, v23_40))
  else
   some (.inr (v20_32, v23_33))
noncomputable def check_Names_L0 (a0 : Program) (f_check_finder_fresh : check_finder → (Mp Int) → ByteArray → Int → Option (Unit × check_finder × (Mp Int))) (f_check_finder_node : check_finder → Node → Option (Unit × check_finder)) : (Int × check_finder × (Mp Int) × (Mp Int)) → Option ((Int × check_finder × (Mp Int) × (Mp Int)) ⊕ (check_finder × (Mp Int)))
 | (v28_5, v20_6, v21_7, v22_8) =>
  if (decide (v28_5 < ((List.length a0.nodes : Nat) : Int))) then
   ((getI a0.nodes v28_5).bind fun y17 =>
   (f_check_finder_fresh v20_6 v21_7 y17.name y17.at_).bind fun y20 =>
   (f_check_finder_node y20.2.1 y17).bind fun y22 =>
   (putO v22_8 y17.name ((List.length y17.params : Nat) : Int)).bind fun y24 =>
   some (y22.2, y20.2.2, y24) : Option (check_finder × (Mp Int) × (Mp Int))).bind fun (v20_14, v21_15, v22_16) =>
   some (.inl ((IntKind.i64.wrap (v28_5 + (1 : Int))), v20_14, v21_15, v22_16))
  else
   some (.inr (v20_6, v22_8))
noncomputable def B_check_Names (f_check_finder_fresh : check_finder → (Mp Int) → ByteArray → Int → Option (Unit × check_finder × (Mp Int))) (f_check_finder_node : check_finder → Node → Option (Unit × check_finder)) (f_check_finder_expr : check_finder → Expr → (Mp Int) → (Mp Int) → Option (Unit × check_finder)) (f_slices_ContainsFunc_Flow : (List Flow) → (Flow → Option Bool) → Option Bool) (f_check_Names_c1 : Flow → Output → Option Bool) (f_check_finder_fail : check_finder → Int → Int → Option (Unit × check_finder)) (a0 : Program) : Option (Int × Int) :=
 (iterO (check_Names_L0 a0 f_check_finder_fresh f_check_finder_node) ((0 : Int), (check_finder.mk (0 : Int) (0 : Int)), (Mp.emp : Mp Int), (Mp.emp : Mp Int)) : Option (check_finder × (Mp Int))).bind fun (v20_3, v22_4) =>
 (iterO (check_Names_L1 a0 f_check_finder_fresh) ((0 : Int), v20_3, (Mp.emp : Mp Int)) : Option (check_finder × (Mp Int))).bind fun (v20_29, v23_30) =>
 (iterO (check_Names_L2 a0 f_check_finder_fresh) ((0 : Int), v20_29, v23_30) : Option (check_finder × (Mp Int))).bind fun (v20_49, v23_50) =>
 (iterO (check_Names_L3 v22_4 v23_50 a0 f_check_finder_expr) ((0 : Int), v20_49) : Option check_finder).bind fun v20_69 =>
 (iterO (check_Names_L4 a0 f_check_Names_c1 f_check_finder_fail f_check_finder_fresh f_slices_ContainsFunc_Flow) ((0 : Int), v20_69, (Mp.emp : Mp Int)) : Option check_finder).bind fun v20_86 =>
 some (v20_86.at_, v20_86.e)
abbrev check_Names_V0 : Int → PV := fun v : Int => (PV.v (.int .i64 v))
abbrev check_Names_A0 (a0 : Program) : List PV := [(.sl (List.map Node.cl a0.nodes)), (.sl (List.map Input.cl a0.inputs)), (.sl (List.map Flow.cl a0.flows)), (.sl (List.map Output.cl a0.outputs))]
theorem W_check_Names (f_check_finder_fresh : check_finder → (Mp Int) → ByteArray → Int → Option (Unit × check_finder × (Mp Int))) (f_check_finder_node : check_finder → Node → Option (Unit × check_finder)) (f_check_finder_expr : check_finder → Expr → (Mp Int) → (Mp Int) → Option (Unit × check_finder)) (f_slices_ContainsFunc_Flow : (List Flow) → (Flow → Option Bool) → Option Bool) (f_check_Names_c1 : Flow → Output → Option Bool) (f_check_finder_fail : check_finder → Int → Int → Option (Unit × check_finder)) (S_check_finder_fresh : Sat_check_finder_fresh f_check_finder_fresh) (S_check_finder_node : Sat_check_finder_node f_check_finder_node) (S_check_finder_expr : Sat_check_finder_expr f_check_finder_expr) (S_slices_ContainsFunc_Flow : Sat_slices_ContainsFunc_Flow f_slices_ContainsFunc_Flow) (S_check_Names_c1 : Sat_check_Names_c1 f_check_Names_c1) (S_check_finder_fail : Sat_check_finder_fail f_check_finder_fail) : Sat_check_Names (B_check_Names f_check_finder_fresh f_check_finder_node f_check_finder_expr f_slices_ContainsFunc_Flow f_check_Names_c1 f_check_finder_fail) := by
 intro a0 r h σ K hK
 refine w_fp Try.func11 rfl rfl (by kernel_rfl) ?_
 unfold B_check_Names at h
 have hP := Pre.refl σ
 have E0 : argE [(.ag (check_Names_A0 a0))] 0 = (.ag (check_Names_A0 a0)) := rfl
 have TT := cj2 Expr.rlen (cj20 T_104 T_106 T_107 T_112 T_2 T_22 T_23 T_24 T_25 T_27 T_3 T_30 T_37 T_39 T_41 T_65 T_9 T_96 T_97 T_99)
 refine w_sa (fun e s => ∃ i1 : Nat, Bx σ s i1 27 (check_Names_A0 a0) ∧ e 1 = (.pt i1 0) ∧ Pre σ s) ?_ fun e s hI => ?_
 ·refine w_x (cj2 E0 TT) (k := ?_)
  exact cw_n ⟨_, WkE.refl _, σ.length, (Bx.new hP 27 (check_Names_A0 a0)), (xv (cj2 E0 TT)), (hP.app _)⟩
 obtain ⟨i1, X1, E1, hP⟩ := hI
 refine w_sa (fun e s => ∃ i20 : Nat, Bx σ s i1 27 (check_Names_A0 a0) ∧ Bx σ s i20 106 [(.v (.int .i64 (0 : Int))), (.v (.int .i64 (0 : Int)))] ∧ e 1 = (.pt i1 0) ∧ e 4 = (.pt i20 0) ∧ i1 ≠ i20 ∧ Pre σ s) ?_ fun e s hI => ?_
 ·refine w_x (cj5 E1 X1.get X1.any X1.any2 TT) (k := ?_)
  have q1 := cj5 E1 X1.get X1.any X1.any2 TT
  exact cw_n ⟨_, WkE.refl _, s.length, (X1.app [some (AObj.box 106 [(.v (.int .i64 (0 : Int))), (.v (.int .i64 (0 : Int)))])]), (Bx.new hP 106 [(.v (.int .i64 (0 : Int))), (.v (.int .i64 (0 : Int)))]), (xv q1), (xv q1), (Nat.ne_of_lt X1.lt), (hP.app _)⟩
 obtain ⟨i20, X1, X20, E1, E4, N1__20, hP⟩ := hI
 refine w_sa (fun e s => ∃ i21 i22 i23 i24 : Nat, Bx σ s i1 27 (check_Names_A0 a0) ∧ Bx σ s i20 106 [(.v (.int .i64 (0 : Int))), (.v (.int .i64 (0 : Int)))] ∧ Gx s i21 (AObj.map .s (mpF check_Names_V0 (Mp.get (Mp.emp : Mp Int))) (Mp.n (Mp.emp : Mp Int))) ∧ σ.length ≤ i21 ∧ Gx s i22 (AObj.map .s (mpF check_Names_V0 (Mp.get (Mp.emp : Mp Int))) (Mp.n (Mp.emp : Mp Int))) ∧ σ.length ≤ i22 ∧ Gx s i23 (AObj.map .s (mpF check_Names_V0 (Mp.get (Mp.emp : Mp Int))) (Mp.n (Mp.emp : Mp Int))) ∧ σ.length ≤ i23 ∧ Gx s i24 (AObj.map .s (mpF check_Names_V0 (Mp.get (Mp.emp : Mp Int))) (Mp.n (Mp.emp : Mp Int))) ∧ σ.length ≤ i24 ∧ e 1 = (.pt i1 0) ∧ e 4 = (.pt i20 0) ∧ e 5 = (.mp i21) ∧ e 6 = (.mp i22) ∧ e 7 = (.mp i23) ∧ e 8 = (.mp i24) ∧ i1 ≠ i20 ∧ i21 ≠ i22 ∧ i21 ≠ i23 ∧ i21 ≠ i24 ∧ i22 ≠ i23 ∧ i22 ≠ i24 ∧ i23 ≠ i24 ∧ Pre σ s) ?_ fun e s hI => ?_
 ·refine w_x (cj9 E1 E4 X1.get X1.any X1.any2 X20.get X20.any X20.any2 TT) (k := ?_)
  have q2 := cj9 E1 E4 X1.get X1.any X1.any2 X20.get X20.any X20.any2 TT
  exact cw_n ⟨_, WkE.refl _, s.length, (s ++ [some (AObj.map .s (fun _ => none) 0)]).length, ((s ++ [some (AObj.map .s (fun _ => none) 0)]) ++ [some (AObj.map .s (fun _ => none) 0)]).length, (((s ++ [some (AObj.map .s (fun _ => none) 0)]) ++ [some (AObj.map .s (fun _ => none) 0)]) ++ [some (AObj.map .s (fun _ => none) 0)]).length, ((((X1.app [some (AObj.map .s (fun _ => none) 0)]).app [some (AObj.map .s (fun _ => none) 0)]).app [some (AObj.map .s (fun _ => none) 0)]).app [some (AObj.map .s (fun _ => none) 0)]), ((((X20.app [some (AObj.map .s (fun _ => none) 0)]).app [some (AObj.map .s (fun _ => none) 0)]).app [some (AObj.map .s (fun _ => none) 0)]).app [some (AObj.map .s (fun _ => none) 0)]), ((((Gx.cast (Gx.new s (AObj.map .s (fun _ => none) 0)) (mpF_emp check_Names_V0)).app [some (AObj.map .s (fun _ => none) 0)]).app [some (AObj.map .s (fun _ => none) 0)]).app [some (AObj.map .s (fun _ => none) 0)]), (Pre.le hP), (((Gx.cast (Gx.new (s ++ [some (AObj.map .s (fun _ => none) 0)]) (AObj.map .s (fun _ => none) 0)) (mpF_emp check_Names_V0)).app [some (AObj.map .s (fun _ => none) 0)]).app [some (AObj.map .s (fun _ => none) 0)]), (Pre.le (hP.app [some (AObj.map .s (fun _ => none) 0)])), ((Gx.cast (Gx.new ((s ++ [some (AObj.map .s (fun _ => none) 0)]) ++ [some (AObj.map .s (fun _ => none) 0)]) (AObj.map .s (fun _ => none) 0)) (mpF_emp check_Names_V0)).app [some (AObj.map .s (fun _ => none) 0)]), (Pre.le ((hP.app [some (AObj.map .s (fun _ => none) 0)]).app [some (AObj.map .s (fun _ => none) 0)])), (Gx.cast (Gx.new (((s ++ [some (AObj.map .s (fun _ => none) 0)]) ++ [some (AObj.map .s (fun _ => none) 0)]) ++ [some (AObj.map .s (fun _ => none) 0)]) (AObj.map .s (fun _ => none) 0)) (mpF_emp check_Names_V0)), (Pre.le (((hP.app [some (AObj.map .s (fun _ => none) 0)]).app [some (AObj.map .s (fun _ => none) 0)]).app [some (AObj.map .s (fun _ => none) 0)])), (xv q2), (xv q2), (xv q2), (xv q2), (xv q2), (xv q2), N1__20, (Nat.ne_of_lt (Gx.cast (Gx.new s (AObj.map .s (fun _ => none) 0)) (mpF_emp check_Names_V0)).lt), (Nat.ne_of_lt ((Gx.cast (Gx.new s (AObj.map .s (fun _ => none) 0)) (mpF_emp check_Names_V0)).app [some (AObj.map .s (fun _ => none) 0)]).lt), (Nat.ne_of_lt (((Gx.cast (Gx.new s (AObj.map .s (fun _ => none) 0)) (mpF_emp check_Names_V0)).app [some (AObj.map .s (fun _ => none) 0)]).app [some (AObj.map .s (fun _ => none) 0)]).lt), (Nat.ne_of_lt (Gx.cast (Gx.new (s ++ [some (AObj.map .s (fun _ => none) 0)]) (AObj.map .s (fun _ => none) 0)) (mpF_emp check_Names_V0)).lt), (Nat.ne_of_lt ((Gx.cast (Gx.new (s ++ [some (AObj.map .s (fun _ => none) 0)]) (AObj.map .s (fun _ => none) 0)) (mpF_emp check_Names_V0)).app [some (AObj.map .s (fun _ => none) 0)]).lt), (Nat.ne_of_lt (Gx.cast (Gx.new ((s ++ [some (AObj.map .s (fun _ => none) 0)]) ++ [some (AObj.map .s (fun _ => none) 0)]) (AObj.map .s (fun _ => none) 0)) (mpF_emp check_Names_V0)).lt), ((((hP.app [some (AObj.map .s (fun _ => none) 0)]).app [some (AObj.map .s (fun _ => none) 0)]).app [some (AObj.map .s (fun _ => none) 0)]).app [some (AObj.map .s (fun _ => none) 0)])⟩
 obtain ⟨i21, i22, i23, i24, X1, X20, X21, L21, X22, L22, X23, L23, X24, L24, E1, E4, E5, E6, E7, E8, N1__20, N21__22, N21__23, N21__24, N22__23, N22__24, N23__24, hP⟩ := hI
 refine w_assoc ?_
 refine w_sa (fun e s => Bx σ s i1 27 (check_Names_A0 a0) ∧ Bx σ s i20 106 [(.v (.int .i64 (0 : Int))), (.v (.int .i64 (0 : Int)))] ∧ Gx s i21 (AObj.map .s (mpF check_Names_V0 (Mp.get (Mp.emp : Mp Int))) (Mp.n (Mp.emp : Mp Int))) ∧ σ.length ≤ i21 ∧ Gx s i22 (AObj.map .s (mpF check_Names_V0 (Mp.get (Mp.emp : Mp Int))) (Mp.n (Mp.emp : Mp Int))) ∧ σ.length ≤ i22 ∧ Gx s i23 (AObj.map .s (mpF check_Names_V0 (Mp.get (Mp.emp : Mp Int))) (Mp.n (Mp.emp : Mp Int))) ∧ σ.length ≤ i23 ∧ Gx s i24 (AObj.map .s (mpF check_Names_V0 (Mp.get (Mp.emp : Mp Int))) (Mp.n (Mp.emp : Mp Int))) ∧ σ.length ≤ i24 ∧ e 1 = (.pt i1 0) ∧ e 4 = (.pt i20 0) ∧ e 5 = (.mp i21) ∧ e 6 = (.mp i22) ∧ e 7 = (.mp i23) ∧ e 8 = (.mp i24) ∧ e 26 = (.sl (List.map Node.cl a0.nodes)) ∧ e 27 = (.v (.int .i64 ((List.length a0.nodes : Nat) : Int))) ∧ e 28 = (.v (.int .i64 (0 : Int))) ∧ i1 ≠ i20 ∧ i21 ≠ i22 ∧ i21 ≠ i23 ∧ i21 ≠ i24 ∧ i22 ≠ i23 ∧ i22 ≠ i24 ∧ i23 ≠ i24 ∧ Pre σ s) ?_ fun e s hI => ?_
 ·refine w_x (cj13 E1 E4 E5 E6 E7 E8 X1.get X20.get X21.get X22.get X23.get X24.get TT) (k := ?_)
  have q3 := cj13 E1 E4 E5 E6 E7 E8 X1.get X20.get X21.get X22.get X23.get X24.get TT
  exact cw_n ⟨_, WkE.refl _, X1, X20, X21, L21, X22, L22, X23, L23, X24, L24, (xv q3), (xv q3), (xv q3), (xv q3), (xv q3), (xv q3), (xv q3), (xv q3), (xv q3), N1__20, N21__22, N21__23, N21__24, N22__23, N22__24, N23__24, hP⟩
 obtain ⟨X1, X20, X21, L21, X22, L22, X23, L23, X24, L24, E1, E4, E5, E6, E7, E8, E26, E27, E28, N1__20, N21__22, N21__23, N21__24, N22__23, N22__24, N23__24, hP⟩ := hI
 obtain ⟨x1, h2, h⟩ := bnd_some h
 refine w_sa (fun e s => ∃ v20_3 : check_finder, ∃ v22_4 : (Mp Int), (v20_3, v22_4) = x1 ∧ Bx σ s i1 27 (check_Names_A0 a0) ∧ Bx σ s i20 106 [(.v (.int .i64 v20_3.at_)), (.v (.int .i64 v20_3.e))] ∧ Gx s i22 (AObj.map .s (mpF check_Names_V0 (Mp.get v22_4)) (Mp.n v22_4)) ∧ σ.length ≤ i22 ∧ Gx s i23 (AObj.map .s (mpF check_Names_V0 (Mp.get (Mp.emp : Mp Int))) (Mp.n (Mp.emp : Mp Int))) ∧ σ.length ≤ i23 ∧ Gx s i24 (AObj.map .s (mpF check_Names_V0 (Mp.get (Mp.emp : Mp Int))) (Mp.n (Mp.emp : Mp Int))) ∧ σ.length ≤ i24 ∧ e 1 = (.pt i1 0) ∧ e 4 = (.pt i20 0) ∧ e 6 = (.mp i22) ∧ e 7 = (.mp i23) ∧ e 8 = (.mp i24) ∧ i1 ≠ i20 ∧ i22 ≠ i23 ∧ i22 ≠ i24 ∧ i23 ≠ i24 ∧ Pre σ s) ?_ fun e s hI => ?_
 ·refine w_block ?_
  have q4 := cj9 E1 E4 E5 E6 E7 E8 E26 E27 E28
  refine w_iter h2 (fun v e s => ∃ v28_5 : Int, ∃ v20_6 : check_finder, ∃ v21_7 : (Mp Int), ∃ v22_8 : (Mp Int), (v28_5, v20_6, v21_7, v22_8) = v ∧ Bx σ s i1 27 (check_Names_A0 a0) ∧ Bx σ s i20 106 [(.v (.int .i64 v20_6.at_)), (.v (.int .i64 v20_6.e))] ∧ Gx s i21 (AObj.map .s (mpF check_Names_V0 (Mp.get v21_7)) (Mp.n v21_7)) ∧ σ.length ≤ i21 ∧ Gx s i22 (AObj.map .s (mpF check_Names_V0 (Mp.get v22_8)) (Mp.n v22_8)) ∧ σ.length ≤ i22 ∧ Gx s i23 (AObj.map .s (mpF check_Names_V0 (Mp.get (Mp.emp : Mp Int))) (Mp.n (Mp.emp : Mp Int))) ∧ σ.length ≤ i23 ∧ Gx s i24 (AObj.map .s (mpF check_Names_V0 (Mp.get (Mp.emp : Mp Int))) (Mp.n (Mp.emp : Mp Int))) ∧ σ.length ≤ i24 ∧ e 1 = (.pt i1 0) ∧ e 4 = (.pt i20 0) ∧ e 5 = (.mp i21) ∧ e 6 = (.mp i22) ∧ e 7 = (.mp i23) ∧ e 8 = (.mp i24) ∧ e 26 = (.sl (List.map Node.cl a0.nodes)) ∧ e 27 = (.v (.int .i64 ((List.length a0.nodes : Nat) : Int))) ∧ e 28 = (.v (.int .i64 v28_5)) ∧ i1 ≠ i20 ∧ i21 ≠ i22 ∧ i21 ≠ i23 ∧ i21 ≠ i24 ∧ i22 ≠ i23 ∧ i22 ≠ i24 ∧ i23 ≠ i24 ∧ Pre σ s) ⟨_, WkE.refl _, _, _, _, _, rfl, X1, X20, X21, L21, X22, L22, X23, L23, X24, L24, (xv q4), (xv q4), (xv q4), (xv q4), (xv q4), (xv q4), (xv q4), (xv q4), (xv q4), N1__20, N21__22, N21__23, N21__24, N22__23, N22__24, N23__24, hP⟩ fun v x9 e s hf10 hI => ?_
  obtain ⟨v28_5, v20_6, v21_7, v22_8, rfl, X1, X20, X21, L21, X22, L22, X23, L23, X24, L24, E1, E4, E5, E6, E7, E8, E26, E27, E28, N1__20, N21__22, N21__23, N21__24, N22__23, N22__24, N23__24, hP⟩ := hI
  unfold check_Names_L0 at hf10
  try dsimp only at hf10
  refine w_sa (fun e s => Bx σ s i1 27 (check_Names_A0 a0) ∧ Bx σ s i20 106 [(.v (.int .i64 v20_6.at_)), (.v (.int .i64 v20_6.e))] ∧ Gx s i21 (AObj.map .s (mpF check_Names_V0 (Mp.get v21_7)) (Mp.n v21_7)) ∧ σ.length ≤ i21 ∧ Gx s i22 (AObj.map .s (mpF check_Names_V0 (Mp.get v22_8)) (Mp.n v22_8)) ∧ σ.length ≤ i22 ∧ Gx s i23 (AObj.map .s (mpF check_Names_V0 (Mp.get (Mp.emp : Mp Int))) (Mp.n (Mp.emp : Mp Int))) ∧ σ.length ≤ i23 ∧ Gx s i24 (AObj.map .s (mpF check_Names_V0 (Mp.get (Mp.emp : Mp Int))) (Mp.n (Mp.emp : Mp Int))) ∧ σ.length ≤ i24 ∧ e 1 = (.pt i1 0) ∧ e 4 = (.pt i20 0) ∧ e 5 = (.mp i21) ∧ e 6 = (.mp i22) ∧ e 7 = (.mp i23) ∧ e 8 = (.mp i24) ∧ e 26 = (.sl (List.map Node.cl a0.nodes)) ∧ e 27 = (.v (.int .i64 ((List.length a0.nodes : Nat) : Int))) ∧ e 28 = (.v (.int .i64 v28_5)) ∧ e 29 = (.v (.bool (decide (v28_5 < ((List.length a0.nodes : Nat) : Int))))) ∧ i1 ≠ i20 ∧ i21 ≠ i22 ∧ i21 ≠ i23 ∧ i21 ≠ i24 ∧ i22 ≠ i23 ∧ i22 ≠ i24 ∧ i23 ≠ i24 ∧ Pre σ s) ?_ fun e s hI => ?_
  ·refine w_x (cj16 E1 E4 E5 E6 E7 E8 E26 E27 E28 X1.get X20.get X21.get X22.get X23.get X24.get TT) (k := ?_)
   have q5 := cj16 E1 E4 E5 E6 E7 E8 E26 E27 E28 X1.get X20.get X21.get X22.get X23.get X24.get TT
   exact cw_n ⟨_, WkE.refl _, X1, X20, X21, L21, X22, L22, X23, L23, X24, L24, (xv q5), (xv q5), (xv q5), (xv q5), (xv q5), (xv q5), (xv q5), (xv q5), (xv q5), (xv q5), N1__20, N21__22, N21__23, N21__24, N22__23, N22__24, N23__24, hP⟩
  obtain ⟨X1, X20, X21, L21, X22, L22, X23, L23, X24, L24, E1, E4, E5, E6, E7, E8, E26, E27, E28, E29, N1__20, N21__22, N21__23, N21__24, N22__23, N22__24, N23__24, hP⟩ := hI
  refine w_seq ?_
  rcases ite_some hf10 with ⟨hb11, hf10⟩ | ⟨hb11, hf10⟩
  ·refine xt (cj11 E1 E4 E5 E6 E7 E8 E26 E27 E28 E29 hb11) ?_
   refine w_skip ?_
   refine w_sq ?_
   obtain ⟨x12, h13, hf10⟩ := bnd_some hf10
   refine w_sa (fun e s => ∃ v20_14 : check_finder, ∃ v21_15 : (Mp Int), ∃ v22_16 : (Mp Int), (v20_14, v21_15, v22_16) = x12 ∧ Bx σ s i1 27 (check_Names_A0 a0) ∧ Bx σ s i20 106 [(.v (.int .i64 v20_14.at_)), (.v (.int .i64 v20_14.e))] ∧ Gx s i21 (AObj.map .s (mpF check_Names_V0 (Mp.get v21_15)) (Mp.n v21_15)) ∧ σ.length ≤ i21 ∧ Gx s i22 (AObj.map .s (mpF check_Names_V0 (Mp.get v22_16)) (Mp.n v22_16)) ∧ σ.length ≤ i22 ∧ Gx s i23 (AObj.map .s (mpF check_Names_V0 (Mp.get (Mp.emp : Mp Int))) (Mp.n (Mp.emp : Mp Int))) ∧ σ.length ≤ i23 ∧ Gx s i24 (AObj.map .s (mpF check_Names_V0 (Mp.get (Mp.emp : Mp Int))) (Mp.n (Mp.emp : Mp Int))) ∧ σ.length ≤ i24 ∧ e 1 = (.pt i1 0) ∧ e 4 = (.pt i20 0) ∧ e 5 = (.mp i21) ∧ e 6 = (.mp i22) ∧ e 7 = (.mp i23) ∧ e 8 = (.mp i24) ∧ e 26 = (.sl (List.map Node.cl a0.nodes)) ∧ e 27 = (.v (.int .i64 ((List.length a0.nodes : Nat) : Int))) ∧ e 28 = (.v (.int .i64 v28_5)) ∧ i1 ≠ i20 ∧ i21 ≠ i22 ∧ i21 ≠ i23 ∧ i21 ≠ i24 ∧ i22 ≠ i23 ∧ i22 ≠ i24 ∧ i23 ≠ i24 ∧ Pre σ s) ?_ fun e s hI => ?_
   ·refine w_block ?_
    obtain ⟨y17, h18, h13⟩ := bnd_some h13
    refine w_sa (fun e s => ∃ i10 : Nat, Bx σ s i1 27 (check_Names_A0 a0) ∧ Bx σ s i10 99 [(.v (.string y17.name)), (.sl (List.map C_s y17.params)), (.v (.int .i64 y17.budget)), (.v (.int .i64 y17.body.kind)), (.v (.string y17.body.name)), (.v (.int .i64 y17.body.n)), (.v (.int .i64 y17.body.d)), (.sl (Expr.rows y17.body.args)), (.v (.int .i64 y17.body.at_)), (.v (.int .i64 y17.at_))] ∧ Bx σ s i20 106 [(.v (.int .i64 v20_6.at_)), (.v (.int .i64 v20_6.e))] ∧ Gx s i21 (AObj.map .s (mpF check_Names_V0 (Mp.get v21_7)) (Mp.n v21_7)) ∧ σ.length ≤ i21 ∧ Gx s i22 (AObj.map .s (mpF check_Names_V0 (Mp.get v22_8)) (Mp.n v22_8)) ∧ σ.length ≤ i22 ∧ Gx s i23 (AObj.map .s (mpF check_Names_V0 (Mp.get (Mp.emp : Mp Int))) (Mp.n (Mp.emp : Mp Int))) ∧ σ.length ≤ i23 ∧ Gx s i24 (AObj.map .s (mpF check_Names_V0 (Mp.get (Mp.emp : Mp Int))) (Mp.n (Mp.emp : Mp Int))) ∧ σ.length ≤ i24 ∧ e 1 = (.pt i1 0) ∧ e 4 = (.pt i20 0) ∧ e 5 = (.mp i21) ∧ e 6 = (.mp i22) ∧ e 7 = (.mp i23) ∧ e 8 = (.mp i24) ∧ e 10 = (.pt i10 0) ∧ e 26 = (.sl (List.map Node.cl a0.nodes)) ∧ e 27 = (.v (.int .i64 ((List.length a0.nodes : Nat) : Int))) ∧ e 28 = (.v (.int .i64 v28_5)) ∧ i1 ≠ i20 ∧ i10 ≠ i20 ∧ i21 ≠ i22 ∧ i21 ≠ i23 ∧ i21 ≠ i24 ∧ i22 ≠ i23 ∧ i22 ≠ i24 ∧ i23 ≠ i24 ∧ Pre σ s) ?_ fun e s hI => ?_
    ·have R19 : (List.map Node.cl a0.nodes)[(v28_5).toNat]? = some [(.v (.string y17.name)), (.sl (List.map C_s y17.params)), (.v (.int .i64 y17.budget)), (.v (.int .i64 y17.body.kind)), (.v (.string y17.body.name)), (.v (.int .i64 y17.body.n)), (.v (.int .i64 y17.body.d)), (.sl (Expr.rows y17.body.args)), (.v (.int .i64 y17.body.at_)), (.v (.int .i64 y17.at_))] := map_get (getI_some h18).2
     refine w_x (cj12 E1 E4 E5 E6 E7 E8 E26 E27 E28 E29 X1.get (cj20 X1.any X1.any2 X20.get X20.any X20.any2 X21.get X21.any X21.any2 X22.get X22.any X22.any2 X23.get X23.any X23.any2 X24.get X24.any X24.any2 R19 (getI_some h18).1 TT)) (k := ?_)
     have q6 := cj20 X1.any X1.any2 X20.get X20.any X20.any2 X21.get X21.any X21.any2 X22.get X22.any X22.any2 X23.get X23.any X23.any2 X24.get X24.any X24.any2 R19 (getI_some h18).1 TT
     have q7 := cj12 E1 E4 E5 E6 E7 E8 E26 E27 E28 E29 X1.get q6
     exact cw_n ⟨_, WkE.refl _, s.length, (X1.app [some (AObj.box 99 [(.v (.string y17.name)), (.sl (List.map C_s y17.params)), (.v (.int .i64 y17.budget)), (.v (.int .i64 y17.body.kind)), (.v (.string y17.body.name)), (.v (.int .i64 y17.body.n)), (.v (.int .i64 y17.body.d)), (.sl (Expr.rows y17.body.args)), (.v (.int .i64 y17.body.at_)), (.v (.int .i64 y17.at_))])]), (Bx.new hP 99 [(.v (.string y17.name)), (.sl (List.map C_s y17.params)), (.v (.int .i64 y17.budget)), (.v (.int .i64 y17.body.kind)), (.v (.string y17.body.name)), (.v (.int .i64 y17.body.n)), (.v (.int .i64 y17.body.d)), (.sl (Expr.rows y17.body.args)), (.v (.int .i64 y17.body.at_)), (.v (.int .i64 y17.at_))]), (X20.app [some (AObj.box 99 [(.v (.string y17.name)), (.sl (List.map C_s y17.params)), (.v (.int .i64 y17.budget)), (.v (.int .i64 y17.body.kind)), (.v (.string y17.body.name)), (.v (.int .i64 y17.body.n)), (.v (.int .i64 y17.body.d)), (.sl (Expr.rows y17.body.args)), (.v (.int .i64 y17.body.at_)), (.v (.int .i64 y17.at_))])]), (X21.app [some (AObj.box 99 [(.v (.string y17.name)), (.sl (List.map C_s y17.params)), (.v (.int .i64 y17.budget)), (.v (.int .i64 y17.body.kind)), (.v (.string y17.body.name)), (.v (.int .i64 y17.body.n)), (.v (.int .i64 y17.body.d)), (.sl (Expr.rows y17.body.args)), (.v (.int .i64 y17.body.at_)), (.v (.int .i64 y17.at_))])]), L21, (X22.app [some (AObj.box 99 [(.v (.string y17.name)), (.sl (List.map C_s y17.params)), (.v (.int .i64 y17.budget)), (.v (.int .i64 y17.body.kind)), (.v (.string y17.body.name)), (.v (.int .i64 y17.body.n)), (.v (.int .i64 y17.body.d)), (.sl (Expr.rows y17.body.args)), (.v (.int .i64 y17.body.at_)), (.v (.int .i64 y17.at_))])]), L22, (X23.app [some (AObj.box 99 [(.v (.string y17.name)), (.sl (List.map C_s y17.params)), (.v (.int .i64 y17.budget)), (.v (.int .i64 y17.body.kind)), (.v (.string y17.body.name)), (.v (.int .i64 y17.body.n)), (.v (.int .i64 y17.body.d)), (.sl (Expr.rows y17.body.args)), (.v (.int .i64 y17.body.at_)), (.v (.int .i64 y17.at_))])]), L23, (X24.app [some (AObj.box 99 [(.v (.string y17.name)), (.sl (List.map C_s y17.params)), (.v (.int .i64 y17.budget)), (.v (.int .i64 y17.body.kind)), (.v (.string y17.body.name)), (.v (.int .i64 y17.body.n)), (.v (.int .i64 y17.body.d)), (.sl (Expr.rows y17.body.args)), (.v (.int .i64 y17.body.at_)), (.v (.int .i64 y17.at_))])]), L24, (xv q7), (xv q7), (xv q7), (xv q7), (xv q7), (xv q7), (xv q7), (xv q7), (xv q7), (xv q7), N1__20, (Ne.symm (Nat.ne_of_lt X20.lt)), N21__22, N21__23, N21__24, N22__23, N22__24, N23__24, (hP.app _)⟩
    obtain ⟨i10, X1, X10, X20, X21, L21, X22, L22, X23, L23, X24, L24, E1, E4, E5, E6, E7, E8, E10, E26, E27, E28, N1__20, N10__20, N21__22, N21__23, N21__24, N22__23, N22__24, N23__24, hP⟩ := hI
    obtain ⟨y20, h21, h13⟩ := bnd_some h13
    refine w_sa (fun e s => Bx σ s i1 27 (check_Names_A0 a0) ∧ Bx σ s i10 99 [(.v (.string y17.name)), (.sl (List.map C_s y17.params)), (.v (.int .i64 y17.budget)), (.v (.int .i64 y17.body.kind)), (.v (.string y17.body.name)), (.v (.int .i64 y17.body.n)), (.v (.int .i64 y17.body.d)), (.sl (Expr.rows y17.body.args)), (.v (.int .i64 y17.body.at_)), (.v (.int .i64 y17.at_))] ∧ Bx σ s i20 106 [(.v (.int .i64 y20.2.1.at_)), (.v (.int .i64 y20.2.1.e))] ∧ Gx s i21 (AObj.map .s (mpF check_Names_V0 (Mp.get y20.2.2)) (Mp.n y20.2.2)) ∧ σ.length ≤ i21 ∧ Gx s i22 (AObj.map .s (mpF check_Names_V0 (Mp.get v22_8)) (Mp.n v22_8)) ∧ σ.length ≤ i22 ∧ Gx s i23 (AObj.map .s (mpF check_Names_V0 (Mp.get (Mp.emp : Mp Int))) (Mp.n (Mp.emp : Mp Int))) ∧ σ.length ≤ i23 ∧ Gx s i24 (AObj.map .s (mpF check_Names_V0 (Mp.get (Mp.emp : Mp Int))) (Mp.n (Mp.emp : Mp Int))) ∧ σ.length ≤ i24 ∧ e 1 = (.pt i1 0) ∧ e 4 = (.pt i20 0) ∧ e 5 = (.mp i21) ∧ e 6 = (.mp i22) ∧ e 7 = (.mp i23) ∧ e 8 = (.mp i24) ∧ e 10 = (.pt i10 0) ∧ e 26 = (.sl (List.map Node.cl a0.nodes)) ∧ e 27 = (.v (.int .i64 ((List.length a0.nodes : Nat) : Int))) ∧ e 28 = (.v (.int .i64 v28_5)) ∧ i1 ≠ i20 ∧ i10 ≠ i20 ∧ i21 ≠ i22 ∧ i21 ≠ i23 ∧ i21 ≠ i24 ∧ i22 ≠ i23 ∧ i22 ≠ i24 ∧ i23 ≠ i24 ∧ Pre σ s) ?_ fun e s hI => ?_
    ·have q8 := Gx.apart X20.gx X21 (by intro h; cases h)
     have q9 := Gx.apart X20.gx X22 (by intro h; cases h)
     have q10 := Gx.apart X20.gx X23 (by intro h; cases h)
     have q11 := Gx.apart X20.gx X24 (by intro h; cases h)
     have q12 := X20.same 106 [(.v (.int .i64 y20.2.1.at_)), (.v (.int .i64 y20.2.1.e))]
     have q13 := X21.ne q8 (some (AObj.box 106 [(.v (.int .i64 y20.2.1.at_)), (.v (.int .i64 y20.2.1.e))]))
     have q14 := X22.ne q9 (some (AObj.box 106 [(.v (.int .i64 y20.2.1.at_)), (.v (.int .i64 y20.2.1.e))]))
     have q15 := X23.ne q10 (some (AObj.box 106 [(.v (.int .i64 y20.2.1.at_)), (.v (.int .i64 y20.2.1.e))]))
     have q16 := X24.ne q11 (some (AObj.box 106 [(.v (.int .i64 y20.2.1.at_)), (.v (.int .i64 y20.2.1.e))]))
     have q17 := X1.ne (Ne.symm N1__20) (some (AObj.box 106 [(.v (.int .i64 y20.2.1.at_)), (.v (.int .i64 y20.2.1.e))]))
     have q18 := X10.ne (Ne.symm N10__20) (some (AObj.box 106 [(.v (.int .i64 y20.2.1.at_)), (.v (.int .i64 y20.2.1.e))]))
     refine w_x (cj13 E1 E4 E5 E6 E7 E8 E10 E26 E27 E28 X1.get X10.get (cj20 X20.get X21.get X22.get X23.get X24.get q17.get q18.get q12.get q13.get q14.get q15.get q16.get (q17.ne (Gx.apart q13 q17.gx (by intro h; cases h)) (some (AObj.map .s (mpF check_Names_V0 (Mp.get y20.2.2)) (Mp.n y20.2.2)))).get (q18.ne (Gx.apart q13 q18.gx (by intro h; cases h)) (some (AObj.map .s (mpF check_Names_V0 (Mp.get y20.2.2)) (Mp.n y20.2.2)))).get (q12.ne (Gx.apart q13 q12.gx (by intro h; cases h)) (some (AObj.map .s (mpF check_Names_V0 (Mp.get y20.2.2)) (Mp.n y20.2.2)))).get (Gx.same q13 (AObj.map .s (mpF check_Names_V0 (Mp.get y20.2.2)) (Mp.n y20.2.2))).get (q14.ne N21__22 (some (AObj.map .s (mpF check_Names_V0 (Mp.get y20.2.2)) (Mp.n y20.2.2)))).get (q15.ne N21__23 (some (AObj.map .s (mpF check_Names_V0 (Mp.get y20.2.2)) (Mp.n y20.2.2)))).get (q16.ne N21__24 (some (AObj.map .s (mpF check_Names_V0 (Mp.get y20.2.2)) (Mp.n y20.2.2)))).get TT)) (k := ?_)
     refine EC.wka (.cons (.refl _) (.cons (.refl _) (.cons (.refl _) (.cons (.refl _) .nil)))) (S_check_finder_fresh _ _ _ _ _ h21 _ _ _ _ X20.gx X21 ?_)
     have q19 := Gx.apart X20.gx X21 (by intro h; cases h)
     have q20 := Gx.apart X20.gx X22 (by intro h; cases h)
     have q21 := Gx.apart X20.gx X23 (by intro h; cases h)
     have q22 := Gx.apart X20.gx X24 (by intro h; cases h)
     have q23 := X20.same 106 [(.v (.int .i64 y20.2.1.at_)), (.v (.int .i64 y20.2.1.e))]
     have q24 := X21.ne q19 (some (AObj.box 106 [(.v (.int .i64 y20.2.1.at_)), (.v (.int .i64 y20.2.1.e))]))
     have q25 := X22.ne q20 (some (AObj.box 106 [(.v (.int .i64 y20.2.1.at_)), (.v (.int .i64 y20.2.1.e))]))
     have q26 := X23.ne q21 (some (AObj.box 106 [(.v (.int .i64 y20.2.1.at_)), (.v (.int .i64 y20.2.1.e))]))
     have q27 := X24.ne q22 (some (AObj.box 106 [(.v (.int .i64 y20.2.1.at_)), (.v (.int .i64 y20.2.1.e))]))
     have q28 := X1.ne (Ne.symm N1__20) (some (AObj.box 106 [(.v (.int .i64 y20.2.1.at_)), (.v (.int .i64 y20.2.1.e))]))
     have q29 := X10.ne (Ne.symm N10__20) (some (AObj.box 106 [(.v (.int .i64 y20.2.1.at_)), (.v (.int .i64 y20.2.1.e))]))
     refine w_y (cj13 E1 E4 E5 E6 E7 E8 E10 E26 E27 E28 X1.get X10.get (cj20 X20.get X21.get X22.get X23.get X24.get q28.get q29.get q23.get q24.get q25.get q26.get q27.get (q28.ne (Gx.apart q24 q28.gx (by intro h; cases h)) (some (AObj.map .s (mpF check_Names_V0 (Mp.get y20.2.2)) (Mp.n y20.2.2)))).get (q29.ne (Gx.apart q24 q29.gx (by intro h; cases h)) (some (AObj.map .s (mpF check_Names_V0 (Mp.get y20.2.2)) (Mp.n y20.2.2)))).get (q23.ne (Gx.apart q24 q23.gx (by intro h; cases h)) (some (AObj.map .s (mpF check_Names_V0 (Mp.get y20.2.2)) (Mp.n y20.2.2)))).get (Gx.same q24 (AObj.map .s (mpF check_Names_V0 (Mp.get y20.2.2)) (Mp.n y20.2.2))).get (q25.ne N21__22 (some (AObj.map .s (mpF check_Names_V0 (Mp.get y20.2.2)) (Mp.n y20.2.2)))).get (q26.ne N21__23 (some (AObj.map .s (mpF check_Names_V0 (Mp.get y20.2.2)) (Mp.n y20.2.2)))).get (q27.ne N21__24 (some (AObj.map .s (mpF check_Names_V0 (Mp.get y20.2.2)) (Mp.n y20.2.2)))).get TT)) (k := ?_)
     have q30 := Gx.apart X20.gx X21 (by intro h; cases h)
     have q31 := Gx.apart X20.gx X22 (by intro h; cases h)
     have q32 := Gx.apart X20.gx X23 (by intro h; cases h)
     have q33 := Gx.apart X20.gx X24 (by intro h; cases h)
     have q34 := X20.same 106 [(.v (.int .i64 y20.2.1.at_)), (.v (.int .i64 y20.2.1.e))]
     have q35 := X21.ne q30 (some (AObj.box 106 [(.v (.int .i64 y20.2.1.at_)), (.v (.int .i64 y20.2.1.e))]))
     have q36 := Gx.apart q35 q34.gx (by intro h; cases h)
     have q37 := X22.ne q31 (some (AObj.box 106 [(.v (.int .i64 y20.2.1.at_)), (.v (.int .i64 y20.2.1.e))]))
     have q38 := X23.ne q32 (some (AObj.box 106 [(.v (.int .i64 y20.2.1.at_)), (.v (.int .i64 y20.2.1.e))]))
     have q39 := X24.ne q33 (some (AObj.box 106 [(.v (.int .i64 y20.2.1.at_)), (.v (.int .i64 y20.2.1.e))]))
     have q40 := Gx.same q35 (AObj.map .s (mpF check_Names_V0 (Mp.get y20.2.2)) (Mp.n y20.2.2))
     have q41 := X1.ne (Ne.symm N1__20) (some (AObj.box 106 [(.v (.int .i64 y20.2.1.at_)), (.v (.int .i64 y20.2.1.e))]))
     have q42 := Gx.apart q35 q41.gx (by intro h; cases h)
     have q43 := X10.ne (Ne.symm N10__20) (some (AObj.box 106 [(.v (.int .i64 y20.2.1.at_)), (.v (.int .i64 y20.2.1.e))]))
     have q44 := Gx.apart q35 q43.gx (by intro h; cases h)
     have q45 := cj20 X20.get X21.get X22.get X23.get X24.get q41.get q43.get q34.get q35.get q37.get q38.get q39.get (q41.ne q42 (some (AObj.map .s (mpF check_Names_V0 (Mp.get y20.2.2)) (Mp.n y20.2.2)))).get (q43.ne q44 (some (AObj.map .s (mpF check_Names_V0 (Mp.get y20.2.2)) (Mp.n y20.2.2)))).get (q34.ne q36 (some (AObj.map .s (mpF check_Names_V0 (Mp.get y20.2.2)) (Mp.n y20.2.2)))).get q40.get (q37.ne N21__22 (some (AObj.map .s (mpF check_Names_V0 (Mp.get y20.2.2)) (Mp.n y20.2.2)))).get (q38.ne N21__23 (some (AObj.map .s (mpF check_Names_V0 (Mp.get y20.2.2)) (Mp.n y20.2.2)))).get (q39.ne N21__24 (some (AObj.map .s (mpF check_Names_V0 (Mp.get y20.2.2)) (Mp.n y20.2.2)))).get TT
     have q46 := cj13 E1 E4 E5 E6 E7 E8 E10 E26 E27 E28 X1.get X10.get q45
     exact cw_n ⟨_, WkE.refl _, (q41.ne q42 (some (AObj.map .s (mpF check_Names_V0 (Mp.get y20.2.2)) (Mp.n y20.2.2)))), (q43.ne q44 (some (AObj.map .s (mpF check_Names_V0 (Mp.get y20.2.2)) (Mp.n y20.2.2)))), (q34.ne q36 (some (AObj.map .s (mpF check_Names_V0 (Mp.get y20.2.2)) (Mp.n y20.2.2)))), q40, L21, (q37.ne N21__22 (some (AObj.map .s (mpF check_Names_V0 (Mp.get y20.2.2)) (Mp.n y20.2.2)))), L22, (q38.ne N21__23 (some (AObj.map .s (mpF check_Names_V0 (Mp.get y20.2.2)) (Mp.n y20.2.2)))), L23, (q39.ne N21__24 (some (AObj.map .s (mpF check_Names_V0 (Mp.get y20.2.2)) (Mp.n y20.2.2)))), L24, (xv q46), (xv q46), (xv q46), (xv q46), (xv q46), (xv q46), (xv q46), (xv q46), (xv q46), (xv q46), N1__20, N10__20, N21__22, N21__23, N21__24, N22__23, N22__24, N23__24, ((hP.set X20.le (some (AObj.box 106 [(.v (.int .i64 y20.2.1.at_)), (.v (.int .i64 y20.2.1.e))]))).set L21 (some (AObj.map .s (mpF check_Names_V0 (Mp.get y20.2.2)) (Mp.n y20.2.2))))⟩
    obtain ⟨X1, X10, X20, X21, L21, X22, L22, X23, L23, X24, L24, E1, E4, E5, E6, E7, E8, E10, E26, E27, E28, N1__20, N10__20, N21__22, N21__23, N21__24, N22__23, N22__24, N23__24, hP⟩ := hI
    obtain ⟨y22, h23, h13⟩ := bnd_some h13
    refine w_sa (fun e s => Bx σ s i1 27 (check_Names_A0 a0) ∧ Bx σ s i10 99 [(.v (.string y17.name)), (.sl (List.map C_s y17.params)), (.v (.int .i64 y17.budget)), (.v (.int .i64 y17.body.kind)), (.v (.string y17.body.name)), (.v (.int .i64 y17.body.n)), (.v (.int .i64 y17.body.d)), (.sl (Expr.rows y17.body.args)), (.v (.int .i64 y17.body.at_)), (.v (.int .i64 y17.at_))] ∧ Bx σ s i20 106 [(.v (.int .i64 y22.2.at_)), (.v (.int .i64 y22.2.e))] ∧ Gx s i21 (AObj.map .s (mpF check_Names_V0 (Mp.get y20.2.2)) (Mp.n y20.2.2)) ∧ σ.length ≤ i21 ∧ Gx s i22 (AObj.map .s (mpF check_Names_V0 (Mp.get v22_8)) (Mp.n v22_8)) ∧ σ.length ≤ i22 ∧ Gx s i23 (AObj.map .s (mpF check_Names_V0 (Mp.get (Mp.emp : Mp Int))) (Mp.n (Mp.emp : Mp Int))) ∧ σ.length ≤ i23 ∧ Gx s i24 (AObj.map .s (mpF check_Names_V0 (Mp.get (Mp.emp : Mp Int))) (Mp.n (Mp.emp : Mp Int))) ∧ σ.length ≤ i24 ∧ e 1 = (.pt i1 0) ∧ e 4 = (.pt i20 0) ∧ e 5 = (.mp i21) ∧ e 6 = (.mp i22) ∧ e 7 = (.mp i23) ∧ e 8 = (.mp i24) ∧ e 10 = (.pt i10 0) ∧ e 26 = (.sl (List.map Node.cl a0.nodes)) ∧ e 27 = (.v (.int .i64 ((List.length a0.nodes : Nat) : Int))) ∧ e 28 = (.v (.int .i64 v28_5)) ∧ i1 ≠ i20 ∧ i10 ≠ i20 ∧ i21 ≠ i22 ∧ i21 ≠ i23 ∧ i21 ≠ i24 ∧ i22 ≠ i23 ∧ i22 ≠ i24 ∧ i23 ≠ i24 ∧ Pre σ s) ?_ fun e s hI => ?_
    ·refine w_x (cj6 E1 E4 E5 E6 E7 (cj20 E8 E10 E26 E27 E28 X1.get X10.get X20.get X21.get X22.get X23.get X24.get (X1.ne (Ne.symm N1__20) (some (AObj.box 106 [(.v (.int .i64 y22.2.at_)), (.v (.int .i64 y22.2.e))]))).get (X10.ne (Ne.symm N10__20) (some (AObj.box 106 [(.v (.int .i64 y22.2.at_)), (.v (.int .i64 y22.2.e))]))).get (X20.same 106 [(.v (.int .i64 y22.2.at_)), (.v (.int .i64 y22.2.e))]).get (X21.ne (Gx.apart X20.gx X21 (by intro h; cases h)) (some (AObj.box 106 [(.v (.int .i64 y22.2.at_)), (.v (.int .i64 y22.2.e))]))).get (X22.ne (Gx.apart X20.gx X22 (by intro h; cases h)) (some (AObj.box 106 [(.v (.int .i64 y22.2.at_)), (.v (.int .i64 y22.2.e))]))).get (X23.ne (Gx.apart X20.gx X23 (by intro h; cases h)) (some (AObj.box 106 [(.v (.int .i64 y22.2.at_)), (.v (.int .i64 y22.2.e))]))).get (X24.ne (Gx.apart X20.gx X24 (by intro h; cases h)) (some (AObj.box 106 [(.v (.int .i64 y22.2.at_)), (.v (.int .i64 y22.2.e))]))).get TT)) (k := ?_)
     refine EC.wka (.cons (.refl _) (.cons (.refl _) .nil)) (S_check_finder_node _ _ _ h23 _ _ _ X20.gx ?_)
     refine w_y (cj6 E1 E4 E5 E6 E7 (cj20 E8 E10 E26 E27 E28 X1.get X10.get X20.get X21.get X22.get X23.get X24.get (X1.ne (Ne.symm N1__20) (some (AObj.box 106 [(.v (.int .i64 y22.2.at_)), (.v (.int .i64 y22.2.e))]))).get (X10.ne (Ne.symm N10__20) (some (AObj.box 106 [(.v (.int .i64 y22.2.at_)), (.v (.int .i64 y22.2.e))]))).get (X20.same 106 [(.v (.int .i64 y22.2.at_)), (.v (.int .i64 y22.2.e))]).get (X21.ne (Gx.apart X20.gx X21 (by intro h; cases h)) (some (AObj.box 106 [(.v (.int .i64 y22.2.at_)), (.v (.int .i64 y22.2.e))]))).get (X22.ne (Gx.apart X20.gx X22 (by intro h; cases h)) (some (AObj.box 106 [(.v (.int .i64 y22.2.at_)), (.v (.int .i64 y22.2.e))]))).get (X23.ne (Gx.apart X20.gx X23 (by intro h; cases h)) (some (AObj.box 106 [(.v (.int .i64 y22.2.at_)), (.v (.int .i64 y22.2.e))]))).get (X24.ne (Gx.apart X20.gx X24 (by intro h; cases h)) (some (AObj.box 106 [(.v (.int .i64 y22.2.at_)), (.v (.int .i64 y22.2.e))]))).get TT)) (k := ?_)
     have q47 := Gx.apart X20.gx X21 (by intro h; cases h)
     have q48 := Gx.apart X20.gx X22 (by intro h; cases h)
     have q49 := Gx.apart X20.gx X23 (by intro h; cases h)
     have q50 := Gx.apart X20.gx X24 (by intro h; cases h)
     have q51 := X20.same 106 [(.v (.int .i64 y22.2.at_)), (.v (.int .i64 y22.2.e))]
     have q52 := X21.ne q47 (some (AObj.box 106 [(.v (.int .i64 y22.2.at_)), (.v (.int .i64 y22.2.e))]))
     have q53 := X22.ne q48 (some (AObj.box 106 [(.v (.int .i64 y22.2.at_)), (.v (.int .i64 y22.2.e))]))
     have q54 := X23.ne q49 (some (AObj.box 106 [(.v (.int .i64 y22.2.at_)), (.v (.int .i64 y22.2.e))]))
     have q55 := X24.ne q50 (some (AObj.box 106 [(.v (.int .i64 y22.2.at_)), (.v (.int .i64 y22.2.e))]))
     have q56 := X1.ne (Ne.symm N1__20) (some (AObj.box 106 [(.v (.int .i64 y22.2.at_)), (.v (.int .i64 y22.2.e))]))
     have q57 := X10.ne (Ne.symm N10__20) (some (AObj.box 106 [(.v (.int .i64 y22.2.at_)), (.v (.int .i64 y22.2.e))]))
     have q58 := cj20 E8 E10 E26 E27 E28 X1.get X10.get X20.get X21.get X22.get X23.get X24.get q56.get q57.get q51.get q52.get q53.get q54.get q55.get TT
     have q59 := cj6 E1 E4 E5 E6 E7 q58
     exact cw_n ⟨_, WkE.refl _, q56, q57, q51, q52, L21, q53, L22, q54, L23, q55, L24, (xv q59), (xv q59), (xv q59), (xv q59), (xv q59), (xv q59), (xv q59), (xv q59), (xv q59), (xv q59), N1__20, N10__20, N21__22, N21__23, N21__24, N22__23, N22__24, N23__24, (hP.set X20.le (some (AObj.box 106 [(.v (.int .i64 y22.2.at_)), (.v (.int .i64 y22.2.e))])))⟩
    obtain ⟨X1, X10, X20, X21, L21, X22, L22, X23, L23, X24, L24, E1, E4, E5, E6, E7, E8, E10, E26, E27, E28, N1__20, N10__20, N21__22, N21__23, N21__24, N22__23, N22__24, N23__24, hP⟩ := hI
    obtain ⟨y24, h25, h13⟩ := bnd_some h13
    refine w_x (cj7 E1 E4 E5 E6 E7 E8 (cj20 E10 E26 E27 E28 X1.get X10.get X20.get X21.get X22.get X23.get X24.get (putO_some h25).1 (X1.ne (Gx.apart X22 X1.gx (by intro h; cases h)) (some (AObj.map .s (upm (mpF check_Names_V0 (Mp.get v22_8)) (.string y17.name) (.v (.int .i64 ((List.length y17.params : Nat) : Int)))) (Mp.n v22_8 + 1)))).get (X10.ne (Gx.apart X22 X10.gx (by intro h; cases h)) (some (AObj.map .s (upm (mpF check_Names_V0 (Mp.get v22_8)) (.string y17.name) (.v (.int .i64 ((List.length y17.params : Nat) : Int)))) (Mp.n v22_8 + 1)))).get (X20.ne (Gx.apart X22 X20.gx (by intro h; cases h)) (some (AObj.map .s (upm (mpF check_Names_V0 (Mp.get v22_8)) (.string y17.name) (.v (.int .i64 ((List.length y17.params : Nat) : Int)))) (Mp.n v22_8 + 1)))).get (X21.ne (Ne.symm N21__22) (some (AObj.map .s (upm (mpF check_Names_V0 (Mp.get v22_8)) (.string y17.name) (.v (.int .i64 ((List.length y17.params : Nat) : Int)))) (Mp.n v22_8 + 1)))).get (Gx.cast (Gx.same X22 (AObj.map .s (upm (mpF check_Names_V0 (Mp.get v22_8)) (.string y17.name) (.v (.int .i64 ((List.length y17.params : Nat) : Int)))) (Mp.n v22_8 + 1))) (mpF_put (f := check_Names_V0) h25)).get (X23.ne N22__23 (some (AObj.map .s (upm (mpF check_Names_V0 (Mp.get v22_8)) (.string y17.name) (.v (.int .i64 ((List.length y17.params : Nat) : Int)))) (Mp.n v22_8 + 1)))).get (X24.ne N22__24 (some (AObj.map .s (upm (mpF check_Names_V0 (Mp.get v22_8)) (.string y17.name) (.v (.int .i64 ((List.length y17.params : Nat) : Int)))) (Mp.n v22_8 + 1)))).get TT)) (k := ?_)
    refine w_bk ?_
    obtain rfl := some_inj h13
    have q60 := Gx.apart X22 X1.gx (by intro h; cases h)
    have q61 := Gx.apart X22 X20.gx (by intro h; cases h)
    have q62 := Gx.apart X22 X10.gx (by intro h; cases h)
    have q63 := Gx.same X22 (AObj.map .s (upm (mpF check_Names_V0 (Mp.get v22_8)) (.string y17.name) (.v (.int .i64 ((List.length y17.params : Nat) : Int)))) (Mp.n v22_8 + 1))
    have q64 := Gx.cast q63 (mpF_put (f := check_Names_V0) h25)
    have q65 := X1.ne q60 (some (AObj.map .s (upm (mpF check_Names_V0 (Mp.get v22_8)) (.string y17.name) (.v (.int .i64 ((List.length y17.params : Nat) : Int)))) (Mp.n v22_8 + 1)))
    have q66 := X20.ne q61 (some (AObj.map .s (upm (mpF check_Names_V0 (Mp.get v22_8)) (.string y17.name) (.v (.int .i64 ((List.length y17.params : Nat) : Int)))) (Mp.n v22_8 + 1)))
    have q67 := X10.ne q62 (some (AObj.map .s (upm (mpF check_Names_V0 (Mp.get v22_8)) (.string y17.name) (.v (.int .i64 ((List.length y17.params : Nat) : Int)))) (Mp.n v22_8 + 1)))
    have q68 := X23.ne N22__23 (some (AObj.map .s (upm (mpF check_Names_V0 (Mp.get v22_8)) (.string y17.name) (.v (.int .i64 ((List.length y17.params : Nat) : Int)))) (Mp.n v22_8 + 1)))
    have q69 := X24.ne N22__24 (some (AObj.map .s (upm (mpF check_Names_V0 (Mp.get v22_8)) (.string y17.name) (.v (.int .i64 ((List.length y17.params : Nat) : Int)))) (Mp.n v22_8 + 1)))
    have q70 := X21.ne (Ne.symm N21__22) (some (AObj.map .s (upm (mpF check_Names_V0 (Mp.get v22_8)) (.string y17.name) (.v (.int .i64 ((List.length y17.params : Nat) : Int)))) (Mp.n v22_8 + 1)))
    have q71 := cj20 E10 E26 E27 E28 X1.get X10.get X20.get X21.get X22.get X23.get X24.get (putO_some h25).1 q65.get q67.get q66.get q70.get q64.get q68.get q69.get TT
    have q72 := cj7 E1 E4 E5 E6 E7 E8 q71
    exact cw_n ⟨_, WkE.refl _, _, _, _, rfl, q65, q66, q70, L21, q64, L22, q68, L23, q69, L24, (xv q72), (xv q72), (xv q72), (xv q72), (xv q72), (xv q72), (xv q72), (xv q72), (xv q72), N1__20, N21__22, N21__23, N21__24, N22__23, N22__24, N23__24, (hP.set L22 (some (AObj.map .s (upm (mpF check_Names_V0 (Mp.get v22_8)) (.string y17.name) (.v (.int .i64 ((List.length y17.params : Nat) : Int)))) (Mp.n v22_8 + 1))))⟩
   obtain ⟨v20_14, v21_15, v22_16, rfl, X1, X20, X21, L21, X22, L22, X23, L23, X24, L24, E1, E4, E5, E6, E7, E8, E26, E27, E28, N1__20, N21__22, N21__23, N21__24, N22__23, N22__24, N23__24, hP⟩ := hI
   try dsimp only at hf10
   refine w_x (cj16 E1 E4 E5 E6 E7 E8 E26 E27 E28 X1.get X20.get X21.get X22.get X23.get X24.get TT) (k := ?_)
   obtain rfl := some_inj hf10
   have q73 := cj16 E1 E4 E5 E6 E7 E8 E26 E27 E28 X1.get X20.get X21.get X22.get X23.get X24.get TT
   exact iq_n rfl ⟨_, WkE.refl _, _, _, _, _, rfl, X1, X20, X21, L21, X22, L22, X23, L23, X24, L24, (xv q73), (xv q73), (xv q73), (xv q73), (xv q73), (xv q73), (xv q73), (xv q73), (xv q73), N1__20, N21__22, N21__23, N21__24, N22__23, N22__24, N23__24, hP⟩
  ·refine xf (cj11 E1 E4 E5 E6 E7 E8 E26 E27 E28 E29 hb11) ?_
   refine w_exit ?_
   refine w_sqx ?_
   obtain rfl := some_inj hf10
   refine iq_x rfl fun hr26 => ?_
   obtain rfl := hr26
   refine w_bkx ?_
   have q74 := cj10 E1 E4 E5 E6 E7 E8 E26 E27 E28 E29
   exact cw_n ⟨_, WkE.refl _, _, _, rfl, X1, X20, X22, L22, X23, L23, X24, L24, (xv q74), (xv q74), (xv q74), (xv q74), (xv q74), N1__20, N22__23, N22__24, N23__24, hP⟩
 obtain ⟨v20_3, v22_4, rfl, X1, X20, X22, L22, X23, L23, X24, L24, E1, E4, E6, E7, E8, N1__20, N22__23, N22__24, N23__24, hP⟩ := hI
 try dsimp only at h
 refine w_assoc ?_
 refine w_sa (fun e s => Bx σ s i1 27 (check_Names_A0 a0) ∧ Bx σ s i20 106 [(.v (.int .i64 v20_3.at_)), (.v (.int .i64 v20_3.e))] ∧ Gx s i22 (AObj.map .s (mpF check_Names_V0 (Mp.get v22_4)) (Mp.n v22_4)) ∧ σ.length ≤ i22 ∧ Gx s i23 (AObj.map .s (mpF check_Names_V0 (Mp.get (Mp.emp : Mp Int))) (Mp.n (Mp.emp : Mp Int))) ∧ σ.length ≤ i23 ∧ Gx s i24 (AObj.map .s (mpF check_Names_V0 (Mp.get (Mp.emp : Mp Int))) (Mp.n (Mp.emp : Mp Int))) ∧ σ.length ≤ i24 ∧ e 1 = (.pt i1 0) ∧ e 4 = (.pt i20 0) ∧ e 6 = (.mp i22) ∧ e 7 = (.mp i23) ∧ e 8 = (.mp i24) ∧ e 50 = (.sl (List.map Input.cl a0.inputs)) ∧ e 51 = (.v (.int .i64 ((List.length a0.inputs : Nat) : Int))) ∧ e 52 = (.v (.int .i64 (0 : Int))) ∧ i1 ≠ i20 ∧ i22 ≠ i23 ∧ i22 ≠ i24 ∧ i23 ≠ i24 ∧ Pre σ s) ?_ fun e s hI => ?_
 ·refine w_x (cj11 E1 E4 E6 E7 E8 X1.get X20.get X22.get X23.get X24.get TT) (k := ?_)
  have q75 := cj11 E1 E4 E6 E7 E8 X1.get X20.get X22.get X23.get X24.get TT
  exact cw_n ⟨_, WkE.refl _, X1, X20, X22, L22, X23, L23, X24, L24, (xv q75), (xv q75), (xv q75), (xv q75), (xv q75), (xv q75), (xv q75), (xv q75), N1__20, N22__23, N22__24, N23__24, hP⟩
 obtain ⟨X1, X20, X22, L22, X23, L23, X24, L24, E1, E4, E6, E7, E8, E50, E51, E52, N1__20, N22__23, N22__24, N23__24, hP⟩ := hI
 obtain ⟨x27, h28, h⟩ := bnd_some h
 refine w_sa (fun e s => ∃ v20_29 : check_finder, ∃ v23_30 : (Mp Int), (v20_29, v23_30) = x27 ∧ Bx σ s i1 27 (check_Names_A0 a0) ∧ Bx σ s i20 106 [(.v (.int .i64 v20_29.at_)), (.v (.int .i64 v20_29.e))] ∧ Gx s i22 (AObj.map .s (mpF check_Names_V0 (Mp.get v22_4)) (Mp.n v22_4)) ∧ σ.length ≤ i22 ∧ Gx s i23 (AObj.map .s (mpF check_Names_V0 (Mp.get v23_30)) (Mp.n v23_30)) ∧ σ.length ≤ i23 ∧ Gx s i24 (AObj.map .s (mpF check_Names_V0 (Mp.get (Mp.emp : Mp Int))) (Mp.n (Mp.emp : Mp Int))) ∧ σ.length ≤ i24 ∧ e 1 = (.pt i1 0) ∧ e 4 = (.pt i20 0) ∧ e 6 = (.mp i22) ∧ e 7 = (.mp i23) ∧ e 8 = (.mp i24) ∧ i1 ≠ i20 ∧ i22 ≠ i23 ∧ i22 ≠ i24 ∧ i23 ≠ i24 ∧ Pre σ s) ?_ fun e s hI => ?_
 ·refine w_block ?_
  have q76 := cj8 E1 E4 E6 E7 E8 E50 E51 E52
  refine w_iter h28 (fun v e s => ∃ v52_31 : Int, ∃ v20_32 : check_finder, ∃ v23_33 : (Mp Int), (v52_31, v20_32, v23_33) = v ∧ Bx σ s i1 27 (check_Names_A0 a0) ∧ Bx σ s i20 106 [(.v (.int .i64 v20_32.at_)), (.v (.int .i64 v20_32.e))] ∧ Gx s i22 (AObj.map .s (mpF check_Names_V0 (Mp.get v22_4)) (Mp.n v22_4)) ∧ σ.length ≤ i22 ∧ Gx s i23 (AObj.map .s (mpF check_Names_V0 (Mp.get v23_33)) (Mp.n v23_33)) ∧ σ.length ≤ i23 ∧ Gx s i24 (AObj.map .s (mpF check_Names_V0 (Mp.get (Mp.emp : Mp Int))) (Mp.n (Mp.emp : Mp Int))) ∧ σ.length ≤ i24 ∧ e 1 = (.pt i1 0) ∧ e 4 = (.pt i20 0) ∧ e 6 = (.mp i22) ∧ e 7 = (.mp i23) ∧ e 8 = (.mp i24) ∧ e 50 = (.sl (List.map Input.cl a0.inputs)) ∧ e 51 = (.v (.int .i64 ((List.length a0.inputs : Nat) : Int))) ∧ e 52 = (.v (.int .i64 v52_31)) ∧ i1 ≠ i20 ∧ i22 ≠ i23 ∧ i22 ≠ i24 ∧ i23 ≠ i24 ∧ Pre σ s) ⟨_, WkE.refl _, _, _, _, rfl, X1, X20, X22, L22, X23, L23, X24, L24, (xv q76), (xv q76), (xv q76), (xv q76), (xv q76), (xv q76), (xv q76), (xv q76), N1__20, N22__23, N22__24, N23__24, hP⟩ fun v x34 e s hf35 hI => ?_
  obtain ⟨v52_31, v20_32, v23_33, rfl, X1, X20, X22, L22, X23, L23, X24, L24, E1, E4, E6, E7, E8, E50, E51, E52, N1__20, N22__23, N22__24, N23__24, hP⟩ := hI
  unfold check_Names_L1 at hf35
  try dsimp only at hf35
  refine w_sa (fun e s => Bx σ s i1 27 (check_Names_A0 a0) ∧ Bx σ s i20 106 [(.v (.int .i64 v20_32.at_)), (.v (.int .i64 v20_32.e))] ∧ Gx s i22 (AObj.map .s (mpF check_Names_V0 (Mp.get v22_4)) (Mp.n v22_4)) ∧ σ.length ≤ i22 ∧ Gx s i23 (AObj.map .s (mpF check_Names_V0 (Mp.get v23_33)) (Mp.n v23_33)) ∧ σ.length ≤ i23 ∧ Gx s i24 (AObj.map .s (mpF check_Names_V0 (Mp.get (Mp.emp : Mp Int))) (Mp.n (Mp.emp : Mp Int))) ∧ σ.length ≤ i24 ∧ e 1 = (.pt i1 0) ∧ e 4 = (.pt i20 0) ∧ e 6 = (.mp i22) ∧ e 7 = (.mp i23) ∧ e 8 = (.mp i24) ∧ e 50 = (.sl (List.map Input.cl a0.inputs)) ∧ e 51 = (.v (.int .i64 ((List.length a0.inputs : Nat) : Int))) ∧ e 52 = (.v (.int .i64 v52_31)) ∧ e 53 = (.v (.bool (decide (v52_31 < ((List.length a0.inputs : Nat) : Int))))) ∧ i1 ≠ i20 ∧ i22 ≠ i23 ∧ i22 ≠ i24 ∧ i23 ≠ i24 ∧ Pre σ s) ?_ fun e s hI => ?_
  ·refine w_x (cj14 E1 E4 E6 E7 E8 E50 E51 E52 X1.get X20.get X22.get X23.get X24.get TT) (k := ?_)
   have q77 := cj14 E1 E4 E6 E7 E8 E50 E51 E52 X1.get X20.get X22.get X23.get X24.get TT
   exact cw_n ⟨_, WkE.refl _, X1, X20, X22, L22, X23, L23, X24, L24, (xv q77), (xv q77), (xv q77), (xv q77), (xv q77), (xv q77), (xv q77), (xv q77), (xv q77), N1__20, N22__23, N22__24, N23__24, hP⟩
  obtain ⟨X1, X20, X22, L22, X23, L23, X24, L24, E1, E4, E6, E7, E8, E50, E51, E52, E53, N1__20, N22__23, N22__24, N23__24, hP⟩ := hI
  refine w_seq ?_
  rcases ite_some hf35 with ⟨hb36, hf35⟩ | ⟨hb36, hf35⟩
  ·refine xt (cj10 E1 E4 E6 E7 E8 E50 E51 E52 E53 hb36) ?_
   refine w_skip ?_
   refine w_sq ?_
   obtain ⟨x37, h38, hf35⟩ := bnd_some hf35
   refine w_sa (fun e s => ∃ v20_39 : check_finder, ∃ v23_40 : (Mp Int), (v20_39, v23_40) = x37 ∧ Bx σ s i1 27 (check_Names_A0 a0) ∧ Bx σ s i20 106 [(.v (.int .i64 v20_39.at_)), (.v (.int .i64 v20_39.e))] ∧ Gx s i22 (AObj.map .s (mpF check_Names_V0 (Mp.get v22_4)) (Mp.n v22_4)) ∧ σ.length ≤ i22 ∧ Gx s i23 (AObj.map .s (mpF check_Names_V0 (Mp.get v23_40)) (Mp.n v23_40)) ∧ σ.length ≤ i23 ∧ Gx s i24 (AObj.map .s (mpF check_Names_V0 (Mp.get (Mp.emp : Mp Int))) (Mp.n (Mp.emp : Mp Int))) ∧ σ.length ≤ i24 ∧ e 1 = (.pt i1 0) ∧ e 4 = (.pt i20 0) ∧ e 6 = (.mp i22) ∧ e 7 = (.mp i23) ∧ e 8 = (.mp i24) ∧ e 50 = (.sl (List.map Input.cl a0.inputs)) ∧ e 51 = (.v (.int .i64 ((List.length a0.inputs : Nat) : Int))) ∧ e 52 = (.v (.int .i64 v52_31)) ∧ i1 ≠ i20 ∧ i22 ≠ i23 ∧ i22 ≠ i24 ∧ i23 ≠ i24 ∧ Pre σ s) ?_ fun e s hI => ?_
   ·refine w_block ?_
    obtain ⟨y41, h42, h38⟩ := bnd_some h38
    refine w_sa (fun e s => ∃ i12 : Nat, Bx σ s i1 27 (check_Names_A0 a0) ∧ Bx σ s i12 96 [(.v (.string y41.name)), (.v (.int .i64 y41.period)), (.v (.int .i64 y41.phase)), (.v (.int .i64 y41.at_))] ∧ Bx σ s i20 106 [(.v (.int .i64 v20_32.at_)), (.v (.int .i64 v20_32.e))] ∧ Gx s i22 (AObj.map .s (mpF check_Names_V0 (Mp.get v22_4)) (Mp.n v22_4)) ∧ σ.length ≤ i22 ∧ Gx s i23 (AObj.map .s (mpF check_Names_V0 (Mp.get v23_33)) (Mp.n v23_33)) ∧ σ.length ≤ i23 ∧ Gx s i24 (AObj.map .s (mpF check_Names_V0 (Mp.get (Mp.emp : Mp Int))) (Mp.n (Mp.emp : Mp Int))) ∧ σ.length ≤ i24 ∧ e 1 = (.pt i1 0) ∧ e 4 = (.pt i20 0) ∧ e 6 = (.mp i22) ∧ e 7 = (.mp i23) ∧ e 8 = (.mp i24) ∧ e 12 = (.pt i12 0) ∧ e 50 = (.sl (List.map Input.cl a0.inputs)) ∧ e 51 = (.v (.int .i64 ((List.length a0.inputs : Nat) : Int))) ∧ e 52 = (.v (.int .i64 v52_31)) ∧ i1 ≠ i20 ∧ i12 ≠ i20 ∧ i22 ≠ i23 ∧ i22 ≠ i24 ∧ i23 ≠ i24 ∧ Pre σ s) ?_ fun e s hI => ?_
    ·have R43 : (List.map Input.cl a0.inputs)[(v52_31).toNat]? = some [(.v (.string y41.name)), (.v (.int .i64 y41.period)), (.v (.int .i64 y41.phase)), (.v (.int .i64 y41.at_))] := map_get (getI_some h42).2
     refine w_x (cj8 E1 E4 E6 E7 E8 E50 E51 (cj20 E52 E53 X1.get X1.any X1.any2 X20.get X20.any X20.any2 X22.get X22.any X22.any2 X23.get X23.any X23.any2 X24.get X24.any X24.any2 R43 (getI_some h42).1 TT)) (k := ?_)
     have q78 := cj20 E52 E53 X1.get X1.any X1.any2 X20.get X20.any X20.any2 X22.get X22.any X22.any2 X23.get X23.any X23.any2 X24.get X24.any X24.any2 R43 (getI_some h42).1 TT
     have q79 := cj8 E1 E4 E6 E7 E8 E50 E51 q78
     exact cw_n ⟨_, WkE.refl _, s.length, (X1.app [some (AObj.box 96 [(.v (.string y41.name)), (.v (.int .i64 y41.period)), (.v (.int .i64 y41.phase)), (.v (.int .i64 y41.at_))])]), (Bx.new hP 96 [(.v (.string y41.name)), (.v (.int .i64 y41.period)), (.v (.int .i64 y41.phase)), (.v (.int .i64 y41.at_))]), (X20.app [some (AObj.box 96 [(.v (.string y41.name)), (.v (.int .i64 y41.period)), (.v (.int .i64 y41.phase)), (.v (.int .i64 y41.at_))])]), (X22.app [some (AObj.box 96 [(.v (.string y41.name)), (.v (.int .i64 y41.period)), (.v (.int .i64 y41.phase)), (.v (.int .i64 y41.at_))])]), L22, (X23.app [some (AObj.box 96 [(.v (.string y41.name)), (.v (.int .i64 y41.period)), (.v (.int .i64 y41.phase)), (.v (.int .i64 y41.at_))])]), L23, (X24.app [some (AObj.box 96 [(.v (.string y41.name)), (.v (.int .i64 y41.period)), (.v (.int .i64 y41.phase)), (.v (.int .i64 y41.at_))])]), L24, (xv q79), (xv q79), (xv q79), (xv q79), (xv q79), (xv q79), (xv q79), (xv q79), (xv q79), N1__20, (Ne.symm (Nat.ne_of_lt X20.lt)), N22__23, N22__24, N23__24, (hP.app _)⟩
    obtain ⟨i12, X1, X12, X20, X22, L22, X23, L23, X24, L24, E1, E4, E6, E7, E8, E12, E50, E51, E52, N1__20, N12__20, N22__23, N22__24, N23__24, hP⟩ := hI
    obtain ⟨y44, h45, h38⟩ := bnd_some h38
    have q80 := Gx.apart X20.gx X22 (by intro h; cases h)
    have q81 := Gx.apart X20.gx X23 (by intro h; cases h)
    have q82 := Gx.apart X20.gx X24 (by intro h; cases h)
    have q83 := X20.same 106 [(.v (.int .i64 y44.2.1.at_)), (.v (.int .i64 y44.2.1.e))]
    have q84 := X22.ne q80 (some (AObj.box 106 [(.v (.int .i64 y44.2.1.at_)), (.v (.int .i64 y44.2.1.e))]))
    have q85 := X23.ne q81 (some (AObj.box 106 [(.v (.int .i64 y44.2.1.at_)), (.v (.int .i64 y44.2.1.e))]))
    have q86 := X24.ne q82 (some (AObj.box 106 [(.v (.int .i64 y44.2.1.at_)), (.v (.int .i64 y44.2.1.e))]))
    have q87 := X1.ne (Ne.symm N1__20) (some (AObj.box 106 [(.v (.int .i64 y44.2.1.at_)), (.v (.int .i64 y44.2.1.e))]))
    have q88 := X12.ne (Ne.symm N12__20) (some (AObj.box 106 [(.v (.int .i64 y44.2.1.at_)), (.v (.int .i64 y44.2.1.e))]))
    refine w_x (cj9 E1 E4 E6 E7 E8 E12 E50 E51 (cj20 E52 X1.get X12.get X20.get X22.get X23.get X24.get q87.get q88.get q83.get q84.get q85.get q86.get (q87.ne (Gx.apart q85 q87.gx (by intro h; cases h)) (some (AObj.map .s (mpF check_Names_V0 (Mp.get y44.2.2)) (Mp.n y44.2.2)))).get (q88.ne (Gx.apart q85 q88.gx (by intro h; cases h)) (some (AObj.map .s (mpF check_Names_V0 (Mp.get y44.2.2)) (Mp.n y44.2.2)))).get (q83.ne (Gx.apart q85 q83.gx (by intro h; cases h)) (some (AObj.map .s (mpF check_Names_V0 (Mp.get y44.2.2)) (Mp.n y44.2.2)))).get (q84.ne (Ne.symm N22__23) (some (AObj.map .s (mpF check_Names_V0 (Mp.get y44.2.2)) (Mp.n y44.2.2)))).get (Gx.same q85 (AObj.map .s (mpF check_Names_V0 (Mp.get y44.2.2)) (Mp.n y44.2.2))).get (q86.ne N23__24 (some (AObj.map .s (mpF check_Names_V0 (Mp.get y44.2.2)) (Mp.n y44.2.2)))).get TT)) (k := ?_)
    refine EC.wka (.cons (.refl _) (.cons (.refl _) (.cons (.refl _) (.cons (.refl _) .nil)))) (S_check_finder_fresh _ _ _ _ _ h45 _ _ _ _ X20.gx X23 ?_)
    have q89 := Gx.apart X20.gx X22 (by intro h; cases h)
    have q90 := Gx.apart X20.gx X23 (by intro h; cases h)
    have q91 := Gx.apart X20.gx X24 (by intro h; cases h)
    have q92 := X20.same 106 [(.v (.int .i64 y44.2.1.at_)), (.v (.int .i64 y44.2.1.e))]
    have q93 := X22.ne q89 (some (AObj.box 106 [(.v (.int .i64 y44.2.1.at_)), (.v (.int .i64 y44.2.1.e))]))
    have q94 := X23.ne q90 (some (AObj.box 106 [(.v (.int .i64 y44.2.1.at_)), (.v (.int .i64 y44.2.1.e))]))
    have q95 := X24.ne q91 (some (AObj.box 106 [(.v (.int .i64 y44.2.1.at_)), (.v (.int .i64 y44.2.1.e))]))
    have q96 := X1.ne (Ne.symm N1__20) (some (AObj.box 106 [(.v (.int .i64 y44.2.1.at_)), (.v (.int .i64 y44.2.1.e))]))
    have q97 := X12.ne (Ne.symm N12__20) (some (AObj.box 106 [(.v (.int .i64 y44.2.1.at_)), (.v (.int .i64 y44.2.1.e))]))
    refine w_y (cj9 E1 E4 E6 E7 E8 E12 E50 E51 (cj20 E52 X1.get X12.get X20.get X22.get X23.get X24.get q96.get q97.get q92.get q93.get q94.get q95.get (q96.ne (Gx.apart q94 q96.gx (by intro h; cases h)) (some (AObj.map .s (mpF check_Names_V0 (Mp.get y44.2.2)) (Mp.n y44.2.2)))).get (q97.ne (Gx.apart q94 q97.gx (by intro h; cases h)) (some (AObj.map .s (mpF check_Names_V0 (Mp.get y44.2.2)) (Mp.n y44.2.2)))).get (q92.ne (Gx.apart q94 q92.gx (by intro h; cases h)) (some (AObj.map .s (mpF check_Names_V0 (Mp.get y44.2.2)) (Mp.n y44.2.2)))).get (q93.ne (Ne.symm N22__23) (some (AObj.map .s (mpF check_Names_V0 (Mp.get y44.2.2)) (Mp.n y44.2.2)))).get (Gx.same q94 (AObj.map .s (mpF check_Names_V0 (Mp.get y44.2.2)) (Mp.n y44.2.2))).get (q95.ne N23__24 (some (AObj.map .s (mpF check_Names_V0 (Mp.get y44.2.2)) (Mp.n y44.2.2)))).get TT)) (k := ?_)
    refine w_bk ?_
    obtain rfl := some_inj h38
    have q98 := Gx.apart X20.gx X23 (by intro h; cases h)
    have q99 := Gx.apart X20.gx X22 (by intro h; cases h)
    have q100 := Gx.apart X20.gx X24 (by intro h; cases h)
    have q101 := X20.same 106 [(.v (.int .i64 y44.2.1.at_)), (.v (.int .i64 y44.2.1.e))]
    have q102 := X23.ne q98 (some (AObj.box 106 [(.v (.int .i64 y44.2.1.at_)), (.v (.int .i64 y44.2.1.e))]))
    have q103 := Gx.apart q102 q101.gx (by intro h; cases h)
    have q104 := X22.ne q99 (some (AObj.box 106 [(.v (.int .i64 y44.2.1.at_)), (.v (.int .i64 y44.2.1.e))]))
    have q105 := X24.ne q100 (some (AObj.box 106 [(.v (.int .i64 y44.2.1.at_)), (.v (.int .i64 y44.2.1.e))]))
    have q106 := Gx.same q102 (AObj.map .s (mpF check_Names_V0 (Mp.get y44.2.2)) (Mp.n y44.2.2))
    have q107 := X1.ne (Ne.symm N1__20) (some (AObj.box 106 [(.v (.int .i64 y44.2.1.at_)), (.v (.int .i64 y44.2.1.e))]))
    have q108 := Gx.apart q102 q107.gx (by intro h; cases h)
    have q109 := X12.ne (Ne.symm N12__20) (some (AObj.box 106 [(.v (.int .i64 y44.2.1.at_)), (.v (.int .i64 y44.2.1.e))]))
    have q110 := Gx.apart q102 q109.gx (by intro h; cases h)
    have q111 := cj20 E52 X1.get X12.get X20.get X22.get X23.get X24.get q107.get q109.get q101.get q104.get q102.get q105.get (q107.ne q108 (some (AObj.map .s (mpF check_Names_V0 (Mp.get y44.2.2)) (Mp.n y44.2.2)))).get (q109.ne q110 (some (AObj.map .s (mpF check_Names_V0 (Mp.get y44.2.2)) (Mp.n y44.2.2)))).get (q101.ne q103 (some (AObj.map .s (mpF check_Names_V0 (Mp.get y44.2.2)) (Mp.n y44.2.2)))).get (q104.ne (Ne.symm N22__23) (some (AObj.map .s (mpF check_Names_V0 (Mp.get y44.2.2)) (Mp.n y44.2.2)))).get q106.get (q105.ne N23__24 (some (AObj.map .s (mpF check_Names_V0 (Mp.get y44.2.2)) (Mp.n y44.2.2)))).get TT
    have q112 := cj9 E1 E4 E6 E7 E8 E12 E50 E51 q111
    exact cw_n ⟨_, WkE.refl _, _, _, rfl, (q107.ne q108 (some (AObj.map .s (mpF check_Names_V0 (Mp.get y44.2.2)) (Mp.n y44.2.2)))), (q101.ne q103 (some (AObj.map .s (mpF check_Names_V0 (Mp.get y44.2.2)) (Mp.n y44.2.2)))), (q104.ne (Ne.symm N22__23) (some (AObj.map .s (mpF check_Names_V0 (Mp.get y44.2.2)) (Mp.n y44.2.2)))), L22, q106, L23, (q105.ne N23__24 (some (AObj.map .s (mpF check_Names_V0 (Mp.get y44.2.2)) (Mp.n y44.2.2)))), L24, (xv q112), (xv q112), (xv q112), (xv q112), (xv q112), (xv q112), (xv q112), (xv q112), N1__20, N22__23, N22__24, N23__24, ((hP.set X20.le (some (AObj.box 106 [(.v (.int .i64 y44.2.1.at_)), (.v (.int .i64 y44.2.1.e))]))).set L23 (some (AObj.map .s (mpF check_Names_V0 (Mp.get y44.2.2)) (Mp.n y44.2.2))))⟩
   obtain ⟨v20_39, v23_40, rfl, X1, X20, X22, L22, X23, L23, X24, L24, E1, E4, E6, E7, E8, E50, E51, E52, N1__20, N22__23, N22__24, N23__24, hP⟩ := hI
   try dsimp only at hf35
   refine w_x (cj14 E1 E4 E6 E7 E8 E50 E51 E52 X1.get X20.get X22.get X23.get X24.get TT) (k := ?_)
   obtain rfl := some_inj hf35
   have q113 := cj14 E1 E4 E6 E7 E8 E50 E51 E52 X1.get X20.get X22.get X23.get X24.get TT
   exact iq_n rfl ⟨_, WkE.refl _, _, _, _, rfl, X1, X20, X22, L22, X23, L23, X24, L24, (xv q113), (xv q113), (xv q113), (xv q113), (xv q113), (xv q113), (xv q113), (xv q113), N1__20, N22__23, N22__24, N23__24, hP⟩
  ·refine xf (cj10 E1 E4 E6 E7 E8 E50 E51 E52 E53 hb36) ?_
   refine w_exit ?_
   refine w_sqx ?_
   obtain rfl := some_inj hf35
   refine iq_x rfl fun hr46 => ?_
   obtain rfl := hr46
   refine w_bkx ?_
   have q114 := cj9 E1 E4 E6 E7 E8 E50 E51 E52 E53
   exact cw_n ⟨_, WkE.refl _, _, _, rfl, X1, X20, X22, L22, X23, L23, X24, L24, (xv q114), (xv q114), (xv q114), (xv q114), (xv q114), N1__20, N22__23, N22__24, N23__24, hP⟩
 obtain ⟨v20_29, v23_30, rfl, X1, X20, X22, L22, X23, L23, X24, L24, E1, E4, E6, E7, E8, N1__20, N22__23, N22__24, N23__24, hP⟩ := hI
 try dsimp only at h
 refine w_assoc ?_
 refine w_sa (fun e s => Bx σ s i1 27 (check_Names_A0 a0) ∧ Bx σ s i20 106 [(.v (.int .i64 v20_29.at_)), (.v (.int .i64 v20_29.e))] ∧ Gx s i22 (AObj.map .s (mpF check_Names_V0 (Mp.get v22_4)) (Mp.n v22_4)) ∧ σ.length ≤ i22 ∧ Gx s i23 (AObj.map .s (mpF check_Names_V0 (Mp.get v23_30)) (Mp.n v23_30)) ∧ σ.length ≤ i23 ∧ Gx s i24 (AObj.map .s (mpF check_Names_V0 (Mp.get (Mp.emp : Mp Int))) (Mp.n (Mp.emp : Mp Int))) ∧ σ.length ≤ i24 ∧ e 1 = (.pt i1 0) ∧ e 4 = (.pt i20 0) ∧ e 6 = (.mp i22) ∧ e 7 = (.mp i23) ∧ e 8 = (.mp i24) ∧ e 65 = (.sl (List.map Flow.cl a0.flows)) ∧ e 66 = (.v (.int .i64 ((List.length a0.flows : Nat) : Int))) ∧ e 67 = (.v (.int .i64 (0 : Int))) ∧ i1 ≠ i20 ∧ i22 ≠ i23 ∧ i22 ≠ i24 ∧ i23 ≠ i24 ∧ Pre σ s) ?_ fun e s hI => ?_
 ·refine w_x (cj11 E1 E4 E6 E7 E8 X1.get X20.get X22.get X23.get X24.get TT) (k := ?_)
  have q115 := cj11 E1 E4 E6 E7 E8 X1.get X20.get X22.get X23.get X24.get TT
  exact cw_n ⟨_, WkE.refl _, X1, X20, X22, L22, X23, L23, X24, L24, (xv q115), (xv q115), (xv q115), (xv q115), (xv q115), (xv q115), (xv q115), (xv q115), N1__20, N22__23, N22__24, N23__24, hP⟩
 obtain ⟨X1, X20, X22, L22, X23, L23, X24, L24, E1, E4, E6, E7, E8, E65, E66, E67, N1__20, N22__23, N22__24, N23__24, hP⟩ := hI
 obtain ⟨x47, h48, h⟩ := bnd_some h
 refine w_sa (fun e s => ∃ v20_49 : check_finder, ∃ v23_50 : (Mp Int), (v20_49, v23_50) = x47 ∧ Bx σ s i1 27 (check_Names_A0 a0) ∧ Bx σ s i20 106 [(.v (.int .i64 v20_49.at_)), (.v (.int .i64 v20_49.e))] ∧ Gx s i22 (AObj.map .s (mpF check_Names_V0 (Mp.get v22_4)) (Mp.n v22_4)) ∧ σ.length ≤ i22 ∧ Gx s i23 (AObj.map .s (mpF check_Names_V0 (Mp.get v23_50)) (Mp.n v23_50)) ∧ σ.length ≤ i23 ∧ Gx s i24 (AObj.map .s (mpF check_Names_V0 (Mp.get (Mp.emp : Mp Int))) (Mp.n (Mp.emp : Mp Int))) ∧ σ.length ≤ i24 ∧ e 1 = (.pt i1 0) ∧ e 4 = (.pt i20 0) ∧ e 6 = (.mp i22) ∧ e 7 = (.mp i23) ∧ e 8 = (.mp i24) ∧ i1 ≠ i20 ∧ i22 ≠ i23 ∧ i22 ≠ i24 ∧ i23 ≠ i24 ∧ Pre σ s) ?_ fun e s hI => ?_
 ·refine w_block ?_
  have q116 := cj8 E1 E4 E6 E7 E8 E65 E66 E67
  refine w_iter h48 (fun v e s => ∃ v67_51 : Int, ∃ v20_52 : check_finder, ∃ v23_53 : (Mp Int), (v67_51, v20_52, v23_53) = v ∧ Bx σ s i1 27 (check_Names_A0 a0) ∧ Bx σ s i20 106 [(.v (.int .i64 v20_52.at_)), (.v (.int .i64 v20_52.e))] ∧ Gx s i22 (AObj.map .s (mpF check_Names_V0 (Mp.get v22_4)) (Mp.n v22_4)) ∧ σ.length ≤ i22 ∧ Gx s i23 (AObj.map .s (mpF check_Names_V0 (Mp.get v23_53)) (Mp.n v23_53)) ∧ σ.length ≤ i23 ∧ Gx s i24 (AObj.map .s (mpF check_Names_V0 (Mp.get (Mp.emp : Mp Int))) (Mp.n (Mp.emp : Mp Int))) ∧ σ.length ≤ i24 ∧ e 1 = (.pt i1 0) ∧ e 4 = (.pt i20 0) ∧ e 6 = (.mp i22) ∧ e 7 = (.mp i23) ∧ e 8 = (.mp i24) ∧ e 65 = (.sl (List.map Flow.cl a0.flows)) ∧ e 66 = (.v (.int .i64 ((List.length a0.flows : Nat) : Int))) ∧ e 67 = (.v (.int .i64 v67_51)) ∧ i1 ≠ i20 ∧ i22 ≠ i23 ∧ i22 ≠ i24 ∧ i23 ≠ i24 ∧ Pre σ s) ⟨_, WkE.refl _, _, _, _, rfl, X1, X20, X22, L22, X23, L23, X24, L24, (xv q116), (xv q116), (xv q116), (xv q116), (xv q116), (xv q116), (xv q116), (xv q116), N1__20, N22__23, N22__24, N23__24, hP⟩ fun v x54 e s hf55 hI => ?_
  obtain ⟨v67_51, v20_52, v23_53, rfl, X1, X20, X22, L22, X23, L23, X24, L24, E1, E4, E6, E7, E8, E65, E66, E67, N1__20, N22__23, N22__24, N23__24, hP⟩ := hI
  unfold check_Names_L2 at hf55
  try dsimp only at hf55
  refine w_sa (fun e s => Bx σ s i1 27 (check_Names_A0 a0) ∧ Bx σ s i20 106 [(.v (.int .i64 v20_52.at_)), (.v (.int .i64 v20_52.e))] ∧ Gx s i22 (AObj.map .s (mpF check_Names_V0 (Mp.get v22_4)) (Mp.n v22_4)) ∧ σ.length ≤ i22 ∧ Gx s i23 (AObj.map .s (mpF check_Names_V0 (Mp.get v23_53)) (Mp.n v23_53)) ∧ σ.length ≤ i23 ∧ Gx s i24 (AObj.map .s (mpF check_Names_V0 (Mp.get (Mp.emp : Mp Int))) (Mp.n (Mp.emp : Mp Int))) ∧ σ.length ≤ i24 ∧ e 1 = (.pt i1 0) ∧ e 4 = (.pt i20 0) ∧ e 6 = (.mp i22) ∧ e 7 = (.mp i23) ∧ e 8 = (.mp i24) ∧ e 65 = (.sl (List.map Flow.cl a0.flows)) ∧ e 66 = (.v (.int .i64 ((List.length a0.flows : Nat) : Int))) ∧ e 67 = (.v (.int .i64 v67_51)) ∧ e 68 = (.v (.bool (decide (v67_51 < ((List.length a0.flows : Nat) : Int))))) ∧ i1 ≠ i20 ∧ i22 ≠ i23 ∧ i22 ≠ i24 ∧ i23 ≠ i24 ∧ Pre σ s) ?_ fun e s hI => ?_
  ·refine w_x (cj14 E1 E4 E6 E7 E8 E65 E66 E67 X1.get X20.get X22.get X23.get X24.get TT) (k := ?_)
   have q117 := cj14 E1 E4 E6 E7 E8 E65 E66 E67 X1.get X20.get X22.get X23.get X24.get TT
   exact cw_n ⟨_, WkE.refl _, X1, X20, X22, L22, X23, L23, X24, L24, (xv q117), (xv q117), (xv q117), (xv q117), (xv q117), (xv q117), (xv q117), (xv q117), (xv q117), N1__20, N22__23, N22__24, N23__24, hP⟩
  obtain ⟨X1, X20, X22, L22, X23, L23, X24, L24, E1, E4, E6, E7, E8, E65, E66, E67, E68, N1__20, N22__23, N22__24, N23__24, hP⟩ := hI
  refine w_seq ?_
  rcases ite_some hf55 with ⟨hb56, hf55⟩ | ⟨hb56, hf55⟩
  ·refine xt (cj10 E1 E4 E6 E7 E8 E65 E66 E67 E68 hb56) ?_
   refine w_skip ?_
   refine w_sq ?_
   obtain ⟨x57, h58, hf55⟩ := bnd_some hf55
   refine w_sa (fun e s => ∃ v20_59 : check_finder, ∃ v23_60 : (Mp Int), (v20_59, v23_60) = x57 ∧ Bx σ s i1 27 (check_Names_A0 a0) ∧ Bx σ s i20 106 [(.v (.int .i64 v20_59.at_)), (.v (.int .i64 v20_59.e))] ∧ Gx s i22 (AObj.map .s (mpF check_Names_V0 (Mp.get v22_4)) (Mp.n v22_4)) ∧ σ.length ≤ i22 ∧ Gx s i23 (AObj.map .s (mpF check_Names_V0 (Mp.get v23_60)) (Mp.n v23_60)) ∧ σ.length ≤ i23 ∧ Gx s i24 (AObj.map .s (mpF check_Names_V0 (Mp.get (Mp.emp : Mp Int))) (Mp.n (Mp.emp : Mp Int))) ∧ σ.length ≤ i24 ∧ e 1 = (.pt i1 0) ∧ e 4 = (.pt i20 0) ∧ e 6 = (.mp i22) ∧ e 7 = (.mp i23) ∧ e 8 = (.mp i24) ∧ e 65 = (.sl (List.map Flow.cl a0.flows)) ∧ e 66 = (.v (.int .i64 ((List.length a0.flows : Nat) : Int))) ∧ e 67 = (.v (.int .i64 v67_51)) ∧ i1 ≠ i20 ∧ i22 ≠ i23 ∧ i22 ≠ i24 ∧ i23 ≠ i24 ∧ Pre σ s) ?_ fun e s hI => ?_
   ·refine w_block ?_
    obtain ⟨y61, h62, h58⟩ := bnd_some h58
    refine w_sa (fun e s => ∃ i14 : Nat, Bx σ s i1 27 (check_Names_A0 a0) ∧ Bx σ s i14 41 [(.v (.string y61.name)), (.v (.int .i64 y61.e.kind)), (.v (.string y61.e.name)), (.v (.int .i64 y61.e.n)), (.v (.int .i64 y61.e.d)), (.sl (Expr.rows y61.e.args)), (.v (.int .i64 y61.e.at_)), (.v (.int .i64 y61.at_))] ∧ Bx σ s i20 106 [(.v (.int .i64 v20_52.at_)), (.v (.int .i64 v20_52.e))] ∧ Gx s i22 (AObj.map .s (mpF check_Names_V0 (Mp.get v22_4)) (Mp.n v22_4)) ∧ σ.length ≤ i22 ∧ Gx s i23 (AObj.map .s (mpF check_Names_V0 (Mp.get v23_53)) (Mp.n v23_53)) ∧ σ.length ≤ i23 ∧ Gx s i24 (AObj.map .s (mpF check_Names_V0 (Mp.get (Mp.emp : Mp Int))) (Mp.n (Mp.emp : Mp Int))) ∧ σ.length ≤ i24 ∧ e 1 = (.pt i1 0) ∧ e 4 = (.pt i20 0) ∧ e 6 = (.mp i22) ∧ e 7 = (.mp i23) ∧ e 8 = (.mp i24) ∧ e 14 = (.pt i14 0) ∧ e 65 = (.sl (List.map Flow.cl a0.flows)) ∧ e 66 = (.v (.int .i64 ((List.length a0.flows : Nat) : Int))) ∧ e 67 = (.v (.int .i64 v67_51)) ∧ i1 ≠ i20 ∧ i14 ≠ i20 ∧ i22 ≠ i23 ∧ i22 ≠ i24 ∧ i23 ≠ i24 ∧ Pre σ s) ?_ fun e s hI => ?_
    ·have R63 : (List.map Flow.cl a0.flows)[(v67_51).toNat]? = some [(.v (.string y61.name)), (.v (.int .i64 y61.e.kind)), (.v (.string y61.e.name)), (.v (.int .i64 y61.e.n)), (.v (.int .i64 y61.e.d)), (.sl (Expr.rows y61.e.args)), (.v (.int .i64 y61.e.at_)), (.v (.int .i64 y61.at_))] := map_get (getI_some h62).2
     refine w_x (cj8 E1 E4 E6 E7 E8 E65 E66 (cj20 E67 E68 X1.get X1.any X1.any2 X20.get X20.any X20.any2 X22.get X22.any X22.any2 X23.get X23.any X23.any2 X24.get X24.any X24.any2 R63 (getI_some h62).1 TT)) (k := ?_)
     have q118 := cj20 E67 E68 X1.get X1.any X1.any2 X20.get X20.any X20.any2 X22.get X22.any X22.any2 X23.get X23.any X23.any2 X24.get X24.any X24.any2 R63 (getI_some h62).1 TT
     have q119 := cj8 E1 E4 E6 E7 E8 E65 E66 q118
     exact cw_n ⟨_, WkE.refl _, s.length, (X1.app [some (AObj.box 41 [(.v (.string y61.name)), (.v (.int .i64 y61.e.kind)), (.v (.string y61.e.name)), (.v (.int .i64 y61.e.n)), (.v (.int .i64 y61.e.d)), (.sl (Expr.rows y61.e.args)), (.v (.int .i64 y61.e.at_)), (.v (.int .i64 y61.at_))])]), (Bx.new hP 41 [(.v (.string y61.name)), (.v (.int .i64 y61.e.kind)), (.v (.string y61.e.name)), (.v (.int .i64 y61.e.n)), (.v (.int .i64 y61.e.d)), (.sl (Expr.rows y61.e.args)), (.v (.int .i64 y61.e.at_)), (.v (.int .i64 y61.at_))]), (X20.app [some (AObj.box 41 [(.v (.string y61.name)), (.v (.int .i64 y61.e.kind)), (.v (.string y61.e.name)), (.v (.int .i64 y61.e.n)), (.v (.int .i64 y61.e.d)), (.sl (Expr.rows y61.e.args)), (.v (.int .i64 y61.e.at_)), (.v (.int .i64 y61.at_))])]), (X22.app [some (AObj.box 41 [(.v (.string y61.name)), (.v (.int .i64 y61.e.kind)), (.v (.string y61.e.name)), (.v (.int .i64 y61.e.n)), (.v (.int .i64 y61.e.d)), (.sl (Expr.rows y61.e.args)), (.v (.int .i64 y61.e.at_)), (.v (.int .i64 y61.at_))])]), L22, (X23.app [some (AObj.box 41 [(.v (.string y61.name)), (.v (.int .i64 y61.e.kind)), (.v (.string y61.e.name)), (.v (.int .i64 y61.e.n)), (.v (.int .i64 y61.e.d)), (.sl (Expr.rows y61.e.args)), (.v (.int .i64 y61.e.at_)), (.v (.int .i64 y61.at_))])]), L23, (X24.app [some (AObj.box 41 [(.v (.string y61.name)), (.v (.int .i64 y61.e.kind)), (.v (.string y61.e.name)), (.v (.int .i64 y61.e.n)), (.v (.int .i64 y61.e.d)), (.sl (Expr.rows y61.e.args)), (.v (.int .i64 y61.e.at_)), (.v (.int .i64 y61.at_))])]), L24, (xv q119), (xv q119), (xv q119), (xv q119), (xv q119), (xv q119), (xv q119), (xv q119), (xv q119), N1__20, (Ne.symm (Nat.ne_of_lt X20.lt)), N22__23, N22__24, N23__24, (hP.app _)⟩
    obtain ⟨i14, X1, X14, X20, X22, L22, X23, L23, X24, L24, E1, E4, E6, E7, E8, E14, E65, E66, E67, N1__20, N14__20, N22__23, N22__24, N23__24, hP⟩ := hI
    obtain ⟨y64, h65, h58⟩ := bnd_some h58
    have q120 := Gx.apart X20.gx X22 (by intro h; cases h)
    have q121 := Gx.apart X20.gx X23 (by intro h; cases h)
    have q122 := Gx.apart X20.gx X24 (by intro h; cases h)
    have q123 := X20.same 106 [(.v (.int .i64 y64.2.1.at_)), (.v (.int .i64 y64.2.1.e))]
    have q124 := X22.ne q120 (some (AObj.box 106 [(.v (.int .i64 y64.2.1.at_)), (.v (.int .i64 y64.2.1.e))]))
    have q125 := X23.ne q121 (some (AObj.box 106 [(.v (.int .i64 y64.2.1.at_)), (.v (.int .i64 y64.2.1.e))]))
    have q126 := X24.ne q122 (some (AObj.box 106 [(.v (.int .i64 y64.2.1.at_)), (.v (.int .i64 y64.2.1.e))]))
    have q127 := X1.ne (Ne.symm N1__20) (some (AObj.box 106 [(.v (.int .i64 y64.2.1.at_)), (.v (.int .i64 y64.2.1.e))]))
    have q128 := X14.ne (Ne.symm N14__20) (some (AObj.box 106 [(.v (.int .i64 y64.2.1.at_)), (.v (.int .i64 y64.2.1.e))]))
    refine w_x (cj9 E1 E4 E6 E7 E8 E14 E65 E66 (cj20 E67 X1.get X14.get X20.get X22.get X23.get X24.get q127.get q128.get q123.get q124.get q125.get q126.get (q127.ne (Gx.apart q125 q127.gx (by intro h; cases h)) (some (AObj.map .s (mpF check_Names_V0 (Mp.get y64.2.2)) (Mp.n y64.2.2)))).get (q128.ne (Gx.apart q125 q128.gx (by intro h; cases h)) (some (AObj.map .s (mpF check_Names_V0 (Mp.get y64.2.2)) (Mp.n y64.2.2)))).get (q123.ne (Gx.apart q125 q123.gx (by intro h; cases h)) (some (AObj.map .s (mpF check_Names_V0 (Mp.get y64.2.2)) (Mp.n y64.2.2)))).get (q124.ne (Ne.symm N22__23) (some (AObj.map .s (mpF check_Names_V0 (Mp.get y64.2.2)) (Mp.n y64.2.2)))).get (Gx.same q125 (AObj.map .s (mpF check_Names_V0 (Mp.get y64.2.2)) (Mp.n y64.2.2))).get (q126.ne N23__24 (some (AObj.map .s (mpF check_Names_V0 (Mp.get y64.2.2)) (Mp.n y64.2.2)))).get TT)) (k := ?_)
    refine EC.wka (.cons (.refl _) (.cons (.refl _) (.cons (.refl _) (.cons (.refl _) .nil)))) (S_check_finder_fresh _ _ _ _ _ h65 _ _ _ _ X20.gx X23 ?_)
    have q129 := Gx.apart X20.gx X22 (by intro h; cases h)
    have q130 := Gx.apart X20.gx X23 (by intro h; cases h)
    have q131 := Gx.apart X20.gx X24 (by intro h; cases h)
    have q132 := X20.same 106 [(.v (.int .i64 y64.2.1.at_)), (.v (.int .i64 y64.2.1.e))]
    have q133 := X22.ne q129 (some (AObj.box 106 [(.v (.int .i64 y64.2.1.at_)), (.v (.int .i64 y64.2.1.e))]))
    have q134 := X23.ne q130 (some (AObj.box 106 [(.v (.int .i64 y64.2.1.at_)), (.v (.int .i64 y64.2.1.e))]))
    have q135 := X24.ne q131 (some (AObj.box 106 [(.v (.int .i64 y64.2.1.at_)), (.v (.int .i64 y64.2.1.e))]))
    have q136 := X1.ne (Ne.symm N1__20) (some (AObj.box 106 [(.v (.int .i64 y64.2.1.at_)), (.v (.int .i64 y64.2.1.e))]))
    have q137 := X14.ne (Ne.symm N14__20) (some (AObj.box 106 [(.v (.int .i64 y64.2.1.at_)), (.v (.int .i64 y64.2.1.e))]))
    refine w_y (cj9 E1 E4 E6 E7 E8 E14 E65 E66 (cj20 E67 X1.get X14.get X20.get X22.get X23.get X24.get q136.get q137.get q132.get q133.get q134.get q135.get (q136.ne (Gx.apart q134 q136.gx (by intro h; cases h)) (some (AObj.map .s (mpF check_Names_V0 (Mp.get y64.2.2)) (Mp.n y64.2.2)))).get (q137.ne (Gx.apart q134 q137.gx (by intro h; cases h)) (some (AObj.map .s (mpF check_Names_V0 (Mp.get y64.2.2)) (Mp.n y64.2.2)))).get (q132.ne (Gx.apart q134 q132.gx (by intro h; cases h)) (some (AObj.map .s (mpF check_Names_V0 (Mp.get y64.2.2)) (Mp.n y64.2.2)))).get (q133.ne (Ne.symm N22__23) (some (AObj.map .s (mpF check_Names_V0 (Mp.get y64.2.2)) (Mp.n y64.2.2)))).get (Gx.same q134 (AObj.map .s (mpF check_Names_V0 (Mp.get y64.2.2)) (Mp.n y64.2.2))).get (q135.ne N23__24 (some (AObj.map .s (mpF check_Names_V0 (Mp.get y64.2.2)) (Mp.n y64.2.2)))).get TT)) (k := ?_)
    refine w_bk ?_
    obtain rfl := some_inj h58
    have q138 := Gx.apart X20.gx X23 (by intro h; cases h)
    have q139 := Gx.apart X20.gx X22 (by intro h; cases h)
    have q140 := Gx.apart X20.gx X24 (by intro h; cases h)
    have q141 := X20.same 106 [(.v (.int .i64 y64.2.1.at_)), (.v (.int .i64 y64.2.1.e))]
    have q142 := X23.ne q138 (some (AObj.box 106 [(.v (.int .i64 y64.2.1.at_)), (.v (.int .i64 y64.2.1.e))]))
    have q143 := Gx.apart q142 q141.gx (by intro h; cases h)
    have q144 := X22.ne q139 (some (AObj.box 106 [(.v (.int .i64 y64.2.1.at_)), (.v (.int .i64 y64.2.1.e))]))
    have q145 := X24.ne q140 (some (AObj.box 106 [(.v (.int .i64 y64.2.1.at_)), (.v (.int .i64 y64.2.1.e))]))
    have q146 := Gx.same q142 (AObj.map .s (mpF check_Names_V0 (Mp.get y64.2.2)) (Mp.n y64.2.2))
    have q147 := X1.ne (Ne.symm N1__20) (some (AObj.box 106 [(.v (.int .i64 y64.2.1.at_)), (.v (.int .i64 y64.2.1.e))]))
    have q148 := Gx.apart q142 q147.gx (by intro h; cases h)
    have q149 := X14.ne (Ne.symm N14__20) (some (AObj.box 106 [(.v (.int .i64 y64.2.1.at_)), (.v (.int .i64 y64.2.1.e))]))
    have q150 := Gx.apart q142 q149.gx (by intro h; cases h)
    have q151 := cj20 E67 X1.get X14.get X20.get X22.get X23.get X24.get q147.get q149.get q141.get q144.get q142.get q145.get (q147.ne q148 (some (AObj.map .s (mpF check_Names_V0 (Mp.get y64.2.2)) (Mp.n y64.2.2)))).get (q149.ne q150 (some (AObj.map .s (mpF check_Names_V0 (Mp.get y64.2.2)) (Mp.n y64.2.2)))).get (q141.ne q143 (some (AObj.map .s (mpF check_Names_V0 (Mp.get y64.2.2)) (Mp.n y64.2.2)))).get (q144.ne (Ne.symm N22__23) (some (AObj.map .s (mpF check_Names_V0 (Mp.get y64.2.2)) (Mp.n y64.2.2)))).get q146.get (q145.ne N23__24 (some (AObj.map .s (mpF check_Names_V0 (Mp.get y64.2.2)) (Mp.n y64.2.2)))).get TT
    have q152 := cj9 E1 E4 E6 E7 E8 E14 E65 E66 q151
    exact cw_n ⟨_, WkE.refl _, _, _, rfl, (q147.ne q148 (some (AObj.map .s (mpF check_Names_V0 (Mp.get y64.2.2)) (Mp.n y64.2.2)))), (q141.ne q143 (some (AObj.map .s (mpF check_Names_V0 (Mp.get y64.2.2)) (Mp.n y64.2.2)))), (q144.ne (Ne.symm N22__23) (some (AObj.map .s (mpF check_Names_V0 (Mp.get y64.2.2)) (Mp.n y64.2.2)))), L22, q146, L23, (q145.ne N23__24 (some (AObj.map .s (mpF check_Names_V0 (Mp.get y64.2.2)) (Mp.n y64.2.2)))), L24, (xv q152), (xv q152), (xv q152), (xv q152), (xv q152), (xv q152), (xv q152), (xv q152), N1__20, N22__23, N22__24, N23__24, ((hP.set X20.le (some (AObj.box 106 [(.v (.int .i64 y64.2.1.at_)), (.v (.int .i64 y64.2.1.e))]))).set L23 (some (AObj.map .s (mpF check_Names_V0 (Mp.get y64.2.2)) (Mp.n y64.2.2))))⟩
   obtain ⟨v20_59, v23_60, rfl, X1, X20, X22, L22, X23, L23, X24, L24, E1, E4, E6, E7, E8, E65, E66, E67, N1__20, N22__23, N22__24, N23__24, hP⟩ := hI
   try dsimp only at hf55
   refine w_x (cj14 E1 E4 E6 E7 E8 E65 E66 E67 X1.get X20.get X22.get X23.get X24.get TT) (k := ?_)
   obtain rfl := some_inj hf55
   have q153 := cj14 E1 E4 E6 E7 E8 E65 E66 E67 X1.get X20.get X22.get X23.get X24.get TT
   exact iq_n rfl ⟨_, WkE.refl _, _, _, _, rfl, X1, X20, X22, L22, X23, L23, X24, L24, (xv q153), (xv q153), (xv q153), (xv q153), (xv q153), (xv q153), (xv q153), (xv q153), N1__20, N22__23, N22__24, N23__24, hP⟩
  ·refine xf (cj10 E1 E4 E6 E7 E8 E65 E66 E67 E68 hb56) ?_
   refine w_exit ?_
   refine w_sqx ?_
   obtain rfl := some_inj hf55
   refine iq_x rfl fun hr66 => ?_
   obtain rfl := hr66
   refine w_bkx ?_
   have q154 := cj9 E1 E4 E6 E7 E8 E65 E66 E67 E68
   exact cw_n ⟨_, WkE.refl _, _, _, rfl, X1, X20, X22, L22, X23, L23, X24, L24, (xv q154), (xv q154), (xv q154), (xv q154), (xv q154), N1__20, N22__23, N22__24, N23__24, hP⟩
 obtain ⟨v20_49, v23_50, rfl, X1, X20, X22, L22, X23, L23, X24, L24, E1, E4, E6, E7, E8, N1__20, N22__23, N22__24, N23__24, hP⟩ := hI
 try dsimp only at h
 refine w_assoc ?_
 refine w_sa (fun e s => Bx σ s i1 27 (check_Names_A0 a0) ∧ Bx σ s i20 106 [(.v (.int .i64 v20_49.at_)), (.v (.int .i64 v20_49.e))] ∧ Gx s i22 (AObj.map .s (mpF check_Names_V0 (Mp.get v22_4)) (Mp.n v22_4)) ∧ σ.length ≤ i22 ∧ Gx s i23 (AObj.map .s (mpF check_Names_V0 (Mp.get v23_50)) (Mp.n v23_50)) ∧ σ.length ≤ i23 ∧ Gx s i24 (AObj.map .s (mpF check_Names_V0 (Mp.get (Mp.emp : Mp Int))) (Mp.n (Mp.emp : Mp Int))) ∧ σ.length ≤ i24 ∧ e 1 = (.pt i1 0) ∧ e 4 = (.pt i20 0) ∧ e 6 = (.mp i22) ∧ e 7 = (.mp i23) ∧ e 8 = (.mp i24) ∧ e 80 = (.sl (List.map Flow.cl a0.flows)) ∧ e 81 = (.v (.int .i64 ((List.length a0.flows : Nat) : Int))) ∧ e 82 = (.v (.int .i64 (0 : Int))) ∧ i1 ≠ i20 ∧ i22 ≠ i23 ∧ i22 ≠ i24 ∧ i23 ≠ i24 ∧ Pre σ s) ?_ fun e s hI => ?_
 ·refine w_x (cj11 E1 E4 E6 E7 E8 X1.get X20.get X22.get X23.get X24.get TT) (k := ?_)
  have q155 := cj11 E1 E4 E6 E7 E8 X1.get X20.get X22.get X23.get X24.get TT
  exact cw_n ⟨_, WkE.refl _, X1, X20, X22, L22, X23, L23, X24, L24, (xv q155), (xv q155), (xv q155), (xv q155), (xv q155), (xv q155), (xv q155), (xv q155), N1__20, N22__23, N22__24, N23__24, hP⟩
 obtain ⟨X1, X20, X22, L22, X23, L23, X24, L24, E1, E4, E6, E7, E8, E80, E81, E82, N1__20, N22__23, N22__24, N23__24, hP⟩ := hI
 obtain ⟨x67, h68, h⟩ := bnd_some h
 refine w_sa (fun e s => ∃ v20_69 : check_finder, v20_69 = x67 ∧ Bx σ s i1 27 (check_Names_A0 a0) ∧ Bx σ s i20 106 [(.v (.int .i64 v20_69.at_)), (.v (.int .i64 v20_69.e))] ∧ Gx s i24 (AObj.map .s (mpF check_Names_V0 (Mp.get (Mp.emp : Mp Int))) (Mp.n (Mp.emp : Mp Int))) ∧ σ.length ≤ i24 ∧ e 1 = (.pt i1 0) ∧ e 4 = (.pt i20 0) ∧ e 8 = (.mp i24) ∧ i1 ≠ i20 ∧ Pre σ s) ?_ fun e s hI => ?_
 ·refine w_block ?_
  have q156 := cj8 E1 E4 E6 E7 E8 E80 E81 E82
  refine w_iter h68 (fun v e s => ∃ v82_70 : Int, ∃ v20_71 : check_finder, (v82_70, v20_71) = v ∧ Bx σ s i1 27 (check_Names_A0 a0) ∧ Bx σ s i20 106 [(.v (.int .i64 v20_71.at_)), (.v (.int .i64 v20_71.e))] ∧ Gx s i22 (AObj.map .s (mpF check_Names_V0 (Mp.get v22_4)) (Mp.n v22_4)) ∧ σ.length ≤ i22 ∧ Gx s i23 (AObj.map .s (mpF check_Names_V0 (Mp.get v23_50)) (Mp.n v23_50)) ∧ σ.length ≤ i23 ∧ Gx s i24 (AObj.map .s (mpF check_Names_V0 (Mp.get (Mp.emp : Mp Int))) (Mp.n (Mp.emp : Mp Int))) ∧ σ.length ≤ i24 ∧ e 1 = (.pt i1 0) ∧ e 4 = (.pt i20 0) ∧ e 6 = (.mp i22) ∧ e 7 = (.mp i23) ∧ e 8 = (.mp i24) ∧ e 80 = (.sl (List.map Flow.cl a0.flows)) ∧ e 81 = (.v (.int .i64 ((List.length a0.flows : Nat) : Int))) ∧ e 82 = (.v (.int .i64 v82_70)) ∧ i1 ≠ i20 ∧ i22 ≠ i23 ∧ i22 ≠ i24 ∧ i23 ≠ i24 ∧ Pre σ s) ⟨_, WkE.refl _, _, _, rfl, X1, X20, X22, L22, X23, L23, X24, L24, (xv q156), (xv q156), (xv q156), (xv q156), (xv q156), (xv q156), (xv q156), (xv q156), N1__20, N22__23, N22__24, N23__24, hP⟩ fun v x72 e s hf73 hI => ?_
  obtain ⟨v82_70, v20_71, rfl, X1, X20, X22, L22, X23, L23, X24, L24, E1, E4, E6, E7, E8, E80, E81, E82, N1__20, N22__23, N22__24, N23__24, hP⟩ := hI
  unfold check_Names_L3 at hf73
  try dsimp only at hf73
  refine w_sa (fun e s => Bx σ s i1 27 (check_Names_A0 a0) ∧ Bx σ s i20 106 [(.v (.int .i64 v20_71.at_)), (.v (.int .i64 v20_71.e))] ∧ Gx s i22 (AObj.map .s (mpF check_Names_V0 (Mp.get v22_4)) (Mp.n v22_4)) ∧ σ.length ≤ i22 ∧ Gx s i23 (AObj.map .s (mpF check_Names_V0 (Mp.get v23_50)) (Mp.n v23_50)) ∧ σ.length ≤ i23 ∧ Gx s i24 (AObj.map .s (mpF check_Names_V0 (Mp.get (Mp.emp : Mp Int))) (Mp.n (Mp.emp : Mp Int))) ∧ σ.length ≤ i24 ∧ e 1 = (.pt i1 0) ∧ e 4 = (.pt i20 0) ∧ e 6 = (.mp i22) ∧ e 7 = (.mp i23) ∧ e 8 = (.mp i24) ∧ e 80 = (.sl (List.map Flow.cl a0.flows)) ∧ e 81 = (.v (.int .i64 ((List.length a0.flows : Nat) : Int))) ∧ e 82 = (.v (.int .i64 v82_70)) ∧ e 83 = (.v (.bool (decide (v82_70 < ((List.length a0.flows : Nat) : Int))))) ∧ i1 ≠ i20 ∧ i22 ≠ i23 ∧ i22 ≠ i24 ∧ i23 ≠ i24 ∧ Pre σ s) ?_ fun e s hI => ?_
  ·refine w_x (cj14 E1 E4 E6 E7 E8 E80 E81 E82 X1.get X20.get X22.get X23.get X24.get TT) (k := ?_)
   have q157 := cj14 E1 E4 E6 E7 E8 E80 E81 E82 X1.get X20.get X22.get X23.get X24.get TT
   exact cw_n ⟨_, WkE.refl _, X1, X20, X22, L22, X23, L23, X24, L24, (xv q157), (xv q157), (xv q157), (xv q157), (xv q157), (xv q157), (xv q157), (xv q157), (xv q157), N1__20, N22__23, N22__24, N23__24, hP⟩
  obtain ⟨X1, X20, X22, L22, X23, L23, X24, L24, E1, E4, E6, E7, E8, E80, E81, E82, E83, N1__20, N22__23, N22__24, N23__24, hP⟩ := hI
  refine w_seq ?_
  rcases ite_some hf73 with ⟨hb74, hf73⟩ | ⟨hb74, hf73⟩
  ·refine xt (cj10 E1 E4 E6 E7 E8 E80 E81 E82 E83 hb74) ?_
   refine w_skip ?_
   refine w_sq ?_
   obtain ⟨x75, h76, hf73⟩ := bnd_some hf73
   refine w_sa (fun e s => ∃ v20_77 : check_finder, v20_77 = x75 ∧ Bx σ s i1 27 (check_Names_A0 a0) ∧ Bx σ s i20 106 [(.v (.int .i64 v20_77.at_)), (.v (.int .i64 v20_77.e))] ∧ Gx s i22 (AObj.map .s (mpF check_Names_V0 (Mp.get v22_4)) (Mp.n v22_4)) ∧ σ.length ≤ i22 ∧ Gx s i23 (AObj.map .s (mpF check_Names_V0 (Mp.get v23_50)) (Mp.n v23_50)) ∧ σ.length ≤ i23 ∧ Gx s i24 (AObj.map .s (mpF check_Names_V0 (Mp.get (Mp.emp : Mp Int))) (Mp.n (Mp.emp : Mp Int))) ∧ σ.length ≤ i24 ∧ e 1 = (.pt i1 0) ∧ e 4 = (.pt i20 0) ∧ e 6 = (.mp i22) ∧ e 7 = (.mp i23) ∧ e 8 = (.mp i24) ∧ e 80 = (.sl (List.map Flow.cl a0.flows)) ∧ e 81 = (.v (.int .i64 ((List.length a0.flows : Nat) : Int))) ∧ e 82 = (.v (.int .i64 v82_70)) ∧ i1 ≠ i20 ∧ i22 ≠ i23 ∧ i22 ≠ i24 ∧ i23 ≠ i24 ∧ Pre σ s) ?_ fun e s hI => ?_
   ·refine w_block ?_
    obtain ⟨y78, h79, h76⟩ := bnd_some h76
    refine w_sa (fun e s => ∃ i16 : Nat, Bx σ s i1 27 (check_Names_A0 a0) ∧ Bx σ s i16 41 [(.v (.string y78.name)), (.v (.int .i64 y78.e.kind)), (.v (.string y78.e.name)), (.v (.int .i64 y78.e.n)), (.v (.int .i64 y78.e.d)), (.sl (Expr.rows y78.e.args)), (.v (.int .i64 y78.e.at_)), (.v (.int .i64 y78.at_))] ∧ Bx σ s i20 106 [(.v (.int .i64 v20_71.at_)), (.v (.int .i64 v20_71.e))] ∧ Gx s i22 (AObj.map .s (mpF check_Names_V0 (Mp.get v22_4)) (Mp.n v22_4)) ∧ σ.length ≤ i22 ∧ Gx s i23 (AObj.map .s (mpF check_Names_V0 (Mp.get v23_50)) (Mp.n v23_50)) ∧ σ.length ≤ i23 ∧ Gx s i24 (AObj.map .s (mpF check_Names_V0 (Mp.get (Mp.emp : Mp Int))) (Mp.n (Mp.emp : Mp Int))) ∧ σ.length ≤ i24 ∧ e 1 = (.pt i1 0) ∧ e 4 = (.pt i20 0) ∧ e 6 = (.mp i22) ∧ e 7 = (.mp i23) ∧ e 8 = (.mp i24) ∧ e 16 = (.pt i16 0) ∧ e 80 = (.sl (List.map Flow.cl a0.flows)) ∧ e 81 = (.v (.int .i64 ((List.length a0.flows : Nat) : Int))) ∧ e 82 = (.v (.int .i64 v82_70)) ∧ i1 ≠ i20 ∧ i16 ≠ i20 ∧ i22 ≠ i23 ∧ i22 ≠ i24 ∧ i23 ≠ i24 ∧ Pre σ s) ?_ fun e s hI => ?_
    ·have R80 : (List.map Flow.cl a0.flows)[(v82_70).toNat]? = some [(.v (.string y78.name)), (.v (.int .i64 y78.e.kind)), (.v (.string y78.e.name)), (.v (.int .i64 y78.e.n)), (.v (.int .i64 y78.e.d)), (.sl (Expr.rows y78.e.args)), (.v (.int .i64 y78.e.at_)), (.v (.int .i64 y78.at_))] := map_get (getI_some h79).2
     refine w_x (cj8 E1 E4 E6 E7 E8 E80 E81 (cj20 E82 E83 X1.get X1.any X1.any2 X20.get X20.any X20.any2 X22.get X22.any X22.any2 X23.get X23.any X23.any2 X24.get X24.any X24.any2 R80 (getI_some h79).1 TT)) (k := ?_)
     have q158 := cj20 E82 E83 X1.get X1.any X1.any2 X20.get X20.any X20.any2 X22.get X22.any X22.any2 X23.get X23.any X23.any2 X24.get X24.any X24.any2 R80 (getI_some h79).1 TT
     have q159 := cj8 E1 E4 E6 E7 E8 E80 E81 q158
     exact cw_n ⟨_, WkE.refl _, s.length, (X1.app [some (AObj.box 41 [(.v (.string y78.name)), (.v (.int .i64 y78.e.kind)), (.v (.string y78.e.name)), (.v (.int .i64 y78.e.n)), (.v (.int .i64 y78.e.d)), (.sl (Expr.rows y78.e.args)), (.v (.int .i64 y78.e.at_)), (.v (.int .i64 y78.at_))])]), (Bx.new hP 41 [(.v (.string y78.name)), (.v (.int .i64 y78.e.kind)), (.v (.string y78.e.name)), (.v (.int .i64 y78.e.n)), (.v (.int .i64 y78.e.d)), (.sl (Expr.rows y78.e.args)), (.v (.int .i64 y78.e.at_)), (.v (.int .i64 y78.at_))]), (X20.app [some (AObj.box 41 [(.v (.string y78.name)), (.v (.int .i64 y78.e.kind)), (.v (.string y78.e.name)), (.v (.int .i64 y78.e.n)), (.v (.int .i64 y78.e.d)), (.sl (Expr.rows y78.e.args)), (.v (.int .i64 y78.e.at_)), (.v (.int .i64 y78.at_))])]), (X22.app [some (AObj.box 41 [(.v (.string y78.name)), (.v (.int .i64 y78.e.kind)), (.v (.string y78.e.name)), (.v (.int .i64 y78.e.n)), (.v (.int .i64 y78.e.d)), (.sl (Expr.rows y78.e.args)), (.v (.int .i64 y78.e.at_)), (.v (.int .i64 y78.at_))])]), L22, (X23.app [some (AObj.box 41 [(.v (.string y78.name)), (.v (.int .i64 y78.e.kind)), (.v (.string y78.e.name)), (.v (.int .i64 y78.e.n)), (.v (.int .i64 y78.e.d)), (.sl (Expr.rows y78.e.args)), (.v (.int .i64 y78.e.at_)), (.v (.int .i64 y78.at_))])]), L23, (X24.app [some (AObj.box 41 [(.v (.string y78.name)), (.v (.int .i64 y78.e.kind)), (.v (.string y78.e.name)), (.v (.int .i64 y78.e.n)), (.v (.int .i64 y78.e.d)), (.sl (Expr.rows y78.e.args)), (.v (.int .i64 y78.e.at_)), (.v (.int .i64 y78.at_))])]), L24, (xv q159), (xv q159), (xv q159), (xv q159), (xv q159), (xv q159), (xv q159), (xv q159), (xv q159), N1__20, (Ne.symm (Nat.ne_of_lt X20.lt)), N22__23, N22__24, N23__24, (hP.app _)⟩
    obtain ⟨i16, X1, X16, X20, X22, L22, X23, L23, X24, L24, E1, E4, E6, E7, E8, E16, E80, E81, E82, N1__20, N16__20, N22__23, N22__24, N23__24, hP⟩ := hI
    obtain ⟨y81, h82, h76⟩ := bnd_some h76
    refine w_x (cj3 E1 E4 (cj20 E6 E7 E8 E16 E80 E81 E82 X1.get X16.get X20.get X22.get X23.get X24.get (X1.ne (Ne.symm N1__20) (some (AObj.box 106 [(.v (.int .i64 y81.2.at_)), (.v (.int .i64 y81.2.e))]))).get (X16.ne (Ne.symm N16__20) (some (AObj.box 106 [(.v (.int .i64 y81.2.at_)), (.v (.int .i64 y81.2.e))]))).get (X20.same 106 [(.v (.int .i64 y81.2.at_)), (.v (.int .i64 y81.2.e))]).get (X22.ne (Gx.apart X20.gx X22 (by intro h; cases h)) (some (AObj.box 106 [(.v (.int .i64 y81.2.at_)), (.v (.int .i64 y81.2.e))]))).get (X23.ne (Gx.apart X20.gx X23 (by intro h; cases h)) (some (AObj.box 106 [(.v (.int .i64 y81.2.at_)), (.v (.int .i64 y81.2.e))]))).get (X24.ne (Gx.apart X20.gx X24 (by intro h; cases h)) (some (AObj.box 106 [(.v (.int .i64 y81.2.at_)), (.v (.int .i64 y81.2.e))]))).get TT)) (k := ?_)
    refine EC.wka (.cons (.refl _) (.cons (.refl _) (.cons (.refl _) (.cons (.refl _) .nil)))) (S_check_finder_expr _ _ _ _ _ h82 _ _ _ _ _ X20.gx X23 X22 ?_)
    refine w_y (cj3 E1 E4 (cj20 E6 E7 E8 E16 E80 E81 E82 X1.get X16.get X20.get X22.get X23.get X24.get (X1.ne (Ne.symm N1__20) (some (AObj.box 106 [(.v (.int .i64 y81.2.at_)), (.v (.int .i64 y81.2.e))]))).get (X16.ne (Ne.symm N16__20) (some (AObj.box 106 [(.v (.int .i64 y81.2.at_)), (.v (.int .i64 y81.2.e))]))).get (X20.same 106 [(.v (.int .i64 y81.2.at_)), (.v (.int .i64 y81.2.e))]).get (X22.ne (Gx.apart X20.gx X22 (by intro h; cases h)) (some (AObj.box 106 [(.v (.int .i64 y81.2.at_)), (.v (.int .i64 y81.2.e))]))).get (X23.ne (Gx.apart X20.gx X23 (by intro h; cases h)) (some (AObj.box 106 [(.v (.int .i64 y81.2.at_)), (.v (.int .i64 y81.2.e))]))).get (X24.ne (Gx.apart X20.gx X24 (by intro h; cases h)) (some (AObj.box 106 [(.v (.int .i64 y81.2.at_)), (.v (.int .i64 y81.2.e))]))).get TT)) (k := ?_)
    refine w_bk ?_
    obtain rfl := some_inj h76
    have q160 := Gx.apart X20.gx X22 (by intro h; cases h)
    have q161 := Gx.apart X20.gx X23 (by intro h; cases h)
    have q162 := Gx.apart X20.gx X24 (by intro h; cases h)
    have q163 := X20.same 106 [(.v (.int .i64 y81.2.at_)), (.v (.int .i64 y81.2.e))]
    have q164 := X22.ne q160 (some (AObj.box 106 [(.v (.int .i64 y81.2.at_)), (.v (.int .i64 y81.2.e))]))
    have q165 := X23.ne q161 (some (AObj.box 106 [(.v (.int .i64 y81.2.at_)), (.v (.int .i64 y81.2.e))]))
    have q166 := X24.ne q162 (some (AObj.box 106 [(.v (.int .i64 y81.2.at_)), (.v (.int .i64 y81.2.e))]))
    have q167 := X1.ne (Ne.symm N1__20) (some (AObj.box 106 [(.v (.int .i64 y81.2.at_)), (.v (.int .i64 y81.2.e))]))
    have q168 := X16.ne (Ne.symm N16__20) (some (AObj.box 106 [(.v (.int .i64 y81.2.at_)), (.v (.int .i64 y81.2.e))]))
    have q169 := cj20 E6 E7 E8 E16 E80 E81 E82 X1.get X16.get X20.get X22.get X23.get X24.get q167.get q168.get q163.get q164.get q165.get q166.get TT
    have q170 := cj3 E1 E4 q169
    exact cw_n ⟨_, WkE.refl _, _, rfl, q167, q163, q164, L22, q165, L23, q166, L24, (xv q170), (xv q170), (xv q170), (xv q170), (xv q170), (xv q170), (xv q170), (xv q170), N1__20, N22__23, N22__24, N23__24, (hP.set X20.le (some (AObj.box 106 [(.v (.int .i64 y81.2.at_)), (.v (.int .i64 y81.2.e))])))⟩
   obtain ⟨v20_77, rfl, X1, X20, X22, L22, X23, L23, X24, L24, E1, E4, E6, E7, E8, E80, E81, E82, N1__20, N22__23, N22__24, N23__24, hP⟩ := hI
   try dsimp only at hf73
   refine w_x (cj14 E1 E4 E6 E7 E8 E80 E81 E82 X1.get X20.get X22.get X23.get X24.get TT) (k := ?_)
   obtain rfl := some_inj hf73
   have q171 := cj14 E1 E4 E6 E7 E8 E80 E81 E82 X1.get X20.get X22.get X23.get X24.get TT
   exact iq_n rfl ⟨_, WkE.refl _, _, _, rfl, X1, X20, X22, L22, X23, L23, X24, L24, (xv q171), (xv q171), (xv q171), (xv q171), (xv q171), (xv q171), (xv q171), (xv q171), N1__20, N22__23, N22__24, N23__24, hP⟩
  ·refine xf (cj10 E1 E4 E6 E7 E8 E80 E81 E82 E83 hb74) ?_
   refine w_exit ?_
   refine w_sqx ?_
   obtain rfl := some_inj hf73
   refine iq_x rfl fun hr83 => ?_
   obtain rfl := hr83
   refine w_bkx ?_
   have q172 := cj9 E1 E4 E6 E7 E8 E80 E81 E82 E83
   exact cw_n ⟨_, WkE.refl _, _, rfl, X1, X20, X24, L24, (xv q172), (xv q172), (xv q172), N1__20, hP⟩
 obtain ⟨v20_69, rfl, X1, X20, X24, L24, E1, E4, E8, N1__20, hP⟩ := hI
 try dsimp only at h
 refine w_assoc ?_
 refine w_sa (fun e s => Bx σ s i1 27 (check_Names_A0 a0) ∧ Bx σ s i20 106 [(.v (.int .i64 v20_69.at_)), (.v (.int .i64 v20_69.e))] ∧ Gx s i24 (AObj.map .s (mpF check_Names_V0 (Mp.get (Mp.emp : Mp Int))) (Mp.n (Mp.emp : Mp Int))) ∧ σ.length ≤ i24 ∧ e 1 = (.pt i1 0) ∧ e 4 = (.pt i20 0) ∧ e 8 = (.mp i24) ∧ e 94 = (.sl (List.map Output.cl a0.outputs)) ∧ e 95 = (.v (.int .i64 ((List.length a0.outputs : Nat) : Int))) ∧ e 96 = (.v (.int .i64 (0 : Int))) ∧ i1 ≠ i20 ∧ Pre σ s) ?_ fun e s hI => ?_
 ·refine w_x (cj7 E1 E4 E8 X1.get X20.get X24.get TT) (k := ?_)
  have q173 := cj7 E1 E4 E8 X1.get X20.get X24.get TT
  exact cw_n ⟨_, WkE.refl _, X1, X20, X24, L24, (xv q173), (xv q173), (xv q173), (xv q173), (xv q173), (xv q173), N1__20, hP⟩
 obtain ⟨X1, X20, X24, L24, E1, E4, E8, E94, E95, E96, N1__20, hP⟩ := hI
 obtain ⟨x84, h85, h⟩ := bnd_some h
 refine w_sa (fun e s => ∃ v20_86 : check_finder, v20_86 = x84 ∧ Bx σ s i20 106 [(.v (.int .i64 v20_86.at_)), (.v (.int .i64 v20_86.e))] ∧ e 4 = (.pt i20 0) ∧ Pre σ s) ?_ fun e s hI => ?_
 ·refine w_block ?_
  have q174 := cj6 E1 E4 E8 E94 E95 E96
  refine w_iter h85 (fun v e s => ∃ v96_87 : Int, ∃ v20_88 : check_finder, ∃ v24_89 : (Mp Int), (v96_87, v20_88, v24_89) = v ∧ Bx σ s i1 27 (check_Names_A0 a0) ∧ Bx σ s i20 106 [(.v (.int .i64 v20_88.at_)), (.v (.int .i64 v20_88.e))] ∧ Gx s i24 (AObj.map .s (mpF check_Names_V0 (Mp.get v24_89)) (Mp.n v24_89)) ∧ σ.length ≤ i24 ∧ e 1 = (.pt i1 0) ∧ e 4 = (.pt i20 0) ∧ e 8 = (.mp i24) ∧ e 94 = (.sl (List.map Output.cl a0.outputs)) ∧ e 95 = (.v (.int .i64 ((List.length a0.outputs : Nat) : Int))) ∧ e 96 = (.v (.int .i64 v96_87)) ∧ i1 ≠ i20 ∧ Pre σ s) ⟨_, WkE.refl _, _, _, _, rfl, X1, X20, X24, L24, (xv q174), (xv q174), (xv q174), (xv q174), (xv q174), (xv q174), N1__20, hP⟩ fun v x90 e s hf91 hI => ?_
  obtain ⟨v96_87, v20_88, v24_89, rfl, X1, X20, X24, L24, E1, E4, E8, E94, E95, E96, N1__20, hP⟩ := hI
  unfold check_Names_L4 at hf91
  try dsimp only at hf91
  refine w_sa (fun e s => Bx σ s i1 27 (check_Names_A0 a0) ∧ Bx σ s i20 106 [(.v (.int .i64 v20_88.at_)), (.v (.int .i64 v20_88.e))] ∧ Gx s i24 (AObj.map .s (mpF check_Names_V0 (Mp.get v24_89)) (Mp.n v24_89)) ∧ σ.length ≤ i24 ∧ e 1 = (.pt i1 0) ∧ e 4 = (.pt i20 0) ∧ e 8 = (.mp i24) ∧ e 94 = (.sl (List.map Output.cl a0.outputs)) ∧ e 95 = (.v (.int .i64 ((List.length a0.outputs : Nat) : Int))) ∧ e 96 = (.v (.int .i64 v96_87)) ∧ e 97 = (.v (.bool (decide (v96_87 < ((List.length a0.outputs : Nat) : Int))))) ∧ i1 ≠ i20 ∧ Pre σ s) ?_ fun e s hI => ?_
  ·refine w_x (cj10 E1 E4 E8 E94 E95 E96 X1.get X20.get X24.get TT) (k := ?_)
   have q175 := cj10 E1 E4 E8 E94 E95 E96 X1.get X20.get X24.get TT
   exact cw_n ⟨_, WkE.refl _, X1, X20, X24, L24, (xv q175), (xv q175), (xv q175), (xv q175), (xv q175), (xv q175), (xv q175), N1__20, hP⟩
  obtain ⟨X1, X20, X24, L24, E1, E4, E8, E94, E95, E96, E97, N1__20, hP⟩ := hI
  refine w_seq ?_
  rcases ite_some hf91 with ⟨hb92, hf91⟩ | ⟨hb92, hf91⟩
  ·refine xt (cj8 E1 E4 E8 E94 E95 E96 E97 hb92) ?_
   refine w_skip ?_
   refine w_sq ?_
   obtain ⟨x93, h94, hf91⟩ := bnd_some hf91
   refine w_sa (fun e s => ∃ v20_95 : check_finder, ∃ v24_96 : (Mp Int), (v20_95, v24_96) = x93 ∧ Bx σ s i1 27 (check_Names_A0 a0) ∧ Bx σ s i20 106 [(.v (.int .i64 v20_95.at_)), (.v (.int .i64 v20_95.e))] ∧ Gx s i24 (AObj.map .s (mpF check_Names_V0 (Mp.get v24_96)) (Mp.n v24_96)) ∧ σ.length ≤ i24 ∧ e 1 = (.pt i1 0) ∧ e 4 = (.pt i20 0) ∧ e 8 = (.mp i24) ∧ e 94 = (.sl (List.map Output.cl a0.outputs)) ∧ e 95 = (.v (.int .i64 ((List.length a0.outputs : Nat) : Int))) ∧ e 96 = (.v (.int .i64 v96_87)) ∧ i1 ≠ i20 ∧ Pre σ s) ?_ fun e s hI => ?_
   ·refine w_block ?_
    obtain ⟨y97, h98, h94⟩ := bnd_some h94
    refine w_sa (fun e s => ∃ i18 : Nat, Bx σ s i1 27 (check_Names_A0 a0) ∧ Bx σ s i18 65 [(.v (.string y97.name)), (.v (.string y97.flow)), (.v (.int .i64 y97.deadline)), (.v (.int .i64 y97.at_))] ∧ Bx σ s i20 106 [(.v (.int .i64 v20_88.at_)), (.v (.int .i64 v20_88.e))] ∧ Gx s i24 (AObj.map .s (mpF check_Names_V0 (Mp.get v24_89)) (Mp.n v24_89)) ∧ σ.length ≤ i24 ∧ e 1 = (.pt i1 0) ∧ e 4 = (.pt i20 0) ∧ e 8 = (.mp i24) ∧ e 18 = (.pt i18 0) ∧ e 94 = (.sl (List.map Output.cl a0.outputs)) ∧ e 95 = (.v (.int .i64 ((List.length a0.outputs : Nat) : Int))) ∧ e 96 = (.v (.int .i64 v96_87)) ∧ i1 ≠ i20 ∧ i18 ≠ i20 ∧ Pre σ s) ?_ fun e s hI => ?_
    ·have R99 : (List.map Output.cl a0.outputs)[(v96_87).toNat]? = some [(.v (.string y97.name)), (.v (.string y97.flow)), (.v (.int .i64 y97.deadline)), (.v (.int .i64 y97.at_))] := map_get (getI_some h98).2
     refine w_x (cj19 E1 E4 E8 E94 E95 E96 E97 X1.get X1.any X1.any2 X20.get X20.any X20.any2 X24.get X24.any X24.any2 R99 (getI_some h98).1 TT) (k := ?_)
     have q176 := cj19 E1 E4 E8 E94 E95 E96 E97 X1.get X1.any X1.any2 X20.get X20.any X20.any2 X24.get X24.any X24.any2 R99 (getI_some h98).1 TT
     exact cw_n ⟨_, WkE.refl _, s.length, (X1.app [some (AObj.box 65 [(.v (.string y97.name)), (.v (.string y97.flow)), (.v (.int .i64 y97.deadline)), (.v (.int .i64 y97.at_))])]), (Bx.new hP 65 [(.v (.string y97.name)), (.v (.string y97.flow)), (.v (.int .i64 y97.deadline)), (.v (.int .i64 y97.at_))]), (X20.app [some (AObj.box 65 [(.v (.string y97.name)), (.v (.string y97.flow)), (.v (.int .i64 y97.deadline)), (.v (.int .i64 y97.at_))])]), (X24.app [some (AObj.box 65 [(.v (.string y97.name)), (.v (.string y97.flow)), (.v (.int .i64 y97.deadline)), (.v (.int .i64 y97.at_))])]), L24, (xv q176), (xv q176), (xv q176), (xv q176), (xv q176), (xv q176), (xv q176), N1__20, (Ne.symm (Nat.ne_of_lt X20.lt)), (hP.app _)⟩
    obtain ⟨i18, X1, X18, X20, X24, L24, E1, E4, E8, E18, E94, E95, E96, N1__20, N18__20, hP⟩ := hI
    obtain ⟨y100, h101, h94⟩ := bnd_some h94
    refine w_sa (fun e s => Bx σ s i1 27 (check_Names_A0 a0) ∧ Bx σ s i18 65 [(.v (.string y97.name)), (.v (.string y97.flow)), (.v (.int .i64 y97.deadline)), (.v (.int .i64 y97.at_))] ∧ Bx σ s i20 106 [(.v (.int .i64 y100.2.1.at_)), (.v (.int .i64 y100.2.1.e))] ∧ Gx s i24 (AObj.map .s (mpF check_Names_V0 (Mp.get y100.2.2)) (Mp.n y100.2.2)) ∧ σ.length ≤ i24 ∧ e 1 = (.pt i1 0) ∧ e 4 = (.pt i20 0) ∧ e 8 = (.mp i24) ∧ e 18 = (.pt i18 0) ∧ e 94 = (.sl (List.map Output.cl a0.outputs)) ∧ e 95 = (.v (.int .i64 ((List.length a0.outputs : Nat) : Int))) ∧ e 96 = (.v (.int .i64 v96_87)) ∧ i1 ≠ i20 ∧ i18 ≠ i20 ∧ Pre σ s) ?_ fun e s hI => ?_
    ·have q177 := Gx.apart X20.gx X24 (by intro h; cases h)
     have q178 := X20.same 106 [(.v (.int .i64 y100.2.1.at_)), (.v (.int .i64 y100.2.1.e))]
     have q179 := X24.ne q177 (some (AObj.box 106 [(.v (.int .i64 y100.2.1.at_)), (.v (.int .i64 y100.2.1.e))]))
     have q180 := X1.ne (Ne.symm N1__20) (some (AObj.box 106 [(.v (.int .i64 y100.2.1.at_)), (.v (.int .i64 y100.2.1.e))]))
     have q181 := X18.ne (Ne.symm N18__20) (some (AObj.box 106 [(.v (.int .i64 y100.2.1.at_)), (.v (.int .i64 y100.2.1.e))]))
     refine w_x (cj20 E1 E4 E8 E18 E94 E95 E96 X1.get X18.get X20.get X24.get q180.get q181.get q178.get q179.get (q180.ne (Gx.apart q179 q180.gx (by intro h; cases h)) (some (AObj.map .s (mpF check_Names_V0 (Mp.get y100.2.2)) (Mp.n y100.2.2)))).get (q181.ne (Gx.apart q179 q181.gx (by intro h; cases h)) (some (AObj.map .s (mpF check_Names_V0 (Mp.get y100.2.2)) (Mp.n y100.2.2)))).get (q178.ne (Gx.apart q179 q178.gx (by intro h; cases h)) (some (AObj.map .s (mpF check_Names_V0 (Mp.get y100.2.2)) (Mp.n y100.2.2)))).get (Gx.same q179 (AObj.map .s (mpF check_Names_V0 (Mp.get y100.2.2)) (Mp.n y100.2.2))).get TT) (k := ?_)
     refine EC.wka (.cons (.refl _) (.cons (.refl _) (.cons (.refl _) (.cons (.refl _) .nil)))) (S_check_finder_fresh _ _ _ _ _ h101 _ _ _ _ X20.gx X24 ?_)
     have q182 := Gx.apart X20.gx X24 (by intro h; cases h)
     have q183 := X20.same 106 [(.v (.int .i64 y100.2.1.at_)), (.v (.int .i64 y100.2.1.e))]
     have q184 := X24.ne q182 (some (AObj.box 106 [(.v (.int .i64 y100.2.1.at_)), (.v (.int .i64 y100.2.1.e))]))
     have q185 := X1.ne (Ne.symm N1__20) (some (AObj.box 106 [(.v (.int .i64 y100.2.1.at_)), (.v (.int .i64 y100.2.1.e))]))
     have q186 := X18.ne (Ne.symm N18__20) (some (AObj.box 106 [(.v (.int .i64 y100.2.1.at_)), (.v (.int .i64 y100.2.1.e))]))
     refine w_y (cj20 E1 E4 E8 E18 E94 E95 E96 X1.get X18.get X20.get X24.get q185.get q186.get q183.get q184.get (q185.ne (Gx.apart q184 q185.gx (by intro h; cases h)) (some (AObj.map .s (mpF check_Names_V0 (Mp.get y100.2.2)) (Mp.n y100.2.2)))).get (q186.ne (Gx.apart q184 q186.gx (by intro h; cases h)) (some (AObj.map .s (mpF check_Names_V0 (Mp.get y100.2.2)) (Mp.n y100.2.2)))).get (q183.ne (Gx.apart q184 q183.gx (by intro h; cases h)) (some (AObj.map .s (mpF check_Names_V0 (Mp.get y100.2.2)) (Mp.n y100.2.2)))).get (Gx.same q184 (AObj.map .s (mpF check_Names_V0 (Mp.get y100.2.2)) (Mp.n y100.2.2))).get TT) (k := ?_)
     have q187 := Gx.apart X20.gx X24 (by intro h; cases h)
     have q188 := X20.same 106 [(.v (.int .i64 y100.2.1.at_)), (.v (.int .i64 y100.2.1.e))]
     have q189 := X24.ne q187 (some (AObj.box 106 [(.v (.int .i64 y100.2.1.at_)), (.v (.int .i64 y100.2.1.e))]))
     have q190 := Gx.apart q189 q188.gx (by intro h; cases h)
     have q191 := Gx.same q189 (AObj.map .s (mpF check_Names_V0 (Mp.get y100.2.2)) (Mp.n y100.2.2))
     have q192 := X1.ne (Ne.symm N1__20) (some (AObj.box 106 [(.v (.int .i64 y100.2.1.at_)), (.v (.int .i64 y100.2.1.e))]))
     have q193 := Gx.apart q189 q192.gx (by intro h; cases h)
     have q194 := X18.ne (Ne.symm N18__20) (some (AObj.box 106 [(.v (.int .i64 y100.2.1.at_)), (.v (.int .i64 y100.2.1.e))]))
     have q195 := Gx.apart q189 q194.gx (by intro h; cases h)
     have q196 := cj20 E1 E4 E8 E18 E94 E95 E96 X1.get X18.get X20.get X24.get q192.get q194.get q188.get q189.get (q192.ne q193 (some (AObj.map .s (mpF check_Names_V0 (Mp.get y100.2.2)) (Mp.n y100.2.2)))).get (q194.ne q195 (some (AObj.map .s (mpF check_Names_V0 (Mp.get y100.2.2)) (Mp.n y100.2.2)))).get (q188.ne q190 (some (AObj.map .s (mpF check_Names_V0 (Mp.get y100.2.2)) (Mp.n y100.2.2)))).get q191.get TT
     exact cw_n ⟨_, WkE.refl _, (q192.ne q193 (some (AObj.map .s (mpF check_Names_V0 (Mp.get y100.2.2)) (Mp.n y100.2.2)))), (q194.ne q195 (some (AObj.map .s (mpF check_Names_V0 (Mp.get y100.2.2)) (Mp.n y100.2.2)))), (q188.ne q190 (some (AObj.map .s (mpF check_Names_V0 (Mp.get y100.2.2)) (Mp.n y100.2.2)))), q191, L24, (xv q196), (xv q196), (xv q196), (xv q196), (xv q196), (xv q196), (xv q196), N1__20, N18__20, ((hP.set X20.le (some (AObj.box 106 [(.v (.int .i64 y100.2.1.at_)), (.v (.int .i64 y100.2.1.e))]))).set L24 (some (AObj.map .s (mpF check_Names_V0 (Mp.get y100.2.2)) (Mp.n y100.2.2))))⟩
    obtain ⟨X1, X18, X20, X24, L24, E1, E4, E8, E18, E94, E95, E96, N1__20, N18__20, hP⟩ := hI
    obtain ⟨y102, h103, h94⟩ := bnd_some h94
    refine w_sa (fun e s => Bx σ s i1 27 (check_Names_A0 a0) ∧ Bx σ s i18 65 [(.v (.string y97.name)), (.v (.string y97.flow)), (.v (.int .i64 y97.deadline)), (.v (.int .i64 y97.at_))] ∧ Bx σ s i20 106 [(.v (.int .i64 y100.2.1.at_)), (.v (.int .i64 y100.2.1.e))] ∧ Gx s i24 (AObj.map .s (mpF check_Names_V0 (Mp.get y100.2.2)) (Mp.n y100.2.2)) ∧ σ.length ≤ i24 ∧ e 1 = (.pt i1 0) ∧ e 4 = (.pt i20 0) ∧ e 8 = (.mp i24) ∧ e 18 = (.pt i18 0) ∧ e 94 = (.sl (List.map Output.cl a0.outputs)) ∧ e 95 = (.v (.int .i64 ((List.length a0.outputs : Nat) : Int))) ∧ e 96 = (.v (.int .i64 v96_87)) ∧ e 111 = (.v (.bool (!y102))) ∧ i1 ≠ i20 ∧ i18 ≠ i20 ∧ Pre σ s) ?_ fun e s hI => ?_
    ·refine w_x (cj12 E1 E4 E8 E18 E94 E95 E96 X1.get X18.get X20.get X24.get TT) (k := ?_)
     refine EC.wka (.cons (.refl _) (.cons (.refl _) .nil)) (S_slices_ContainsFunc_Flow _ _ _ h103 _ _ _ _ (fun z0 b hg s' K hq hk => by obtain ⟨ex, rfl⟩ := hq; exact S_check_Names_c1 z0 _ b hg _ _ _  (X18.gx.app ex) hk) ?_)
     refine w_y (cj12 E1 E4 E8 E18 E94 E95 E96 X1.get X18.get X20.get X24.get TT) (k := ?_)
     have q197 := cj12 E1 E4 E8 E18 E94 E95 E96 X1.get X18.get X20.get X24.get TT
     exact cw_n ⟨_, WkE.refl _, X1, X18, X20, X24, L24, (xv q197), (xv q197), (xv q197), (xv q197), (xv q197), (xv q197), (xv q197), (xv q197), N1__20, N18__20, hP⟩
    obtain ⟨X1, X18, X20, X24, L24, E1, E4, E8, E18, E94, E95, E96, E111, N1__20, N18__20, hP⟩ := hI
    obtain ⟨x104, h105, h94⟩ := bnd_some h94
    refine w_an (fun e s => ∃ v20_106 : check_finder, v20_106 = x104 ∧ Bx σ s i1 27 (check_Names_A0 a0) ∧ Bx σ s i20 106 [(.v (.int .i64 v20_106.at_)), (.v (.int .i64 v20_106.e))] ∧ Gx s i24 (AObj.map .s (mpF check_Names_V0 (Mp.get y100.2.2)) (Mp.n y100.2.2)) ∧ σ.length ≤ i24 ∧ e 1 = (.pt i1 0) ∧ e 4 = (.pt i20 0) ∧ e 8 = (.mp i24) ∧ e 94 = (.sl (List.map Output.cl a0.outputs)) ∧ e 95 = (.v (.int .i64 ((List.length a0.outputs : Nat) : Int))) ∧ e 96 = (.v (.int .i64 v96_87)) ∧ i1 ≠ i20 ∧ Pre σ s) ?_ fun e s hI => ?_
    ·rcases ite_some h105 with ⟨hb107, h105⟩ | ⟨hb107, h105⟩
     ·refine xt (cj9 E1 E4 E8 E18 E94 E95 E96 E111 hb107) ?_
      obtain ⟨y108, h109, h105⟩ := bnd_some h105
      refine w_x (cj17 E1 E4 E8 E18 E94 E95 E96 E111 X1.get X18.get X20.get X24.get (X1.ne (Ne.symm N1__20) (some (AObj.box 106 [(.v (.int .i64 y108.2.at_)), (.v (.int .i64 y108.2.e))]))).get (X18.ne (Ne.symm N18__20) (some (AObj.box 106 [(.v (.int .i64 y108.2.at_)), (.v (.int .i64 y108.2.e))]))).get (X20.same 106 [(.v (.int .i64 y108.2.at_)), (.v (.int .i64 y108.2.e))]).get (X24.ne (Gx.apart X20.gx X24 (by intro h; cases h)) (some (AObj.box 106 [(.v (.int .i64 y108.2.at_)), (.v (.int .i64 y108.2.e))]))).get TT) (k := ?_)
      refine EC.wka (.cons (.refl _) (.cons (.refl _) (.cons (.refl _) .nil))) (S_check_finder_fail _ _ _ _ h109 _ _ _ X20.gx ?_)
      refine w_y (cj17 E1 E4 E8 E18 E94 E95 E96 E111 X1.get X18.get X20.get X24.get (X1.ne (Ne.symm N1__20) (some (AObj.box 106 [(.v (.int .i64 y108.2.at_)), (.v (.int .i64 y108.2.e))]))).get (X18.ne (Ne.symm N18__20) (some (AObj.box 106 [(.v (.int .i64 y108.2.at_)), (.v (.int .i64 y108.2.e))]))).get (X20.same 106 [(.v (.int .i64 y108.2.at_)), (.v (.int .i64 y108.2.e))]).get (X24.ne (Gx.apart X20.gx X24 (by intro h; cases h)) (some (AObj.box 106 [(.v (.int .i64 y108.2.at_)), (.v (.int .i64 y108.2.e))]))).get TT) (k := ?_)
      obtain rfl := some_inj h105
      have q198 := Gx.apart X20.gx X24 (by intro h; cases h)
      have q199 := X20.same 106 [(.v (.int .i64 y108.2.at_)), (.v (.int .i64 y108.2.e))]
      have q200 := X24.ne q198 (some (AObj.box 106 [(.v (.int .i64 y108.2.at_)), (.v (.int .i64 y108.2.e))]))
      have q201 := X1.ne (Ne.symm N1__20) (some (AObj.box 106 [(.v (.int .i64 y108.2.at_)), (.v (.int .i64 y108.2.e))]))
      have q202 := X18.ne (Ne.symm N18__20) (some (AObj.box 106 [(.v (.int .i64 y108.2.at_)), (.v (.int .i64 y108.2.e))]))
      have q203 := cj17 E1 E4 E8 E18 E94 E95 E96 E111 X1.get X18.get X20.get X24.get q201.get q202.get q199.get q200.get TT
      exact ct_n ⟨_, rfl, q201, q199, q200, L24, (xv q203), (xv q203), (xv q203), (xv q203), (xv q203), (xv q203), N1__20, (hP.set X20.le (some (AObj.box 106 [(.v (.int .i64 y108.2.at_)), (.v (.int .i64 y108.2.e))])))⟩
     ·refine xf (cj9 E1 E4 E8 E18 E94 E95 E96 E111 hb107) ?_
      refine w_skip ?_
      obtain rfl := some_inj h105
      have q204 := cj8 E1 E4 E8 E18 E94 E95 E96 E111
      exact ct_n ⟨_, rfl, X1, X20, X24, L24, (xv q204), (xv q204), (xv q204), (xv q204), (xv q204), (xv q204), N1__20, hP⟩
    obtain ⟨v20_106, rfl, X1, X20, X24, L24, E1, E4, E8, E94, E95, E96, N1__20, hP⟩ := hI
    try dsimp only at h94
    refine w_bk ?_
    obtain rfl := some_inj h94
    have q205 := cj6 E1 E4 E8 E94 E95 E96
    exact cw_n ⟨_, WkE.refl _, _, _, rfl, X1, X20, X24, L24, (xv q205), (xv q205), (xv q205), (xv q205), (xv q205), (xv q205), N1__20, hP⟩
   obtain ⟨v20_95, v24_96, rfl, X1, X20, X24, L24, E1, E4, E8, E94, E95, E96, N1__20, hP⟩ := hI
   try dsimp only at hf91
   refine w_x (cj10 E1 E4 E8 E94 E95 E96 X1.get X20.get X24.get TT) (k := ?_)
   obtain rfl := some_inj hf91
   have q206 := cj10 E1 E4 E8 E94 E95 E96 X1.get X20.get X24.get TT
   exact iq_n rfl ⟨_, WkE.refl _, _, _, _, rfl, X1, X20, X24, L24, (xv q206), (xv q206), (xv q206), (xv q206), (xv q206), (xv q206), N1__20, hP⟩
  ·refine xf (cj8 E1 E4 E8 E94 E95 E96 E97 hb92) ?_
   refine w_exit ?_
   refine w_sqx ?_
   obtain rfl := some_inj hf91
   refine iq_x rfl fun hr110 => ?_
   obtain rfl := hr110
   refine w_bkx ?_
   exact cw_n ⟨_, WkE.refl _, _, rfl, X20, (xv (cj7 E1 E4 E8 E94 E95 E96 E97)), hP⟩
 obtain ⟨v20_86, rfl, X20, E4, hP⟩ := hI
 try dsimp only at h
 refine w_sa (fun e s => e 2 = (.v (.int .i64 v20_86.at_)) ∧ e 3 = (.v (.int .i64 v20_86.e)) ∧ Pre σ s) ?_ fun e s hI => ?_
 ·refine w_xp (cj3 E4 X20.get TT) (k := ?_)
  exact cw_n ⟨_, WkE.refl _, (xv (cj3 E4 X20.get TT)), (xv (cj3 E4 X20.get TT)), hP⟩
 obtain ⟨E2, E3, hP⟩ := hI
 refine w_ret ?_
 obtain rfl := some_inj h
 exact w_fin (fun _ => rfl) (xr (rs := #[.tmp 2, .tmp 3]) (cj2 E2 E3)) hP (r' := (.tu [(.v (.int .i64 v20_86.at_)), (.v (.int .i64 v20_86.e))])) (.refl _) (.tu (CnL.cons (.v _) (CnL.cons (.v _) CnL.nil))) hK
end Go.Proofs.Ytohmmfimedgccaa.E
end
section
namespace Go.Proofs.Ytohmmfimedgccaa.E
set_option linter.unusedVariables false
set_option linter.unusedSimpArgs false
set_option maxRecDepth 10000
abbrev Fi := check_finder
def f00 : Fi := ⟨0, 0⟩
def Fi.good (f : Fi) : Prop := f = f00 ∨ f.e = 3 ∨ f.e = 4
theorem Fi.good.zero {f : Fi} (h : f.good) (h0 : f.e = 0) : f = f00 := by
 rcases h with h | h | h
 ·exact h
 ·omega
 ·omega
def Fd (f f' : Fi) (P : Prop) : Prop := f.good → f'.good ∧ (f' = f00 ↔ f = f00 ∧ P)
theorem Fd.refl (f : Fi) : Fd f f True := fun h => ⟨h, by simp⟩
theorem Fd.trans {f g h : Fi} {P Q : Prop} (a : Fd f g P) (b : Fd g h Q) : Fd f h (P ∧ Q) := fun hf => by
 obtain ⟨h1, h2⟩ := a hf
 obtain ⟨h3, h4⟩ := b h1
 exact ⟨h3, by rw [h4, h2, and_assoc]⟩
def failS (f : Fi) (at_ e : Int) : Fi := if f.e = 0 then ⟨at_, e⟩ else f
theorem Fd.fail {f : Fi} {at_ e : Int} (he : e = 3 ∨ e = 4) : Fd f (failS f at_ e) False := fun hf => by
  unfold failS
  by_cases h0 : f.e = 0
  · rw [if_pos h0]
    exact ⟨.inr he, by constructor <;> intro h; · have := congrArg check_finder.e h; simp [f00] at this; omega
                       · exact h.2.elim⟩
  · rw [if_neg h0]
    exact ⟨hf, by constructor <;> intro h; · subst h; exact absurd rfl h0
                  · exact h.2.elim⟩
def cnt (k : ByteArray) : List ByteArray → Nat
 | [] => 0
 | x :: l => (if x = k then 1 else 0) + cnt k l
theorem cnt_zero {k : ByteArray} : ∀ {l : List ByteArray}, cnt k l = 0 ↔ k ∉ l
 | [] => by simp [cnt]
 | x :: l => by
  rw [cnt, Nat.add_eq_zero_iff, cnt_zero, List.mem_cons, not_or]
  by_cases h : x = k
  ·simp [h]
  ·simp [h, Ne.symm h]
def MapC (m : Mp Int) (l : List ByteArray) : Prop := (∀ k, (m.get k).getD 0 = (cnt k l : Int)) ∧ m.n ≤ l.length
theorem MapC.emp : MapC Mp.emp [] := ⟨fun k => rfl, Nat.le_refl _⟩
theorem MapC.zero {m : Mp Int} {l : List ByteArray} (h : MapC m l) (k : ByteArray) : (m.get k).getD 0 = 0 ↔ k ∉ l := by
 rw [h.1 k, ← cnt_zero]
 omega
mutual
def namesE : Expr → List Expr
 | ⟨k, s, n, d, xs, a⟩ => if k = 11 then [⟨k, s, n, d, xs, a⟩] else namesL xs
def namesL : List Expr → List Expr
 | [] => []
 | e :: l => namesE e ++ namesL l
end
theorem namesE_eq (e : Expr) : namesE e = if e.kind = 11 then [e] else namesL e.args := by cases e; rw [namesE]
theorem sizeL_mem : ∀ {l : List Expr} {e : Expr}, e ∈ l → sizeE e ≤ sizeL l
 | [], e, h => by simp at h
 | x :: l, e, h => by
  rw [sizeL]
  rcases List.mem_cons.1 h with rfl | h
  ·omega
  ·have := sizeL_mem h
   omega
theorem sizeL_ge : ∀ (l : List Expr), l.length ≤ sizeL l
 | [] => by simp [sizeL]
 | x :: l => by
  have := sizeL_ge l
  have h1 : 1 ≤ sizeE x := by rw [sizeE_eq]; omega
  rw [sizeL, List.length_cons]
  omega
def nodeS (n : Node) : Prop := n.params.Nodup ∧ ∀ x ∈ namesE n.body, x.name ∈ n.params
mutual
def subsE : Expr → List Expr
 | ⟨k, s, n, d, xs, a⟩ => ⟨k, s, n, d, xs, a⟩ :: subsL xs
def subsL : List Expr → List Expr
 | [] => []
 | e :: l => subsE e ++ subsL l
end
theorem subsE_eq (e : Expr) : subsE e = e :: subsL e.args := by cases e; rw [subsE]
def ok1 (fl nd : ByteArray → Int) (x : Expr) : Prop := ¬ (x.kind = 1 ∧ fl x.name = 0) ∧ ¬ (x.kind = 2 ∧ nd x.name = 0) ∧ ¬ (x.kind = 2 ∧ nd x.name ≠ (x.args.length : Int))
def exprS (fl nd : ByteArray → Int) (e : Expr) : Prop := ∀ x ∈ subsE e, ok1 fl nd x
def ndS (l : List Node) (k : ByteArray) : Int := l.foldl (fun a x => if x.name = k then (x.params.length : Int) else a) 0
def inames (p : Program) : List ByteArray := p.inputs.map (·.name)
def fnames (p : Program) : List ByteArray := p.flows.map (·.name)
def flS (p : Program) (k : ByteArray) : Int := (cnt k ((inames p ++ fnames p).reverse) : Int)
structure NamesS (p : Program) : Prop where
 nodes : (p.nodes.map (·.name)).Nodup
 node : ∀ n ∈ p.nodes, nodeS n
 flows : (inames p ++ fnames p).Nodup
 flow : ∀ f ∈ p.flows, exprS (flS p) (ndS p.nodes) f.e
 outputs : (p.outputs.map (·.name)).Nodup
 output : ∀ x ∈ p.outputs, ∃ y ∈ p.flows, y.name = x.flow
theorem all_take {α : Type} {l : List α} {i : Nat} (h : i < l.length) (P : α → Prop) : (∀ x ∈ l.take (i + 1), P x) ↔ (∀ x ∈ l.take i, P x) ∧ P l[i] := by
 rw [List.take_succ_eq_append_getElem h]
 simp only [List.mem_append, List.mem_singleton]
 exact ⟨fun h => ⟨fun x hx => h x (.inl hx), h _ (.inr rfl)⟩, fun h x hx => hx.elim (h.1 x) fun e => e ▸ h.2⟩
end Go.Proofs.Ytohmmfimedgccaa.E
end
section
namespace Go.Proofs.Ytohmmfimedgccaa.E
set_option maxRecDepth 100000
set_option maxHeartbeats 4000000
set_option linter.unusedVariables false
set_option linter.unusedSimpArgs false
noncomputable def B_check_finder_fail_in_check_solver (a0 : check_solver) (a1 : Int) (a2 : Int) : Option (Unit × check_solver) :=
 (if (decide (a0.finder.e = (0 : Int))) then
  some ((check_solver.mk (check_finder.mk a1 a2) a0.known), a0.known)
 else
  some ((check_solver.mk a0.finder a0.known), a0.known) : Option (check_solver × (Mp Clock))).bind fun (vf_3, v0_2_4) =>
 some ((), (check_solver.mk vf_3.finder v0_2_4))
abbrev check_finder_fail_in_check_solver_V0 : Clock → PV := fun v : Clock => (PV.ag [(.v (.int .i64 v.period)), (.v (.int .i64 v.phase))])
theorem W_check_finder_fail_in_check_solver : Sat_check_finder_fail_in_check_solver (B_check_finder_fail_in_check_solver) := by
 intro a0 a1 a2 r h σ K j0 j0_2 H0 H0_2 hK
 refine w_fq (Q := fun r s => ∃ l : List (Nat × AObj), (l.map (·.1)).Nodup ∧ (∀ x ∈ l, x.1 < σ.length ∧ ClO σ.length x.2) ∧ Pq σ l K r s) Try.func49 rfl rfl (by kernel_rfl) (fun _ _ h => h) ?_
 unfold B_check_finder_fail_in_check_solver at h
 have hP := Pre.refl σ
 have jl0 := H0.lt
 have jl0_2 := H0_2.lt
 have hF := Fr.refl σ [j0, j0_2]
 have E0 : argE [(.pt j0 0), (.v (.int .i64 a1)), (.v (.int .i64 a2))] 0 = (.pt j0 0) := rfl
 have E1 : argE [(.pt j0 0), (.v (.int .i64 a1)), (.v (.int .i64 a2))] 1 = (.v (.int .i64 a1)) := rfl
 have E2 : argE [(.pt j0 0), (.v (.int .i64 a1)), (.v (.int .i64 a2))] 2 = (.v (.int .i64 a2)) := rfl
 have TT := cj4 Expr.rlen T_106 T_3 T_30
 refine w_sa (fun e s => ∃ τ : Store, Gx s j0 (AObj.box 123 [(.v (.int .i64 a0.finder.at_)), (.v (.int .i64 a0.finder.e)), (.mp j0_2)]) ∧ Gx s j0_2 (AObj.map .s (mpF check_finder_fail_in_check_solver_V0 (Mp.get a0.known)) (Mp.n a0.known)) ∧ e 0 = (.pt j0 0) ∧ e 1 = (.v (.int .i64 a1)) ∧ e 2 = (.v (.int .i64 a2)) ∧ e 10 = (.v (.bool (decide (a0.finder.e = (0 : Int))))) ∧ Fr σ τ [j0, j0_2] ∧ Pre τ s) ?_ fun e s hI => ?_
 ·refine w_x (cj6 E0 E1 E2 H0.get H0_2.get TT) (k := ?_)
  have q1 := cj6 E0 E1 E2 H0.get H0_2.get TT
  exact cw_n ⟨_, WkE.refl _, σ, H0, H0_2, (xv q1), (xv q1), (xv q1), (xv q1), hF, hP⟩
 obtain ⟨τ, X0, X0_2, E0, E1, E2, E10, hF, hP⟩ := hI
 obtain ⟨x1, h2, h⟩ := bnd_some h
 refine w_an (fun e s => ∃ vf_3 : check_solver, ∃ v0_2_4 : (Mp Clock), ∃ τ : Store, (vf_3, v0_2_4) = x1 ∧ Gx s j0 (AObj.box 123 [(.v (.int .i64 vf_3.finder.at_)), (.v (.int .i64 vf_3.finder.e)), (.mp j0_2)]) ∧ Gx s j0_2 (AObj.map .s (mpF check_finder_fail_in_check_solver_V0 (Mp.get v0_2_4)) (Mp.n v0_2_4)) ∧ Fr σ τ [j0, j0_2] ∧ Pre τ s) ?_ fun e s hI => ?_
 ·rcases ite_some h2 with ⟨hb5, h2⟩ | ⟨hb5, h2⟩
  ·refine xt (cj5 E0 E1 E2 E10 hb5) ?_
   have q2 := Gx.apart X0 X0_2 (by intro h; cases h)
   have q3 := Gx.same X0 (AObj.box 123 [(.v (.int .i64 a1)), (.v (.int .i64 a0.finder.e)), (.mp j0_2)])
   refine w_x (cj11 E0 E1 E2 E10 X0.get X0_2.get q3.get (X0_2.ne q2 (some (AObj.box 123 [(.v (.int .i64 a1)), (.v (.int .i64 a0.finder.e)), (.mp j0_2)]))).get (Gx.same q3 (AObj.box 123 [(.v (.int .i64 a1)), (.v (.int .i64 a2)), (.mp j0_2)])).get ((X0_2.ne q2 (some (AObj.box 123 [(.v (.int .i64 a1)), (.v (.int .i64 a0.finder.e)), (.mp j0_2)]))).ne (Gx.apart q3 (X0_2.ne q2 (some (AObj.box 123 [(.v (.int .i64 a1)), (.v (.int .i64 a0.finder.e)), (.mp j0_2)]))) (by intro h; cases h)) (some (AObj.box 123 [(.v (.int .i64 a1)), (.v (.int .i64 a2)), (.mp j0_2)]))).get TT) (k := ?_)
   obtain rfl := some_inj h2
   have q4 := Gx.apart X0 X0_2 (by intro h; cases h)
   have q5 := Gx.same X0 (AObj.box 123 [(.v (.int .i64 a1)), (.v (.int .i64 a0.finder.e)), (.mp j0_2)])
   exact ct_n ⟨_, _, (List.set (List.set τ j0 (some (AObj.box 123 [(.v (.int .i64 a1)), (.v (.int .i64 a0.finder.e)), (.mp j0_2)]))) j0 (some (AObj.box 123 [(.v (.int .i64 a1)), (.v (.int .i64 a2)), (.mp j0_2)]))), rfl, (Gx.same q5 (AObj.box 123 [(.v (.int .i64 a1)), (.v (.int .i64 a2)), (.mp j0_2)])), ((X0_2.ne q4 (some (AObj.box 123 [(.v (.int .i64 a1)), (.v (.int .i64 a0.finder.e)), (.mp j0_2)]))).ne (Gx.apart q5 (X0_2.ne q4 (some (AObj.box 123 [(.v (.int .i64 a1)), (.v (.int .i64 a0.finder.e)), (.mp j0_2)]))) (by intro h; cases h)) (some (AObj.box 123 [(.v (.int .i64 a1)), (.v (.int .i64 a2)), (.mp j0_2)]))), ((hF.set (by simp) (some (AObj.box 123 [(.v (.int .i64 a1)), (.v (.int .i64 a0.finder.e)), (.mp j0_2)]))).set (by simp) (some (AObj.box 123 [(.v (.int .i64 a1)), (.v (.int .i64 a2)), (.mp j0_2)]))), ((hP.setp (hF.lt jl0) (some (AObj.box 123 [(.v (.int .i64 a1)), (.v (.int .i64 a0.finder.e)), (.mp j0_2)]))).setp ((hF.set (by simp) (some (AObj.box 123 [(.v (.int .i64 a1)), (.v (.int .i64 a0.finder.e)), (.mp j0_2)]))).lt jl0) (some (AObj.box 123 [(.v (.int .i64 a1)), (.v (.int .i64 a2)), (.mp j0_2)])))⟩
  ·refine xf (cj5 E0 E1 E2 E10 hb5) ?_
   refine w_skip ?_
   obtain rfl := some_inj h2
   exact ct_n ⟨_, _, τ, rfl, X0, X0_2, hF, hP⟩
 obtain ⟨vf_3, v0_2_4, τ, rfl, X0, X0_2, hF, hP⟩ := hI
 try dsimp only at h
 obtain rfl := some_inj h
 have hn6 : (List.map (·.1) ([(j0, (AObj.box 123 [(.v (.int .i64 vf_3.finder.at_)), (.v (.int .i64 vf_3.finder.e)), (.mp j0_2)])), (j0_2, (AObj.map .s (mpF check_finder_fail_in_check_solver_V0 (Mp.get v0_2_4)) (Mp.n v0_2_4)))] : List (Nat × AObj))).Nodup := (List.nodup_cons.2 ⟨(by simp only [List.map_cons, List.map_nil, List.mem_cons, List.not_mem_nil, or_false, not_or]; exact (Gx.apart X0 X0_2 (by intro h; cases h))), (List.nodup_cons.2 ⟨(fun h => by simp at h), List.nodup_nil⟩)⟩)
 have he7 := Fr.eq (l := [(j0, (AObj.box 123 [(.v (.int .i64 vf_3.finder.at_)), (.v (.int .i64 vf_3.finder.e)), (.mp j0_2)])), (j0_2, (AObj.map .s (mpF check_finder_fail_in_check_solver_V0 (Mp.get v0_2_4)) (Mp.n v0_2_4)))]) hF hn6 (List.forall_mem_cons.2 ⟨⟨jl0, (Gx.back X0 hP (hF.lt jl0))⟩, (List.forall_mem_cons.2 ⟨⟨jl0_2, (Gx.back X0_2 hP (hF.lt jl0_2))⟩, (fun x hx => absurd hx (by simp))⟩)⟩)
 exact w_end (fun h => absurd rfl h) (xr (rs := #[]) trivial) ⟨[(j0, (AObj.box 123 [(.v (.int .i64 vf_3.finder.at_)), (.v (.int .i64 vf_3.finder.e)), (.mp j0_2)])), (j0_2, (AObj.map .s (mpF check_finder_fail_in_check_solver_V0 (Mp.get v0_2_4)) (Mp.n v0_2_4)))], hn6, (List.forall_mem_cons.2 ⟨⟨jl0, (ClO.bx (ClL.cons (Cn.cl (.v _) _) (ClL.cons (Cn.cl (.v _) _) (ClL.cons (Cl.mp jl0_2) ClL.nil))))⟩, (List.forall_mem_cons.2 ⟨⟨jl0_2, ((CnO.mp (fun _ => (.ag (CnL.cons (.v _) (CnL.cons (.v _) CnL.nil)))) _ _).cl _)⟩, (fun x hx => absurd hx (by simp))⟩)⟩), he7 ▸ hP, (.tu []), (.refl _), (.tu CnL.nil), hK⟩
end Go.Proofs.Ytohmmfimedgccaa.E
end
