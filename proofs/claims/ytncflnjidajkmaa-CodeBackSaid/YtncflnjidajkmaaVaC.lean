/- The abstract logic, third part: jumps, pairs, rows of one's own, tails in order, ways that meet. -/
import Derived.Test.YtncflnjidajkmaaVaB
import Derived.ScopeJumps
import Derived.SizedLaws
import Derived.OpenShut
set_option linter.unnecessarySimpa false
set_option linter.unusedVariables false
set_option linter.unusedSimpArgs false
set_option autoImplicit false
/-! A scope with one label to which it jumps back. -/
namespace Go.Va
open RowKit
theorem least (R : Nat → Prop) (h : ∃ n, R n) : ∃ n, R n ∧ ∀ k, R k → n ≤ k := by
  obtain ⟨n, hn⟩ := h
  induction n using Nat.strongRecOn with
  | _ n ih =>
    by_cases hk : ∃ k, k < n ∧ R k
    · obtain ⟨k, h1, h2⟩ := hk
      exact ih k h1 h2
    · exact ⟨n, hn, fun k hR => Nat.le_of_not_lt fun hlt => hk ⟨k, hlt, hR⟩⟩
section
variable {C : Ctx} {s : St} {Q : Post} {r : List Code}
/-- By a goto to l: J. -/
def Jmp (l : Nat) (J : St → Prop) (Q : Post) : Post
  | .goto l', s => l' = l ∧ J s
  | e, s => Q e s
theorem Jmp.goto {l : Nat} {J : St → Prop} (h : J s) : Jmp l J Q (.goto l) s := ⟨rfl, h⟩
theorem Jmp.normal {l : Nat} {J : St → Prop} (h : Q .normal s) : Jmp l J Q .normal s := h
theorem Jmp.ret {l : Nat} {J : St → Prop} (h : Q .ret s) : Jmp l J Q .ret s := h
theorem Jmp.exit {l i : Nat} {J : St → Prop} (h : Q (.exit i) s) : Jmp l J Q (.exit i) s := h
theorem Then.goto {K : St → Prop} {l : Nat} (h : Q (.goto l) s) : Then K Q (.goto l) s := h
theorem Exits.goto {id l : Nat} {K : St → Prop} (h : Q (.goto l) s) : Exits id K Q (.goto l) s := h
section
attribute [local semireducible] AStk
/-- Ways that meet. -/
theorem AStk.cut {ι : Type} {c : Code} (I : ι → St) (V : ι → Prop) (h1 : ∀ K : St → Prop, (∀ i s', V i → Weak s' (I i) → K s') → AStk C [c] s (Then K Q)) (h2 : ∀ i, V i → AStk C r (I i) Q) (hr : r ≠ []) : AStk C (c :: r) s Q := by
  have := AStk.of (h1 (fun s' => AStk C r s' Q) (fun i s' hV hw => AStk.weak hw (h2 i hV) hr))
  exact this
end
section
attribute [local semireducible] AStk
theorem AStk.goto {l : Nat} (h : Q (.goto l) s) : AStk C (.goto l :: r) s Q := fun a w hG => wp_goto ⟨s, h, hG⟩
end
section
attribute [local semireducible] AStk
theorem AStk.label {l : Nat} (h : AStk C r s Q) : AStk C (.label l :: r) s Q := fun a w hG => wp_label ⟨s, h, hG⟩
end
section
attribute [local semireducible] AStk
theorem AStk.scope {c rest : Code} (l : Nat) (hf : findLabel c l = some rest) {ι : Type} (I : ι → St) (V : ι → Prop) (μ : ι → Nat)
    (first : ∀ J : St → Prop, (∀ j s', V j → Weak s' (I j) → J s') → AStk C [c] s (Jmp l J (Then (fun s' => AStk C r s' Q) Q)))
    (pass : ∀ i, V i → ∀ J : St → Prop, (∀ j s', V j → μ j < μ i → Weak s' (I j) → J s') → AStk C [rest] (I i) (Jmp l J (Then (fun s' => AStk C r s' Q) Q))) : AStk C (.scope c :: r) s Q := by
  classical
  intro a w hG
  let R : Act → World → Nat → Prop := fun a w n => ∃ i, V i ∧ Gam C (I i) a w ∧ μ i = n
  have key : ∀ (J : St → Prop) (W : Act → World → Prop) (e : Exit) (a' : Act) (w' : World), (∀ s', J s' → Gam C s' a' w' → W a' w') → (∃ s', Jmp l J (Then (fun s' => AStk C r s' Q) Q) e s' ∧ Gam C s' a' w') → Exit.jump l W (fun e a' w' => ∃ s', Then (fun s' => AStk C r s' Q) Q e s' ∧ Gam C s' a' w') e a' w' := by
    rintro J W e a' w' hJ ⟨s', h1, h2⟩
    cases e with
    | goto l' => exact ⟨h1.1, hJ _ h1.2 h2⟩
    | _ => exact ⟨s', h1, h2⟩
  refine wp_scope_jumps l (fun a w => ∃ n, R a w n) (fun a w => if h : ∃ n, R a w n then Classical.choose (least _ h) else 0) hf ?_ ?_
  · refine wp_mono (AStk.of (first (fun s' => ∃ j, V j ∧ Weak s' (I j)) (fun j s' h1 h2 => ⟨j, h1, h2⟩)) a w hG) fun e a' w' h => key _ _ e a' w' ?_ h
    rintro s' ⟨j, h1, h2⟩ h3
    exact ⟨μ j, j, h1, h3.weak h2, rfl⟩
  · rintro a w hJ
    obtain ⟨⟨i, h1, h2, h3⟩, _⟩ := Classical.choose_spec (least _ hJ)
    rw [dif_pos hJ, ← h3]
    refine wp_mono (AStk.of (pass i h1 (fun s' => ∃ j, V j ∧ μ j < μ i ∧ Weak s' (I j)) (fun j s' h1 h2 h3 => ⟨j, h1, h2, h3⟩)) a w h2) fun e a' w' h => key _ _ e a' w' ?_ h
    rintro s' ⟨j, k1, k2, k3⟩ k4
    have hR : R a' w' (μ j) := ⟨j, k1, k4.weak k3, rfl⟩
    refine ⟨⟨_, hR⟩, ?_⟩
    rw [dif_pos ⟨_, hR⟩]
    exact Nat.lt_of_le_of_lt ((Classical.choose_spec (least _ ⟨_, hR⟩)).2 _ hR) k2
end
theorem AStk.scope2 {c x : Code} (l : Nat) (hf : findLabel c l = some (.seq .skip x)) {ι : Type} (I : ι → St) (V : ι → Prop) (μ : ι → Nat)
    (pass : ∀ i, V i → ∀ J : St → Prop, (∀ j s', V j → μ j < μ i → Weak s' (I j) → J s') → AStk C [x] (I i) (Jmp l J (Then (fun s' => AStk C r s' Q) Q)))
    (first : (∀ i, V i → ∀ J : St → Prop, (∀ j s', V j → μ j < μ i → Weak s' (I j) → J s') → AStk C [x] (I i) (Jmp l J (Then (fun s' => AStk C r s' Q) Q))) → ∀ J : St → Prop, (∀ j s', V j → Weak s' (I j) → J s') → AStk C [c] s (Jmp l J (Then (fun s' => AStk C r s' Q) Q))) : AStk C (.scope c :: r) s Q :=
  AStk.scope l hf I V μ (first pass) (fun i hi J hJ => AStk.seq (AStk.skip (pass i hi J hJ)))
end

theorem Le.relA {P : Program} {Φ : Nat → List AVal → Value → Prop} {w : World} {m : Nat → Nat} {x y : AVal} {v : Value} (h : Le x y) (hv : RelA P Φ w m x v) : RelA P Φ w m y v := by
  rcases h with _ | ⟨f, f', z, z', xs, ys, hz, hl, hf, he, h⟩ | ⟨cs, ds, hl, h⟩ | ⟨cs, ds, hl, h⟩
  case sl => exact Le.relD (.sl f f' z z' xs ys hz hl hf he h) hv
  case agg => exact Le.relD (.agg cs ds hl h) hv
  case tup => exact Le.relD (.tup cs ds hl h) hv
  exact hv
theorem ACallsP.args {P : Program} {Φ : Nat → List AVal → Value → Prop} {f : FuncId} {as bs : List AVal} {R : AVal → Prop} (h : ACallsP P Φ f bs R) (hl : LeL as bs) : ACallsP P Φ f as R := by
  refine ⟨h.1, fun w m vs hM hvl hv => h.2 w m vs hM (hvl.trans hl.1) fun i y v hy hv' => ?_⟩
  have hlt : i < as.length := by rw [hl.1]; exact (List.getElem?_eq_some_iff.1 hy).1
  exact (hl.2 i as[i] y (List.getElem?_eq_getElem hlt) hy).relA (hv i as[i] v (List.getElem?_eq_getElem hlt) hv')
theorem ACalls.args {P : Program} {Φ : Nat → List AVal → Value → Prop} {f : FuncId} {as bs : List AVal} {r : AVal} (h : ACalls P Φ f bs r) (hl : LeL as bs) : ACalls P Φ f as r := (h.toP.args hl).one
end Go.Va
set_option linter.unusedVariables false
set_option linter.unusedSimpArgs false
set_option autoImplicit false
/-! A row of bytes of a constant text: the row, and its mark behind it. -/
namespace Go.Va
open RowKit
section
variable {C : Ctx} {ops : Array Oper} {s : St} {Q : Post} {r : List Code}

theorem freeze_new (w : World) (arr : Array Value) (e : TypeId) : (w.alloc (.cells arr e)).freeze ⟨w.heap.size, arr.size, none⟩ 1 = w.alloc (.cells arr e (arr.size, arr.size + 1)) := by
  have hm : ∀ (a : Array Obj) (x : Obj) (f : Obj → Obj), (a.push x).modify a.size f = a.push (f x) := by
    intro a x f
    apply Array.ext
    · simp
    · intro i h1 h2
      simp only [Array.getElem_modify, Array.getElem_push]
      by_cases h : a.size = i
      · subst h
        simp
      · have hi : i < a.size := by simp at h1; omega
        simp [h, hi]
  unfold World.freeze
  rw [if_neg (by decide)]
  show ({ w.alloc (.cells arr e) with heap := (w.heap.push (.cells arr e)).modify w.heap.size _ } : World) = _
  rw [hm]
  rfl
theorem run_mark {P : Program} (w : World) (t e : TypeId) (arr : Array Value) (n c : Nat) (ht : Telem P t = some e) (he : Tk P e = some (.int .u8)) :
    (convert t t (.slice (some ⟨w.heap.size, 0, none⟩) n c)).run P (w.alloc (.cells arr e)) = .ok (.slice (some ⟨w.heap.size, 0, none⟩) n c) (w.alloc (.cells arr e (arr.size, arr.size + 1))) := by
  have hsh : (w.alloc (.cells arr e)).shape? w.heap.size = some (e, arr.size) := by
    have : (w.alloc (.cells arr e)).heap[w.heap.size]? = some (.cells arr e) := heap_alloc_new w _
    unfold World.shape?
    rw [this]
  simp [convert, run_und (elem_und ht), run_und (tk_int he), markStringish, hsh]
  exact freeze_new w arr e

/-- The pair of operations. -/
def Pair (ops : Array Oper) (i : Nat) (o1 o2 : Oper) (p q t n : Nat) (parts : Array (Nat × Operand)) : Prop :=
  ops[i]? = some o1 ∧ ops[i + 1]? = some o2 ∧ o1.dst = some p ∧ o2.dst = some q ∧ o1.op = .buildSlice t n parts ∧ o2.op = .convert t t (.tmp p) ∧ o1.guard = o2.guard

theorem gam_put2 {p q : Nat} {x : AVal} {v : Value} {a : Act} {w w' : World} {g g' : Gh} (he : Env C s.env s.row g a w) (hp : p < C.nt) (hq : q < C.nt) (hl : Lat w g.m w' g'.m) (hρ : g'.ρ = g.ρ) (hκ : g'.κ = g.κ) (hh : Hp C s.box s.row g' w') (hx : RelT C s.row g' w' x v) :
    Gam C ((s.put (some p) .any).put (some q) x) ((a.put (some p) v).put (some q) v) w' := by
  have h1 := he.lat hl (fun _ _ h => by rw [hρ]; exact h) (fun r T L _ => by rw [hκ])
  have h2 := h1.put (s := s) (d := some p) (x := .any) (v := v) (fun t ht => by cases ht; exact hp) trivial
  have h3 := h2.put (s := s.put (some p) .any) (d := some q) (x := x) (v := v) (fun t ht => by cases ht; exact hq) hx
  exact Gam.of h3 hh

theorem pair_ops {QQ : Exit → Act → World → Prop} {i : Nat} {o1 o2 : Oper} {p q t n : Nat} {parts : Array (Nat × Operand)} (hP : Pair ops i o1 o2 p q t n parts) (hd : ∀ o ∈ ops.toList, dstOk C o) (hpq : ∀ j want, o1.guard = some (j, want) → (ops[j]?).bind (·.dst) ≠ some p)
    {e : TypeId} (he : Telem C.P t = some e) (hk : Tk C.P e = some (.int .u8)) {ps : List (Nat × AVal)} (hps : frzParts s.row C.P s.val parts.toList = some ps) {x : AVal} (hx : alits C.P t n ps = some x) (hr : Runs ops o1 s) (l : List Nat) {a : Act} {w : World} (hG : Gam C s a w)
    (h : ∀ a' w', Gam C ((s.put (some p) .any).put (some q) x) a' w' → wpOps C.P ops QQ l a' w') : wpOps C.P ops QQ (i :: (i + 1) :: l) a w := by
  obtain ⟨h1, h2, h3, h4, h5, h6, h7⟩ := hP
  have d1 : dstOk C o1 := hd o1 (by rw [Array.mem_toList_iff]; exact Array.mem_of_getElem? h1)
  have d2 : dstOk C o2 := hd o2 (by rw [Array.mem_toList_iff]; exact Array.mem_of_getElem? h2)
  have hp : p < C.nt := d1.lt p h3
  have hq : q < C.nt := d2.lt q h4
  obtain ⟨g, hE, hh⟩ := hG.split
  obtain ⟨k1, k2⟩ := frzParts_sound (St.val_sound hE) parts.toList ps hps
  obtain ⟨m, arr, e', g1, g2, g3⟩ := alits_strong hh hx (parts.map fun (i, x) => (i, a.eval x)) (by simpa using k1) (by simpa using k2)
  have : e' = e := by rw [he] at g1; injection g1 with g1; exact g1.symm
  subst this
  have w1 := runs_wanted hr (s' := s) (fun _ _ => rfl) hG
  have r1 : (execOp a.eval o1).run C.P w = .ok (.value (.slice (some ⟨w.heap.size, 0, none⟩) m m)) (w.alloc (.cells arr e')) := by
    unfold execOp
    rw [h5]
    simp [g2]
  -- between
  obtain ⟨g0, f1, f2, f3, f4, f5⟩ := g3 (0, 0)
  have hE1 : Env C (s.put (some p) x).env s.row g0 (a.put (some p) (.slice (some ⟨w.heap.size, 0, none⟩) m m)) (w.alloc (.cells arr e')) :=
    (hE.lat f3 (fun _ _ h => by rw [f4]; exact h) (fun r T L _ => by rw [f5])).put (s := s) (d := some p) (fun t ht => by cases ht; exact hp) f1
  have hG1 : Gam C (s.put (some p) x) (a.put (some p) (.slice (some ⟨w.heap.size, 0, none⟩) m m)) (w.alloc (.cells arr e')) := Gam.of hE1 f2
  have hr2 : Runs ops o2 (s.put (some p) x) := by
    unfold Runs at hr ⊢
    rw [h7] at hr
    cases hg : o2.guard with
    | none => trivial
    | some jw =>
      obtain ⟨j, want⟩ := jw
      rw [hg] at hr
      simp only at hr ⊢
      split at hr
      · rename_i u hu
        rw [St.put_env, get_cons]
        have : p ≠ u := fun e => hpq j want (by rw [h7]; exact hg) (by rw [e]; exact hu)
        rw [if_neg this]
        exact hr
      · exact hr.elim
  have w2 := runs_wanted hr2 (s' := s.put (some p) x) (fun _ _ => rfl) hG1
  have ev : (a.put (some p) (.slice (some ⟨w.heap.size, 0, none⟩) m m)).eval (.tmp p) = .slice (some ⟨w.heap.size, 0, none⟩) m m := by
    have hlt : p < a.tmps.size := Nat.lt_of_lt_of_le hp hE.2.1
    simp [Act.eval, Act.put, hlt]
  have r2 : (execOp (a.put (some p) (.slice (some ⟨w.heap.size, 0, none⟩) m m)).eval o2).run C.P (w.alloc (.cells arr e')) = .ok (.value (.slice (some ⟨w.heap.size, 0, none⟩) m m)) (w.alloc (.cells arr e' (arr.size, arr.size + 1))) := by
    unfold execOp
    rw [h6]
    simp only [ev, Sem.run_bind, run_mark w t e' arr m m he hk, Result.andThen_ok, Sem.run_pure]
  simp only [wpOps, h1, h2]
  rw [if_pos w1]
  refine .inl ?_
  unfold Oper.wp
  rw [r1]
  show (if Region.wanted o2 (yielded ops (a.put o1.dst _).tmps) = true then _ else _)
  rw [h3, if_pos w2]
  refine .inl ?_
  rw [← h3] at r2 ⊢
  unfold Oper.wp at *
  rw [r2]
  show wpOps C.P ops QQ l ((a.put o1.dst _).put o2.dst _) _
  rw [h3, h4]
  obtain ⟨g9, e1, e2, e3, e4, e5⟩ := g3 (arr.size, arr.size + 1)
  exact h _ _ (gam_put2 hE hp hq e3 e4 e5 e2 e1)

theorem range_split {α : Type} (ops : Array α) (i : Nat) (hi : i ≤ ops.size) : List.range ops.size = List.range i ++ List.range' i (ops.size - i) := by
  rw [List.range_eq_range', List.range_eq_range']
  have := List.range'_append (s := 0) (m := i) (n := ops.size - i) (step := 1)
  rw [Nat.one_mul, Nat.zero_add] at this
  rw [this, Nat.add_sub_cancel' hi]
theorem range'_ops (ops : Array Oper) (i k : Nat) (h : i + k ≤ ops.size) : (List.range' i k).filterMap (fun j => ops[j]?) = (ops.toList.drop i).take k := by
  induction k generalizing i with
  | zero => simp
  | succ k ih =>
    have hi : i < ops.size := by omega
    rw [List.range'_succ, List.filterMap_cons, Array.getElem?_eq_getElem hi]
    simp only
    rw [ih (i + 1) (by omega), List.drop_eq_getElem_cons (l := ops.toList) (i := i) (by simpa using hi), List.take_succ_cons]
    simp
section
attribute [local semireducible] AStk EV
theorem AStk.regP {id i : Nat} {o1 o2 : Oper} {p q t n : Nat} {parts : Array (Nat × Operand)} (hP : Pair ops i o1 o2 p q t n parts) (hd : allDst C.nt ops = true) (hpq : ∀ j want, o1.guard = some (j, want) → (ops[j]?).bind (·.dst) ≠ some p)
    {e : TypeId} (he : Telem C.P t = some e) (hk : Tk C.P e = some (.int .u8))
    (h : ∀ K : St → Prop, (∀ s', AStk C r s' Q → K s') → EV C ops (ops.toList.take i) s fun s1 => (∃ ps x, frzParts s1.row C.P s1.val parts.toList = some ps ∧ alits C.P t n ps = some x ∧ Runs ops o1 s1 ∧ EV C ops (ops.toList.drop (i + 2)) ((s1.put (some p) .any).put (some q) x) K)) : AStk C (.region id ops false :: r) s Q := by
  have hd' := allDst_ok hd
  have hsz : i + 2 ≤ ops.size := by
    have := (Array.getElem?_eq_some_iff.1 hP.2.1).1
    omega
  intro a w hG
  refine wp_region ?_
  have hs := h (fun s' => AStk C r s' Q) (fun _ h => h)
  have e0 : List.range ops.size = List.range' 0 i ++ (i :: (i + 1) :: List.range' (i + 2) (ops.size - (i + 2))) := by
    rw [range_split ops i (by omega), List.range_eq_range']
    congr 1
    rw [show ops.size - i = ops.size - (i + 2) + 1 + 1 by omega, List.range'_succ, List.range'_succ]
  rw [e0]
  have f0 := EV_sound _ _ _ hs
  have e1 : (List.range' 0 i).filterMap (fun j => ops[j]?) = ops.toList.take i := by
    rw [range'_ops ops 0 i (by omega)]; rfl
  rw [← e1] at f0
  refine aOps_tail _ hd' _ s a w f0 hG ?_
  rintro a1 w1 ⟨s1, hs1, hG1⟩
  have e2 : (List.range' (i + 2) (ops.size - (i + 2))).filterMap (fun j => ops[j]?) = ops.toList.drop (i + 2) := by
    rw [range'_ops ops (i + 2) _ (by omega)]
    exact List.take_of_length_le (by simp)
  have fin : ∀ s2 a2 w2, EV C ops (ops.toList.drop (i + 2)) s2 (fun s' => AStk C r s' Q) → Gam C s2 a2 w2 → wpOps C.P ops (fun e a' w' => ∃ s', Then (fun s' => AStk C r s' Q) Q e s' ∧ Gam C s' a' w') (List.range' (i + 2) (ops.size - (i + 2))) a2 w2 := by
    intro s2 a2 w2 hs2 hG2
    have f1 := EV_sound _ _ _ hs2
    rw [← e2] at f1
    refine aOps_sound hd' _ s2 a2 w2 f1 hG2 ?_
    rintro a' w' ⟨s', k1, k2⟩
    exact ⟨s', k1, k2⟩
  obtain ⟨ps, x, k1, k2, k3, k4⟩ := hs1
  exact pair_ops hP hd' hpq he hk k1 k2 k3 _ hG1 (fun a' w' hG' => fin _ _ _ k4 hG')
end
end
end Go.Va
set_option linter.unusedVariables false
set_option linter.unusedSimpArgs false
set_option autoImplicit false
/-! Calls that hand back a slice of one's own: it may grow. -/
namespace Go.Va
open RowKit

/-- How such a function's body is to end: its only result in slot t. -/
def FPostR (P : Program) (t : Nat) (T : TypeId) (xs : List (List AVal)) : Post := fun e s => match e with
  | .normal | .ret => (∃ r, get s.env t = some (.row r xs.length) ∧ get s.row r = some (T, xs)) ∨ ∃ z z', get s.env t = some (.sl true z xs) ∧ (P.info? T).map (·.size) = some z' ∧ (z = z' ∨ xs = [])
  | _ => False

theorem results_one {P : Program} {fn : Func} {t : Nat} (hr : fn.results = #[.tmp t]) (tmps : Array Value) (w : World) : (results fn tmps).run P w = .ok (tmps.getD t undef) w := by
  unfold results
  rw [hr, Array.mapM_eq_mapM_toList]
  simp [List.mapM_cons]

theorem ACallsR.of {P : Program} {Φ : Nat → List AVal → Value → Prop} {f : FuncId} {fn : Func} {c : Code} {args : List AVal} {t : Nat} {T : TypeId} {xs : List (List AVal)} (hf : P.funcs[f]? = some fn) (hb : fn.body = some c) (hn : (fn.name == "runtime.NumGoroutine") = false) (hl : args.length ≤ fn.ntmps) (hr : fn.results = #[.tmp t])
    (h : ∀ w0 m0, ACode ⟨P, Φ, w0, m0, fn.ntmps⟩ c { env := envOf 0 args, box := [], row := [] } (FPostR P t T xs)) : ACallsR P Φ f args T xs := by
  refine ⟨⟨fn, hf, hn, by rw [hb]; rfl⟩, fun w m vs hM hvl hv => ?_⟩
  have hG : Gam ⟨P, Φ, w, m, fn.ntmps⟩ { env := envOf 0 args, box := [], row := [] } { tmps := vs.toArray ++ Array.replicate (fn.ntmps - vs.toArray.size) undef, defers := [] } w := by
    refine Gam.of (g := { ρ := fun _ => none, κ := fun _ => undef, m := m }) ⟨rfl, ?_, ?_⟩ ⟨?_, ?_, ?_, ?_, hM, Below.refl _ _, fun _ _ => rfl⟩
    · simp; omega
    · intro t x ht
      obtain ⟨i, h1, h2⟩ := get_envOf args 0 t x ht
      have hi : i < args.length := (List.getElem?_eq_some_iff.1 h2).1
      have hvi : vs[i]? = some (vs[i]'(by omega)) := List.getElem?_eq_getElem _
      refine ⟨vs[i]'(by omega), ?_, ?_⟩
      · rw [h1, Nat.zero_add, Array.getElem?_append_left (by simp; omega)]
        simpa using hvi
      · have := hv i x _ h2 hvi
        revert this
        cases x with
        | ext k => exact id
        | _ => exact relT_of_relD (g := { ρ := fun _ => none, κ := fun _ => undef, m := m })
    · intro id cs hid; cases hid
    · intro i j b hi; cases hi
    · intro id b hid; cases hid
    · intro r T L hr; cases hr
  refine calls_of_wp hf hb (wp_mono (h w m _ w hG) ?_)
  rintro e a' w' ⟨s', hq, hG'⟩
  obtain ⟨g, he, hh⟩ := hG'.split
  have fin : ((∃ r, get s'.env t = some (.row r xs.length) ∧ get s'.row r = some (T, xs)) ∨ ∃ z z', get s'.env t = some (.sl true z xs) ∧ (P.info? T).map (·.size) = some z' ∧ (z = z' ∨ xs = [])) → a'.defers = [] ∧ ∃ v, (results fn a'.tmps).run P w' = .ok v w' ∧ ∃ v' m', Ending.returned v = Ending.returned v' ∧ (∃ z, (P.info? T).map (·.size) = some z ∧ RelD w' m' (.sl false z xs) v') ∧ Below w.heap.size w w' ∧ (∀ b, b < w.heap.size → m' b = m b) ∧ Marks w' m' ∧ Own P w.heap.size w' m' T v' := by
    rintro (⟨r, h1, h2⟩ | ⟨z, z', h1, h2, h3⟩)
    · obtain ⟨v, k1, k2⟩ := he.2.2 t _ h1
      obtain ⟨T', L', k3, k4, ⟨z, k5, k6⟩, k7⟩ := k2
      rw [h2] at k3
      injection k3 with k3
      injection k3 with e1 e2
      subst e1; subst e2
      have hv : v = g.κ r := k7 rfl
      rw [List.take_of_length_le (Nat.le_refl _)] at k6
      refine ⟨he.1, v, ?_, v, g.m, rfl, ⟨z, k5, k6⟩, hh.below, hh.old, hh.marks, ?_⟩
      · rw [results_one hr, Array.getD_eq_getD_getElem?, k1]; rfl
      · intro b hb
        rw [hv] at hb ⊢
        obtain ⟨_, q⟩ := hh.rows r T xs h2
        obtain ⟨q1, q2, _⟩ := q b hb
        exact ⟨q1, q2⟩
    · obtain ⟨v, k1, k2⟩ := he.2.2 t _ h1
      have k3 : RelD w' g.m (.sl true z xs) v := k2
      refine ⟨he.1, v, ?_, v, g.m, rfl, ⟨z', h2, relD_sl_any k3 h3⟩, hh.below, hh.old, hh.marks, ?_⟩
      · rw [results_one hr, Array.getD_eq_getD_getElem?, k1]; rfl
      · intro b hb
        cases k3 with
        | sl _ _ _ A c vv g1 g2 g3 g4 gN g5 gA g6 =>
          have : c = xs.length := g4 rfl
          subst this
          cases A with
          | none => cases hb
          | some a => simp [spare] at hb
  cases e with
  | normal => exact fin hq
  | ret => exact fin hq
  | _ => exact hq.elim

theorem ACallsR.stk {P : Program} {Φ : Nat → List AVal → Value → Prop} {f : FuncId} {fn : Func} {c : Code} {args : List AVal} {t : Nat} {T : TypeId} {xs : List (List AVal)} (n : Nat) (hf : P.funcs[f]? = some fn) (hb : fn.body = some c) (hn : (fn.name == "runtime.NumGoroutine") = false) (hnt : fn.ntmps = n) (hl : args.length ≤ n) (hr : fn.results = #[.tmp t])
    (h : ∀ w0 m0, AStk ⟨P, Φ, w0, m0, n⟩ [c] { env := envOf 0 args, box := [], row := [] } (FPostR P t T xs)) : ACallsR P Φ f args T xs := by
  subst hnt
  exact ACallsR.of hf hb hn hl hr (fun w0 m0 => AStk.of (h w0 m0))
theorem ACallsR.to {P : Program} {Φ : Nat → List AVal → Value → Prop} {f : FuncId} {args : List AVal} {T z : Nat} {xs : List (List AVal)} (h : ACallsR P Φ f args T xs) (hz : Tsz P T = some z) : ACalls P Φ f args (.sl false z xs) :=
  ⟨h.1, fun w m vs h1 h2 h3 => (h.2 w m vs h1 h2 h3).mono fun e w' ⟨v, m', k1, ⟨z', k2, k3⟩, k4, k5, k6, _⟩ => by
    have : z' = z := by
      have hz' : (P.info? T).map (·.size) = some z := hz
      rw [hz'] at k2; injection k2 with k2; exact k2.symm
    subst this
    exact ⟨v, m', k1, k3, k4, k5, k6⟩⟩
theorem FPostR.row {P : Program} {t T r : Nat} {xs : List (List AVal)} {s : St} (h1 : get s.env t = some (.row r xs.length)) (h2 : get s.row r = some (T, xs)) : FPostR P t T xs .ret s := .inl ⟨r, h1, h2⟩
theorem FPostR.sl {P : Program} {t T z z' : Nat} {xs : List (List AVal)} {s : St} (h1 : get s.env t = some (.sl true z xs)) (h2 : Tsz P T = some z') (h3 : z = z' ∨ xs = []) : FPostR P t T xs .ret s := .inr ⟨z, z', h1, h2, h3⟩
end Go.Va
set_option linter.unusedVariables false
set_option linter.unusedSimpArgs false
set_option autoImplicit false
/-! A region whose order is drawn, but whose end is in order: the front as before, then a tail one by one. -/
namespace Go.Va
open RowKit
section
variable {C : Ctx} {ops : Array Oper} {s0 s : St} {Q : Exit → Act → World → Prop}

/-- All before c is waited for by c; each behind c waits for the one before it. -/
def reach (l : List Oper) : Nat → List Nat → List Nat
  | 0, R => R
  | j + 1, R => reach l j (if R.contains j then R ++ (match l[j]? with | some o => edgesOf o | none => []) else R)
def tailOk (ops : Array Oper) (c : Nat) : Bool :=
  let l := ops.toList
  (match l[c]? with | some o => (List.range c).all fun j => (reach l c (edgesOf o)).contains j | none => true) &&
  (List.range l.length).all fun k => match l[k]? with | some o => (edgesOf o).all (fun e => decide (e < k)) && (decide (k ≤ c) || (edgesOf o).contains (k - 1)) | none => true

theorem reach_listed {D : Nat → Bool} (hD : ∀ (k : Nat) o, ops[k]? = some o → D k = true → ∀ e ∈ edgesOf o, D e = true) : ∀ (j : Nat) (R : List Nat), (∀ e ∈ R, D e = true) → ∀ e ∈ reach ops.toList j R, D e = true
  | 0, R, hR, e, he => hR e he
  | j + 1, R, hR, e, he => by
    refine reach_listed hD j _ ?_ e he
    split
    · rename_i hc
      intro e' he'
      rcases List.mem_append.1 he' with h | h
      · exact hR e' h
      · split at h
        · rename_i o ho
          exact hD j o (by simpa using ho) (hR j (by simpa using hc)) e' h
        · cases h
    · exact hR

theorem tail_ready {c : Nat} (htl : tailOk ops c = true) {listed : Array Bool} (hs : listed.size = ops.size) (hcl : ∀ (k : Nat) o, ops[k]? = some o → listed.getD k false = true → ∀ e ∈ edgesOf o, listed.getD e false = true) (hno : ∀ k, c ≤ k → listed.getD k false = false) {i : Nat} (hi : i ∈ Region.ready .any ops listed) (hci : c ≤ i) : i = c ∧ ∀ j, j < c → listed.getD j false = true := by
  obtain ⟨hil, hl, o, ho, he⟩ := ready_iff hi hs
  unfold tailOk at htl
  simp only [Bool.and_eq_true] at htl
  by_cases hic : i = c
  · subst hic
    refine ⟨rfl, fun j hj => ?_⟩
    have ho' : ops.toList[i]? = some o := by simpa using ho
    have h1 := htl.1
    rw [ho'] at h1
    have h2 := List.all_eq_true.1 h1 j (List.mem_range.2 hj)
    exact reach_listed (D := fun k => listed.getD k false) hcl i (edgesOf o) he j (by simpa using h2)
  · have h2 := List.all_eq_true.1 htl.2 i (List.mem_range.2 (by simpa using hil))
    have ho' : ops.toList[i]? = some o := by simpa using ho
    rw [ho'] at h2
    simp only [Bool.and_eq_true, Bool.or_eq_true, decide_eq_true_eq] at h2
    rcases h2.2 with h2 | h2
    · omega
    · have := he (i - 1) (by simpa using h2)
      rw [hno (i - 1) (by omega)] at this
      cases this

theorem tail_edges {c : Nat} (htl : tailOk ops c = true) {k : Nat} {o : Oper} (ho : ops[k]? = some o) : (∀ e ∈ edgesOf o, e < k) ∧ (k ≤ c ∨ k - 1 ∈ edgesOf o) := by
  unfold tailOk at htl
  simp only [Bool.and_eq_true] at htl
  have ho' : ops.toList[k]? = some o := by simpa using ho
  have h2 := List.all_eq_true.1 htl.2 k (List.mem_range.2 (List.getElem?_eq_some_iff.1 ho').1)
  rw [ho'] at h2
  simp only [Bool.and_eq_true, Bool.or_eq_true, decide_eq_true_eq] at h2
  refine ⟨fun e he => by simpa using List.all_eq_true.1 h2.1 e he, ?_⟩
  rcases h2.2 with h | h
  · exact .inl h
  · exact .inr (by simpa using h)

theorem tail_wpOps {P : Program} {c : Nat} (htl : tailOk ops c = true) : ∀ (m i fuel : Nat) (listed : Array Bool) (a : Act) (w : World), i + m = ops.size → c ≤ i → m ≤ fuel → listed.size = ops.size → (∀ k, k < i → listed.getD k false = true) → (∀ k, i ≤ k → listed.getD k false = false) →
    wpOps P ops Q (List.range' i m) a w → wpAny P .any ops Q fuel listed a w := by
  intro m
  induction m with
  | zero =>
    intro i fuel listed a w hi hc hf hs h1 h2 h
    have hr : Region.ready .any ops listed = [] := by
      cases hrr : Region.ready .any ops listed with
      | nil => rfl
      | cons j r =>
        obtain ⟨hj, hl, _⟩ := ready_iff (i := j) (by rw [hrr]; exact List.mem_cons_self) hs
        rw [h1 j (by omega)] at hl
        cases hl
    cases fuel with
    | zero => exact ⟨hr, h⟩
    | succ fuel => exact ⟨fun _ => h, fun j hj => by rw [hr] at hj; cases hj⟩
  | succ m ih =>
    intro i fuel listed a w hi hc hf hs h1 h2 h
    cases fuel with
    | zero => omega
    | succ fuel =>
      have hil : i < ops.size := by omega
      have ho : ops[i]? = some ops[i] := Array.getElem?_eq_getElem hil
      have hready : i ∈ Region.ready .any ops listed := ready_of hil hs (h2 i (Nat.le_refl _)) ho fun e he => h1 e ((tail_edges htl ho).1 e he)
      refine ⟨fun hr => (by rw [hr] at hready; cases hready), fun j hj => ?_⟩
      obtain ⟨hjl, hl, o, hjo, he⟩ := ready_iff hj hs
      have hij : j = i := by
        rcases Nat.lt_trichotomy j i with h' | h' | h'
        · rw [h1 j h'] at hl; cases hl
        · exact h'
        · rcases (tail_edges htl hjo).2 with h3 | h3
          · omega
          · have := he _ h3
            rw [h2 (j - 1) (by omega)] at this
            cases this
      subst hij
      rw [List.range'_succ, wpOps_cons] at h
      have hget : ∀ q, (listed.setIfInBounds j true).getD q false = if q = j then true else listed.getD q false := by
        intro q
        simp only [Array.getD_eq_getD_getElem?]
        by_cases hq : q = j
        · subst hq
          rw [if_pos rfl, Array.getElem?_setIfInBounds_self_of_lt (by omega)]
          rfl
        · rw [if_neg hq, Array.getElem?_setIfInBounds_ne (Ne.symm hq)]
      have nxt : ∀ a w, wpOps P ops Q (List.range' (j + 1) m) a w → wpAny P .any ops Q fuel (listed.setIfInBounds j true) a w := by
        intro a w h'
        refine ih (j + 1) fuel _ a w (by omega) (by omega) (by omega) (by simpa using hs) (fun k hk => ?_) (fun k hk => ?_) h'
        · rw [hget]
          split
          · rfl
          · exact h1 k (by omega)
        · rw [hget, if_neg (by omega)]
          exact h2 k (by omega)
      unfold wpOp at h ⊢
      rw [ho] at h ⊢
      simp only at h ⊢
      split at h
      · rename_i hw
        rw [if_pos hw]
        rcases h with h | h
        · exact .inl (Oper.wp_mono nxt h)
        · exact .inr h
      · rename_i hw
        rw [if_neg hw]
        exact nxt _ _ h

/-- The front in whatever order, then the tail. -/
theorem any_front {c : Nat} {fps : List Fp} {f : Nat → List Upd} (ht : Trace C ops s0 fps f c) (hc : commOk ops fps = true) (htl : tailOk ops c = true) (hcs : c ≤ ops.size)
    (hQ : ∀ a w, Gam C (SD s0 f ops.size fun j => decide (j < c)) a w → wpOps C.P ops Q (List.range' c (ops.size - c)) a w) : ∀ (fuel : Nat) (listed : Array Bool) (a : Act) (w : World), listed.size = ops.size →
    (∀ (k : Nat) o, ops[k]? = some o → listed.getD k false = true → ∀ e ∈ edgesOf o, listed.getD e false = true) → (∀ k, c ≤ k → listed.getD k false = false) → ((List.range ops.size).filter fun i => !listed.getD i false).length ≤ fuel → Gam C (SD s0 f ops.size fun i => listed.getD i false) a w → wpAny C.P .any ops Q fuel listed a w := by
  intro fuel
  induction fuel with
  | zero =>
    intro listed a w hs hcl hno hcnt hG
    have hnone : ∀ i, i < ops.size → listed.getD i false = true := by
      intro i hi
      cases hl : listed.getD i false with
      | true => rfl
      | false =>
        have hm : i ∈ (List.range ops.size).filter fun i => !listed.getD i false := List.mem_filter.2 ⟨List.mem_range.2 hi, by rw [hl]; rfl⟩
        have : ((List.range ops.size).filter fun i => !listed.getD i false) = [] := List.eq_nil_of_length_eq_zero (by omega)
        rw [this] at hm
        cases hm
    have hce : c = ops.size := by
      rcases Nat.lt_or_ge c ops.size with h | h
      · have h1 := hnone c h
        rw [hno c (Nat.le_refl _)] at h1
        cases h1
      · omega
    have hD : SD s0 f ops.size (fun i => listed.getD i false) = SD s0 f ops.size fun j => decide (j < c) := by
      unfold SD
      rw [sumU_congr (E := fun j => decide (j < c)) (fun j hj _ => by rw [hnone j hj]; simp; omega)]
    rw [hD] at hG
    exact tail_wpOps htl (ops.size - c) c 0 listed a w (by omega) (Nat.le_refl _) (by omega) hs (fun k hk => hnone k (by omega)) hno (hQ a w hG)
  | succ fuel ih =>
    intro listed a w hs hcl hno hcnt hG
    by_cases hall : ∀ k, k < c → listed.getD k false = true
    · have hD : SD s0 f ops.size (fun i => listed.getD i false) = SD s0 f ops.size fun j => decide (j < c) := by
        unfold SD
        rw [sumU_congr (E := fun j => decide (j < c)) (fun j hj _ => by
          rcases Nat.lt_or_ge j c with h | h
          · rw [hall j h]; simp [h]
          · rw [hno j h]; simp; omega)]
      rw [hD] at hG
      have hlen : ops.size - c ≤ ((List.range ops.size).filter fun i => !listed.getD i false).length := by
        have e : List.range ops.size = List.range c ++ List.range' c (ops.size - c) := range_split ops c hcs
        rw [e, List.filter_append, List.length_append]
        have : (List.range' c (ops.size - c)).filter (fun i => !listed.getD i false) = List.range' c (ops.size - c) := by
          rw [List.filter_eq_self]
          intro i hi
          rw [List.mem_range'] at hi
          obtain ⟨j, hj, rfl⟩ := hi
          rw [hno _ (by omega)]
          rfl
        rw [this, List.length_range']
        omega
      exact tail_wpOps htl (ops.size - c) c (fuel + 1) listed a w (by omega) (Nat.le_refl _) (by omega) hs hall hno (hQ a w hG)
    · have hlt : ∀ (k : Nat) o, ops[k]? = some o → ∀ e ∈ edgesOf o, e < k := fun k o ho => (tail_edges htl ho).1
      have hne : Region.ready .any ops listed ≠ [] := by
        intro hr
        refine hall ?_
        have : ∀ n i, i < n → i < ops.size → listed.getD i false = true := by
          intro n
          induction n with
          | zero => intro i h; omega
          | succ n ih =>
            intro i hin hi
            cases hl : listed.getD i false with
            | true => rfl
            | false =>
              have ho : ops[i]? = some ops[i] := Array.getElem?_eq_getElem hi
              have := ready_of hi hs hl ho (fun e he => ih e (by have := hlt _ _ ho e he; omega) (by have := hlt _ _ ho e he; omega))
              rw [hr] at this
              cases this
        exact fun k hk => this (k + 1) k (by omega) (by omega)
      refine ⟨fun hr => absurd hr hne, fun i hi => ?_⟩
      obtain ⟨hil, hl, o, ho, he⟩ := ready_iff hi hs
      have hic : i < c := by
        rcases Nat.lt_or_ge i c with h | h
        · exact h
        · exact absurd (tail_ready htl hs hcl hno hi h).2 hall
      have hget : ∀ j, (listed.setIfInBounds i true).getD j false = if j = i then true else listed.getD j false := by
        intro j
        simp only [Array.getD_eq_getD_getElem?]
        by_cases hji : j = i
        · subst hji
          rw [if_pos rfl, Array.getElem?_setIfInBounds_self_of_lt (by omega)]
          rfl
        · rw [if_neg hji, Array.getElem?_setIfInBounds_ne (Ne.symm hji)]
      have hstep := step_listed (K := wpAny C.P .any ops Q fuel (listed.setIfInBounds i true)) (Q := Q) ht hc (D := fun j => listed.getD j false) hcl hic ho he hl hG (fun a' w' hG' => by
        refine ih _ a' w' (by simpa using hs) ?_ ?_ ?_ ?_
        · intro k o' hk hkl e he'
          rw [hget] at hkl ⊢
          by_cases hki : k = i
          · subst hki
            rw [ho] at hk
            injection hk with hk
            subst hk
            rw [he e he']
            simp
          · rw [if_neg hki] at hkl
            rw [hcl k o' hk hkl e he']
            simp
        · intro k hk
          rw [hget, if_neg (by omega)]
          exact hno k hk
        · have hm : i ∈ (List.range ops.size).filter fun i => !listed.getD i false := List.mem_filter.2 ⟨List.mem_range.2 hil, by rw [hl]; rfl⟩
          have e1 : ((List.range ops.size).filter fun j => !(listed.setIfInBounds i true).getD j false) = ((List.range ops.size).filter fun i => !listed.getD i false).filter (fun j => !(j == i)) := by
            rw [List.filter_filter]
            apply List.filter_congr
            intro j _
            rw [hget]
            by_cases hji : j = i
            · subst hji; simp
            · simp [hji]
          rw [e1]
          have : (((List.range ops.size).filter fun i => !listed.getD i false).filter (fun j => !(j == i))).length < ((List.range ops.size).filter fun i => !listed.getD i false).length := by
            rcases Nat.lt_or_ge (((List.range ops.size).filter fun i => !listed.getD i false).filter (fun j => !(j == i))).length ((List.range ops.size).filter fun i => !listed.getD i false).length with h | h
            · exact h
            · have heq := List.filter_eq_self.1 ((List.filter_sublist (p := fun j => !(j == i)) (l := (List.range ops.size).filter fun i => !listed.getD i false)).eq_of_length_le h) i hm
              simp at heq
          omega
        · have : SD s0 f ops.size (fun j => (listed.setIfInBounds i true).getD j false) = SD s0 f ops.size (fun j => if j = i then true else listed.getD j false) := by
            congr 1
            funext j
            exact hget j
          rw [this]
          exact hG')
      unfold wpOp
      rw [ho]
      simp only
      split
      · rename_i hw
        rw [if_pos hw] at hstep
        exact .inl hstep
      · rename_i hw
        rw [if_neg hw] at hstep
        exact hstep
end
section
variable {C : Ctx} {ops : Array Oper} {s : St} {Q : Post} {r : List Code}

/-- The footprints of a front, with empty ones behind. -/
def padF (n : Nat) (fps : List Fp) : List Fp := fps ++ List.replicate (n - fps.length) ⟨[], [], false, false⟩
theorem wp_front {QQ : Exit → Act → World → Prop} {id c : Nat} {T : St → Prop} (hm : C.P.follows .mixedOrders = true) (hd : allDst C.nt ops = true) (htl : tailOk ops c = true) (hcs : c ≤ ops.size)
    (h : aOpsD C ops (ops.toList.take c) s fun s' fps => commOk ops (padF ops.size fps) = true ∧ T s') (hT : ∀ s' a w, T s' → Gam C s' a w → wpOps C.P ops QQ (List.range' c (ops.size - c)) a w) (a : Act) (w : World) (hG : Gam C s a w) : (Code.region id ops true).wp C.P QQ a w := by
  obtain ⟨fps, us, e1, e2, ⟨hc, hq⟩, e4⟩ := aOpsD_trace (K := fun _ _ => True) (allDst_ok hd) (ops.toList.take c) s _ (fun o ho => List.mem_of_mem_take ho) h
  have hlc : (ops.toList.take c).length = c := by rw [List.length_take, Array.length_toList]; omega
  rw [hlc] at e1 e2
  have hgd : ∀ j, c ≤ j → us.getD j [] = [] := by
    intro j hj
    rw [List.getD_eq_getElem?_getD, List.getElem?_eq_none (by omega)]
    rfl
  have hpl : (padF ops.size fps).length = ops.size := by unfold padF; rw [List.length_append, List.length_replicate]; omega
  have hpf : ∀ k, k < c → (padF ops.size fps)[k]? = fps[k]? := fun k hk => by unfold padF; rw [List.getElem?_append_left (by omega)]
  have hsum : ∀ k, k ≤ c → sumU (fun j => decide (j < k)) (fun j => us.getD j []) ops.size = (us.take k).flatten := by
    intro k hk
    have h1 := sumU_take us k c hk e2
    rw [← h1]
    unfold sumU
    obtain ⟨m, hm'⟩ := Nat.exists_eq_add_of_le hcs
    rw [hm', List.range_add, List.filter_append, List.flatMap_append]
    have : ((List.map (c + ·) (List.range m)).filter (fun j => decide (j < k))) = [] := by
      rw [List.filter_eq_nil_iff]
      intro j hj
      obtain ⟨x, _, rfl⟩ := List.mem_map.1 hj
      simp
      omega
    rw [this]
    simp
  have ht : Trace C ops s (padF ops.size fps) (fun j => us.getD j []) c := by
    have key : ∀ (k : Nat) o fp, k < c → ops[k]? = some o → fps[k]? = some fp → OpOk C ops o ((us.take k).flatten.foldl St.app s) fp (us.getD k []) ∧ UsOk o fp (us.getD k []) := by
      intro k o fp hk ho hf
      have hu : us[k]? = some (us.getD k []) := by simp [List.getD_eq_getElem?_getD, List.getElem?_eq_getElem (show k < us.length by omega)]
      exact e4 k o fp _ (by rw [List.getElem?_take, if_pos hk]; simpa using ho) hf hu
    refine ⟨hpl, fun k o fp ho hf => ?_, fun k o fp hk ho hf => ?_⟩
    · rcases Nat.lt_or_ge k c with hk | hk
      · exact (key k o fp hk ho (by rw [← hpf k hk]; exact hf)).2
      · show UsOk o fp (us.getD k [])
        rw [hgd k hk]
        intro u hu
        cases hu
    · rw [hsum k (by omega)]
      exact (key k o fp hk ho (by rw [← hpf k hk]; exact hf)).1
  have hall : SD s (fun j => us.getD j []) ops.size (fun j => decide (j < c)) = us.flatten.foldl St.app s := by
    unfold SD
    rw [hsum c (Nat.le_refl _), ← e2, List.take_length]
  have h0 : SD s (fun j => us.getD j []) ops.size (fun i => (Array.replicate ops.size false).getD i false) = s := by
    unfold SD
    rw [sumU_congr (E := fun j => decide (j < 0)) (fun j hj _ => by simp [Array.getD_eq_getD_getElem?, hj]), hsum 0 (by omega)]
    rfl
  refine wp_region_any hm (any_front ht hc htl hcs (fun a' w' hG' => hT _ a' w' hq (by rw [hall] at hG'; exact hG')) ops.size _ a _ (by simp) ?_ ?_ ?_ ?_)
  · intro k o hk hkl
    have hkl' : k < ops.size := (Array.getElem?_eq_some_iff.1 hk).1
    simp [Array.getD_eq_getD_getElem?, hkl'] at hkl
  · intro k _
    simp only [Array.getD_eq_getD_getElem?]
    rcases Nat.lt_or_ge k ops.size with hk | hk
    · simp [hk]
    · simp [hk]
  · have := List.length_filter_le (fun i => !(Array.replicate ops.size false).getD i false) (List.range ops.size)
    simpa using this
  · rw [h0]
    obtain ⟨g, he, hh⟩ := hG.split
    obtain ⟨k1, k2⟩ := hh.step (w' := { w with drawn := w.drawn + 1 }) (m' := g.m) ((Below.refl _ w).drew) (fun _ _ => rfl) hh.marks
    exact Gam.of (he.lat k2 (fun _ _ h => h) (fun _ _ _ _ => rfl)) k1

def KF (ops : Array Oper) (T : St → Prop) (s : St) (fps : List Fp) : Prop := commOk ops (padF ops.size fps) = true ∧ T s
theorem KF.mk {T : St → Prop} {fps : List Fp} (hc : commOk ops (padF ops.size fps) = true) (h : T s) : KF ops T s fps := ⟨hc, h⟩
/-- A pair within operations in order. -/
def PT (C : Ctx) (ops : Array Oper) (i : Nat) (o1 : Oper) (p q t n : Nat) (parts : Array (Nat × Operand)) (K : St → Prop) (s1 : St) : Prop :=
  ∃ ps x, frzParts s1.row C.P s1.val parts.toList = some ps ∧ alits C.P t n ps = some x ∧ Runs ops o1 s1 ∧ EV C ops (ops.toList.drop (i + 2)) ((s1.put (some p) .any).put (some q) x) K
section
attribute [local semireducible] AStk EV ED
/-- A drawn front, a tail in order that holds a pair. -/
theorem AStk.drwP {id i c : Nat} {o1 o2 : Oper} {p q t n : Nat} {parts : Array (Nat × Operand)} (hP : Pair ops i o1 o2 p q t n parts) (hm : C.P.follows .mixedOrders = true) (hd : allDst C.nt ops = true) (htl : tailOk ops c = true) (hci : c ≤ i) (hpq : ∀ j want, o1.guard = some (j, want) → (ops[j]?).bind (·.dst) ≠ some p)
    {e : TypeId} (he : Telem C.P t = some e) (hk : Tk C.P e = some (.int .u8))
    (h : ∀ K : St → Prop, (∀ s', AStk C r s' Q → K s') → ED C ops (ops.toList.take c) [] s (KF ops fun s1 => EV C ops ((ops.toList.drop c).take (i - c)) s1 (PT C ops i o1 p q t n parts K))) : AStk C (.region id ops true :: r) s Q := by
  have hd' := allDst_ok hd
  have hsz : i + 2 ≤ ops.size := by
    have := (Array.getElem?_eq_some_iff.1 hP.2.1).1
    omega
  intro a w hG
  have hs := ED_sound _ _ _ _ (h (fun s' => AStk C r s' Q) (fun _ h => h))
  refine wp_front hm hd htl (by omega) (T := fun s1 => EV C ops ((ops.toList.drop c).take (i - c)) s1 (PT C ops i o1 p q t n parts (fun s' => AStk C r s' Q))) (by simpa [KF] using hs) ?_ a w hG
  intro s1 a1 w1 hs1 hG1
  have e0 : List.range' c (ops.size - c) = List.range' c (i - c) ++ (i :: (i + 1) :: List.range' (i + 2) (ops.size - (i + 2))) := by
    have := List.range'_append (s := c) (m := i - c) (n := ops.size - i) (step := 1)
    rw [Nat.one_mul, show c + (i - c) = i by omega, show i - c + (ops.size - i) = ops.size - c by omega] at this
    rw [← this, show ops.size - i = ops.size - (i + 2) + 1 + 1 by omega, List.range'_succ, List.range'_succ]
  rw [e0]
  have f0 := EV_sound _ _ _ hs1
  rw [← range'_ops ops c (i - c) (by omega)] at f0
  refine aOps_tail _ hd' _ s1 a1 w1 f0 hG1 ?_
  rintro a2 w2 ⟨s2, hs2, hG2⟩
  have e2 : (List.range' (i + 2) (ops.size - (i + 2))).filterMap (fun j => ops[j]?) = ops.toList.drop (i + 2) := by
    rw [range'_ops ops (i + 2) _ (by omega)]
    exact List.take_of_length_le (by simp)
  have fin : ∀ s2 a2 w2, EV C ops (ops.toList.drop (i + 2)) s2 (fun s' => AStk C r s' Q) → Gam C s2 a2 w2 → wpOps C.P ops (fun e a' w' => ∃ s', Then (fun s' => AStk C r s' Q) Q e s' ∧ Gam C s' a' w') (List.range' (i + 2) (ops.size - (i + 2))) a2 w2 := by
    intro s2 a2 w2 hs2 hG2
    have f1 := EV_sound _ _ _ hs2
    rw [← e2] at f1
    refine aOps_sound hd' _ s2 a2 w2 f1 hG2 ?_
    rintro a' w' ⟨s', k1, k2⟩
    exact ⟨s', k1, k2⟩
  obtain ⟨ps, x, k1, k2, k3, k4⟩ := hs2
  exact pair_ops hP hd' hpq he hk k1 k2 k3 _ hG2 (fun a' w' hG' => fin _ _ _ k4 hG')
end
section
attribute [local semireducible] AStk EV ED
/-- A drawn front, a tail in order. -/
theorem AStk.drwT {id c : Nat} (hm : C.P.follows .mixedOrders = true) (hd : allDst C.nt ops = true) (htl : tailOk ops c = true) (hci : c ≤ ops.size)
    (h : ∀ K : St → Prop, (∀ s', AStk C r s' Q → K s') → ED C ops (ops.toList.take c) [] s (KF ops fun s1 => EV C ops (ops.toList.drop c) s1 K)) : AStk C (.region id ops true :: r) s Q := by
  have hd' := allDst_ok hd
  intro a w hG
  have hs := ED_sound _ _ _ _ (h (fun s' => AStk C r s' Q) (fun _ h => h))
  refine wp_front hm hd htl hci (T := fun s1 => EV C ops (ops.toList.drop c) s1 (fun s' => AStk C r s' Q)) (by simpa [KF] using hs) ?_ a w hG
  intro s1 a1 w1 hs1 hG1
  have f0 := EV_sound _ _ _ hs1
  have e2 : (List.range' c (ops.size - c)).filterMap (fun j => ops[j]?) = ops.toList.drop c := by
    rw [range'_ops ops c _ (by omega)]
    exact List.take_of_length_le (by simp)
  rw [← e2] at f0
  refine aOps_sound hd' _ s1 a1 w1 f0 hG1 ?_
  rintro a' w' ⟨s', k1, k2⟩
  exact ⟨s', k1, k2⟩
end
end
end Go.Va
set_option linter.unusedVariables false
set_option linter.unusedSimpArgs false
set_option autoImplicit false
/-! Ways that meet behind several codes. -/
namespace Go.Va
open RowKit
section
variable {C : Ctx} {s : St} {Q : Post}
section
attribute [local semireducible] AStk
theorem AStk.append {r : List Code} {K : St → Prop} (hK : ∀ s', K s' → AStk C r s' Q) : ∀ (l : List Code) (s : St), AStk C l s (Then K Q) → AStk C (l ++ r) s Q
  | [], s, h => hK s h
  | c :: l, s, h => by
    refine ACode.mono h fun e s' hq => ?_
    cases e with
    | normal => exact AStk.append hK l s' hq
    | _ => exact hq
end
/-- Ways that meet behind the first n codes. -/
theorem AStk.cutN {ι : Type} {codes : List Code} (n : Nat) (I : ι → St) (V : ι → Prop) (h1 : ∀ K : St → Prop, (∀ i s', V i → Weak s' (I i) → K s') → AStk C (codes.take n) s (Then K Q)) (h2 : ∀ i, V i → AStk C (codes.drop n) (I i) Q) (hr : codes.drop n ≠ []) : AStk C codes s Q := by
  have := AStk.append (r := codes.drop n) (K := fun s' => AStk C (codes.drop n) s' Q) (Q := Q) (fun _ h => h) (codes.take n) s (h1 _ (fun i s' hV hw => AStk.weak hw (h2 i hV) hr))
  rwa [List.take_append_drop] at this
end
section
variable {C : Ctx} {s : St} {K : St → Fp → Prop} {d : Option Tmp} {t tx ty : TypeId} {p : String} {es : Array Edge} {gq : Option (Nat × Bool)}
theorem an_e_n {x : Operand} : astepN C ⟨d, .binOp .eql tx x (.const .nilIface) ty, t, p, es, gq⟩ s K = req (apure C.P s.row s.val (.binOp .eql tx x (.const .nilIface) ty)) (KV K s d ⟨[], [], false, false⟩) := by
  unfold KV; rfl
end
attribute [go_sem] an_e_n
end Go.Va
set_option linter.unusedVariables false
set_option linter.unusedSimpArgs false
set_option autoImplicit false
/-! From what came in to abstract values. -/
namespace Go.Va
open RowKit
/-- All cells that are there are below the marks. -/
def mOld (w : World) (b : Nat) : Nat := match w.heap[b]? with
  | some (.cells arr _ _) => arr.size
  | _ => 0
theorem marks_old (w : World) : Marks w (mOld w) := by
  intro b hb
  unfold mOld
  rw [Array.getElem?_eq_none hb]
theorem cell_old {w : World} {b o : Nat} {v : Value} (h : w.cell? ⟨b, o, none⟩ = some v) : o < mOld w b := by
  unfold World.cell? at h
  unfold mOld
  cases hb : w.heap[b]? with
  | none => simp [hb] at h
  | some x =>
    cases x with
    | cells arr t fr =>
      simp only [hb] at h
      have h' : arr[o]? = some v := by simpa using h
      exact (Array.getElem?_eq_some_iff.1 h').1
    | _ => simp [hb] at h
theorem wf_u8 {n : Int} (h : (Lit.int .u8 n).wf = true) : 0 ≤ n ∧ n ≤ 255 := by
  simpa [Lit.wf, IntKind.min, IntKind.max, IntKind.signed, IntKind.bits] using h
/-- A row of bytes that came in. -/
theorem relD_bytes {w : World} {a : Option Addr} {len cap : Nat} {zs : List Int} (hle : len ≤ most)
    (h : (a = none ∧ len = 0 ∧ cap = 0 ∧ zs = []) ∨ ∃ x, a = some x ∧ len ≤ cap ∧ cap ≤ maxLen ∧ zs.length = cap ∧ (∀ i, i < zs.length → w.cell? (x.add i) = some (.int .u8 (zs.getD i 0))) ∧ ∀ n ∈ zs, (Lit.int .u8 n).wf = true) :
    ∃ b : List UInt8, b.length = len ∧ RelD w (mOld w) (.sl false 1 (encB b)) (.slice a len cap) := by
  rcases h with ⟨rfl, rfl, rfl, rfl⟩ | ⟨x, rfl, hlc, hm, hz, hcell, hwf⟩
  · exact ⟨[], rfl, relD_sl_any (relD_nil w _ 1) (.inr rfl)⟩
  · have hb : (((zs.take len).map fun n => UInt8.ofNat n.toNat)).length = len := by simp; omega
    refine ⟨(zs.take len).map fun n => UInt8.ofNat n.toNat, hb, ?_⟩
    have hel : (encB ((zs.take len).map fun n => UInt8.ofNat n.toNat)).length = len := by unfold encB; rw [List.length_map]; exact hb
    have hget : ∀ (j : Nat) (e : List AVal), (encB ((zs.take len).map fun n => UInt8.ofNat n.toNat))[j]? = some e → j < len ∧ e = [.lit (.int .u8 (zs.getD j 0))] := by
      intro j e he
      have hj : j < len := by rw [← hel]; exact (List.getElem?_eq_some_iff.1 he).1
      refine ⟨hj, ?_⟩
      have hz' : zs[j]? = some (zs.getD j 0) := by rw [List.getD_eq_getElem?_getD, List.getElem?_eq_getElem (show j < zs.length by omega)]; rfl
      have hw := wf_u8 (hwf _ (List.mem_of_getElem? hz'))
      unfold encB at he
      rw [List.getElem?_map, List.getElem?_map, List.getElem?_take, if_pos hj, hz'] at he
      simp only [Option.map_some, Option.some.injEq] at he
      rw [← he]
      have : ((UInt8.ofNat (zs.getD j 0).toNat).toNat : Int) = zs.getD j 0 := by
        rw [UInt8.toNat_ofNat', Nat.mod_eq_of_lt (by omega)]; omega
      rw [this]
    have := RelD.sl (w := w) (m := mOld w) false 1 (encB ((zs.take len).map fun n => UInt8.ofNat n.toNat)) (some x) cap (fun j _ => .int .u8 (zs.getD j 0))
      (fun e he => by
        obtain ⟨j, hj⟩ := List.getElem?_of_mem he
        rw [(hget j e hj).2]; rfl) (by rw [hel]; exact hlc) (by rw [hel]; exact hle) (fun h => by cases h) (fun h => by cases h)
      (by
        intro j e i hj hi
        obtain ⟨h1, h2⟩ := hget j e hj
        have hi0 : i = 0 := by rw [h2] at hi; simpa using hi
        subst hi0
        obtain ⟨b, o, hx, hc⟩ := ints_at hcell (by omega)
        have h3 := hc j (by omega)
        have ej : o + (j * 1 + 0) = o + j := by omega
        exact ⟨b, o, by rw [hx], by rw [ej]; exact h3, by rw [ej]; exact cell_old h3, rfl⟩)
      (by
        intro hne
        obtain ⟨b, o, hx, hc⟩ := ints_at hcell (by
          rcases Nat.eq_zero_or_pos len with h0 | h0
          · exact absurd (List.eq_nil_of_length_eq_zero (by rw [hel]; exact h0)) hne
          · omega)
        exact ⟨b, o, by rw [hx]⟩)
      (by
        intro j e i y hj hy
        obtain ⟨h1, h2⟩ := hget j e hj
        rw [h2] at hy
        cases i with
        | zero => simp at hy; rw [← hy]; exact .lit _
        | succ i => simp at hy)
    rw [hel] at this
    exact this
/-- A law's run. -/
theorem ACalls.run {P : Program} {Φ : Nat → List AVal → Value → Prop} {f : FuncId} {args : List AVal} {u : Value} (h : ACalls P Φ f args (.lit u)) {w : World} {vs : List Value} (hl : vs.length = args.length)
    (hv : ∀ (i : Nat) x v, args[i]? = some x → vs[i]? = some v → RelA P Φ w (mOld w) x v) : Calls P f vs.toArray w fun e w' => e = .returned u ∧ Below w.heap.size w w' :=
  (h.2 w (mOld w) vs (marks_old w) hl hv).mono fun e w' ⟨v, m', h1, h2, h3, _⟩ => by
    cases h2
    exact ⟨h1, h3⟩
end Go.Va
