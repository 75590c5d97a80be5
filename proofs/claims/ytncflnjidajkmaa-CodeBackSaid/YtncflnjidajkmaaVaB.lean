/- The abstract logic, second part: each operation as a step of a state, code, functions, regions whose order is drawn. -/
import Derived.Test.YtncflnjidajkmaaVaA
import Derived.Lib.SliceRun
import Derived.KernelRfl
set_option linter.unnecessarySimpa false
set_option linter.unusedVariables false
set_option linter.unusedSimpArgs false
set_option autoImplicit false
/-! Each operation as a step of the state. -/
namespace Go.Va
open RowKit

section
variable {C : Ctx} {ops : Array Oper} {o : Oper} {s : St}

def dstOk (C : Ctx) (o : Oper) : Prop := match o.dst with
  | some d => d < C.nt
  | none => True
theorem dstOk.lt (h : dstOk C o) : ∀ t, o.dst = some t → t < C.nt := by
  intro t ht
  unfold dstOk at h
  rw [ht] at h
  exact h

/-- The guard lets the operation run. -/
def Runs (ops : Array Oper) (o : Oper) (s : St) : Prop := match o.guard with
  | none => True
  | some (j, want) => match (ops[j]?).bind (·.dst) with
    | some t => get s.env t = some (.lit (.bool want))
    | none => False
/-- The guard doesn't. -/
def Skips (ops : Array Oper) (o : Oper) (s : St) : Prop := match o.guard with
  | none => False
  | some (j, want) => match (ops[j]?).bind (·.dst) with
    | some t => get s.env t = some (.lit (.bool !want)) ∨ ∃ l, get s.env t = some (.lit (.tuple l))
    | none => False

theorem guard_uses {j : Nat} {want : Bool} {t : Tmp} (hg : o.guard = some (j, want)) (ht : (ops[j]?).bind (·.dst) = some t) : t ∈ uses ops o := by
  unfold uses Oper.looksAt
  refine List.mem_append_right _ ?_
  rw [hg]
  simp [ht]

theorem yielded_of {s' : St} {a : Act} {w : World} (hG : Gam C s' a w) {j : Nat} {t : Tmp} {b : Bool} (ht : (ops[j]?).bind (·.dst) = some t) (hb : get s'.env t = some (.lit (.bool b))) : yielded ops a.tmps j = some b := by
  obtain ⟨g, he, hh⟩ := hG.split
  obtain ⟨v, h1, h2⟩ := he.2.2 t _ hb
  have := relT_lit h2
  subst this
  unfold yielded
  rw [ht, Option.bind_some, h1]

theorem yielded_no {s' : St} {a : Act} {w : World} (hG : Gam C s' a w) {j : Nat} {t : Tmp} {l : Array Value} (ht : (ops[j]?).bind (·.dst) = some t) (hb : get s'.env t = some (.lit (.tuple l))) : yielded ops a.tmps j = none := by
  obtain ⟨g, he, hh⟩ := hG.split
  obtain ⟨v, h1, h2⟩ := he.2.2 t _ hb
  have := relT_lit h2
  subst this
  unfold yielded
  rw [ht, Option.bind_some, h1]

theorem runs_wanted (h : Runs ops o s) {s' : St} (hu : ∀ t ∈ uses ops o, get s'.env t = get s.env t) {a : Act} {w : World} (hG : Gam C s' a w) : Region.wanted o (yielded ops a.tmps) = true := by
  unfold Runs at h
  unfold Region.wanted
  split at h
  · rename_i hg; rw [hg]
  · rename_i j want hg
    rw [hg]
    split at h
    · rename_i t ht
      have := yielded_of hG ht ((hu t (guard_uses hg ht)).trans h)
      simp [this]
    · exact h.elim
theorem skips_wanted (h : Skips ops o s) {s' : St} (hu : ∀ t ∈ uses ops o, get s'.env t = get s.env t) {a : Act} {w : World} (hG : Gam C s' a w) : Region.wanted o (yielded ops a.tmps) = false := by
  unfold Skips at h
  unfold Region.wanted
  split at h
  · exact h.elim
  · rename_i j want hg
    rw [hg]
    split at h
    · rename_i t ht
      rcases h with h | ⟨l, h⟩
      · have := yielded_of hG ht ((hu t (guard_uses hg ht)).trans h)
        simp [this]
      · have := yielded_no hG ht ((hu t (guard_uses hg ht)).trans h)
        simp [this]
    · exact h.elim

theorem opok_skip (hs : Skips ops o s) (hd : dstOk C o) : OpOk C ops o s ⟨[], [], false, false⟩ (match o.dst with | some d => [.slot d (.lit (.tuple #[]))] | none => []) := by
  intro s' a w Q K hu _ _ hG hK
  rw [if_neg (by rw [skips_wanted hs hu hG]; simp)]
  obtain ⟨g, he, hh⟩ := hG.split
  have h1 := he.put hd.lt (x := .lit (.tuple #[])) (v := undef) (relT_of_relD (.lit _))
  refine hK _ _ ?_
  cases hdd : o.dst with
  | none => exact Gam.of (by rw [hdd] at h1; exact h1) hh
  | some d => exact Gam.of (s := { s' with env := (d, .lit (.tuple #[])) :: s'.env }) (by rw [hdd] at h1; exact h1) hh

/-- A slot filled: the last step of most. -/
def ups (o : Oper) (x : AVal) : List Upd := match o.dst with | some d => [.slot d x] | none => []
theorem ups_app (x : AVal) : (ups o x).foldl St.app s = s.put o.dst x := by
  unfold ups St.put
  cases o.dst <;> rfl
theorem upsOk (fp : Fp) (x : AVal) : UsOk o fp (ups o x) := by
  intro u hu
  unfold ups at hu
  cases hd : o.dst with
  | none => rw [hd] at hu; cases hu
  | some d =>
    rw [hd] at hu
    rw [List.mem_singleton.1 hu]

/-- An operation that hands back a value; memory may have grown. -/
theorem opok_value (hr : Runs ops o s) (hd : dstOk C o) (fp : Fp) (x : AVal)
    (h : ∀ (s' : St) (g : Gh) (a : Act) (w : World), (∀ y ∈ o.op.operands.toList, s'.val y = s.val y) → (∀ id, id ∈ fp.rb ∨ id ∈ fp.wb → get s'.box id = get s.box id) → ((fp.lr = true ∨ fp.wr = true) → ∀ r, get s'.row r = get s.row r) → Env C s'.env s'.row g a w → Hp C s'.box s'.row g w →
      ∃ v w' g', (execOp a.eval o).run C.P w = .ok (.value v) w' ∧ Hp C s'.box s'.row g' w' ∧ RelT C s'.row g' w' x v ∧ Lat w g.m w' g'.m ∧ (∀ id b, g.ρ id = some b → g'.ρ id = some b) ∧ g'.κ = g.κ) :
    OpOk C ops o s fp (ups o x) := by
  intro s' a w Q K hu hb hrw hG hK
  rw [if_pos (runs_wanted hr hu hG)]
  obtain ⟨g, he, hh⟩ := hG.split
  obtain ⟨v, w', g', h1, h2, h3, h4, h5, h6⟩ := h s' g a w (val_congr hu) hb hrw he hh
  unfold Oper.wp
  rw [h1]
  refine hK _ _ ?_
  rw [ups_app]
  have he' := (he.lat h4 h5 (fun r T L _ => by rw [h6])).put hd.lt h3
  refine Gam.of ?_ (by rw [St.put_box, St.put_row]; exact h2)
  rw [St.put_row]
  exact he'

/-- Which operations look at own rows. -/
def rowy : Op → Bool
  | .build _ _ => true
  | .buildSlice _ _ _ => true
  | .slice _ _ _ _ _ => true
  | .convert _ _ _ => true
  | _ => false

theorem frzParts_congr {row row' : List (Nat × (Nat × List (List AVal)))} {P : Program} {V V' : Operand → Option AVal} (hr : ∀ r, get row' r = get row r) : ∀ (l : List (Nat × Operand)), (∀ y ∈ l.map (·.2), V' y = V y) → frzParts row' P V' l = frzParts row P V l
  | [], _ => rfl
  | (i, x) :: r, h => by
    have hf : ∀ y, frz row' P y = frz row P y := fun y => by cases y <;> simp [frz, hr]
    simp only [frzParts, h x (by simp), frzParts_congr hr r (fun y hy => h y (by simp at hy ⊢; exact .inr hy)), hf]
theorem boxes_congr {V V' : Operand → Option AVal} : ∀ (l : List Operand), (∀ y ∈ l, V' y = V y) → boxes V' l = boxes V l
  | [], _ => rfl
  | x :: r, h => by
    simp only [boxes, h x (by simp), boxes_congr r (fun y hy => h y (by simp [hy]))]
theorem vals_congr {V V' : Operand → Option AVal} : ∀ (l : List Operand), (∀ y ∈ l, V' y = V y) → vals V' l = vals V l
  | [], _ => rfl
  | x :: r, h => by
    simp only [vals, h x (by simp), vals_congr r (fun y hy => h y (by simp [hy]))]
theorem oInt_congr {V V' : Operand → Option AVal} {x : Option Operand} (h : ∀ y ∈ x.toArray.toList, V' y = V y) : oInt V' x = oInt V x := by
  cases x with
  | none => rfl
  | some y => simp only [oInt, h y (by simp)]

theorem apure_congr {row row' : List (Nat × (Nat × List (List AVal)))} {P : Program} {V V' : Operand → Option AVal} {op : Op} (h : ∀ y ∈ op.operands.toList, V' y = V y) (hr : rowy op = true → ∀ r, get row' r = get row r) : apure P row' V' op = apure P row V op := by
  cases op <;> simp only [apure] <;> try rfl
  case move x => exact h x (by simp [Op.operands])
  case assign x => exact h x (by simp [Op.operands])
  case pick c a b => rw [h c (by simp [Op.operands]), h a (by simp [Op.operands]), h b (by simp [Op.operands])]
  case build t parts => rw [frzParts_congr (hr rfl) parts.toList (fun y hy => h y (by simpa [Op.operands] using hy))]
  case nilCheck x => rw [h x (by simp [Op.operands])]
  case binOp o t x y _ => rw [h x (by simp [Op.operands]), h y (by simp [Op.operands])]
  case unOp o t x => rw [h x (by simp [Op.operands])]
  case convert o t x =>
    have hf : ∀ y, frz row' P y = frz row P y := fun y => by cases y <;> simp [frz, hr rfl]
    rw [h x (by simp [Op.operands])]
    simp only [hf]
  case makeInterface t x => rw [h x (by simp [Op.operands])]
  case makeFunc fn first caps =>
    cases fn <;> simp only
    rw [boxes_congr caps.toList (fun y hy => h y (by simp only [Op.operands, Array.toList_append, List.mem_append]; exact .inr hy))]
  case slice t x lo hi mx =>
    rw [h x (by simp [Op.operands]), oInt_congr (x := lo) (fun y hy => h y (by simp only [Op.operands, Array.toList_append, List.mem_append]; exact .inl (.inl (.inr hy)))), oInt_congr (x := hi) (fun y hy => h y (by simp only [Op.operands, Array.toList_append, List.mem_append]; exact .inl (.inr hy))), oInt_congr (x := mx) (fun y hy => h y (by simp only [Op.operands, Array.toList_append, List.mem_append]; exact .inr hy))]
    unfold acut
    have hf : ∀ y, frz row' P y = frz row P y := fun y => by cases y <;> simp [frz, hr rfl]
    simp only [hf]
  case fieldAddr t x f => rw [h x (by simp [Op.operands])]
  case field t x f => rw [h x (by simp [Op.operands])]
  case indexAddr t x i => rw [h x (by simp [Op.operands]), h i (by simp [Op.operands])]
  case index t x i => rw [h x (by simp [Op.operands]), h i (by simp [Op.operands])]
  case extract x i => rw [h x (by simp [Op.operands])]
  case call c =>
    obtain ⟨callee, args, ts⟩ := c
    cases callee <;> simp only
    rw [vals_congr args.toList (fun y hy => h y (by simpa [Op.operands, Call.operands] using hy))]

theorem opok_pure (hr : Runs ops o s) (hd : dstOk C o) {x : AVal} (h : apure C.P s.row s.val o.op = some x) : OpOk C ops o s ⟨[], [], rowy o.op, false⟩ (ups o x) := by
  refine opok_value hr hd _ x (fun s' g a w hu hb hrw he hh => ?_)
  have hc := apure_congr (P := C.P) (row := s.row) (row' := s'.row) (V := s.val) (V' := s'.val) (op := o.op) hu (fun hy => hrw (.inl hy))
  obtain ⟨v, h1, h2⟩ := apure_sound (V := s'.val) (St.val_sound he) o (hc.trans h)
  exact ⟨v, w, g, h1, hh, h2, Lat.refl _ _, fun _ _ h => h, rfl⟩

/-- Which variable an address is of. -/
def boxOf : Option AVal → List Nat
  | some (.box id _) => [id]
  | _ => []

theorem opok_load (hr : Runs ops o s) (hd : dstOk C o) {t : TypeId} {y : Operand} (ho : o.op = .load t y) {x : AVal} (h : aload C.P s t (s.val y) = some x) : OpOk C ops o s ⟨boxOf (s.val y), [], true, false⟩ (ups o x) := by
  refine opok_value hr hd _ x (fun s' g a w hu hb hrw he hh => ?_)
  have hv : s'.val y = s.val y := hu y (by rw [ho]; simp [Op.operands])
  have hfr : ∀ l, frzL s'.row C.P l = frzL s.row C.P l := by
    intro l
    have hf : ∀ y, frz s'.row C.P y = frz s.row C.P y := fun y => by cases y <;> simp [frz, hrw (.inl rfl)]
    induction l with
    | nil => rfl
    | cons p l ih => simp only [frzL, hf, ih]
  have hc : aload C.P s' t (s'.val y) = aload C.P s t (s.val y) := by
    rw [hv]
    have hbx : ∀ id off, s.val y = some (.box id off) → get s'.box id = get s.box id := fun id off hy => hb id (.inl (by rw [hy]; exact List.mem_singleton.2 rfl))
    unfold aload
    split
    · rename_i z b id off h1 h2 h3
      rw [hbx id off h3]
      simp only [h1, h2, h3, hfr]
    · rename_i z b c off h1 h2 h3
      simp only [h1, h2, h3]
    · rfl
  obtain ⟨v, h1, h2⟩ := aload_sound hh (St.val_sound he y) (hc.trans h)
  refine ⟨v, w, g, ?_, hh, h2, Lat.refl _ _, fun _ _ h => h, rfl⟩
  unfold execOp
  rw [ho]
  simp [h1]

theorem opok_lits (hr : Runs ops o s) (hd : dstOk C o) {t : TypeId} {n : Nat} {parts : Array (Nat × Operand)} (ho : o.op = .buildSlice t n parts) {ps : List (Nat × AVal)} (hp : frzParts s.row C.P s.val parts.toList = some ps) {x : AVal} (h : alits C.P t n ps = some x) : OpOk C ops o s ⟨[], [], true, false⟩ (ups o x) := by
  refine opok_value hr hd _ x (fun s' g a w hu hb hrw he hh => ?_)
  have hc := frzParts_congr (P := C.P) (V := s.val) (V' := s'.val) (hrw (.inl rfl)) parts.toList (fun y hy => hu y (by rw [ho]; simpa [Op.operands] using hy))
  obtain ⟨h1, h2⟩ := frzParts_sound (St.val_sound he) parts.toList ps (hc.trans hp)
  obtain ⟨v, w', g', h3, h4, h5, h6, h7, h8⟩ := alits_sound hh h (parts.map fun (i, x) => (i, a.eval x)) (by simpa using h1) (by simpa using h2)
  refine ⟨v, w', g', ?_, h5, h4, h6, fun _ _ h => by rw [h7]; exact h, h8⟩
  unfold execOp
  rw [ho]
  simp [h3]

end
end Go.Va
set_option linter.unusedVariables false
set_option linter.unusedSimpArgs false
set_option autoImplicit false
/-! Each operation as a step of the state: variables, stores, append, calls. -/
namespace Go.Va
open RowKit

section
variable {C : Ctx} {ops : Array Oper} {o : Oper} {s : St}

theorem opok_new (hr : Runs ops o s) {d : Tmp} (hdd : o.dst = some d) (hlt : d < C.nt) (hf : get s.box d = none) (cs : List AVal) (rb : List Nat)
    (h : ∀ (s' : St) (g : Gh) (a : Act) (w : World), (∀ y ∈ o.op.operands.toList, s'.val y = s.val y) → Env C s'.env s'.row g a w → Hp C s'.box s'.row g w →
      ∃ (arr : Array Value) (T : TypeId), (execOp a.eval o).run C.P w = .ok (.value (.pointer (some ⟨w.heap.size, 0, none⟩))) (w.alloc (.cells arr T)) ∧ PW (fun x v => v.oneCell' = true ∧ RelT C s'.row g w x v) cs arr.toList) :
    OpOk C ops o s ⟨[], [d], false, false⟩ [.box d cs, .slot d (.box d 0)] := by
  intro s' a w Q K hu hb hrw hG hK
  rw [if_pos (runs_wanted hr hu hG)]
  obtain ⟨g, he, hh⟩ := hG.split
  obtain ⟨arr, T, h1, h2⟩ := h s' g a w (val_congr hu) he hh
  have hf' : get s'.box d = none := (hb d (.inr (by simp))).trans hf
  obtain ⟨g', h3, h4, h5, h6, h7⟩ := hh.newbox d hf' cs arr T h2
  unfold Oper.wp
  rw [h1]
  refine hK _ _ ?_
  rw [hdd]
  have he' := (he.lat h5 h6 (fun r T L _ => by rw [h7])).put (d := some d) (fun t ht => by injection ht with ht; exact ht ▸ hlt) (x := .box d 0) (v := .pointer (some ⟨w.heap.size, 0, none⟩)) ⟨w.heap.size, h4, rfl⟩
  exact Gam.of (s := { env := (d, .box d 0) :: s'.env, box := (d, cs) :: s'.box, row := s'.row }) he' h3

theorem opok_alloc (hr : Runs ops o s) {d : Tmp} (hdd : o.dst = some d) (hlt : d < C.nt) (hf : get s.box d = none) {T : TypeId} (ho : o.op = .alloc T) {zs : List Value} (hz : Tzero C.P T = some zs) :
    OpOk C ops o s ⟨[], [d], false, false⟩ [.box d (zs.map ofC), .slot d (.box d 0)] := by
  refine opok_new hr hdd hlt hf _ [] (fun s' g a w hu he hh => ?_)
  obtain ⟨z, h1, h2, h3⟩ := tzero_run hz w
  refine ⟨z.cells, T, ?_, ?_⟩
  · unfold execOp
    rw [ho]
    simp only [Instr.alloc, Sem.run_bind, h1, Result.andThen_ok, newVar, newRow, run_newObj, Sem.run_pure]
    rfl
  · rw [h2]
    refine ⟨by simp, fun i x v hx hv => ⟨h3 v (List.mem_of_getElem? hv), ?_⟩⟩
    rw [List.getElem?_map, hv] at hx
    injection hx with hx
    rw [← hx]
    exact relT_ofC v

theorem opok_box (hr : Runs ops o s) {d : Tmp} (hdd : o.dst = some d) (hlt : d < C.nt) (hf : get s.box d = none) {T : TypeId} {y : Operand} (ho : o.op = .box T y) {x : AVal} (hx : s.val y = some x) {cs : List AVal} (hc : cellsT x = some cs) :
    OpOk C ops o s ⟨[], [d], false, false⟩ [.box d cs, .slot d (.box d 0)] := by
  refine opok_new hr hdd hlt hf _ [] (fun s' g a w hu he hh => ?_)
  have hv : s'.val y = some x := (hu y (by rw [ho]; simp [Op.operands])).trans hx
  refine ⟨(a.eval y).cells, T, ?_, cellsT_sound (St.val_sound he y x hv) hc⟩
  unfold execOp
  rw [ho]
  simp only [Instr.box, Sem.run_bind, newVar, newRow, run_newObj, Result.andThen_ok, Sem.run_pure]
  rfl

/-- A variable's cells behind a store. -/
def astore (P : Program) (s : St) (t : TypeId) (y x : Option AVal) : Option (Nat × List AVal) := match y, x with
  | some (.box id o), some v => match get s.box id, cellsT v, Tsz P t with
    | some cs, some vs, some z => if vs.length = z ∧ o + z ≤ cs.length then some (id, cs.take o ++ (vs ++ cs.drop (o + z))) else none
    | _, _, _ => none
  | _, _ => none

theorem opok_store (hr : Runs ops o s) {t : TypeId} {y x : Operand} (ho : o.op = .store t y x) (hd0 : o.dst = none) {id : Nat} {cs' : List AVal} (h : astore C.P s t (s.val y) (s.val x) = some (id, cs')) :
    OpOk C ops o s ⟨[], [id], false, false⟩ [.box id cs'] := by
  intro s' a w Q K hu hb hrw hG hK
  rw [if_pos (runs_wanted hr hu hG)]
  obtain ⟨g, he, hh⟩ := hG.split
  have hv := val_congr hu
  have hy : s'.val y = s.val y := hv y (by rw [ho]; simp [Op.operands])
  have hx : s'.val x = s.val x := hv x (by rw [ho]; simp [Op.operands])
  unfold astore at h
  split at h
  · rename_i id' off xv hy' hx'
    split at h
    · rename_i cs vs z hcs hvs hz
      split at h
      · rename_i hle
        injection h with h
        injection h with h1 h2
        subst h1; subst h2
        have hcs' : get s'.box id' = some cs := (hb id' (.inr (by simp))).trans hcs
        obtain ⟨b, arr, T, g1, g2, g3, g4, g5, g6⟩ := hh.boxes id' cs hcs'
        obtain ⟨b2, e1, e2⟩ := St.val_sound he y _ (hy.trans hy')
        rw [g1] at e1
        injection e1 with e1
        subst e1
        have hxr := St.val_sound he x _ (hx.trans hx')
        have hpx := cellsT_sound hxr hvs
        have hpa : PW (fun x v => v.oneCell' = true ∧ RelT C s'.row g w x v) cs arr.toList := ⟨by rw [Array.length_toList, g4], fun i x v hx hv => g6 i x v hx (by simpa using hv)⟩
        have hvl : (a.eval x).cells.size = z := by rw [← Array.length_toList, hpx.1, hle.1]
        have hone : ∀ v ∈ (a.eval x).cells.toList, v.oneCell' = true := by
          intro v hv
          obtain ⟨j, hj, hee⟩ := List.mem_iff_getElem.1 hv
          have hxx : vs[j]? = some (vs[j]'(by rw [← hpx.1]; exact hj)) := List.getElem?_eq_getElem _
          exact (hpx.2 j _ v hxx (by rw [List.getElem?_eq_getElem hj, hee])).1
        generalize harr : (arr.toList.take off ++ (a.eval x).cells.toList ++ arr.toList.drop (off + (a.eval x).cells.toList.length)).toArray = arr'
        have hrun : (execOp a.eval o).run C.P w = .ok .skip (w.setRow b arr') := by
          unfold execOp
          rw [ho]
          simp only [Instr.storeAt, e2, Instr.sureAddr, Sem.run_bind, Sem.run_pure, Result.andThen_ok, storeVar, run_sz hz, hvl]
          rw [Sem.run_ite, if_neg (by simp)]
          have := run_storeCells_at C.P b off T (a.eval x).cells.toList 0 arr w g3 (by rw [Array.length_toList, hvl, g4]; omega) hone
          simp only [Nat.add_zero] at this
          rw [this, harr]
          rfl
        have hp' : PW (fun x v => v.oneCell' = true ∧ RelT C s'.row g w x v) (cs.take off ++ (vs ++ cs.drop (off + z))) arr'.toList := by
          rw [← harr]
          simp only [List.append_assoc]
          refine (hpa.take off).append (hpx.append ?_)
          rw [Array.length_toList, hvl]
          exact hpa.drop _
        obtain ⟨k1, k2⟩ := hh.store (cs' := cs.take off ++ (vs ++ cs.drop (off + z))) hcs' g1 g3 g5 hp' (by simp; omega) g2
        unfold Oper.wp
        rw [hrun]
        refine hK _ _ ?_
        rw [hd0]
        exact Gam.of (s := { s' with box := (id', cs.take off ++ (vs ++ cs.drop (off + z))) :: s'.box }) (he.lat k2 (fun _ _ h => h) (fun _ _ _ _ => rfl)) k1
      · cases h
    · cases h
  · cases h

/-- What append makes of an own row, or of a slice without spare room: the row, its elements before, those behind. -/
def aapp (P : Program) (s : St) (d : Nat) (e z : Nat) : Option AVal → Option (Nat × List (List AVal))
  | some (.row r n) => match get s.row r with
    | some (T, L) => if T = e ∧ n = L.length then some (r, L) else none
    | none => none
  | some (.sl true z' xs) => if (z' = z ∨ xs = []) ∧ get s.row d = none then some (d, xs) else none
  | _ => none
/-- What is appended. -/
def asrc (P : Program) (row : List (Nat × (Nat × List (List AVal)))) (z tx : Nat) : Option AVal → Option (List (List AVal))
  | some (.lit (.string str)) => match Tk P tx with
    | some .str => if z = 1 then some (str.data.toList.map fun b => [AVal.lit (.int .u8 b.toNat)]) else none
    | _ => none
  | some x => match frz row P x, Telem P tx with
    | some (.sl _ z' ys), some _ => if z' = z ∨ ys = [] then some ys else none
    | _, _ => none
  | none => none
def Tby (P : Program) (t : TypeId) : Option Nat := (P.info? t).map (·.bytes)

theorem relD_sl_any {w : World} {m : Nat → Nat} {f : Bool} {z z' : Nat} {xs : List (List AVal)} {v : Value} (h : RelD w m (.sl f z xs) v) (hz : z = z' ∨ xs = []) : RelD w m (.sl false z' xs) v := by
  cases h with
  | sl full z xs A c vv h1 h2 h3 h4 h4N h5 h6 h7 =>
    rcases hz with hz | hz
    · subst hz
      exact .sl false z xs A c vv h1 h2 h3 (fun h => by cases h) h4N h5 h6 h7
    · subst hz
      exact .sl false z' [] A c vv (by simp) h2 h3 (fun h => by cases h) h4N (by simp) h6 (by simp)

theorem opok_append (hr : Runs ops o s) {d : Tmp} (hdd : o.dst = some d) (hlt : d < C.nt) {y x : Operand} {t tx e z by_ r : Nat} {zs : List Value} {xs ys : List (List AVal)} (ho : o.op = .call { callee := .builtin .append, args := #[y, x], argTypes := #[t, tx] })
    (ht : Telem C.P t = some e) (hz : Tsz C.P e = some z) (hby : Tby C.P e = some by_) (hzs : Tzero C.P e = some zs) (hzl : zs.length = z) (ha : aapp C.P s d e z (s.val y) = some (r, xs)) (hs : asrc C.P s.row z tx (s.val x) = some ys)
    (hb : (xs.length + ys.length) * by_ ≤ most) (hmost : xs.length + ys.length ≤ most) :
    OpOk C ops o s ⟨[], [], false, true⟩ [.row r e (xs ++ ys), .slot d (.row r (xs.length + ys.length))] := by
  intro s' a w Q K hu hbx hrw hG hK
  rw [if_pos (runs_wanted hr hu hG)]
  obtain ⟨g, he, hh⟩ := hG.split
  have hv := val_congr hu
  have hy : s'.val y = s.val y := hv y (by rw [ho]; simp [Op.operands, Call.operands])
  have hx : s'.val x = s.val x := hv x (by rw [ho]; simp [Op.operands, Call.operands])
  have hrow : ∀ r, get s'.row r = get s.row r := hrw (.inr rfl)
  -- the first argument
  have h1 : ∃ A n c, a.eval y = .slice A n c ∧ RelD w g.m (.sl false z xs) (.slice A n c) ∧ ((get s'.row r = none ∧ c = n) ∨ (get s'.row r = some (e, xs) ∧ g.κ r = .slice A n c)) := by
    unfold aapp at ha
    split at ha
    · rename_i r' n hy'
      split at ha
      · rename_i T L hL
        split at ha
        · rename_i hc
          obtain ⟨rfl, rfl⟩ := hc
          injection ha with ha
          injection ha with e1 e2
          subst e1; subst e2
          obtain ⟨T', L', f1, f2, ⟨z', hz', f3⟩, f4⟩ := St.val_sound he y _ (hy.trans hy')
          rw [hrow, hL] at f1
          injection f1 with f1
          injection f1 with f1 f1'
          subst f1; subst f1'
          have hzz : z' = z := by
            have : Tsz C.P T = some z' := hz'
            rw [hz] at this; injection this with this; exact this.symm
          subst hzz
          rw [List.take_length] at f3
          obtain ⟨A, c, f5, _⟩ := relD_sl_shape f3
          rw [f5] at f3
          refine ⟨A, L.length, c, f5, f3, .inr ⟨by rw [hrow]; exact hL, ?_⟩⟩
          rw [← f4 rfl, f5]
        · cases ha
      · cases ha
    · rename_i z' xs' hy'
      split at ha
      · rename_i hc
        injection ha with ha
        injection ha with e1 e2
        subst e1; subst e2
        have hrel := relT_sl (St.val_sound he y _ (hy.trans hy'))
        obtain ⟨A, c, f5, _, _, f6, _⟩ := relD_sl_shape hrel
        rw [f5] at hrel
        exact ⟨A, xs'.length, c, f5, relD_sl_any hrel hc.1, .inl ⟨by rw [hrow]; exact hc.2, f6 rfl⟩⟩
      · cases ha
    · cases ha
  obtain ⟨A, n, c, h2, h3, h4⟩ := h1
  -- the second one
  have h5 : ∃ news, Src C.P z tx (a.eval x) ys.length news w ∧ PW (Cel w g.m) ys.flatten news ∧ ∀ e ∈ ys, e.length = z := by
    unfold asrc at hs
    split at hs
    · rename_i str hx'
      split at hs
      · rename_i hk
        split at hs
        · rename_i hz1
          injection hs with hs
          subst hs
          subst hz1
          rw [relT_lit (St.val_sound he x _ (hx.trans hx'))]
          exact src_string (tk_str hk)
        · cases hs
      · cases hs
    · rename_i q _ hx'
      split at hs
      · rename_i f z' ys' e' hfz hte
        split at hs
        · rename_i hc
          injection hs with hs
          subst hs
          have hfr : frz s'.row C.P q = frz s.row C.P q := by cases q <;> simp [frz, hrow]
          have hrel := frz_sound (St.val_sound he x _ (hx.trans hx')) (hfr.trans hfz)
          exact src_slice (elem_und hte) (relD_sl_any hrel hc)
        · cases hs
      · cases hs
    · cases hs
  obtain ⟨news, h6, h7, h8⟩ := h5
  obtain ⟨v, w', g', k1, k2, k3, k4, k5, k6, k7⟩ := append_sound hh (r := r) (elem_und ht) hz hby hzs hzl h3 h4 (ty := o.type) h6 h7 h8 hb hmost
  have hrun : (execOp a.eval o).run C.P w = .ok (.value v) w' := by
    unfold execOp
    rw [ho]
    simp only [resolve, Sem.run_bind, Sem.run_pure, Result.andThen_ok, invoke, builtin]
    have : (#[y, x].map a.eval) = #[.slice A n c, a.eval x] := by simp [h2]
    rw [this, k1]
    rfl
  unfold Oper.wp
  rw [hrun]
  refine hK _ _ ?_
  rw [hdd]
  have henv : Env C s'.env ((r, (e, xs ++ ys)) :: s'.row) g' a w' := by
    refine ⟨he.1, he.2.1, fun q p hq => ?_⟩
    obtain ⟨u, m1, m2⟩ := he.2.2 q p hq
    refine ⟨u, m1, m2.grow (ys := ys) (L := xs) k4 (fun id b h => by rw [k5]; exact h) k6 ?_⟩
    rcases h4 with ⟨m3, _⟩ | ⟨m3, _⟩
    · exact .inl m3
    · exact .inr ⟨m3, k7 (by rw [m3]; simp)⟩
  have henv2 := Env.put (s := { s' with row := (r, (e, xs ++ ys)) :: s'.row }) henv (d := some d) (fun t ht => by injection ht with ht; exact ht ▸ hlt) k3
  exact Gam.of (s := { env := (d, .row r (xs.length + ys.length)) :: s'.env, box := s'.box, row := (r, (e, xs ++ ys)) :: s'.row }) henv2 k2

/-! #### calls -/
theorem relA_of_relD {P : Program} {Φ : Nat → List AVal → Value → Prop} {w : World} {m : Nat → Nat} {x : AVal} {v : Value} (h : RelD w m x v) : RelA P Φ w m x v := by
  cases h with
  | lit v => exact .lit v
  | agg cs vs hl ho h => exact .agg cs vs hl ho h
  | tup cs vs hl h => exact .tup cs vs hl h
  | sl full sz xs A c vv h1 h2 h3 h4 hN h5 h6 h7 => exact .sl full sz xs A c vv h1 h2 h3 h4 hN h5 h6 h7
  | el cs off b o vv h1 h2 => exact .el cs off b o vv h1 h2
/-- A call's arguments, as data; functions of known behaviour are handed on. -/
def fvals (row : List (Nat × (Nat × List (List AVal)))) (P : Program) (V : Operand → Option AVal) : List Operand → Option (List AVal)
  | [] => some []
  | x :: r => match V x with
    | none => none
    | some y => match (match y with | .ext k => some (.ext k) | y => frz row P y) with
      | none => none
      | some z => match fvals row P V r with
        | none => none
        | some l => some (z :: l)
theorem fvals_sound {row : List (Nat × (Nat × List (List AVal)))} {g : Gh} {a : Act} {w : World} {V : Operand → Option AVal} (hV : ∀ y z, V y = some z → RelT C row g w z (a.eval y)) : ∀ (l : List Operand) (xs : List AVal), fvals row C.P V l = some xs → PW (RelA C.P C.Φ w g.m) xs (l.map a.eval)
  | [], xs, h => by
    injection h with h
    subst h
    exact PW.nil
  | x :: r, xs, h => by
    simp only [fvals] at h
    split at h
    · cases h
    · rename_i y hy
      split at h
      · cases h
      · rename_i z hz
        split at h
        · cases h
        · rename_i l hl
          injection h with h
          subst h
          refine PW.cons ?_ (fvals_sound hV r l hl)
          have hr := hV x y hy
          split at hz
          · rename_i k
            injection hz with hz
            subst hz
            exact hr
          · have hd := frz_sound hr hz
            exact relA_of_relD hd
theorem fvals_congr {row row' : List (Nat × (Nat × List (List AVal)))} {P : Program} {V V' : Operand → Option AVal} (hr : ∀ r, get row' r = get row r) : ∀ (l : List Operand), (∀ y ∈ l, V' y = V y) → fvals row' P V' l = fvals row P V l
  | [], _ => rfl
  | x :: r, h => by
    have hf : ∀ y, frz row' P y = frz row P y := fun y => by cases y <;> simp [frz, hr]
    simp only [fvals, h x (by simp), fvals_congr hr r (fun y hy => h y (by simp [hy])), hf]

theorem run_callFunc {P : Program} {f : FuncId} (hf : FnBody P f) (args : Array Value) (w : World) : (callFunc f args).run P w = .ok (.enter f args) w := by
  obtain ⟨fn, h1, h2, h3⟩ := hf
  have h4 : fn.body.isNone = false := by
    cases hb : fn.body with
    | none => rw [hb] at h3; cases h3
    | some b => rfl
  simp only [callFunc, Sem.run_bind, run_program, Result.andThen_ok, h1, h2, h4, Bool.false_eq_true, if_false, Sem.run_pure]

theorem opok_call (hr : Runs ops o s) (hd : dstOk C o) {y : Operand} {xs : Array Operand} {ts : Array TypeId} (ho : o.op = .call { callee := .value y, args := xs, argTypes := ts }) {f : FuncId} (hy : s.val y = some (.clo f [])) {args : List AVal} (ha : fvals s.row C.P s.val xs.toList = some args) {x : AVal} (hc : ACalls C.P C.Φ f args x) :
    OpOk C ops o s ⟨[], [], true, false⟩ (ups o x) := by
  intro s' a w Q K hu hbx hrw hG hK
  rw [if_pos (runs_wanted hr hu hG)]
  obtain ⟨g, he, hh⟩ := hG.split
  have hv := val_congr hu
  have hy' : s'.val y = some (.clo f []) := (hv y (by rw [ho]; simp [Op.operands, Call.operands])).trans hy
  have ha' : fvals s'.row C.P s'.val xs.toList = some args := (fvals_congr (hrw (.inl rfl)) xs.toList (fun y hy => hv y (by rw [ho]; simp only [Op.operands, Call.operands, Array.toList_append, List.mem_append]; exact .inr hy))).trans ha
  obtain ⟨caps, h1, h2, _⟩ := St.val_sound he y _ hy'
  have hcaps : caps = [] := List.eq_nil_of_length_eq_zero h2
  subst hcaps
  have hp := fvals_sound (St.val_sound he) xs.toList args ha'
  have hrun : (execOp a.eval o).run C.P w = .ok (.enter f (xs.toList.map a.eval).toArray) w := by
    unfold execOp
    rw [ho]
    simp only [resolve, h1, Deferred.ofValue, Sem.run_bind, Sem.run_pure, Result.andThen_ok, invoke]
    rw [show (#[] ++ xs.map a.eval ++ [].toArray : Array Value) = (xs.toList.map a.eval).toArray by apply Array.ext'; simp]
    exact run_callFunc hc.1 _ w
  unfold Oper.wp
  rw [hrun]
  refine (hc.2 w g.m (xs.toList.map a.eval) hh.marks hp.1 hp.2).mono ?_
  rintro e w' ⟨v, m', rfl, k1, k2, k3, k4⟩
  obtain ⟨k5, k6⟩ := hh.step k2 k3 k4
  refine hK _ _ ?_
  rw [ups_app]
  refine Gam.of ?_ (by rw [St.put_box, St.put_row]; exact k5)
  rw [St.put_row]
  exact (he.lat (g' := { ρ := g.ρ, κ := g.κ, m := m' }) k6 (fun _ _ h => h) (fun _ _ _ _ => rfl)).put hd.lt (relT_of_relD (g := { ρ := g.ρ, κ := g.κ, m := m' }) k1)

/-- Arguments as data. -/
def dvals (row : List (Nat × (Nat × List (List AVal)))) (P : Program) (V : Operand → Option AVal) : List Operand → Option (List AVal)
  | [] => some []
  | x :: r => match V x with
    | none => none
    | some y => match frz row P y with
      | none => none
      | some z => match dvals row P V r with
        | none => none
        | some l => some (z :: l)
theorem dvals_sound {row : List (Nat × (Nat × List (List AVal)))} {g : Gh} {a : Act} {w : World} {V : Operand → Option AVal} (hV : ∀ y z, V y = some z → RelT C row g w z (a.eval y)) : ∀ (l : List Operand) (xs : List AVal), dvals row C.P V l = some xs → PW (RelD w g.m) xs (l.map a.eval)
  | [], xs, h => by
    injection h with h
    subst h
    exact PW.nil
  | x :: r, xs, h => by
    simp only [dvals] at h
    split at h
    · cases h
    · rename_i y hy
      split at h
      · cases h
      · rename_i z hz
        split at h
        · cases h
        · rename_i l hl
          injection h with h
          subst h
          exact PW.cons (frz_sound (hV x y hy) hz) (dvals_sound hV r l hl)
theorem dvals_congr {row row' : List (Nat × (Nat × List (List AVal)))} {P : Program} {V V' : Operand → Option AVal} (hr : ∀ r, get row' r = get row r) : ∀ (l : List Operand), (∀ y ∈ l, V' y = V y) → dvals row' P V' l = dvals row P V l
  | [], _ => rfl
  | x :: r, h => by
    have hf : ∀ y, frz row' P y = frz row P y := fun y => by cases y <;> simp [frz, hr]
    simp only [dvals, h x (by simp), dvals_congr hr r (fun y hy => h y (by simp [hy])), hf]

theorem opok_ext (hr : Runs ops o s) (hd : dstOk C o) {y : Operand} {xs : Array Operand} {ts : Array TypeId} (ho : o.op = .call { callee := .value y, args := xs, argTypes := ts }) {k : Nat} (hy : s.val y = some (.ext k)) {args : List AVal} (ha : dvals s.row C.P s.val xs.toList = some args) {u : Value} (hc : C.Φ k args u) :
    OpOk C ops o s ⟨[], [], true, false⟩ (ups o (.lit u)) := by
  intro s' a w Q K hu hbx hrw hG hK
  rw [if_pos (runs_wanted hr hu hG)]
  obtain ⟨g, he, hh⟩ := hG.split
  have hv := val_congr hu
  have hy' : s'.val y = some (.ext k) := (hv y (by rw [ho]; simp [Op.operands, Call.operands])).trans hy
  have ha' := (dvals_congr (P := C.P) (V := s.val) (V' := s'.val) (hrw (.inl rfl)) xs.toList (fun y hy => hv y (by rw [ho]; simp only [Op.operands, Call.operands, Array.toList_append, List.mem_append]; exact .inr hy))).trans ha
  obtain ⟨f, caps, h1, h2, h3⟩ := St.val_sound he y _ hy'
  have hp := dvals_sound (St.val_sound he) xs.toList args ha'
  have hrun : (execOp a.eval o).run C.P w = .ok (.enter f ((xs.toList.map a.eval).toArray ++ caps)) w := by
    unfold execOp
    rw [ho]
    simp only [resolve, h1, Deferred.ofValue, Sem.run_bind, Sem.run_pure, Result.andThen_ok, invoke]
    rw [show (#[] ++ xs.map a.eval ++ caps : Array Value) = (xs.toList.map a.eval).toArray ++ caps by apply Array.ext'; simp]
    exact run_callFunc h2 _ w
  unfold Oper.wp
  rw [hrun]
  refine (h3 args u hc w g.m (Lat.refl _ _) hh.marks (xs.toList.map a.eval) hp.1 hp.2).mono ?_
  · rintro e w' ⟨rfl, k2⟩
    have hM : Marks w' g.m := fun b hb => hh.marks b (Nat.le_trans k2.size hb)
    obtain ⟨k5, k6⟩ := hh.step k2 (fun _ _ => rfl) hM
    refine hK _ _ ?_
    rw [ups_app]
    refine Gam.of ?_ (by rw [St.put_box, St.put_row]; exact k5)
    rw [St.put_row]
    exact (he.lat k6 (fun _ _ h => h) (fun _ _ _ _ => rfl)).put hd.lt (relT_of_relD (.lit u))

end
end Go.Va
set_option linter.unusedVariables false
set_option linter.unusedSimpArgs false
set_option autoImplicit false
/-! Regions and code. -/
namespace Go.Va
open RowKit

/-- x is there, and f of it. -/
def req {α : Type} (x : Option α) (f : α → Prop) : Prop := match x with
  | some a => f a
  | none => False
theorem req_some {α : Type} (a : α) (f : α → Prop) : req (some a) f = f a := rfl
theorem req_none {α : Type} (f : α → Prop) : req (none : Option α) f = False := rfl
theorem req_elim {α : Type} {x : Option α} {f : α → Prop} (h : req x f) : ∃ a, x = some a ∧ f a := by
  cases x with
  | none => exact h.elim
  | some a => exact ⟨a, rfl, h⟩

section
variable {C : Ctx} {ops : Array Oper} {o : Oper} {s : St}

/-- One operation. -/
def astep (C : Ctx) (o : Oper) (s : St) (K : St → Fp → Prop) : Prop := match o.op with
  | .alloc T => match o.dst with
    | some d => req (Tzero C.P T) fun zs => get s.box d = none ∧ K { env := (d, .box d 0) :: s.env, box := (d, zs.map ofC) :: s.box, row := s.row } ⟨[], [d], false, false⟩
    | none => False
  | .box T y => match o.dst with
    | some d => req (s.val y) fun x => req (cellsT x) fun cs => get s.box d = none ∧ K { env := (d, .box d 0) :: s.env, box := (d, cs) :: s.box, row := s.row } ⟨[], [d], false, false⟩
    | none => False
  | .load t y => req (aload C.P s t (s.val y)) fun x => K (s.put o.dst x) ⟨boxOf (s.val y), [], true, false⟩
  | .store t y x => match o.dst with
    | none => req (astore C.P s t (s.val y) (s.val x)) fun p => K { env := s.env, box := (p.1, p.2) :: s.box, row := s.row } ⟨[], [p.1], false, false⟩
    | some _ => False
  | .buildSlice t n parts => req (frzParts s.row C.P s.val parts.toList) fun ps => req (alits C.P t n ps) fun x => K (s.put o.dst x) ⟨[], [], true, false⟩
  | .call { callee := .builtin .append, args := as, argTypes := ts } => match as.toList, ts.toList, o.dst with
    | [y, x], [t, tx], some d => req (Telem C.P t) fun e => req (Tsz C.P e) fun z => req (Tby C.P e) fun b => req (Tzero C.P e) fun zs => req (aapp C.P s d e z (s.val y)) fun p => req (asrc C.P s.row z tx (s.val x)) fun ys =>
        zs.length = z ∧ (p.2.length + ys.length) * b ≤ most ∧ p.2.length + ys.length ≤ most ∧ K { env := (d, .row p.1 (p.2.length + ys.length)) :: s.env, box := s.box, row := (p.1, (e, p.2 ++ ys)) :: s.row } ⟨[], [], false, true⟩
    | _, _, _ => False
  | .call { callee := .value y, args := xs, argTypes := ts } => match s.val y with
    | some (.clo f []) => req (fvals s.row C.P s.val xs.toList) fun as => ∃ r, ACalls C.P C.Φ f as r ∧ K (s.put o.dst r) ⟨[], [], true, false⟩
    | some (.ext k) => req (dvals s.row C.P s.val xs.toList) fun as => ∃ u, C.Φ k as u ∧ K (s.put o.dst (.lit u)) ⟨[], [], true, false⟩
    | _ => False
  | op => req (apure C.P s.row s.val op) fun x => K (s.put o.dst x) ⟨[], [], rowy op, false⟩

theorem astep_sound (hr : Runs ops o s) (hd : dstOk C o) {K : St → Fp → Prop} (h : astep C o s K) : ∃ fp us, OpOk C ops o s fp us ∧ UsOk o fp us ∧ K (us.foldl St.app s) fp := by
  have pure : req (apure C.P s.row s.val o.op) (fun x => K (s.put o.dst x) ⟨[], [], rowy o.op, false⟩) → ∃ fp us, OpOk C ops o s fp us ∧ UsOk o fp us ∧ K (us.foldl St.app s) fp := by
    intro h
    obtain ⟨x, h1, h2⟩ := req_elim h
    exact ⟨_, _, opok_pure hr hd h1, upsOk _ x, by rw [ups_app]; exact h2⟩
  unfold astep at h
  split at h
  · rename_i T ho
    split at h
    · rename_i d hdd
      obtain ⟨zs, h1, h2, h3⟩ := req_elim h
      refine ⟨_, _, opok_alloc hr hdd (hd.lt d hdd) h2 ho h1, ?_, h3⟩
      intro u hu
      simp only [List.mem_cons, List.not_mem_nil, or_false] at hu
      rcases hu with rfl | rfl
      · exact List.mem_singleton.2 rfl
      · exact hdd
    · exact h.elim
  · rename_i T y ho
    split at h
    · rename_i d hdd
      obtain ⟨x, h1, h⟩ := req_elim h
      obtain ⟨cs, h2, h3, h4⟩ := req_elim h
      refine ⟨_, _, opok_box hr hdd (hd.lt d hdd) h3 ho h1 h2, ?_, h4⟩
      intro u hu
      simp only [List.mem_cons, List.not_mem_nil, or_false] at hu
      rcases hu with rfl | rfl
      · exact List.mem_singleton.2 rfl
      · exact hdd
    · exact h.elim
  · rename_i t y ho
    obtain ⟨x, h1, h2⟩ := req_elim h
    exact ⟨_, _, opok_load hr hd ho h1, upsOk _ x, by rw [ups_app]; exact h2⟩
  · rename_i t y x ho
    split at h
    · rename_i hdd
      obtain ⟨p, h1, h2⟩ := req_elim h
      refine ⟨_, _, opok_store hr ho hdd h1, ?_, h2⟩
      intro u hu
      rw [List.mem_singleton.1 hu]
      exact List.mem_singleton.2 rfl
    · exact h.elim
  · rename_i t n parts ho
    obtain ⟨ps, h1, h⟩ := req_elim h
    obtain ⟨x, h2, h3⟩ := req_elim h
    exact ⟨_, _, opok_lits hr hd ho h1 h2, upsOk _ x, by rw [ups_app]; exact h3⟩
  · rename_i as ts ho
    split at h
    · rename_i y x t tx d has hts hdd
      obtain ⟨e, h1, h⟩ := req_elim h
      obtain ⟨z, h2, h⟩ := req_elim h
      obtain ⟨b, h3, h⟩ := req_elim h
      obtain ⟨zs, h4, h⟩ := req_elim h
      obtain ⟨p, h5, h⟩ := req_elim h
      obtain ⟨ys, h6, h7, h8, h9, h10⟩ := req_elim h
      have ho' : o.op = .call { callee := .builtin .append, args := #[y, x], argTypes := #[t, tx] } := by
        rw [ho]
        congr 2
        · apply Array.ext'; simpa using has
        · apply Array.ext'; simpa using hts
      refine ⟨_, _, opok_append hr hdd (hd.lt d hdd) ho' h1 h2 h3 h4 h7 h5 h6 h8 h9, ?_, h10⟩
      intro u hu
      simp only [List.mem_cons, List.not_mem_nil, or_false] at hu
      rcases hu with rfl | rfl
      · rfl
      · exact hdd
    · exact h.elim
  · rename_i y xs ts ho
    split at h
    · rename_i f hy
      obtain ⟨as, h1, r, h2, h3⟩ := req_elim h
      exact ⟨_, _, opok_call hr hd ho hy h1 h2, upsOk _ r, by rw [ups_app]; exact h3⟩
    · rename_i k hy
      obtain ⟨as, h1, u, h2, h3⟩ := req_elim h
      exact ⟨_, _, opok_ext hr hd ho hy h1 h2, upsOk _ _, by rw [ups_app]; exact h3⟩
    · exact h.elim
  · rename_i op _ _ _ _ _ _ _
    exact pure h

/-- What an operation may turn the state into. -/
def OpN (C : Ctx) (ops : Array Oper) (o : Oper) (s : St) (K0 : St → Prop) : Prop :=
  ∀ (a : Act) (w : World) (Q : Exit → Act → World → Prop) (K : Act → World → Prop), Gam C s a w → (∀ s' a' w', K0 s' → Gam C s' a' w' → K a' w') → if Region.wanted o (yielded ops a.tmps) = true then o.wp C.P a w K Q else K (a.put o.dst undef) w
theorem OpOk.toN {fp : Fp} {us : List Upd} {K0 : St → Prop} (h : OpOk C ops o s fp us) (hk : K0 (us.foldl St.app s)) : OpN C ops o s K0 := fun a w Q K hG hK => h s a w Q K (fun _ _ => rfl) (fun _ _ => rfl) (fun _ _ => rfl) hG (fun a' w' hG' => hK _ a' w' hk hG')

/-- One operation that may have several outcomes. -/
def astepN (C : Ctx) (o : Oper) (s : St) (K : St → Fp → Prop) : Prop := match o.op with
  | .call { callee := .value y, args := xs, argTypes := ts } => match s.val y with
    | some (.clo f []) => req (fvals s.row C.P s.val xs.toList) fun as => (∃ R, ACallsP C.P C.Φ f as R ∧ ∀ r, R r → K (s.put o.dst r) ⟨[], [], true, false⟩) ∨ (∃ d T L, o.dst = some d ∧ ACallsR C.P C.Φ f as T L ∧ get s.row d = none ∧ K { env := (d, .row d L.length) :: s.env, box := s.box, row := (d, (T, L)) :: s.row } ⟨[], [], true, true⟩)
    | _ => astep C o s K
  | .binOp .eql t x (.const (.slice none 0 0)) t' => match s.val x with
    | some (.sl f z xs) => req (Telem C.P t) fun _ => ∀ b : Bool, (b = true → xs = []) → K (s.put o.dst (.bool b)) ⟨[], [], false, false⟩
    | _ => astep C o s K
  | _ => astep C o s K

theorem opn_call (hr : Runs ops o s) (hd : dstOk C o) {y : Operand} {xs : Array Operand} {ts : Array TypeId} (ho : o.op = .call { callee := .value y, args := xs, argTypes := ts }) {f : FuncId} (hy : s.val y = some (.clo f [])) {args : List AVal} (ha : fvals s.row C.P s.val xs.toList = some args) {R : AVal → Prop} (hc : ACallsP C.P C.Φ f args R) {K0 : St → Prop} (hk : ∀ r, R r → K0 (s.put o.dst r)) :
    OpN C ops o s K0 := by
  intro a w Q K hG hK
  rw [if_pos (runs_wanted hr (fun _ _ => rfl) hG)]
  obtain ⟨g, he, hh⟩ := hG.split
  obtain ⟨caps, h1, h2, _⟩ := St.val_sound he y _ hy
  have hcaps : caps = [] := List.eq_nil_of_length_eq_zero h2
  subst hcaps
  have hp := fvals_sound (St.val_sound he) xs.toList args ha
  have hrun : (execOp a.eval o).run C.P w = .ok (.enter f (xs.toList.map a.eval).toArray) w := by
    unfold execOp
    rw [ho]
    simp only [resolve, h1, Deferred.ofValue, Sem.run_bind, Sem.run_pure, Result.andThen_ok, invoke]
    rw [show (#[] ++ xs.map a.eval ++ [].toArray : Array Value) = (xs.toList.map a.eval).toArray by apply Array.ext'; simp]
    exact run_callFunc hc.1 _ w
  unfold Oper.wp
  rw [hrun]
  refine (hc.2 w g.m (xs.toList.map a.eval) hh.marks hp.1 hp.2).mono ?_
  rintro e w' ⟨x, hx, v, m', rfl, k1, k2, k3, k4⟩
  obtain ⟨k5, k6⟩ := hh.step k2 k3 k4
  refine hK _ _ _ (hk x hx) ?_
  refine Gam.of ?_ (by rw [St.put_box, St.put_row]; exact k5)
  rw [St.put_row]
  exact (he.lat (g' := { ρ := g.ρ, κ := g.κ, m := m' }) k6 (fun _ _ h => h) (fun _ _ _ _ => rfl)).put hd.lt (relT_of_relD (g := { ρ := g.ρ, κ := g.κ, m := m' }) k1)

theorem opn_callR (hr : Runs ops o s) (hd : dstOk C o) {y : Operand} {xs : Array Operand} {ts : Array TypeId} (ho : o.op = .call { callee := .value y, args := xs, argTypes := ts }) {d : Tmp} (hdd : o.dst = some d) {f : FuncId} (hy : s.val y = some (.clo f [])) {args : List AVal} (ha : fvals s.row C.P s.val xs.toList = some args) {T : TypeId} {L : List (List AVal)} (hc : ACallsR C.P C.Φ f args T L) (hrow : get s.row d = none) {K0 : St → Prop} (hk : K0 { env := (d, .row d L.length) :: s.env, box := s.box, row := (d, (T, L)) :: s.row }) :
    OpN C ops o s K0 := by
  intro a w Q K hG hK
  rw [if_pos (runs_wanted hr (fun _ _ => rfl) hG)]
  obtain ⟨g, he, hh⟩ := hG.split
  obtain ⟨caps, h1, h2, _⟩ := St.val_sound he y _ hy
  have hcaps : caps = [] := List.eq_nil_of_length_eq_zero h2
  subst hcaps
  have hp := fvals_sound (St.val_sound he) xs.toList args ha
  have hrun : (execOp a.eval o).run C.P w = .ok (.enter f (xs.toList.map a.eval).toArray) w := by
    unfold execOp
    rw [ho]
    simp only [resolve, h1, Deferred.ofValue, Sem.run_bind, Sem.run_pure, Result.andThen_ok, invoke]
    rw [show (#[] ++ xs.map a.eval ++ [].toArray : Array Value) = (xs.toList.map a.eval).toArray by apply Array.ext'; simp]
    exact run_callFunc hc.1 _ w
  unfold Oper.wp
  rw [hrun]
  refine (hc.2 w g.m (xs.toList.map a.eval) hh.marks hp.1 hp.2).mono ?_
  rintro e w' ⟨v, m', rfl, ⟨z, kz, k1⟩, k2, k3, k4, k5⟩
  obtain ⟨k6, k7⟩ := hh.step k2 k3 k4
  refine hK _ _ _ hk ?_
  have hH := hh.rowstep (w' := w') (m' := m') (r := d) (T := T) (L := L) (ys := []) (v := v) (fun b hb => .inl (k2.block b hb)) (hh.below.trans (k2.mono hh.below.size)) k7 (fun b hb => .inl (k3 b hb)) k4 (fun b hb => (k3 b (Nat.lt_of_lt_of_le hb hh.below.size)).trans (hh.old b hb)) ⟨z, kz, by rw [List.append_nil]; exact k1⟩ (fun b hb => by
    obtain ⟨q1, q2⟩ := k5 b hb
    refine ⟨Nat.le_trans hh.below.size q1, q2, fun id hid => ?_, fun r' T' L' _ hr' hs => ?_⟩
    · have := (hh.dom id b hid).1
      omega
    · obtain ⟨_, p⟩ := hh.rows r' T' L' hr'
      obtain ⟨_, ⟨n, c, arr, z, _, p2, _⟩, _⟩ := p b hs
      have := (Array.getElem?_eq_some_iff.1 p2).1
      omega) (.inl hrow)
  rw [List.append_nil] at hH
  have hE := (he.lat (g' := { ρ := g.ρ, κ := g.κ, m := m' }) k7 (fun _ _ h => h) (fun _ _ _ _ => rfl)).put hd.lt (x := .any) (v := v) trivial
  rw [hdd] at hE ⊢
  have hlt : d < a.tmps.size := Nat.lt_of_lt_of_le (hd.lt d hdd) he.2.1
  refine Gam.of ⟨hE.1, hE.2.1, fun u x hu => ?_⟩ hH
  rw [get_cons] at hu
  by_cases e : d = u
  · subst e
    rw [if_pos rfl] at hu
    injection hu with hu
    subst hu
    refine ⟨v, by simp [Act.put, hlt], T, L, get_here _ _ _, Nat.le_refl _, ⟨z, kz, by rw [List.take_length]; exact k1⟩, fun _ => (if_pos rfl).symm⟩
  · rw [if_neg e] at hu
    obtain ⟨q, h4, h5⟩ := he.2.2 u x hu
    have := h5.grow (g' := { ρ := g.ρ, κ := fun q => if q = d then v else g.κ q, m := m' }) (r := d) (T := T) (L := L) (ys := []) k7 (fun _ _ h => h) (fun q hq => if_neg hq) (.inl hrow)
    rw [List.append_nil] at this
    refine ⟨q, ?_, this⟩
    simp [Act.put, e, h4]

theorem opn_nil (hr : Runs ops o s) (hd : dstOk C o) {t t' e : TypeId} {x : Operand} (ho : o.op = .binOp .eql t x (.const (.slice none 0 0)) t') {f : Bool} {z : Nat} {xs : List (List AVal)} (hx : s.val x = some (.sl f z xs)) (ht : Telem C.P t = some e) {K0 : St → Prop} (hk : ∀ b : Bool, (b = true → xs = []) → K0 (s.put o.dst (.bool b))) :
    OpN C ops o s K0 := by
  intro a w Q K hG hK
  rw [if_pos (runs_wanted hr (fun _ _ => rfl) hG)]
  obtain ⟨g, he, hh⟩ := hG.split
  have hv : RelD w g.m (.sl f z xs) (a.eval x) := St.val_sound he x _ hx
  generalize hu : a.eval x = u at hv
  cases hv with
  | sl _ _ _ A c vv h1 h2 h3 h4 hN h5 hA h6 =>
    have hrun : (execOp a.eval o).run C.P w = .ok (.value (.bool A.isNone)) w := by
      unfold execOp
      rw [ho]
      have e1 : (eqGuard .eql t x (.const (.slice none 0 0)) (.slice A xs.length c) (.slice none 0 0)).run C.P w = .ok () w := rfl
      have e2 := Lib.run_eql_slice_nil (P := C.P) w t e A xs.length c 0 0 (elem_und ht)
      simp only [hu, show a.eval (.const (.slice none 0 0)) = .slice none 0 0 from rfl, Sem.run_bind, e1, e2, Result.andThen_ok, Sem.run_pure]
    unfold Oper.wp
    rw [hrun]
    refine hK _ _ _ (hk A.isNone fun hA' => ?_) ?_
    · cases xs with
      | nil => rfl
      | cons y ys =>
        obtain ⟨b, o, e⟩ := hA (by simp)
        rw [e] at hA'
        cases hA'
    · refine Gam.of ?_ (by rw [St.put_box, St.put_row]; exact hh)
      rw [St.put_row]
      exact he.put hd.lt (relT_of_relD (.lit _))

theorem astepN_sound (hr : Runs ops o s) (hd : dstOk C o) {K : St → Fp → Prop} (h : astepN C o s K) : OpN C ops o s fun s' => ∃ fp, K s' fp := by
  have det : astep C o s K → OpN C ops o s fun s' => ∃ fp, K s' fp := by
    intro h
    obtain ⟨fp, us, h1, _, h2⟩ := astep_sound (ops := ops) hr hd h
    exact h1.toN ⟨fp, h2⟩
  unfold astepN at h
  split at h
  · rename_i y xs ts ho
    split at h
    · rename_i f hy
      obtain ⟨as, h1, h⟩ := req_elim h
      rcases h with ⟨R, h2, h3⟩ | ⟨d, T, L, hdd, h2, h3, h4⟩
      · exact opn_call hr hd ho hy h1 h2 fun r hr => ⟨_, h3 r hr⟩
      · exact opn_callR hr hd ho hdd hy h1 h2 h3 ⟨_, h4⟩
    · exact det h
  · rename_i t x t' ho
    split at h
    · rename_i f z xs hx
      obtain ⟨e, h1, h2⟩ := req_elim h
      exact opn_nil hr hd ho hx h1 fun b hb => ⟨_, h2 b hb⟩
    · exact det h
  · exact det h

/-- Under its guard. -/
def gd (ops : Array Oper) (o : Oper) (s : St) (A B : Prop) : Prop := match o.guard with
  | none => A
  | some (j, want) => match (ops[j]?).bind (·.dst) with
    | some t => match get s.env t with
      | some (.lit (.bool b)) => (b = want → A) ∧ (b = (!want) → B)
      | some (.lit (.tuple _)) => B
      | _ => False
    | none => False
theorem gd_elim {A B : Prop} (h : gd ops o s A B) : (Runs ops o s ∧ A) ∨ (Skips ops o s ∧ B) := by
  unfold gd at h
  unfold Runs Skips
  cases hg : o.guard with
  | none => rw [hg] at h; exact .inl ⟨trivial, h⟩
  | some p =>
    obtain ⟨j, want⟩ := p
    rw [hg] at h
    simp only at h ⊢
    cases ht : (ops[j]?).bind (·.dst) with
    | none => rw [ht] at h; exact h.elim
    | some t =>
      rw [ht] at h
      simp only at h ⊢
      split at h
      · rename_i b hb
        by_cases e : b = want
        · subst e; exact .inl ⟨hb, h.1 rfl⟩
        · have e' : b = !want := by cases b <;> cases want <;> simp_all
          subst e'; exact .inr ⟨.inl hb, h.2 rfl⟩
      · rename_i l hb; exact .inr ⟨.inr ⟨l, hb⟩, h⟩
      · exact h.elim

/-- The operations of a region, in the order of the text. -/
def aOps (C : Ctx) (ops : Array Oper) : List Oper → St → (St → Prop) → Prop
  | [], s, K => K s
  | o :: r, s, K => gd ops o s (astepN C o s fun s' _ => aOps C ops r s' K) (aOps C ops r (s.put o.dst (.lit (.tuple #[]))) K)

theorem aOps_tail {K : St → Prop} {Q : Exit → Act → World → Prop} (tl : List Nat) (hd : ∀ o ∈ ops.toList, dstOk C o) : ∀ (l : List Nat) (s : St) (a : Act) (w : World), aOps C ops (l.filterMap fun i => ops[i]?) s K → Gam C s a w → (∀ a' w', (∃ s', K s' ∧ Gam C s' a' w') → wpOps C.P ops Q tl a' w') → wpOps C.P ops Q (l ++ tl) a w
  | [], s, a, w, h, hG, hQ => hQ a w ⟨s, h, hG⟩
  | i :: l, s, a, w, h, hG, hQ => by
    simp only [List.cons_append, wpOps]
    cases ho : ops[i]? with
    | none =>
      simp only
      simp only [List.filterMap_cons, ho] at h
      exact aOps_tail tl hd l s a w h hG hQ
    | some o =>
      simp only [List.filterMap_cons, ho] at h
      have hdo : dstOk C o := hd o (by rw [Array.mem_toList_iff]; exact Array.mem_of_getElem? ho)
      simp only
      have key : OpN C ops o s (fun s' => aOps C ops (l.filterMap fun i => ops[i]?) s' K) → if Region.wanted o (yielded ops a.tmps) = true then o.wp C.P a w (wpOps C.P ops Q (l ++ tl)) Q ∨ (o.asks C.P a w ∧ LetsOut Q) else wpOps C.P ops Q (l ++ tl) (a.put o.dst undef) w := by
        intro hok
        have := hok a w Q (wpOps C.P ops Q (l ++ tl)) hG (fun s' a' w' hk hG' => aOps_tail tl hd l _ a' w' hk hG' hQ)
        split
        · rename_i hw; rw [if_pos hw] at this; exact .inl this
        · rename_i hw; rw [if_neg hw] at this; exact this
      rcases gd_elim h with ⟨hr, h1⟩ | ⟨hs, h1⟩
      · refine key ?_
        intro a1 w1 Q1 K1 hG1 hK1
        exact astepN_sound (ops := ops) hr hdo h1 a1 w1 Q1 K1 hG1 (fun s' a' w' ⟨_, hk⟩ hG' => hK1 s' a' w' hk hG')
      · refine key ((opok_skip hs hdo).toN ?_)
        cases hdd : o.dst with
        | none => rw [hdd] at h1; exact h1
        | some d => rw [hdd] at h1; exact h1

theorem aOps_sound {K : St → Prop} {Q : Exit → Act → World → Prop} (hd : ∀ o ∈ ops.toList, dstOk C o) (l : List Nat) (s : St) (a : Act) (w : World) (h : aOps C ops (l.filterMap fun i => ops[i]?) s K) (hG : Gam C s a w) (hQ : ∀ a' w', (∃ s', K s' ∧ Gam C s' a' w') → Q .normal a' w') : wpOps C.P ops Q l a w := by
  have := aOps_tail (Q := Q) [] hd l s a w h hG hQ
  rwa [List.append_nil] at this

/-! #### code -/
abbrev Post := Exit → St → Prop
/-- From state s the code ends as Q says. -/
def ACode (C : Ctx) (c : Code) (s : St) (Q : Post) : Prop := ∀ a w, Gam C s a w → c.wp C.P (fun e a' w' => ∃ s', Q e s' ∧ Gam C s' a' w') a w

def Then (K : St → Prop) (Q : Post) : Post
  | .normal, s => K s
  | e, s => Q e s
def Blk (id : Nat) (Q : Post) : Post
  | .exit i, s => if i = id then Q .normal s else Q (.exit i) s
  | e, s => Q e s
def allDst (nt : Nat) (ops : Array Oper) : Bool := ops.toList.all fun o => match o.dst with
  | some d => decide (d < nt)
  | none => true
theorem allDst_ok (h : allDst C.nt ops = true) : ∀ o ∈ ops.toList, dstOk C o := by
  intro o ho
  have := List.all_eq_true.1 h o ho
  unfold dstOk
  cases hd : o.dst with
  | some d => rw [hd] at this; exact of_decide_eq_true this
  | none => trivial

theorem range_ops (ops : Array Oper) : (List.range ops.size).filterMap (fun i => ops[i]?) = ops.toList := by
  apply List.ext_getElem?
  intro i
  have : ∀ (n : Nat), n ≤ ops.size → (List.range n).filterMap (fun i => ops[i]?) = ops.toList.take n := by
    intro n
    induction n with
    | zero => intro _; rfl
    | succ n ih =>
      intro hn
      rw [List.range_succ, List.filterMap_append, ih (by omega), List.take_add_one]
      simp [Array.getElem?_eq_getElem (show n < ops.size by omega)]
  rw [this ops.size (Nat.le_refl _), ← Array.length_toList, List.take_length]

variable {Q : Post} {K : St → Prop}
theorem ACode.region {id : Nat} (hd : allDst C.nt ops = true) (h : aOps C ops ops.toList s (Q .normal)) : ACode C (.region id ops false) s Q := by
  intro a w hG
  refine wp_region (aOps_sound (allDst_ok hd) _ s a w (by rw [range_ops]; exact h) hG ?_)
  rintro a' w' ⟨s', h1, h2⟩
  exact ⟨s', h1, h2⟩
theorem ACode.mono {c : Code} {Q' : Post} (h : ACode C c s Q) (hq : ∀ e s, Q e s → Q' e s) : ACode C c s Q' :=
  fun a w hG => wp_mono (h a w hG) fun e a' w' ⟨s', h1, h2⟩ => ⟨s', hq _ _ h1, h2⟩
theorem ACode.seq {x y : Code} (h : ACode C x s (Then (fun s' => ACode C y s' Q) Q)) : ACode C (.seq x y) s Q := by
  intro a w hG
  refine wp_seq (wp_mono (h a w hG) ?_)
  rintro e a' w' ⟨s', h1, h2⟩
  cases e with
  | normal => exact h1 a' w' h2
  | _ => exact ⟨s', h1, h2⟩
/-- The rest is hidden. -/
theorem ACode.seq_k {x y : Code} (h : ∀ K : St → Prop, (∀ s', ACode C y s' Q → K s') → ACode C x s (Then K Q)) : ACode C (.seq x y) s Q := ACode.seq (h _ fun _ h => h)
theorem ACode.region_k {id : Nat} (hd : allDst C.nt ops = true) (h : aOps C ops ops.toList s K) : ACode C (.region id ops false) s (Then K Q) := ACode.region hd h
theorem ACode.cond {c : Operand} {x y : Code} {b : Bool} (hc : s.val c = some (.lit (.bool b))) (ht : b = true → ACode C x s Q) (hf : b = false → ACode C y s Q) : ACode C (.cond c x y) s Q := by
  intro a w hG
  obtain ⟨g, he, hh⟩ := hG.split
  have hv := relT_lit (St.val_sound he c _ hc)
  cases b with
  | true => exact wp_cond_true hv (ht rfl a w hG)
  | false => exact wp_cond_false hv (hf rfl a w hG)
theorem ACode.block {id : Nat} {c : Code} (h : ACode C c s (Blk id Q)) : ACode C (.block id c) s Q := by
  intro a w hG
  refine wp_block (wp_mono (h a w hG) ?_)
  rintro e a' w' ⟨s', h1, h2⟩
  cases e with
  | exit i =>
    simp only [Exit.inBlock, Blk] at h1 ⊢
    split
    · rename_i he; rw [if_pos he] at h1; exact ⟨s', h1, h2⟩
    · rename_i he; rw [if_neg he] at h1; exact ⟨s', h1, h2⟩
  | _ => exact ⟨s', h1, h2⟩
theorem ACode.skip (h : Q .normal s) : ACode C .skip s Q := fun a w hG => wp_skip ⟨s, h, hG⟩
theorem ACode.exit {id : Nat} (h : Q (.exit id) s) : ACode C (.exit id) s Q := fun a w hG => wp_exit ⟨s, h, hG⟩
theorem ACode.ret (h : Q .ret s) : ACode C .ret s Q := fun a w hG => wp_ret ⟨s, h, hG⟩
theorem ACode.label {l : Nat} (h : Q .normal s) : ACode C (.label l) s Q := fun a w hG => wp_label ⟨s, h, hG⟩

/-- A loop's rounds, from a round's head on. -/
def Loops (P : Program) (c : Code) (Q : Exit → Act → World → Prop) (a : Act) (w : World) : Prop :=
  ∀ (b : Frame) (k : List Item) (cs : List Frame), ∃ e a' w', Q e a' w' ∧ Arrives P (lone (b.at a (.code c :: .inLoop c :: k)) cs w) b k cs e a' w'
def ALoop (C : Ctx) (c : Code) (s : St) (Q : Post) : Prop := ∀ a w, Gam C s a w → Loops C.P c (fun e a' w' => ∃ s', Q e s' ∧ Gam C s' a' w') a w
theorem ACode.loop {c : Code} (h : ALoop C c s Q) : ACode C (.loop c) s Q := by
  intro a w hG b k cs
  obtain ⟨e, a', w', h1, h2⟩ := h a w hG b k cs
  exact ⟨e, a', w', h1, .of_steps (.one step_loop) h2⟩
theorem ALoop.round {c : Code} (h : ACode C c s (Then (fun s' => ALoop C c s' Q) Q)) : ALoop C c s Q := by
  intro a w hG b k cs
  obtain ⟨e, a₁, w₁, ⟨s', hq, hG'⟩, harr⟩ := h a w hG b (.inLoop c :: k) cs
  cases e with
  | normal =>
    obtain ⟨e₂, a₂, w₂, hq₂, harr₂⟩ := hq a₁ w₁ hG' b k cs
    exact ⟨e₂, a₂, w₂, hq₂, .of_steps (Steps.trans harr (.one step_inLoop)) harr₂⟩
  | exit id => exact ⟨_, a₁, w₁, ⟨s', hq, hG'⟩, .pass (x := .inLoop c) rfl (fun _ _ => .inl (by simp)) harr⟩
  | goto l => exact ⟨_, a₁, w₁, ⟨s', hq, hG'⟩, .pass (x := .inLoop c) rfl (fun _ _ => .inl (by simp)) harr⟩
  | ret => exact ⟨_, a₁, w₁, ⟨s', hq, hG'⟩, .pass (x := .inLoop c) rfl (fun _ _ => .inl (by simp)) harr⟩
  | panic ch => exact ⟨_, a₁, w₁, ⟨s', hq, hG'⟩, .pass (x := .inLoop c) rfl (fun _ _ => .inl (by simp)) harr⟩
  | outgrown => exact ⟨_, a₁, w₁, ⟨s', hq, hG'⟩, .pass (x := .inLoop c) rfl (fun _ _ => .inl (by simp)) harr⟩
theorem ALoop.round_k {c : Code} (h : ∀ K : St → Prop, (∀ s', ALoop C c s' Q → K s') → ACode C c s (Then K Q)) : ALoop C c s Q := ALoop.round (h _ fun _ h => h)

end
end Go.Va
set_option linter.unusedVariables false
set_option linter.unusedSimpArgs false
set_option autoImplicit false
/-! Forgetting; functions. -/
namespace Go.Va
open RowKit
section
variable {C : Ctx} {s s' : St}

def refB (s : St) : AVal → Prop
  | .box id _ => ∃ cs, get s.box id = some cs
  | _ => True
/-- What a value leads to is still told of. -/
def refOk (s : St) : AVal → Prop
  | .box id _ => ∃ cs, get s.box id = some cs
  | .clo _ caps => ∀ x ∈ caps, refB s x
  | .row r _ => ∃ p, get s.row r = some p
  | _ => True
/-- y is told by what tells x. -/
inductive Le : AVal → AVal → Prop
  | refl (x : AVal) : Le x x
  | sl (f f' : Bool) (z z' : Nat) (xs ys : List (List AVal)) (hz : z = z' ∨ ys = []) (hl : xs.length = ys.length) (hf : f' = true → f = true)
      (he : ∀ (j : Nat) (e e' : List AVal), xs[j]? = some e → ys[j]? = some e' → e.length = e'.length)
      (h : ∀ (j : Nat) (e e' : List AVal) (i : Nat) (x y : AVal), xs[j]? = some e → ys[j]? = some e' → e[i]? = some x → e'[i]? = some y → Le x y) : Le (.sl f z xs) (.sl f' z' ys)
  | agg (cs ds : List AVal) (hl : cs.length = ds.length) (h : ∀ (i : Nat) (x y : AVal), cs[i]? = some x → ds[i]? = some y → Le x y) : Le (.agg cs) (.agg ds)
  | tup (cs ds : List AVal) (hl : cs.length = ds.length) (h : ∀ (i : Nat) (x y : AVal), cs[i]? = some x → ds[i]? = some y → Le x y) : Le (.tup cs) (.tup ds)
theorem Le.slz {f f' : Bool} {z z' : Nat} {xs : List (List AVal)} (hz : z = z' ∨ xs = []) (hf : f' = true → f = true) : Le (.sl f z xs) (.sl f' z' xs) :=
  .sl f f' z z' xs xs hz rfl hf (fun j e e' h1 h2 => by rw [h1] at h2; injection h2 with h2; rw [h2]) (fun j e e' i x y h1 h2 h3 h4 => by
    rw [h1] at h2; injection h2 with h2; subst h2; rw [h3] at h4; injection h4 with h4; subst h4; exact .refl _)
theorem Le.relD {w : World} {m : Nat → Nat} {x y : AVal} (h : Le x y) : ∀ {v : Value}, RelD w m x v → RelD w m y v := by
  induction h with
  | refl x => exact id
  | sl f f' z z' xs ys hz hl hf he h ih =>
    intro v hv
    cases hv with
    | sl _ _ _ A c vv h1 h2 h3 h4 hN h5 hA h6 =>
      have get : ∀ (j : Nat) (e' : List AVal), ys[j]? = some e' → ∃ e, xs[j]? = some e ∧ e.length = e'.length := by
        intro j e' hj
        have hlt : j < xs.length := by rw [hl]; exact (List.getElem?_eq_some_iff.1 hj).1
        exact ⟨xs[j], List.getElem?_eq_getElem hlt, he j _ _ (List.getElem?_eq_getElem hlt) hj⟩
      have hzz : ∀ (j : Nat) (e' : List AVal), ys[j]? = some e' → z = z' := by
        intro j e' hj
        rcases hz with hz | hz
        · exact hz
        · subst hz; simp at hj
      rw [hl]
      refine .sl f' z' ys A c vv ?_ (by omega) (by omega) (fun hf' => by rw [← hl]; exact h4 (hf hf')) hN ?_ ?_ ?_
      · intro e' he'
        obtain ⟨j, hj, e1⟩ := List.mem_iff_getElem.1 he'
        have hj' : ys[j]? = some e' := by rw [← e1]; exact List.getElem?_eq_getElem hj
        obtain ⟨e, k1, k2⟩ := get j e' hj'
        rw [← k2, h1 e (List.mem_of_getElem? k1), hzz j e' hj']
      · intro j e' i hj hi
        obtain ⟨e, k1, k2⟩ := get j e' hj
        have := h5 j e i k1 (by omega)
        rwa [hzz j e' hj] at this
      · intro hne
        refine hA ?_
        intro hx
        subst hx
        exact hne (List.eq_nil_of_length_eq_zero hl.symm)
      · intro j e' i y hj hi
        obtain ⟨e, k1, k2⟩ := get j e' hj
        have hlt : i < e.length := by rw [k2]; exact (List.getElem?_eq_some_iff.1 hi).1
        exact ih j e e' i e[i] y k1 hj (List.getElem?_eq_getElem hlt) hi (h6 j e i e[i] k1 (List.getElem?_eq_getElem hlt))
  | agg cs ds hl h ih =>
    intro v hv
    cases hv with
    | agg _ vs h1 h2 h3 =>
      refine .agg ds vs (h1.trans hl) h2 (fun i y v hy hv => ?_)
      have hlt : i < cs.length := by rw [hl]; exact (List.getElem?_eq_some_iff.1 hy).1
      exact ih i cs[i] y (List.getElem?_eq_getElem hlt) hy (h3 i cs[i] v (List.getElem?_eq_getElem hlt) hv)
  | tup cs ds hl h ih =>
    intro v hv
    cases hv with
    | tup _ vs h1 h3 =>
      refine .tup ds vs (h1.trans hl) (fun i y v hy hv => ?_)
      have hlt : i < cs.length := by rw [hl]; exact (List.getElem?_eq_some_iff.1 hy).1
      exact ih i cs[i] y (List.getElem?_eq_getElem hlt) hy (h3 i cs[i] v (List.getElem?_eq_getElem hlt) hv)
def LeL (cs ds : List AVal) : Prop := cs.length = ds.length ∧ ∀ (i : Nat) (x y : AVal), cs[i]? = some x → ds[i]? = some y → Le x y
theorem LeL.refl (cs : List AVal) : LeL cs cs := ⟨rfl, fun i x y h1 h2 => by rw [h1] at h2; injection h2 with h2; rw [h2]; exact .refl _⟩
theorem LeL.nil : LeL [] [] := ⟨rfl, by simp⟩
theorem LeL.cons {x y : AVal} {cs ds : List AVal} (h : Le x y) (hr : LeL cs ds) : LeL (x :: cs) (y :: ds) := by
  refine ⟨by simp [hr.1], fun i a b h1 h2 => ?_⟩
  cases i with
  | zero => simp at h1 h2; subst h1; subst h2; exact h
  | succ i => exact hr.2 i a b (by simpa using h1) (by simpa using h2)
theorem LeL.agg {cs ds : List AVal} (h : LeL cs ds) : Le (.agg cs) (.agg ds) := .agg cs ds h.1 h.2
theorem LeL.tup {cs ds : List AVal} (h : LeL cs ds) : Le (.tup cs) (.tup ds) := .tup cs ds h.1 h.2
/-- s' says less. -/
structure Weak (s s' : St) : Prop where
  env : ∀ t x, get s'.env t = some x → ∃ y, get s.env t = some y ∧ Le y x
  box : ∀ t cs, get s'.box t = some cs → ∃ ds, get s.box t = some ds ∧ LeL ds cs
  row : ∀ t x, get s'.row t = some x → get s.row t = some x
  refE : ∀ t x, get s'.env t = some x → refOk s' x
  refB : ∀ t cs, get s'.box t = some cs → ∀ x ∈ cs, refOk s' x
theorem get_mem {α : Type} : ∀ {l : List (Nat × α)} {t : Nat} {x : α}, get l t = some x → (t, x) ∈ l
  | [], t, x, h => by cases h
  | (k, v) :: l, t, x, h => by
    rw [get_cons] at h
    by_cases e : k = t
    · rw [if_pos e] at h
      injection h with h
      subst e; subst h
      exact List.mem_cons_self
    · rw [if_neg e] at h
      exact List.mem_cons_of_mem _ (get_mem h)

theorem Gam.weak {a : Act} {w : World} (h : Gam C s a w) (hw : Weak s s') : Gam C s' a w := by
  obtain ⟨g, he, hh⟩ := h.split
  have henv := hw.env
  have hbox := hw.box
  have hrow := hw.row
  let g' : Gh := { ρ := fun id => if (get s'.box id).isSome then g.ρ id else none, κ := g.κ, m := g.m }
  have hρ : ∀ id b, g'.ρ id = some b → g.ρ id = some b := by
    intro id b hb
    have hb' : (if (get s'.box id).isSome then g.ρ id else none) = some b := hb
    split at hb'
    · exact hb'
    · cases hb'
  have hρ2 : ∀ id b cs, get s'.box id = some cs → g.ρ id = some b → g'.ρ id = some b := by
    intro id b cs hc hb
    show (if (get s'.box id).isSome then g.ρ id else none) = some b
    rw [hc]
    exact hb
  have key : ∀ {y x : AVal} {v : Value}, Le y x → refOk s' x → RelT C s.row g w y v → RelT C s'.row g' w x v := by
    intro y x v hle hr hx
    rcases hle with _ | ⟨f, f', z, z', xs, ys, hz, hl, hf, he, h⟩ | ⟨cs, ds, hl, h⟩ | ⟨cs, ds, hl, h⟩
    case sl => exact Le.relD (.sl f f' z z' xs ys hz hl hf he h) hx
    case agg => exact Le.relD (.agg cs ds hl h) hx
    case tup => exact Le.relD (.tup cs ds hl h) hx
    generalize y = x at hr hx ⊢
    cases x with
    | row r n =>
      obtain ⟨T, L, h1, h2, h3, h4⟩ := hx
      obtain ⟨p, hp⟩ := hr
      have h5 := hrow r p hp
      rw [h1] at h5
      injection h5 with h5
      subst h5
      exact ⟨T, L, hp, h2, h3, h4⟩
    | box id off =>
      obtain ⟨b, h1, h2⟩ := hx
      obtain ⟨cs, hc⟩ := hr
      exact ⟨b, hρ2 id b cs hc h1, h2⟩
    | clo f cap =>
      obtain ⟨caps, h1, h2, h3⟩ := hx
      refine ⟨caps, h1, h2, fun i y u hy hu => ?_⟩
      have h4 := h3 i y u hy hu
      have h5 := hr y (List.mem_of_getElem? hy)
      cases y <;> first | exact h4.elim | skip
      obtain ⟨b, h6, h7⟩ := h4
      obtain ⟨cs, hc⟩ := h5
      exact ⟨b, hρ2 _ b cs hc h6, h7⟩
    | ext k => exact hx
    | any => trivial
    | lit v => exact hx
    | agg cs => exact hx
    | tup cs => exact hx
    | sl f z xs => exact hx
    | el cs off => exact hx
  refine Gam.of (g := g') ⟨he.1, he.2.1, fun t x ht => ?_⟩ ⟨?_, ?_, ?_, ?_, hh.marks, hh.below, hh.old⟩
  · obtain ⟨y, hy, hle⟩ := henv t x ht
    obtain ⟨v, h1, h2⟩ := he.2.2 t y hy
    exact ⟨v, h1, key hle (hw.refE t x ht) h2⟩
  · intro id cs hid
    obtain ⟨ds, hds, hle⟩ := hbox id cs hid
    obtain ⟨b, arr, T, h1, h2, h3, h4, h5, h6⟩ := hh.boxes id ds hds
    refine ⟨b, arr, T, hρ2 id b cs hid h1, h2, h3, h4.trans hle.1, h5, fun i x v hx hv => ?_⟩
    have hlt : i < ds.length := by rw [hle.1]; exact (List.getElem?_eq_some_iff.1 hx).1
    obtain ⟨h7, h8⟩ := h6 i ds[i] v (List.getElem?_eq_getElem hlt) hv
    exact ⟨h7, key (hle.2 i ds[i] x (List.getElem?_eq_getElem hlt) hx) (hw.refB id cs hid x (List.mem_of_getElem? hx)) h8⟩
  · intro i j b hi hj
    exact hh.inj i j b (hρ i b hi) (hρ j b hj)
  · intro id b hid
    refine ⟨(hh.dom id b (hρ id b hid)).1, ?_⟩
    have hb' : (if (get s'.box id).isSome then g.ρ id else none) = some b := hid
    split at hb'
    · rename_i hs
      exact Option.isSome_iff_exists.1 hs
    · cases hb'
  · intro r T L hr
    obtain ⟨h1, h2⟩ := hh.rows r T L (hrow r _ hr)
    refine ⟨h1, fun b hb => ?_⟩
    obtain ⟨h3, h4, h5, h6⟩ := h2 b hb
    exact ⟨h3, h4, fun id hid => h5 id (hρ id b hid), fun r' T' L' hr' hg => h6 r' T' L' hr' (hrow r' _ hg)⟩

/-- Less, told by the lists. -/
theorem Weak.of (h1 : ∀ p ∈ s'.env, ∃ y, get s.env p.1 = some y ∧ Le y p.2) (h2 : ∀ p ∈ s'.box, ∃ ds, get s.box p.1 = some ds ∧ LeL ds p.2) (h3 : ∀ p ∈ s'.row, get s.row p.1 = some p.2) (h4 : ∀ p ∈ s'.env, refOk s' p.2) (h5 : ∀ p ∈ s'.box, ∀ x ∈ p.2, refOk s' x) : Weak s s' :=
  ⟨fun t x h => h1 _ (get_mem h), fun t x h => h2 _ (get_mem h), fun t x h => h3 _ (get_mem h), fun t x h => h4 _ (get_mem h), fun t x h => h5 _ (get_mem h)⟩
/-- What the machine holds leads to what is told of. -/
theorem Gam.refs {a : Act} {w : World} (h : Gam C s a w) : (∀ t x, get s.env t = some x → refOk s x) ∧ ∀ t cs, get s.box t = some cs → ∀ x ∈ cs, refOk s x := by
  obtain ⟨g, he, hh⟩ := h.split
  have key : ∀ {x : AVal} {v : Value}, RelT C s.row g w x v → refOk s x := by
    intro x v hx
    cases x with
    | row r n => obtain ⟨T, L, h1, _⟩ := hx; exact ⟨_, h1⟩
    | box id off => obtain ⟨b, h1, _⟩ := hx; exact (hh.dom id b h1).2
    | clo f cap =>
      obtain ⟨caps, h1, h2, h3⟩ := hx
      intro y hy
      obtain ⟨i, hi, e⟩ := List.mem_iff_getElem.1 hy
      have h4 := h3 i y caps[i] (by rw [← e]; exact List.getElem?_eq_getElem hi) (List.getElem?_eq_getElem (by omega))
      cases y <;> first | exact h4.elim | skip
      obtain ⟨b, h5, _⟩ := h4
      exact (hh.dom _ b h5).2
    | _ => trivial
  refine ⟨fun t x ht => ?_, fun t cs ht x hx => ?_⟩
  · obtain ⟨v, _, h2⟩ := he.2.2 t x ht
    exact key h2
  · obtain ⟨b, arr, T, h1, h2, h3, h4, h5, h6⟩ := hh.boxes t cs ht
    obtain ⟨i, hi, e⟩ := List.mem_iff_getElem.1 hx
    exact key (h6 i x arr[i] (by rw [← e]; exact List.getElem?_eq_getElem hi) (Array.getElem?_eq_getElem (by omega))).2
/-- States that say the same. -/
theorem Gam.ext {a : Act} {w : World} (h : Gam C s a w) (h1 : ∀ t, get s'.env t = get s.env t) (h2 : ∀ t, get s'.box t = get s.box t) (h3 : ∀ t, get s'.row t = get s.row t) : Gam C s' a w := by
  obtain ⟨r1, r2⟩ := h.refs
  have key : ∀ x, refOk s x → refOk s' x := by
    intro x hx
    cases x with
    | row r n => obtain ⟨p, hp⟩ := hx; exact ⟨p, (h3 r).trans hp⟩
    | box id off => obtain ⟨p, hp⟩ := hx; exact ⟨p, (h2 id).trans hp⟩
    | clo f cap =>
      intro y hy
      have := hx y hy
      cases y with
      | box id off => obtain ⟨p, hp⟩ := this; exact ⟨p, (h2 id).trans hp⟩
      | _ => trivial
    | _ => trivial
  exact h.weak ⟨fun t x ht => ⟨x, (h1 t).symm.trans ht, .refl x⟩, fun t x ht => ⟨x, (h2 t).symm.trans ht, .refl x⟩, fun t x ht => (h3 t).symm.trans ht, fun t x ht => key x (r1 t x ((h1 t).symm.trans ht)), fun t cs ht x hx => key x (r2 t cs ((h2 t).symm.trans ht) x hx)⟩

theorem ACode.weak {c : Code} {Q : Post} (hw : Weak s s') (h : ACode C c s' Q) : ACode C c s Q := fun a w hG => h a w (hG.weak hw)
theorem ALoop.weak {c : Code} {Q : Post} (hw : Weak s s') (h : ALoop C c s' Q) : ALoop C c s Q := fun a w hG => h a w (hG.weak hw)

/-- A slice without spare room, in a slot, begins an own row. -/
theorem Gam.begin {a : Act} {w : World} (h : Gam C s a w) {t r T z : Nat} {xs : List (List AVal)} (ht : get s.env t = some (.sl true z xs)) (hr : get s.row r = none) (hT : ∃ z', Tsz C.P T = some z' ∧ (z = z' ∨ xs = [])) :
    Gam C { env := (t, .row r xs.length) :: s.env, box := s.box, row := (r, (T, xs)) :: s.row } a w := by
  obtain ⟨g, he, hh⟩ := h.split
  obtain ⟨v, h1, h2⟩ := he.2.2 t _ ht
  obtain ⟨z', hz', hzz⟩ := hT
  have h3 := relD_sl_any (relT_sl h2) hzz
  obtain ⟨A, c, hv, _, _, hf, _⟩ := relD_sl_shape (relT_sl h2)
  have hH := hh.rowstep (r := r) (T := T) (L := xs) (ys := []) (v := v) (fun b _ => .inl rfl) hh.below (Lat.refl _ _) (fun b _ => .inl rfl) hh.marks hh.old ⟨z', hz', by rw [List.append_nil]; exact h3⟩ (fun b hb => by
    obtain ⟨a', n, c', e1, e2, _⟩ := spare_some hb
    rw [hv] at e1
    injection e1 with _ e3 e4
    have := hf rfl
    omega) (.inl hr)
  rw [List.append_nil] at hH
  refine Gam.of ⟨he.1, he.2.1, fun u y hu => ?_⟩ hH
  rw [get_cons] at hu
  by_cases e : t = u
  · subst e
    rw [if_pos rfl] at hu
    injection hu with hu
    subst hu
    refine ⟨v, h1, T, xs, get_here _ _ _, Nat.le_refl _, ⟨z', hz', by rw [List.take_length]; exact h3⟩, fun _ => (if_pos rfl).symm⟩
  · rw [if_neg e] at hu
    obtain ⟨q, h4, h5⟩ := he.2.2 u y hu
    have := h5.grow (g' := { ρ := g.ρ, κ := fun q => if q = r then v else g.κ q, m := g.m }) (r := r) (T := T) (L := xs) (ys := []) (Lat.refl _ _) (fun _ _ h => h) (fun q hq => if_neg hq) (.inl hr)
    rw [List.append_nil] at this
    exact ⟨q, h4, this⟩
theorem ALoop.begin {c : Code} {Q : Post} {t r T z : Nat} {xs : List (List AVal)} (ht : get s.env t = some (.sl true z xs)) (hr : get s.row r = none) (hT : ∃ z', Tsz C.P T = some z' ∧ (z = z' ∨ xs = []))
    (h : ALoop C c { env := (t, .row r xs.length) :: s.env, box := s.box, row := (r, (T, xs)) :: s.row } Q) : ALoop C c s Q := fun a w hG => h a w (hG.begin ht hr hT)
theorem ACode.begin {c : Code} {Q : Post} {t r T z : Nat} {xs : List (List AVal)} (ht : get s.env t = some (.sl true z xs)) (hr : get s.row r = none) (hT : ∃ z', Tsz C.P T = some z' ∧ (z = z' ∨ xs = []))
    (h : ACode C c { env := (t, .row r xs.length) :: s.env, box := s.box, row := (r, (T, xs)) :: s.row } Q) : ACode C c s Q := fun a w hG => h a w (hG.begin ht hr hT)

/-! #### functions -/
def ares1 (P : Program) (s : St) : ResultVar → Option AVal
  | .tmp t => match get s.env t with
    | some x => frz s.row P x
    | none => none
  | .cell t T => match aload P s T (get s.env t) with
    | some x => frz s.row P x
    | none => none
def aresL (P : Program) (s : St) : List ResultVar → Option (List AVal)
  | [] => some []
  | x :: r => match ares1 P s x with
    | none => none
    | some y => match aresL P s r with
      | none => none
      | some l => some (y :: l)
def ares (P : Program) (s : St) (rs : Array ResultVar) : Option AVal := match aresL P s rs.toList with
  | some [x] => some x
  | some l => some (.tup l)
  | none => none
def resM (tmps : Array Value) : ResultVar → Sem Value
  | .tmp t => pure (tmps.getD t undef)
  | .cell a t => do loadVar t (← asAddr (tmps.getD a undef))

theorem ares1_sound {g : Gh} {a : Act} {w : World} (he : Env C s.env s.row g a w) (hh : Hp C s.box s.row g w) {x : ResultVar} {y : AVal} (h : ares1 C.P s x = some y) : ∃ v, (resM a.tmps x).run C.P w = .ok v w ∧ RelD w g.m y v := by
  cases x with
  | tmp t =>
    simp only [ares1] at h
    split at h
    · rename_i x hx
      obtain ⟨v, h1, h2⟩ := he.2.2 t x hx
      refine ⟨v, ?_, frz_sound h2 h⟩
      simp [resM, Array.getD_eq_getD_getElem?, h1]
    · cases h
  | cell t T =>
    simp only [ares1] at h
    split at h
    · rename_i x hx
      obtain ⟨v, h1, h2⟩ := aload_sound (t := T) (y := .tmp t) hh (St.val_sound he (.tmp t)) hx
      refine ⟨v, ?_, frz_sound h2 h⟩
      have hp : ∃ p, a.eval (.tmp t) = .pointer (some p) := by
        unfold Instr.loadAt Instr.sureAddr at h1
        split at h1
        · rename_i p hp; exact ⟨p, hp⟩
        · simp at h1
      obtain ⟨p, hp⟩ := hp
      rw [hp] at h1
      have hp' : a.tmps.getD t undef = .pointer (some p) := hp
      simp only [Instr.loadAt, Instr.sureAddr, Sem.run_bind, Sem.run_pure, Result.andThen_ok] at h1
      simp only [resM, hp', asAddr, Sem.run_bind, Sem.run_pure, Result.andThen_ok, h1]
    · cases h

theorem aresL_sound {g : Gh} {a : Act} {w : World} (he : Env C s.env s.row g a w) (hh : Hp C s.box s.row g w) : ∀ (rs : List ResultVar) (ys : List AVal), aresL C.P s rs = some ys → ∃ vs : List Value, (rs.mapM (resM a.tmps)).run C.P w = .ok vs w ∧ PW (RelD w g.m) ys vs
  | [], ys, h => by
    injection h with h
    subst h
    exact ⟨[], rfl, PW.nil⟩
  | x :: r, ys, h => by
    simp only [aresL] at h
    split at h
    · cases h
    · rename_i y hy
      split at h
      · cases h
      · rename_i l hl
        injection h with h
        subst h
        obtain ⟨v, h1, h2⟩ := ares1_sound he hh hy
        obtain ⟨vs, h3, h4⟩ := aresL_sound he hh r l hl
        refine ⟨v :: vs, ?_, PW.cons h2 h4⟩
        simp [List.mapM_cons, h1, h3]

theorem ares_sound {fn : Func} {g : Gh} {a : Act} {w : World} (he : Env C s.env s.row g a w) (hh : Hp C s.box s.row g w) {y : AVal} (h : ares C.P s fn.results = some y) : ∃ v, (results fn a.tmps).run C.P w = .ok v w ∧ RelD w g.m y v := by
  have hres : ∀ vs : List Value, (fn.results.toList.mapM (resM a.tmps)).run C.P w = .ok vs w → (results fn a.tmps).run C.P w = .ok (if h : vs.toArray.size = 1 then vs.toArray[0] else .tuple vs.toArray) w := by
    intro vs hv
    have e : results fn a.tmps = (do
        let vs ← fn.results.mapM (resM a.tmps)
        pure (if h : vs.size = 1 then vs[0] else .tuple vs)) := by
      unfold results
      congr 1
    rw [e, Array.mapM_eq_mapM_toList]
    simp only [Sem.run_bind, Sem.run_map, hv, Result.andThen_ok, Sem.run_pure]
  unfold ares at h
  split at h
  · rename_i x hx
    injection h with h
    subst h
    obtain ⟨vs, h1, h2⟩ := aresL_sound he hh _ _ hx
    have hl := h2.1
    match vs, hl with
    | [v], _ => exact ⟨v, hres _ h1, h2.2 0 x v rfl rfl⟩
  · rename_i l hne hl
    injection h with h
    subst h
    obtain ⟨vs, h1, h2⟩ := aresL_sound he hh _ _ hl
    refine ⟨.tuple vs.toArray, ?_, .tup l vs h2.1 h2.2⟩
    rw [hres _ h1, dif_neg]
    intro h3
    have h4 : vs.length = 1 := by simpa using h3
    rw [h2.1] at h4
    match l, h4 with
    | [x], _ => exact hne x rfl
  · cases h

/-- How a function's body is to end. -/
def FPost (P : Program) (fn : Func) (R : AVal → Prop) : Post := fun e s => match e with
  | .normal => ∃ r, ares P s fn.results = some r ∧ R r
  | .ret => ∃ r, ares P s fn.results = some r ∧ R r
  | _ => False
def envOf : Nat → List AVal → List (Nat × AVal)
  | _, [] => []
  | k, x :: r => (k, x) :: envOf (k + 1) r
theorem get_envOf : ∀ (l : List AVal) (k t : Nat) (x : AVal), get (envOf k l) t = some x → ∃ i, t = k + i ∧ l[i]? = some x
  | [], k, t, x, h => by cases h
  | y :: r, k, t, x, h => by
    simp only [envOf] at h
    rw [get_cons] at h
    by_cases e : k = t
    · rw [if_pos e] at h
      injection h with h
      subst h
      exact ⟨0, by omega, rfl⟩
    · rw [if_neg e] at h
      obtain ⟨i, h1, h2⟩ := get_envOf r (k + 1) t x h
      exact ⟨i + 1, by omega, by simpa using h2⟩

theorem ACallsP.of {P : Program} {Φ : Nat → List AVal → Value → Prop} {f : FuncId} {fn : Func} {c : Code} {args : List AVal} {R : AVal → Prop} (hf : P.funcs[f]? = some fn) (hb : fn.body = some c) (hn : (fn.name == "runtime.NumGoroutine") = false) (hl : args.length ≤ fn.ntmps)
    (h : ∀ w0 m0, ACode ⟨P, Φ, w0, m0, fn.ntmps⟩ c { env := envOf 0 args, box := [], row := [] } (FPost P fn R)) : ACallsP P Φ f args R := by
  refine ⟨⟨fn, hf, hn, by rw [hb]; rfl⟩, fun w m vs hM hvl hv => ?_⟩
  have hG : Gam ⟨P, Φ, w, m, fn.ntmps⟩ { env := envOf 0 args, box := [], row := [] } { tmps := vs.toArray ++ Array.replicate (fn.ntmps - vs.toArray.size) undef, defers := [] } w := by
    refine Gam.of (g := { ρ := fun _ => none, κ := fun _ => undef, m := m }) ⟨rfl, ?_, ?_⟩ ⟨?_, ?_, ?_, ?_, hM, Below.refl _ _, fun _ _ => rfl⟩
    · simp; omega
    · intro t x ht
      obtain ⟨i, h1, h2⟩ := get_envOf args 0 t x ht
      have hi : i < args.length := (List.getElem?_eq_some_iff.1 h2).1
      have hvi : vs[i]? = some (vs[i]'(by omega)) := List.getElem?_eq_getElem _
      refine ⟨vs[i]'(by omega), ?_, ?_⟩
      · rw [h1, Nat.zero_add, Array.getElem?_append_left (by simp; omega)]
        simpa using hvi
      · have := hv i x _ h2 hvi
        revert this
        cases x with
        | ext k => exact id
        | _ => exact relT_of_relD (g := { ρ := fun _ => none, κ := fun _ => undef, m := m })
    · intro id cs hid; cases hid
    · intro i j b hi; cases hi
    · intro id b hid; cases hid
    · intro r T L hr; cases hr
  refine calls_of_wp hf hb (wp_mono (h w m _ w hG) ?_)
  rintro e a' w' ⟨s', hq, hG'⟩
  obtain ⟨g, he, hh⟩ := hG'.split
  have fin : (∃ r, ares P s' fn.results = some r ∧ R r) → a'.defers = [] ∧ ∃ v, (results fn a'.tmps).run P w' = .ok v w' ∧ ∃ r, R r ∧ ∃ v' m', Ending.returned v = Ending.returned v' ∧ RelD w' m' r v' ∧ Below w.heap.size w w' ∧ (∀ b, b < w.heap.size → m' b = m b) ∧ Marks w' m' := by
    rintro ⟨r, hr, hR⟩
    obtain ⟨v, h1, h2⟩ := ares_sound (C := ⟨P, Φ, w, m, fn.ntmps⟩) he hh hr
    exact ⟨he.1, v, h1, r, hR, v, g.m, rfl, h2, hh.below, hh.old, hh.marks⟩
  cases e with
  | normal => exact fin hq
  | ret => exact fin hq
  | _ => exact hq.elim


/-- Results are told more loosely. -/
theorem ACallsP.loose {P : Program} {Φ : Nat → List AVal → Value → Prop} {f : FuncId} {args : List AVal} {R R' : AVal → Prop} (h : ACallsP P Φ f args R) (hR : ∀ r, R r → ∃ r', Le r r' ∧ R' r') : ACallsP P Φ f args R' :=
  ⟨h.1, fun w m vs h1 h2 h3 => (h.2 w m vs h1 h2 h3).mono fun e w' ⟨r, hr, v, m', k1, k2, k3⟩ => by
    obtain ⟨r', hle, hr'⟩ := hR r hr
    exact ⟨r', hr', v, m', k1, hle.relD k2, k3⟩⟩
theorem ACallsP.to {P : Program} {Φ : Nat → List AVal → Value → Prop} {f : FuncId} {args : List AVal} {r : AVal} (h : ACallsP P Φ f args (Le · r)) : ACalls P Φ f args r :=
  (h.loose (R' := (· = r)) fun _ hle => ⟨r, hle, rfl⟩).one
end
end Go.Va
set_option linter.unusedVariables false
set_option linter.unusedSimpArgs false
set_option autoImplicit false
/-! A region whose order is drawn: what doesn't wait for each other doesn't touch the same. -/
namespace Go.Va
open RowKit

/-! #### updates, place by place -/
def wrE (t : Nat) : Upd → Bool
  | .slot u _ => u == t
  | _ => false
def wrB (t : Nat) : Upd → Bool
  | .box u _ => u == t
  | _ => false
def wrR (t : Nat) : Upd → Bool
  | .row u _ _ => u == t
  | _ => false
theorem app_env (t : Nat) : ∀ (us : List Upd) (s : St), get (us.foldl St.app s).env t = get ((us.filter (wrE t)).foldl St.app s).env t
  | [], s => rfl
  | u :: us, s => by
    have ih := app_env t us
    have step : ∀ s1 s2 : St, get s1.env t = get s2.env t → ∀ l : List Upd, get (l.foldl St.app s1).env t = get (l.foldl St.app s2).env t := by
      intro s1 s2 h l
      induction l generalizing s1 s2 with
      | nil => exact h
      | cons u l ihl =>
        refine ihl _ _ ?_
        cases u with
        | slot k x => simp only [St.app, get_cons, h]
        | box k x => exact h
        | row k T L => exact h
    cases hw : wrE t u with
    | true =>
      simp only [List.foldl_cons, List.filter_cons, hw, if_true]
      exact ih _
    | false =>
      simp only [List.foldl_cons, List.filter_cons, hw, Bool.false_eq_true, if_false]
      rw [ih]
      refine step _ _ ?_ _
      cases u with
      | slot k x =>
        have : k ≠ t := by simpa [wrE] using hw
        exact get_there x s.env this
      | box k x => rfl
      | row k T L => rfl
theorem app_box (t : Nat) : ∀ (us : List Upd) (s : St), get (us.foldl St.app s).box t = get ((us.filter (wrB t)).foldl St.app s).box t
  | [], s => rfl
  | u :: us, s => by
    have ih := app_box t us
    have step : ∀ s1 s2 : St, get s1.box t = get s2.box t → ∀ l : List Upd, get (l.foldl St.app s1).box t = get (l.foldl St.app s2).box t := by
      intro s1 s2 h l
      induction l generalizing s1 s2 with
      | nil => exact h
      | cons u l ihl =>
        refine ihl _ _ ?_
        cases u with
        | box k x => simp only [St.app, get_cons, h]
        | slot k x => exact h
        | row k T L => exact h
    cases hw : wrB t u with
    | true =>
      simp only [List.foldl_cons, List.filter_cons, hw, if_true]
      exact ih _
    | false =>
      simp only [List.foldl_cons, List.filter_cons, hw, Bool.false_eq_true, if_false]
      rw [ih]
      refine step _ _ ?_ _
      cases u with
      | box k x =>
        have : k ≠ t := by simpa [wrB] using hw
        exact get_there x s.box this
      | slot k x => rfl
      | row k T L => rfl
theorem app_row (t : Nat) : ∀ (us : List Upd) (s : St), get (us.foldl St.app s).row t = get ((us.filter (wrR t)).foldl St.app s).row t
  | [], s => rfl
  | u :: us, s => by
    have ih := app_row t us
    have step : ∀ s1 s2 : St, get s1.row t = get s2.row t → ∀ l : List Upd, get (l.foldl St.app s1).row t = get (l.foldl St.app s2).row t := by
      intro s1 s2 h l
      induction l generalizing s1 s2 with
      | nil => exact h
      | cons u l ihl =>
        refine ihl _ _ ?_
        cases u with
        | row k T L => simp only [St.app, get_cons, h]
        | slot k x => exact h
        | box k x => exact h
    cases hw : wrR t u with
    | true =>
      simp only [List.foldl_cons, List.filter_cons, hw, if_true]
      exact ih _
    | false =>
      simp only [List.foldl_cons, List.filter_cons, hw, Bool.false_eq_true, if_false]
      rw [ih]
      refine step _ _ ?_ _
      cases u with
      | row k T L =>
        have : k ≠ t := by simpa [wrR] using hw
        exact get_there (T, L) s.row this
      | slot k x => rfl
      | box k x => rfl

/-! #### sums over what is listed -/
def sumU (D : Nat → Bool) (f : Nat → List Upd) (n : Nat) : List Upd := ((List.range n).filter D).flatMap f
theorem sumU_filter (D : Nat → Bool) (f : Nat → List Upd) (n : Nat) (p : Upd → Bool) : (sumU D f n).filter p = sumU D (fun j => (f j).filter p) n := by
  unfold sumU
  generalize (List.range n).filter D = l
  induction l with
  | nil => rfl
  | cons a l ih => simp [ih]
theorem flat_congr (D E : Nat → Bool) (f : Nat → List Upd) : ∀ (l : List Nat), (∀ j ∈ l, f j ≠ [] → D j = E j) → (l.filter D).flatMap f = (l.filter E).flatMap f
  | [], _ => rfl
  | a :: l, h => by
    have ih := flat_congr D E f l (fun j hj => h j (List.mem_cons_of_mem _ hj))
    by_cases hf : f a = []
    · cases hD : D a <;> cases hE : E a <;> simp [hD, hE, hf, ih]
    · have := h a List.mem_cons_self hf
      cases hE : E a <;> simp [this, hE, ih]
theorem sumU_congr {D E : Nat → Bool} {f : Nat → List Upd} {n : Nat} (h : ∀ j, j < n → f j ≠ [] → D j = E j) : sumU D f n = sumU E f n := flat_congr D E f _ (fun j hj => h j (List.mem_range.1 hj))
theorem flat_none (D : Nat → Bool) (f : Nat → List Upd) : ∀ (l : List Nat), (∀ j ∈ l, D j = true → f j = []) → (l.filter D).flatMap f = []
  | [], _ => rfl
  | a :: l, h => by
    have ih := flat_none D f l (fun j hj => h j (List.mem_cons_of_mem _ hj))
    cases hD : D a with
    | false => simp [hD, ih]
    | true => simp [hD, ih, h a List.mem_cons_self hD]
/-- k comes last. -/
theorem sumU_add {D : Nat → Bool} {f : Nat → List Upd} {n k : Nat} (hk : k < n) (hD : D k = false) (h : ∀ j, k < j → j < n → D j = true → f k ≠ [] → f j = []) : sumU (fun j => if j = k then true else D j) f n = sumU D f n ++ f k := by
  obtain ⟨r, rfl⟩ := Nat.exists_eq_add_of_lt hk
  have hr : List.range (k + r + 1) = List.range k ++ k :: (List.range r).map (fun x => k + 1 + x) := by
    rw [show k + r + 1 = k + (1 + r) by omega, List.range_add]
    congr 1
    rw [Nat.add_comm 1 r, List.range_succ_eq_map]
    simp only [List.map_cons, List.map_map, Nat.add_zero]
    congr 1
    apply List.map_congr_left
    intro a _
    simp [Function.comp]; omega
  unfold sumU
  rw [hr]
  simp only [List.filter_append, List.filter_cons, if_true, hD, Bool.false_eq_true, if_false, List.flatMap_append, List.flatMap_cons]
  have e1 : (List.range k).filter (fun j => if j = k then true else D j) = (List.range k).filter D := by
    apply List.filter_congr
    intro j hj
    have : j ≠ k := by have := List.mem_range.1 hj; omega
    rw [if_neg this]
  have e2 : ((List.range r).map (fun x => k + 1 + x)).filter (fun j => if j = k then true else D j) = ((List.range r).map (fun x => k + 1 + x)).filter D := by
    apply List.filter_congr
    intro j hj
    obtain ⟨x, _, rfl⟩ := List.mem_map.1 hj
    rw [if_neg (by omega)]
  rw [e1, e2]
  by_cases hf : f k = []
  · rw [hf]; simp
  · have e3 : (((List.range r).map (fun x => k + 1 + x)).filter D).flatMap f = [] := by
      apply flat_none
      intro j hj hDj
      obtain ⟨x, hx, rfl⟩ := List.mem_map.1 hj
      exact h _ (by omega) (by have := List.mem_range.1 hx; omega) hDj hf
    rw [e3]; simp

/-! #### who waits for whom -/
def edgesOf (o : Oper) : List Nat := o.after.toList.filterMap fun e => if Region.binds .any e then some e.on else none
/-- All that each operation waits for. -/
def befL : List Oper → List (List Nat) → List (List Nat)
  | [], acc => acc
  | o :: r, acc => befL r (acc ++ [(edgesOf o).flatMap fun e => e :: acc.getD e []])
def meets (a b : List Nat) : Bool := a.any fun x => b.contains x
def dstL (o : Oper) : List Nat := match o.dst with
  | some d => [d]
  | none => []
/-- Do two operations touch the same? -/
def clash (ops : Array Oper) (o1 o2 : Oper) (f1 f2 : Fp) : Bool :=
  meets (dstL o1) (uses ops o2) || meets (dstL o2) (uses ops o1) || meets (dstL o1) (dstL o2) || meets f1.wb (f2.rb ++ f2.wb) || meets f2.wb (f1.rb ++ f1.wb) || (f1.wr && (f2.lr || f2.wr)) || (f2.wr && (f1.lr || f1.wr))
def commOk (ops : Array Oper) (fps : List Fp) : Bool :=
  let l := ops.toList
  let B := befL l []
  (List.range l.length).all fun k => match l[k]?, fps[k]? with
    | some ok, some fk => (edgesOf ok).all (fun e => decide (e < k)) && (List.range k).all fun j => match l[j]?, fps[j]? with
      | some oj, some fj => (B.getD k []).contains j || !clash ops oj ok fj fk
      | _, _ => false
    | _, _ => false

theorem befL_get : ∀ (l : List Oper) (acc : List (List Nat)) (k : Nat), k < acc.length → (befL l acc).getD k [] = acc.getD k []
  | [], acc, k, h => rfl
  | o :: r, acc, k, h => by
    rw [befL, befL_get r _ k (by simp; omega)]
    simp [List.getD_eq_getElem?_getD, List.getElem?_append_left h]
/-- A set that is closed under waiting holds all that its members wait for. -/
theorem befL_closed (full : List Oper) (D : Nat → Bool) (hD : ∀ (k : Nat) o, full[k]? = some o → D k = true → ∀ e ∈ edgesOf o, D e = true) : ∀ (l pre : List Oper) (acc : List (List Nat)), full = pre ++ l → acc.length = pre.length →
    (∀ k, k < pre.length → D k = true → ∀ j ∈ acc.getD k [], D j = true) → (∀ (k : Nat) o, full[k]? = some o → ∀ e ∈ edgesOf o, e < k) → ∀ k, k < full.length → D k = true → ∀ j ∈ (befL l acc).getD k [], D j = true
  | [], pre, acc, hf, hl, ha, hlt, k, hk, hDk, j, hj => ha k (by rw [hf] at hk; simpa using hk) hDk j hj
  | o :: r, pre, acc, hf, hl, ha, hlt, k, hk, hDk, j, hj => by
    have ho : full[pre.length]? = some o := by rw [hf]; simp
    refine befL_closed full D hD r (pre ++ [o]) (acc ++ [(edgesOf o).flatMap fun e => e :: acc.getD e []]) (by rw [hf]; simp) (by simp [hl]) ?_ hlt k hk hDk j hj
    intro q hq hDq i hi
    simp only [List.length_append, List.length_singleton] at hq
    by_cases hqp : q < pre.length
    · rw [List.getD_eq_getElem?_getD, List.getElem?_append_left (by omega), ← List.getD_eq_getElem?_getD] at hi
      exact ha q hqp hDq i hi
    · have : q = pre.length := by omega
      subst this
      rw [List.getD_eq_getElem?_getD, List.getElem?_append_right (by omega)] at hi
      simp only [hl, Nat.sub_self, List.getElem?_cons_zero, Option.getD_some, List.mem_flatMap] at hi
      obtain ⟨e, he, hi⟩ := hi
      have hDe := hD _ o ho hDq e he
      rcases List.mem_cons.1 hi with rfl | hi
      · exact hDe
      · exact ha e (hlt _ o ho e he) hDe i hi

/-- What the text's order makes of a region: each operation's state, what it touches, what it turns. -/
structure Trace (C : Ctx) (ops : Array Oper) (s0 : St) (fps : List Fp) (f : Nat → List Upd) (c : Nat) : Prop where
  len : fps.length = ops.size
  us : ∀ (k : Nat) o fp, ops[k]? = some o → fps[k]? = some fp → UsOk o fp (f k)
  ok : ∀ (k : Nat) o fp, k < c → ops[k]? = some o → fps[k]? = some fp → OpOk C ops o ((sumU (fun j => decide (j < k)) f ops.size).foldl St.app s0) fp (f k)

theorem meets_of {a b : List Nat} {x : Nat} (h1 : x ∈ a) (h2 : x ∈ b) : meets a b = true := by
  unfold meets
  rw [List.any_eq_true]
  exact ⟨x, h1, by simpa using h2⟩

section
variable {C : Ctx} {ops : Array Oper} {s0 : St} {fps : List Fp} {f : Nat → List Upd}

/-- In a set that is closed under waiting: who touches what k touches is listed just if it comes before k. -/
theorem clash_side (hc : commOk ops fps = true) {D : Nat → Bool} (hD : ∀ (k : Nat) o, ops[k]? = some o → D k = true → ∀ e ∈ edgesOf o, D e = true) {k : Nat} {ok : Oper} {fk : Fp} (hk : ops[k]? = some ok) (hfk : fps[k]? = some fk) (hready : ∀ e ∈ edgesOf ok, D e = true) (hDk : D k = false)
    {j : Nat} {oj : Oper} {fj : Fp} (hj : ops[j]? = some oj) (hfj : fps[j]? = some fj) (hjk : clash ops oj ok fj fk = true ∨ clash ops ok oj fk fj = true) (hne : j ≠ k) : D j = decide (j < k) := by
  have hall := List.all_eq_true.1 hc
  have hk' : ops.toList[k]? = some ok := by simpa using hk
  have hj' : ops.toList[j]? = some oj := by simpa using hj
  have hkl : k < ops.toList.length := (List.getElem?_eq_some_iff.1 hk').1
  have hjl : j < ops.toList.length := (List.getElem?_eq_some_iff.1 hj').1
  have hrow : ∀ (q : Nat) oq fq, ops.toList[q]? = some oq → fps[q]? = some fq → (edgesOf oq).all (fun e => decide (e < q)) = true ∧ (List.range q).all (fun j => match ops.toList[j]?, fps[j]? with
      | some oj, some fj => ((befL ops.toList []).getD q []).contains j || !clash ops oj oq fj fq
      | _, _ => false) = true := by
    intro q oq fq h1 h2
    have := hall q (List.mem_range.2 (List.getElem?_eq_some_iff.1 h1).1)
    rw [h1, h2] at this
    simpa using this
  have hlt : ∀ (q : Nat) o, ops.toList[q]? = some o → ∀ e ∈ edgesOf o, e < q := by
    intro q o hq e he
    have hqf : ∃ fq, fps[q]? = some fq := by
      have := hall q (List.mem_range.2 (List.getElem?_eq_some_iff.1 hq).1)
      rw [hq] at this
      cases hf : fps[q]? with
      | none => rw [hf] at this; cases this
      | some fq => exact ⟨fq, rfl⟩
    obtain ⟨fq, hfq⟩ := hqf
    have := List.all_eq_true.1 (hrow q o fq hq hfq).1 e he
    simpa using this
  rcases Nat.lt_or_gt_of_ne hne with hlt1 | hgt
  · -- j before k: it is waited for
    have h1 := List.all_eq_true.1 (hrow k ok fk hk' hfk).2 j (List.mem_range.2 hlt1)
    rw [hj', hfj] at h1
    have hcl : clash ops oj ok fj fk = true := by
      rcases hjk with h | h
      · exact h
      · unfold clash at h ⊢
        simp only [Bool.or_eq_true] at h ⊢
        have hsym : ∀ a b : List Nat, meets a b = true → meets b a = true := by
          intro a b hm
          unfold meets at hm ⊢
          rw [List.any_eq_true] at hm ⊢
          obtain ⟨x, hx1, hx2⟩ := hm
          exact ⟨x, by simpa using hx2, by simpa using hx1⟩
        rcases h with (((((h | h) | h) | h) | h) | h) | h
        · exact .inl (.inl (.inl (.inl (.inl (.inr h)))))
        · exact .inl (.inl (.inl (.inl (.inl (.inl h)))))
        · exact .inl (.inl (.inl (.inl (.inr (hsym _ _ h)))))
        · exact .inl (.inl (.inr h))
        · exact .inl (.inl (.inl (.inr h)))
        · exact .inr h
        · exact .inl (.inr h)
    simp only [hcl, Bool.not_true, Bool.or_false] at h1
    have hmem : j ∈ (befL ops.toList []).getD k [] := by simpa using h1
    have := befL_closed ops.toList (fun q => if q = k then true else D q) (fun q o hq hDq e he => by
      by_cases hqk : q = k
      · subst hqk
        rw [hk'] at hq
        injection hq with hq
        subst hq
        have h2 := hready e he
        show (if e = q then true else D e) = true
        rw [h2]; simp
      · have hDq' : D q = true := by simpa [hqk] using hDq
        have h2 := hD q o (by simpa using hq) hDq' e he
        show (if e = k then true else D e) = true
        rw [h2]; simp) ops.toList [] [] rfl rfl (fun q hq => by simp at hq) hlt k hkl (if_pos rfl) j hmem
    have hDj : D j = true := by simpa [hne] using this
    rw [hDj]; simp [hlt1]
  · -- j behind k: it waits for k
    have h1 := List.all_eq_true.1 (hrow j oj fj hj' hfj).2 k (List.mem_range.2 hgt)
    rw [hk', hfk] at h1
    have hcl : clash ops ok oj fk fj = true := by
      rcases hjk with h | h
      · unfold clash at h ⊢
        simp only [Bool.or_eq_true] at h ⊢
        have hsym : ∀ a b : List Nat, meets a b = true → meets b a = true := by
          intro a b hm
          unfold meets at hm ⊢
          rw [List.any_eq_true] at hm ⊢
          obtain ⟨x, hx1, hx2⟩ := hm
          exact ⟨x, by simpa using hx2, by simpa using hx1⟩
        rcases h with (((((h | h) | h) | h) | h) | h) | h
        · exact .inl (.inl (.inl (.inl (.inl (.inr h)))))
        · exact .inl (.inl (.inl (.inl (.inl (.inl h)))))
        · exact .inl (.inl (.inl (.inl (.inr (hsym _ _ h)))))
        · exact .inl (.inl (.inr h))
        · exact .inl (.inl (.inl (.inr h)))
        · exact .inr h
        · exact .inl (.inr h)
      · exact h
    simp only [hcl, Bool.not_true, Bool.or_false] at h1
    have hmem : k ∈ (befL ops.toList []).getD j [] := by simpa using h1
    have hDj : D j = false := by
      cases hd : D j with
      | false => rfl
      | true =>
        have := befL_closed ops.toList D (fun q o hq hDq e he => hD q o (by simpa using hq) hDq e he) ops.toList [] [] rfl rfl (fun q hq => by simp at hq) hlt j hjl hd k hmem
        rw [hDk] at this
        cases this
    rw [hDj]; simp; omega

theorem ne_nil_filter {us : List Upd} {p : Upd → Bool} (h : us.filter p ≠ []) : ∃ u ∈ us, p u = true := by
  obtain ⟨u, hu⟩ := List.exists_mem_of_ne_nil _ h
  exact ⟨u, (List.mem_filter.1 hu).1, (List.mem_filter.1 hu).2⟩

/-- The state once D is listed. -/
def SD (s0 : St) (f : Nat → List Upd) (n : Nat) (D : Nat → Bool) : St := (sumU D f n).foldl St.app s0

/-- What is listed next, at the state as it is. -/
theorem step_listed {c : Nat} (ht : Trace C ops s0 fps f c) (hc : commOk ops fps = true) {D : Nat → Bool} (hD : ∀ (k : Nat) o, ops[k]? = some o → D k = true → ∀ e ∈ edgesOf o, D e = true) {k : Nat} {ok : Oper} (hkc : k < c) (hk : ops[k]? = some ok) (hready : ∀ e ∈ edgesOf ok, D e = true) (hDk : D k = false)
    {a : Act} {w : World} {Q : Exit → Act → World → Prop} {K : Act → World → Prop} (hG : Gam C (SD s0 f ops.size D) a w) (hK : ∀ a' w', Gam C (SD s0 f ops.size fun j => if j = k then true else D j) a' w' → K a' w') :
    if Region.wanted ok (yielded ops a.tmps) = true then ok.wp C.P a w K Q else K (a.put ok.dst undef) w := by
  have hkl : k < ops.size := (Array.getElem?_eq_some_iff.1 hk).1
  obtain ⟨fk, hfk⟩ : ∃ fk, fps[k]? = some fk := ⟨_, List.getElem?_eq_getElem (by rw [ht.len]; exact hkl)⟩
  have hok := ht.ok k ok fk hkc hk hfk
  have hus := ht.us k ok fk hk hfk
  -- who touches the same
  have side : ∀ (p : Upd → Bool), (∀ j oj fj, ops[j]? = some oj → fps[j]? = some fj → (∃ u ∈ f j, p u = true) → UsOk oj fj (f j) → clash ops oj ok fj fk = true ∨ clash ops ok oj fk fj = true) → ∀ j, j < ops.size → (f j).filter p ≠ [] → j ≠ k → D j = decide (j < k) := by
    intro p hp j hj hne hjk
    have hoj : ops[j]? = some ops[j] := Array.getElem?_eq_getElem hj
    have hfj : fps[j]? = some (fps[j]'(by rw [ht.len]; exact hj)) := List.getElem?_eq_getElem _
    exact clash_side hc hD hk hfk hready hDk hoj hfj (hp j _ _ hoj hfj (ne_nil_filter hne) (ht.us j _ _ hoj hfj)) hjk
  have cl1 : ∀ {a b c d e g h : Bool}, a = true → (a || b || c || d || e || g || h) = true := by intro a b c d e g h ha; rw [ha]; simp
  -- agreement at a place that k looks at
  have agree : ∀ (p : Upd → Bool), (∀ j oj fj, ops[j]? = some oj → fps[j]? = some fj → (∃ u ∈ f j, p u = true) → UsOk oj fj (f j) → clash ops oj ok fj fk = true ∨ clash ops ok oj fk fj = true) → (sumU D f ops.size).filter p = (sumU (fun j => decide (j < k)) f ops.size).filter p := by
    intro p hp
    rw [sumU_filter, sumU_filter]
    refine sumU_congr (fun j hj hne => ?_)
    by_cases hjk : j = k
    · subst hjk
      rw [hDk]; simp
    · exact side p hp j hj hne hjk
  have slotW : ∀ t, t ∈ uses ops ok ∨ ok.dst = some t → ∀ j oj fj, ops[j]? = some oj → fps[j]? = some fj → (∃ u ∈ f j, wrE t u = true) → UsOk oj fj (f j) → clash ops oj ok fj fk = true ∨ clash ops ok oj fk fj = true := by
    intro t htu j oj fj hoj hfj ⟨u, hu, hw⟩ hu2
    have h1 := hu2 u hu
    cases u with
    | slot q x =>
      have hq : q = t := by simpa [wrE] using hw
      subst hq
      have hd : q ∈ dstL oj := by
        have h1' : oj.dst = some q := h1
        unfold dstL
        rw [h1']
        exact List.mem_singleton.2 rfl
      refine .inl ?_
      unfold clash
      rcases htu with htu | htu
      · simp [meets_of hd htu]
      · have hd2 : q ∈ dstL ok := by
          unfold dstL
          rw [htu]
          exact List.mem_singleton.2 rfl
        simp [meets_of hd hd2]
    | box q cs => cases hw
    | row q T L => cases hw
  have boxW : ∀ t, t ∈ fk.rb ∨ t ∈ fk.wb → ∀ j oj fj, ops[j]? = some oj → fps[j]? = some fj → (∃ u ∈ f j, wrB t u = true) → UsOk oj fj (f j) → clash ops oj ok fj fk = true ∨ clash ops ok oj fk fj = true := by
    intro t htu j oj fj hoj hfj ⟨u, hu, hw⟩ hu2
    have h1 := hu2 u hu
    cases u with
    | box q cs =>
      have hq : q = t := by simpa [wrB] using hw
      subst hq
      have h1' : q ∈ fj.wb := h1
      have h2 : q ∈ fk.rb ++ fk.wb := List.mem_append.2 htu
      refine .inl ?_
      unfold clash
      simp [meets_of h1' h2]
    | slot q x => cases hw
    | row q T L => cases hw
  have rowW : (fk.lr = true ∨ fk.wr = true) → ∀ t, ∀ j oj fj, ops[j]? = some oj → fps[j]? = some fj → (∃ u ∈ f j, wrR t u = true) → UsOk oj fj (f j) → clash ops oj ok fj fk = true ∨ clash ops ok oj fk fj = true := by
    intro hlr t j oj fj hoj hfj ⟨u, hu, hw⟩ hu2
    have h1 := hu2 u hu
    cases u with
    | row q T L =>
      have h1' : fj.wr = true := h1
      refine .inl ?_
      unfold clash
      have : (fk.lr || fk.wr) = true := by simpa using hlr
      simp [h1', this]
    | slot q x => cases hw
    | box q x => cases hw
  refine hok (SD s0 f ops.size D) a w Q K (fun t ht' => ?_) (fun id hid => ?_) (fun hlr r => ?_) hG (fun a' w' hG' => hK a' w' (hG'.ext ?_ ?_ ?_))
  · unfold SD
    rw [app_env, app_env t (sumU (fun j => decide (j < k)) f ops.size), agree _ (slotW t (.inl ht'))]
  · unfold SD
    rw [app_box, app_box id (sumU (fun j => decide (j < k)) f ops.size), agree _ (boxW id hid)]
  · unfold SD
    rw [app_row, app_row r (sumU (fun j => decide (j < k)) f ops.size), agree _ (rowW hlr r)]
  -- k comes last at all that it writes
  all_goals
    intro t
    unfold SD
    rw [← List.foldl_append]
  · rw [app_env, app_env t (sumU D f ops.size ++ f k), List.filter_append, sumU_filter, sumU_filter, sumU_add hkl hDk]
    intro j hj hjn hDj hne
    obtain ⟨u, hu, hw⟩ := ne_nil_filter hne
    have h1 := hus u hu
    cases u with
    | slot q x =>
      have hq : q = t := by simpa [wrE] using hw
      subst hq
      by_cases he : (f j).filter (wrE q) = []
      · exact he
      · have := side _ (slotW q (.inr h1)) j hjn he (by omega)
        rw [hDj] at this
        simp at this
        omega
    | box q cs => cases hw
    | row q T L => cases hw
  · rw [app_box, app_box t (sumU D f ops.size ++ f k), List.filter_append, sumU_filter, sumU_filter, sumU_add hkl hDk]
    intro j hj hjn hDj hne
    obtain ⟨u, hu, hw⟩ := ne_nil_filter hne
    have h1 := hus u hu
    cases u with
    | box q cs =>
      have hq : q = t := by simpa [wrB] using hw
      subst hq
      by_cases he : (f j).filter (wrB q) = []
      · exact he
      · have := side _ (boxW q (.inr h1)) j hjn he (by omega)
        rw [hDj] at this
        simp at this
        omega
    | slot q x => cases hw
    | row q T L => cases hw
  · rw [app_row, app_row t (sumU D f ops.size ++ f k), List.filter_append, sumU_filter, sumU_filter, sumU_add hkl hDk]
    intro j hj hjn hDj hne
    obtain ⟨u, hu, hw⟩ := ne_nil_filter hne
    have h1 := hus u hu
    cases u with
    | row q T L =>
      have hq : q = t := by simpa [wrR] using hw
      subst hq
      by_cases he : (f j).filter (wrR q) = []
      · exact he
      · have := side _ (rowW (.inr h1) q) j hjn he (by omega)
        rw [hDj] at this
        simp at this
        omega
    | slot q x => cases hw
    | box q cs => cases hw

end
end Go.Va
set_option linter.unusedVariables false
set_option linter.unusedSimpArgs false
set_option autoImplicit false
/-! A region whose order is drawn: the rule. -/
namespace Go.Va
open RowKit
section
variable {C : Ctx} {ops : Array Oper} {s0 s : St} {fps : List Fp} {f : Nat → List Upd}

theorem edges_lt (hc : commOk ops fps = true) {k : Nat} {o : Oper} (hk : ops[k]? = some o) : ∀ e ∈ edgesOf o, e < k := by
  intro e he
  have hk' : ops.toList[k]? = some o := by simpa using hk
  have := List.all_eq_true.1 hc k (List.mem_range.2 (List.getElem?_eq_some_iff.1 hk').1)
  rw [hk'] at this
  cases hf : fps[k]? with
  | none => rw [hf] at this; cases this
  | some fk =>
    rw [hf] at this
    simp only [Bool.and_eq_true] at this
    have := List.all_eq_true.1 this.1 e he
    simpa using this

theorem ready_iff {listed : Array Bool} {i : Nat} (h : i ∈ Region.ready .any ops listed) (hs : listed.size = ops.size) : i < ops.size ∧ listed.getD i false = false ∧ ∃ o, ops[i]? = some o ∧ ∀ e ∈ edgesOf o, listed.getD e false = true := by
  unfold Region.ready at h
  obtain ⟨h1, h2⟩ := List.mem_filter.1 h
  have hi := List.mem_range.1 h1
  have ho : ops[i]? = some ops[i] := Array.getElem?_eq_getElem hi
  rw [ho] at h2
  simp only [Option.map_some, Option.getD_some, Bool.and_eq_true, Bool.not_eq_true'] at h2
  refine ⟨hi, ?_, ops[i], ho, fun e he => ?_⟩
  · have := h2.1
    have hl : listed[i]? = some (listed[i]'(by omega)) := Array.getElem?_eq_getElem _
    simp only [Array.getD_eq_getD_getElem?, hl, Option.getD_some] at this ⊢
    exact this
  · unfold edgesOf at he
    obtain ⟨ed, hed, he2⟩ := List.mem_filterMap.1 he
    split at he2
    · rename_i hb
      injection he2 with he2
      subst he2
      have h3 := h2.2
      rw [Array.all_eq_true'] at h3
      have := h3 ed (by simpa using hed)
      simpa [hb] using this
    · cases he2
theorem ready_of {listed : Array Bool} {i : Nat} {o : Oper} (hi : i < ops.size) (hs : listed.size = ops.size) (hl : listed.getD i false = false) (ho : ops[i]? = some o) (he : ∀ e ∈ edgesOf o, listed.getD e false = true) : i ∈ Region.ready .any ops listed := by
  unfold Region.ready
  refine List.mem_filter.2 ⟨List.mem_range.2 hi, ?_⟩
  rw [ho]
  simp only [Option.map_some, Option.getD_some, Bool.and_eq_true, Bool.not_eq_true']
  refine ⟨?_, ?_⟩
  · have hll : listed[i]? = some (listed[i]'(by omega)) := Array.getElem?_eq_getElem _
    simp only [Array.getD_eq_getD_getElem?, hll, Option.getD_some] at hl ⊢
    exact hl
  · rw [Array.all_eq_true']
    intro ed hed
    cases hb : Region.binds .any ed with
    | false => simp
    | true =>
      have := he ed.on (List.mem_filterMap.2 ⟨ed, by simpa using hed, by rw [hb]; rfl⟩)
      simp only [Bool.not_true, Bool.false_or]
      exact this

theorem any_listed (ht : Trace C ops s0 fps f ops.size) (hc : commOk ops fps = true) {Q : Exit → Act → World → Prop} (hQ : ∀ a w, Gam C (SD s0 f ops.size fun _ => true) a w → Q .normal a w) : ∀ (fuel : Nat) (listed : Array Bool) (a : Act) (w : World), listed.size = ops.size →
    (∀ (k : Nat) o, ops[k]? = some o → listed.getD k false = true → ∀ e ∈ edgesOf o, listed.getD e false = true) → ((List.range ops.size).filter fun i => !listed.getD i false).length ≤ fuel → Gam C (SD s0 f ops.size fun i => listed.getD i false) a w → wpAny C.P .any ops Q fuel listed a w := by
  have done : ∀ (listed : Array Bool) (a : Act) (w : World), listed.size = ops.size → Region.ready .any ops listed = [] → Gam C (SD s0 f ops.size fun i => listed.getD i false) a w → Q .normal a w := by
    intro listed a w hs hr hG
    refine hQ a w ?_
    have hall : ∀ n i, i < n → i < ops.size → listed.getD i false = true := by
      intro n
      induction n with
      | zero => intro i h; omega
      | succ n ih =>
        intro i hin hi
        cases hl : listed.getD i false with
        | true => rfl
        | false =>
          have ho : ops[i]? = some ops[i] := Array.getElem?_eq_getElem hi
          have := ready_of hi hs hl ho (fun e he => ih e (by have := edges_lt hc ho e he; omega) (by have := edges_lt hc ho e he; omega))
          rw [hr] at this
          cases this
    have e : SD s0 f ops.size (fun i => listed.getD i false) = SD s0 f ops.size fun _ => true := by
      unfold SD
      rw [sumU_congr (fun j hj _ => hall (j + 1) j (by omega) hj)]
    rw [← e]
    exact hG
  intro fuel
  induction fuel with
  | zero =>
    intro listed a w hs hcl hcnt hG
    have hr : Region.ready .any ops listed = [] := by
      cases hrr : Region.ready .any ops listed with
      | nil => rfl
      | cons i r =>
        obtain ⟨hi, hl, _⟩ := ready_iff (i := i) (by rw [hrr]; exact List.mem_cons_self) hs
        have hm : i ∈ (List.range ops.size).filter fun i => !listed.getD i false := List.mem_filter.2 ⟨List.mem_range.2 hi, by rw [hl]; rfl⟩
        have : ((List.range ops.size).filter fun i => !listed.getD i false) = [] := List.eq_nil_of_length_eq_zero (by omega)
        rw [this] at hm
        cases hm
    exact ⟨hr, done listed a w hs hr hG⟩
  | succ fuel ih =>
    intro listed a w hs hcl hcnt hG
    refine ⟨fun hr => done listed a w hs hr hG, fun i hi => ?_⟩
    obtain ⟨hil, hl, o, ho, he⟩ := ready_iff hi hs
    have hget : ∀ j, (listed.setIfInBounds i true).getD j false = if j = i then true else listed.getD j false := by
      intro j
      simp only [Array.getD_eq_getD_getElem?]
      by_cases hji : j = i
      · subst hji
        rw [if_pos rfl, Array.getElem?_setIfInBounds_self_of_lt (by omega)]
        rfl
      · rw [if_neg hji, Array.getElem?_setIfInBounds_ne (Ne.symm hji)]
    have hstep := step_listed (K := wpAny C.P .any ops Q fuel (listed.setIfInBounds i true)) (Q := Q) ht hc (D := fun j => listed.getD j false) hcl hil ho he hl hG (fun a' w' hG' => by
      refine ih _ a' w' (by simpa using hs) ?_ ?_ ?_
      · intro k o' hk hkl e he'
        rw [hget] at hkl ⊢
        by_cases hki : k = i
        · subst hki
          rw [ho] at hk
          injection hk with hk
          subst hk
          rw [he e he']
          simp
        · rw [if_neg hki] at hkl
          rw [hcl k o' hk hkl e he']
          simp
      · have hm : i ∈ (List.range ops.size).filter fun i => !listed.getD i false := List.mem_filter.2 ⟨List.mem_range.2 hil, by rw [hl]; rfl⟩
        have e1 : ((List.range ops.size).filter fun j => !(listed.setIfInBounds i true).getD j false) = ((List.range ops.size).filter fun i => !listed.getD i false).filter (fun j => !(j == i)) := by
          rw [List.filter_filter]
          apply List.filter_congr
          intro j _
          rw [hget]
          by_cases hji : j = i
          · subst hji; simp
          · simp [hji]
        rw [e1]
        have : (((List.range ops.size).filter fun i => !listed.getD i false).filter (fun j => !(j == i))).length < ((List.range ops.size).filter fun i => !listed.getD i false).length := by
          rcases Nat.lt_or_ge (((List.range ops.size).filter fun i => !listed.getD i false).filter (fun j => !(j == i))).length ((List.range ops.size).filter fun i => !listed.getD i false).length with h | h
          · exact h
          · have heq := List.filter_eq_self.1 ((List.filter_sublist (p := fun j => !(j == i)) (l := (List.range ops.size).filter fun i => !listed.getD i false)).eq_of_length_le h) i hm
            simp at heq
        omega
      · have : SD s0 f ops.size (fun j => (listed.setIfInBounds i true).getD j false) = SD s0 f ops.size (fun j => if j = i then true else listed.getD j false) := by
          congr 1
          funext j
          exact hget j
        rw [this]
        exact hG')
    unfold wpOp
    rw [ho]
    simp only
    split
    · rename_i hw
      rw [if_pos hw] at hstep
      exact .inl hstep
    · rename_i hw
      rw [if_neg hw] at hstep
      exact hstep

/-- The operations of a region in the order of the text; what each touches is noted. -/
def aOpsD (C : Ctx) (ops : Array Oper) : List Oper → St → (St → List Fp → Prop) → Prop
  | [], s, K => K s []
  | o :: r, s, K => gd ops o s (astep C o s fun s' fp => aOpsD C ops r s' fun s'' fps => K s'' (fp :: fps)) (aOpsD C ops r (s.put o.dst (.lit (.tuple #[]))) fun s'' fps => K s'' (⟨[], [], false, false⟩ :: fps))

theorem aOpsD_trace {K : St → List Fp → Prop} (hd : ∀ o ∈ ops.toList, dstOk C o) : ∀ (l : List Oper) (s : St) (K : St → List Fp → Prop), (∀ o ∈ l, o ∈ ops.toList) → aOpsD C ops l s K →
    ∃ (fps : List Fp) (us : List (List Upd)), fps.length = l.length ∧ us.length = l.length ∧ K (us.flatten.foldl St.app s) fps ∧ ∀ (k : Nat) o fp u, l[k]? = some o → fps[k]? = some fp → us[k]? = some u → OpOk C ops o ((us.take k).flatten.foldl St.app s) fp u ∧ UsOk o fp u
  | [], s, K, _, h => ⟨[], [], rfl, rfl, h, by simp⟩
  | o :: r, s, K, hm, h => by
    have hdo := hd o (hm o List.mem_cons_self)
    have key : ∀ (fp : Fp) (u : List Upd), OpOk C ops o s fp u → UsOk o fp u → aOpsD C ops r (u.foldl St.app s) (fun s'' fps => K s'' (fp :: fps)) → ∃ (fps : List Fp) (us : List (List Upd)), fps.length = (o :: r).length ∧ us.length = (o :: r).length ∧ K (us.flatten.foldl St.app s) fps ∧ ∀ (k : Nat) o' fp u, (o :: r)[k]? = some o' → fps[k]? = some fp → us[k]? = some u → OpOk C ops o' ((us.take k).flatten.foldl St.app s) fp u ∧ UsOk o' fp u := by
      intro fp u h1 h2 h3
      obtain ⟨fps, us, e1, e2, e3, e4⟩ := aOpsD_trace (K := K) hd r _ _ (fun o' ho' => hm o' (List.mem_cons_of_mem _ ho')) h3
      refine ⟨fp :: fps, u :: us, by simp [e1], by simp [e2], by simpa [List.foldl_append] using e3, fun k o' fp' u' hk hf hu => ?_⟩
      cases k with
      | zero =>
        simp at hk hf hu
        subst hk; subst hf; subst hu
        exact ⟨h1, h2⟩
      | succ k =>
        have := e4 k o' fp' u' (by simpa using hk) (by simpa using hf) (by simpa using hu)
        simpa [List.foldl_append] using this
    simp only [aOpsD] at h
    rcases gd_elim h with ⟨hr, h1⟩ | ⟨hs, h1⟩
    · obtain ⟨fp, us, hok, hus, hk⟩ := astep_sound hr hdo h1
      exact key fp us hok hus hk
    · refine key _ _ (opok_skip hs hdo) ?_ ?_
      · intro u hu
        cases hdd : o.dst with
        | none => rw [hdd] at hu; cases hu
        | some d =>
          rw [hdd] at hu
          rw [List.mem_singleton.1 hu]
      · cases hdd : o.dst with
        | none => rw [hdd] at h1; exact h1
        | some d => rw [hdd] at h1; exact h1

theorem sumU_take (us : List (List Upd)) (k n : Nat) (hk : k ≤ n) (hn : us.length = n) : sumU (fun j => decide (j < k)) (fun j => us.getD j []) n = (us.take k).flatten := by
  subst hn
  unfold sumU
  have e : (List.range us.length).filter (fun j => decide (j < k)) = List.range k := by
    have : List.range us.length = List.range k ++ (List.range (us.length - k)).map (k + ·) := by rw [← List.range_add]; congr 1; omega
    rw [this, List.filter_append]
    have e1 : (List.range k).filter (fun j => decide (j < k)) = List.range k := List.filter_eq_self.2 (fun j hj => by simpa using hj)
    have e2 : ((List.range (us.length - k)).map (k + ·)).filter (fun j => decide (j < k)) = [] := by
      rw [List.filter_eq_nil_iff]
      intro j hj
      obtain ⟨x, _, rfl⟩ := List.mem_map.1 hj
      simp
    rw [e1, e2, List.append_nil]
  rw [e]
  clear e
  induction k with
  | zero => rfl
  | succ k ih =>
    rw [List.range_succ, List.flatMap_append, ih (by omega), List.take_add_one, List.flatten_append]
    simp [List.getD_eq_getElem?_getD, List.getElem?_eq_getElem (show k < us.length by omega)]

theorem ACode.draw {Q : Post} {id : Nat} (hm : C.P.follows .mixedOrders = true) (hd : allDst C.nt ops = true) (h : aOpsD C ops ops.toList s fun s' fps => commOk ops fps = true ∧ Q .normal s') : ACode C (.region id ops true) s Q := by
  intro a w hG
  obtain ⟨fps, us, e1, e2, ⟨hc, hq⟩, e4⟩ := aOpsD_trace (K := fun _ _ => True) (allDst_ok hd) ops.toList s _ (fun _ h => h) h
  have e1' := e1.trans (Array.length_toList (xs := ops))
  have e2' := e2.trans (Array.length_toList (xs := ops))
  clear e1 e2
  have e1 := e1'
  have e2 := e2'
  clear e1' e2'
  have ht : Trace C ops s fps (fun j => us.getD j []) ops.size := by
    suffices key : ∀ (k : Nat) o fp, ops[k]? = some o → fps[k]? = some fp → OpOk C ops o ((sumU (fun j => decide (j < k)) (fun j => us.getD j []) ops.size).foldl St.app s) fp (us.getD k []) ∧ UsOk o fp (us.getD k []) from
      ⟨e1, fun k o fp hk hf => (key k o fp hk hf).2, fun k o fp _ hk hf => (key k o fp hk hf).1⟩
    intro k o fp hk hf
    have hkl : k < ops.size := (Array.getElem?_eq_some_iff.1 hk).1
    rw [sumU_take us k ops.size (by omega) e2]
    have hu : us[k]? = some (us.getD k []) := by simp [List.getD_eq_getElem?_getD, List.getElem?_eq_getElem (show k < us.length by omega)]
    exact e4 k o fp _ (by simpa using hk) hf hu
  have hall : SD s (fun j => us.getD j []) ops.size (fun _ => true) = us.flatten.foldl St.app s := by
    unfold SD
    rw [sumU_congr (E := fun j => decide (j < ops.size)) (fun j hj _ => by simp [hj]), sumU_take us ops.size ops.size (Nat.le_refl _) e2, ← e2, List.take_length]
  have h0 : SD s (fun j => us.getD j []) ops.size (fun i => (Array.replicate ops.size false).getD i false) = s := by
    unfold SD
    rw [sumU_congr (E := fun j => decide (j < 0)) (fun j hj _ => by simp [Array.getD_eq_getD_getElem?, hj]), sumU_take us 0 ops.size (by omega) e2]
    rfl
  refine wp_region_any hm (any_listed ht hc (fun a' w' hG' => ⟨_, hq, by rw [hall] at hG'; exact hG'⟩) ops.size _ a _ (by simp) ?_ ?_ ?_)
  · intro k o hk hkl
    have hkl' : k < ops.size := (Array.getElem?_eq_some_iff.1 hk).1
    simp [Array.getD_eq_getD_getElem?, hkl'] at hkl
  · have := List.length_filter_le (fun i => !(Array.replicate ops.size false).getD i false) (List.range ops.size)
    simpa using this
  · rw [h0]
    obtain ⟨g, he, hh⟩ := hG.split
    obtain ⟨k1, k2⟩ := hh.step (w' := { w with drawn := w.drawn + 1 }) (m' := g.m) ((Below.refl _ w).drew) (fun _ _ => rfl) hh.marks
    exact Gam.of (he.lat k2 (fun _ _ h => h) (fun _ _ _ _ => rfl)) k1
theorem ACode.draw_k {Q : Post} {K : St → Prop} {id : Nat} (hm : C.P.follows .mixedOrders = true) (hd : allDst C.nt ops = true) (h : aOpsD C ops ops.toList s fun s' fps => commOk ops fps = true ∧ K s') : ACode C (.region id ops true) s (Then K Q) := ACode.draw hm hd h

end
end Go.Va
set_option linter.unusedVariables false
set_option linter.unusedSimpArgs false
set_option autoImplicit false
/-! Rules for a walk from left to right; the words that are reckoned out. -/
namespace Go.Va
open RowKit
section
variable {C : Ctx} {ops : Array Oper} {s : St} {Q : Post} {id : Nat} {x y : Code} {r : List Code}
/-- Codes one behind the other. -/
def AStk (C : Ctx) : List Code → St → Post → Prop
  | [], s, Q => Q .normal s
  | c :: r, s, Q => ACode C c s (Then (fun s' => AStk C r s' Q) Q)
def Exits (id : Nat) (K : St → Prop) (Q : Post) : Post
  | .normal, s => K s
  | .exit i, s => if i = id then K s else Q (.exit i) s
  | e, s => Q e s
theorem AStk.of {c : Code} (h : AStk C [c] s Q) : ACode C c s Q := by
  refine ACode.mono h fun e s' hq => ?_
  cases e <;> exact hq
theorem AStk.nil (h : Q .normal s) : AStk C [] s Q := h
theorem AStk.seq (h : AStk C (x :: y :: r) s Q) : AStk C (.seq x y :: r) s Q := by
  refine ACode.seq (ACode.mono h fun e s' hq => ?_)
  cases e <;> exact hq
theorem AStk.region (hd : allDst C.nt ops = true) (h : ∀ K : St → Prop, (∀ s', AStk C r s' Q → K s') → aOps C ops ops.toList s K) : AStk C (.region id ops false :: r) s Q := ACode.region hd (h _ fun _ h => h)
theorem AStk.draw (hm : C.P.follows .mixedOrders = true) (hd : allDst C.nt ops = true) (h : ∀ K : St → Prop, (∀ s', AStk C r s' Q → K s') → aOpsD C ops ops.toList s fun s' fps => commOk ops fps = true ∧ K s') : AStk C (.region id ops true :: r) s Q := ACode.draw hm hd (h _ fun _ h => h)
theorem AStk.cond {c : Operand} {b : Bool} (hc : s.val c = some (.lit (.bool b))) (ht : b = true → AStk C (x :: r) s Q) (hf : b = false → AStk C (y :: r) s Q) : AStk C (.cond c x y :: r) s Q := ACode.cond hc ht hf
theorem AStk.condT {c : Operand} (hc : s.val c = some (.lit (.bool true))) (ht : AStk C (x :: r) s Q) : AStk C (.cond c x y :: r) s Q := ACode.cond hc (fun _ => ht) (fun h => by cases h)
theorem AStk.condF {c : Operand} (hc : s.val c = some (.lit (.bool false))) (ht : AStk C (y :: r) s Q) : AStk C (.cond c x y :: r) s Q := ACode.cond hc (fun h => by cases h) (fun _ => ht)
theorem AStk.skip (h : AStk C r s Q) : AStk C (.skip :: r) s Q := ACode.skip h
theorem AStk.exit {i : Nat} (h : Q (.exit i) s) : AStk C (.exit i :: r) s Q := ACode.exit h
theorem AStk.ret (h : Q .ret s) : AStk C (.ret :: r) s Q := ACode.ret h
theorem AStk.block {c : Code} (h : AStk C [c] s (Exits id (fun s' => AStk C r s' Q) Q)) : AStk C (.block id c :: r) s Q := by
  refine ACode.block (ACode.mono h fun e s' hq => ?_)
  cases e with
  | exit i =>
    have hq' : Exits id (fun s' => AStk C r s' Q) Q (.exit i) s' := hq
    simp only [Exits, Blk] at hq' ⊢
    split
    · rename_i he; rw [if_pos he] at hq'; exact hq'
    · rename_i he; rw [if_neg he] at hq'; exact hq'
  | _ => exact hq
theorem AStk.loop {c : Code} (h : ALoop C c s (Then (fun s' => AStk C r s' Q) Q)) : AStk C (.loop c :: r) s Q := ACode.loop h
theorem AStk.weak {s' : St} (hw : Weak s s') (h : AStk C r s' Q) (hr : r ≠ []) : AStk C r s Q := by
  cases r with
  | nil => exact absurd rfl hr
  | cons c r => exact ACode.weak hw h
theorem Exits.normal {K : St → Prop} (h : K s) : Exits id K Q .normal s := h
theorem Exits.here {K : St → Prop} (h : K s) : Exits id K Q (.exit id) s := by simp only [Exits, if_true]; exact h
theorem Exits.there {K : St → Prop} {i : Nat} (hi : i ≠ id) (h : Q (.exit i) s) : Exits id K Q (.exit i) s := by simp only [Exits]; rw [if_neg hi]; exact h
theorem Exits.ret {K : St → Prop} (h : Q .ret s) : Exits id K Q .ret s := h
theorem Then.normal {K : St → Prop} (h : K s) : Then K Q .normal s := h
theorem Then.exit {K : St → Prop} {i : Nat} (h : Q (.exit i) s) : Then K Q (.exit i) s := h
theorem Then.ret {K : St → Prop} (h : Q .ret s) : Then K Q .ret s := h

/-- A loop by an invariant: the states at a round's head, told by i; μ goes down. -/
theorem ALoop.ind {c : Code} {ι : Type} (I : ι → St) (V : ι → Prop) (μ : ι → Nat) (i0 : ι) (hV : V i0) (h0 : Weak s (I i0)) (hr : ∀ i, V i → ∀ K : St → Prop, (∀ j s', V j → μ j < μ i → Weak s' (I j) → K s') → AStk C [c] (I i) (Then K Q)) : ALoop C c s Q := by
  have key : ∀ n i, μ i = n → V i → ALoop C c (I i) Q := by
    intro n
    induction n using Nat.strongRecOn with
    | _ n ih =>
      intro i hn hVi
      exact ALoop.round (AStk.of (hr i hVi (fun s' => ALoop C c s' Q) (fun j s' hVj hlt hw => ALoop.weak hw (ih _ (by omega) j rfl hVj))))
  exact ALoop.weak h0 (key _ i0 rfl hV)

theorem ACallsP.stk {P : Program} {Φ : Nat → List AVal → Value → Prop} {f : FuncId} {fn : Func} {c : Code} {args : List AVal} {R : AVal → Prop} (n : Nat) (hf : P.funcs[f]? = some fn) (hb : fn.body = some c) (hn : (fn.name == "runtime.NumGoroutine") = false) (hnt : fn.ntmps = n) (hl : args.length ≤ n)
    (h : ∀ w0 m0, AStk ⟨P, Φ, w0, m0, n⟩ [c] { env := envOf 0 args, box := [], row := [] } (FPost P fn R)) : ACallsP P Φ f args R := by
  subst hnt
  exact ACallsP.of hf hb hn hl (fun w0 m0 => AStk.of (h w0 m0))
theorem ACalls.stk {P : Program} {Φ : Nat → List AVal → Value → Prop} {f : FuncId} {fn : Func} {c : Code} {args : List AVal} {v : AVal} (n : Nat) (hf : P.funcs[f]? = some fn) (hb : fn.body = some c) (hn : (fn.name == "runtime.NumGoroutine") = false) (hnt : fn.ntmps = n) (hl : args.length ≤ n)
    (h : ∀ w0 m0, AStk ⟨P, Φ, w0, m0, n⟩ [c] { env := envOf 0 args, box := [], row := [] } (FPost P fn (· = v))) : ACalls P Φ f args v := (ACallsP.stk n hf hb hn hnt hl h).one
theorem FPost.normal {P : Program} {fn : Func} {R : AVal → Prop} {rs : Array ResultVar} {v : AVal} (hr : fn.results = rs) (h : ares P s rs = some v) (hR : R v) : FPost P fn R .normal s := by
  show ∃ r, ares P s fn.results = some r ∧ R r
  rw [hr]; exact ⟨v, h, hR⟩
theorem FPost.ret {P : Program} {fn : Func} {R : AVal → Prop} {rs : Array ResultVar} {v : AVal} (hr : fn.results = rs) (h : ares P s rs = some v) (hR : R v) : FPost P fn R .ret s := by
  show ∃ r, ares P s fn.results = some r ∧ R r
  rw [hr]; exact ⟨v, h, hR⟩
end

theorem toList_lit {α : Type} (l : List α) : l.toArray.toList = l := rfl
theorem getElem?_lit {α : Type} (l : List α) (i : Nat) : l.toArray[i]? = l[i]? := by simp
theorem cons_get {α : Type} (x : α) (l : List α) (i : Nat) : (x :: l)[i]? = if i = 0 then some x else l[i - 1]? := by
  cases i with
  | zero => rfl
  | succ i => simp
theorem nil_get {α : Type} (i : Nat) : ([] : List α)[i]? = none := by simp
/-! #### continuations that simp doesn't look into -/
section
variable {C : Ctx} {ops : Array Oper} {s : St} {K : St → Fp → Prop} {K0 : St → Prop} {d : Option Tmp} {dd : Tmp} {t tx ty : TypeId} {p : String} {es : Array Edge} {gq : Option (Nat × Bool)}
def Cont (C : Ctx) (ops : Array Oper) (r : List Oper) (K : St → Prop) (s : St) (_ : Fp) : Prop := aOps C ops r s K
def AD (C : Ctx) (ops : Array Oper) (r : List Oper) (acc : List Fp) (K : St → List Fp → Prop) (s : St) : Prop := aOpsD C ops r s fun s' fps => K s' (acc.reverse ++ fps)
def ContD (C : Ctx) (ops : Array Oper) (r : List Oper) (acc : List Fp) (K : St → List Fp → Prop) (s : St) (fp : Fp) : Prop := AD C ops r (fp :: acc) K s
def KD (ops : Array Oper) (K : St → Prop) (s : St) (fps : List Fp) : Prop := commOk ops fps = true ∧ K s
/-- The guard's word. -/
def gb (s : St) (t : Option Tmp) : Option (Option Bool) := match t with
  | some t => match get s.env t with
    | some (.lit (.bool b)) => some (some b)
    | some (.lit (.tuple _)) => some none
    | _ => none
  | none => none
def gif (b : Option (Option Bool)) (want : Bool) (A B : Prop) : Prop := match b with
  | some (some b) => if b = want then A else B
  | some none => B
  | none => False
theorem gif_some {b want : Bool} {A B : Prop} : gif (some (some b)) want A B = if b = want then A else B := rfl
theorem gif_skip {want : Bool} {A B : Prop} : gif (some none) want A B = B := rfl
def dstAt (ops : List Oper) (j : Nat) : Option Tmp := (ops[j]?).bind (·.dst)
theorem gd_gif {o : Oper} {j : Nat} {want : Bool} {A B : Prop} (hg : o.guard = some (j, want)) (h : gif (gb s (dstAt ops.toList j)) want A B) : gd ops o s A B := by
  unfold gd
  rw [hg]
  unfold dstAt gb gif at h
  have e : ops.toList[j]? = ops[j]? := by simp
  rw [e] at h
  simp only
  cases ht : (ops[j]?).bind (·.dst) with
  | none => rw [ht] at h; exact h.elim
  | some t =>
    rw [ht] at h
    simp only at h ⊢
    cases he : get s.env t with
    | none => rw [he] at h; exact h.elim
    | some x =>
      rw [he] at h
      cases x with
      | lit v =>
        cases v with
        | bool b =>
          simp only at h ⊢
          split at h
          · rename_i e2; subst e2
            exact ⟨fun _ => h, fun e3 => by cases b <;> cases e3⟩
          · rename_i e2
            exact ⟨fun e3 => absurd e3 e2, fun _ => h⟩
        | tuple l => exact h
        | _ => exact h.elim
      | _ => exact h.elim
/-- The evaluator. -/
def EV (C : Ctx) (ops : Array Oper) : List Oper → St → (St → Prop) → Prop
  | [], s, K => K s
  | o :: r, s, K => match o.guard with
    | none => astepN C o s (fun s' _ => EV C ops r s' K)
    | some (j, want) => gif (gb s (dstAt ops.toList j)) want (astepN C o s (fun s' _ => EV C ops r s' K)) (EV C ops r (s.put o.dst (.lit (.tuple #[]))) K)
theorem astep_mono {o : Oper} {K K' : St → Fp → Prop} (h : astep C o s K) (hk : ∀ s fp, K s fp → K' s fp) : astep C o s K' := by
  have rq : ∀ {α : Type} {x : Option α} {f g : α → Prop}, (∀ a, f a → g a) → req x f → req x g := by
    intro α x f g hfg hx
    obtain ⟨a, rfl, ha⟩ := req_elim hx
    exact hfg a ha
  unfold astep at h ⊢
  split at h
  · split at h
    · exact rq (fun zs hz => ⟨hz.1, hk _ _ hz.2⟩) h
    · exact h.elim
  · split at h
    · exact rq (fun x hx => rq (fun cs hc => ⟨hc.1, hk _ _ hc.2⟩) hx) h
    · exact h.elim
  · exact rq (fun x hx => hk _ _ hx) h
  · split at h
    · exact rq (fun x hx => hk _ _ hx) h
    · exact h.elim
  · exact rq (fun ps hp => rq (fun x hx => hk _ _ hx) hp) h
  · split at h
    · exact rq (fun e h => rq (fun z h => rq (fun b h => rq (fun zs h => rq (fun p h => rq (fun ys h => ⟨h.1, h.2.1, h.2.2.1, hk _ _ h.2.2.2⟩) h) h) h) h) h) h
    · exact h.elim
  · split at h
    · exact rq (fun as ⟨r, h1, h2⟩ => ⟨r, h1, hk _ _ h2⟩) h
    · exact rq (fun as ⟨u, h1, h2⟩ => ⟨u, h1, hk _ _ h2⟩) h
    · exact h.elim
  · exact rq (fun x hx => hk _ _ hx) h
theorem astepN_mono {o : Oper} {K K' : St → Fp → Prop} (h : astepN C o s K) (hk : ∀ s fp, K s fp → K' s fp) : astepN C o s K' := by
  unfold astepN at h ⊢
  split at h
  · split at h
    · obtain ⟨as, h1, h⟩ := req_elim h
      rw [h1]
      rcases h with ⟨R, h2, h3⟩ | ⟨d, T, L, hdd, h2, h3, h4⟩
      · exact .inl ⟨R, h2, fun r hr => hk _ _ (h3 r hr)⟩
      · exact .inr ⟨d, T, L, hdd, h2, h3, hk _ _ h4⟩
    · exact astep_mono h hk
  · split at h
    · obtain ⟨e, h1, h2⟩ := req_elim h
      rw [h1]
      exact fun b hb => hk _ _ (h2 b hb)
    · exact astep_mono h hk
  · exact astep_mono h hk
theorem EV_sound : ∀ (r : List Oper) (s : St) (K : St → Prop), EV C ops r s K → aOps C ops r s K
  | [], s, K, h => h
  | o :: r, s, K, h => by
    simp only [EV] at h
    simp only [aOps]
    split at h
    · rename_i hg
      unfold gd
      rw [hg]
      exact astepN_mono h (fun s' fp hs => EV_sound r s' K hs)
    · rename_i j want hg
      refine gd_gif hg ?_
      unfold gif at h ⊢
      split at h
      · rename_i b hb
        split at h
        · rename_i e; rw [if_pos e]; exact astepN_mono h (fun s' fp hs => EV_sound r s' K hs)
        · rename_i e; rw [if_neg e]; exact EV_sound r _ K h
      · exact EV_sound r _ K h
      · exact h.elim
/-- The evaluator, footprints noted. -/
def ED (C : Ctx) (ops : Array Oper) : List Oper → List Fp → St → (St → List Fp → Prop) → Prop
  | [], acc, s, K => K s acc.reverse
  | o :: r, acc, s, K => match o.guard with
    | none => astep C o s (fun s' fp => ED C ops r (fp :: acc) s' K)
    | some (j, want) => gif (gb s (dstAt ops.toList j)) want (astep C o s (fun s' fp => ED C ops r (fp :: acc) s' K)) (ED C ops r (⟨[], [], false, false⟩ :: acc) (s.put o.dst (.lit (.tuple #[]))) K)
theorem ED_sound : ∀ (r : List Oper) (acc : List Fp) (s : St) (K : St → List Fp → Prop), ED C ops r acc s K → aOpsD C ops r s fun s' fps => K s' (acc.reverse ++ fps)
  | [], acc, s, K, h => by
    have h' : K s acc.reverse := h
    simpa [aOpsD] using h'
  | o :: r, acc, s, K, h => by
    have step : ∀ fp s', ED C ops r (fp :: acc) s' K → aOpsD C ops r s' fun s'' fps => K s'' (acc.reverse ++ fp :: fps) := by
      intro fp s' hs
      have := ED_sound r (fp :: acc) s' K hs
      simpa [List.reverse_cons, List.append_assoc] using this
    simp only [ED] at h
    simp only [aOpsD]
    split at h
    · rename_i hg
      unfold gd
      rw [hg]
      exact astep_mono h (fun s' fp hs => step fp s' hs)
    · rename_i j want hg
      refine gd_gif hg ?_
      unfold gif at h ⊢
      split at h
      · rename_i b hb
        split at h
        · rename_i e; rw [if_pos e]; exact astep_mono h (fun s' fp hs => step fp s' hs)
        · rename_i e; rw [if_neg e]; exact step _ _ h
      · exact step _ _ h
      · exact h.elim

def C1 (C : Ctx) (ops : Array Oper) (r : List Oper) (K : St → Prop) (s : St) (_ : Fp) : Prop := EV C ops r s K
def C2 (C : Ctx) (ops : Array Oper) (r : List Oper) (acc : List Fp) (K : St → List Fp → Prop) (s : St) (fp : Fp) : Prop := ED C ops r (fp :: acc) s K
theorem EV_nil : EV C ops [] s K0 = K0 s := rfl
theorem EV_run {op : Op} {r : List Oper} : EV C ops (⟨d, op, t, p, es, none⟩ :: r) s K0 = astepN C ⟨d, op, t, p, es, none⟩ s (C1 C ops r K0) := rfl
def B1 (C : Ctx) (ops : Array Oper) (d : Option Tmp) (op : Op) (t : TypeId) (p : String) (es : Array Edge) (r : List Oper) (K0 : St → Prop) (s : St) : Prop := astepN C ⟨d, op, t, p, es, none⟩ s (C1 C ops r K0)
def B2 (C : Ctx) (ops : Array Oper) (d : Option Tmp) (r : List Oper) (K0 : St → Prop) (s : St) : Prop := EV C ops r (s.put d (.lit (.tuple #[]))) K0
def gsel (b : Option (Option Bool)) (want : Bool) (F G : St → Prop) (s : St) : Prop := gif b want (F s) (G s)
theorem gsel_tt {F G : St → Prop} : gsel (some (some true)) true F G s = F s := rfl
theorem gsel_ff {F G : St → Prop} : gsel (some (some false)) false F G s = F s := rfl
theorem gsel_tf {F G : St → Prop} : gsel (some (some true)) false F G s = G s := rfl
theorem gsel_ft {F G : St → Prop} : gsel (some (some false)) true F G s = G s := rfl
theorem gsel_skip {want : Bool} {F G : St → Prop} : gsel (some none) want F G s = G s := rfl
theorem EV_if {op : Op} {r : List Oper} {j : Nat} {want : Bool} : EV C ops (⟨d, op, t, p, es, some (j, want)⟩ :: r) s K0 = gsel (gb s (dstAt ops.toList j)) want (B1 C ops d op t p es r K0) (B2 C ops d r K0) s := rfl
theorem B1_app {op : Op} {r : List Oper} : B1 C ops d op t p es r K0 s = astepN C ⟨d, op, t, p, es, none⟩ s (C1 C ops r K0) := rfl
theorem B2_app {r : List Oper} : B2 C ops d r K0 s = EV C ops r (s.put d (.lit (.tuple #[]))) K0 := rfl
theorem ED_nil {acc : List Fp} {K : St → List Fp → Prop} : ED C ops [] acc s K = K s acc.reverse := rfl
theorem ED_run {op : Op} {r : List Oper} {acc : List Fp} {K : St → List Fp → Prop} : ED C ops (⟨d, op, t, p, es, none⟩ :: r) acc s K = astep C ⟨d, op, t, p, es, none⟩ s (C2 C ops r acc K) := rfl
def B3 (C : Ctx) (ops : Array Oper) (d : Option Tmp) (op : Op) (t : TypeId) (p : String) (es : Array Edge) (r : List Oper) (acc : List Fp) (K : St → List Fp → Prop) (s : St) : Prop := astep C ⟨d, op, t, p, es, none⟩ s (C2 C ops r acc K)
def B4 (C : Ctx) (ops : Array Oper) (d : Option Tmp) (r : List Oper) (acc : List Fp) (K : St → List Fp → Prop) (s : St) : Prop := ED C ops r (⟨[], [], false, false⟩ :: acc) (s.put d (.lit (.tuple #[]))) K
theorem ED_if {op : Op} {r : List Oper} {acc : List Fp} {K : St → List Fp → Prop} {j : Nat} {want : Bool} : ED C ops (⟨d, op, t, p, es, some (j, want)⟩ :: r) acc s K = gsel (gb s (dstAt ops.toList j)) want (B3 C ops d op t p es r acc K) (B4 C ops d r acc K) s := rfl
theorem B3_app {op : Op} {r : List Oper} {acc : List Fp} {K : St → List Fp → Prop} : B3 C ops d op t p es r acc K s = astep C ⟨d, op, t, p, es, none⟩ s (C2 C ops r acc K) := rfl
theorem B4_app {r : List Oper} {acc : List Fp} {K : St → List Fp → Prop} : B4 C ops d r acc K s = ED C ops r (⟨[], [], false, false⟩ :: acc) (s.put d (.lit (.tuple #[]))) K := rfl
theorem C1_app {r : List Oper} {fp : Fp} : C1 C ops r K0 s fp = EV C ops r s K0 := rfl
theorem C2_app {r : List Oper} {acc : List Fp} {K : St → List Fp → Prop} {fp : Fp} : C2 C ops r acc K s fp = ED C ops r (fp :: acc) s K := rfl

def KV (K : St → Fp → Prop) (s : St) (d : Option Tmp) (fp : Fp) (x : AVal) : Prop := K (s.put d x) fp
def KA (K : St → Fp → Prop) (s : St) (d : Tmp) (zs : List Value) : Prop := get s.box d = none ∧ K { env := (d, .box d 0) :: s.env, box := (d, zs.map ofC) :: s.box, row := s.row } ⟨[], [d], false, false⟩
def KB2 (K : St → Fp → Prop) (s : St) (d : Tmp) (cs : List AVal) : Prop := get s.box d = none ∧ K { env := (d, .box d 0) :: s.env, box := (d, cs) :: s.box, row := s.row } ⟨[], [d], false, false⟩
def KB1 (K : St → Fp → Prop) (s : St) (d : Tmp) (x : AVal) : Prop := req (cellsT x) (KB2 K s d)
def KS (K : St → Fp → Prop) (s : St) (p : Nat × List AVal) : Prop := K { env := s.env, box := (p.1, p.2) :: s.box, row := s.row } ⟨[], [p.1], false, false⟩
def KL (C : Ctx) (K : St → Fp → Prop) (s : St) (d : Option Tmp) (t : TypeId) (n : Nat) (ps : List (Nat × AVal)) : Prop := req (alits C.P t n ps) (KV K s d ⟨[], [], true, false⟩)
/-- A call of a function by its contract. -/
def KC (C : Ctx) (K : St → Fp → Prop) (s : St) (d : Option Tmp) (f : FuncId) (as : List AVal) : Prop := ∃ r, ACalls C.P C.Φ f as r ∧ K (s.put d r) ⟨[], [], true, false⟩
theorem KC.mk {f : FuncId} {as : List AVal} {r : AVal} (h : ACalls C.P C.Φ f as r) (hk : K (s.put d r) ⟨[], [], true, false⟩) : KC C K s d f as := ⟨r, h, hk⟩
def KN (C : Ctx) (K : St → Fp → Prop) (s : St) (d : Option Tmp) (f : FuncId) (as : List AVal) : Prop := (∃ R, ACallsP C.P C.Φ f as R ∧ ∀ r, R r → K (s.put d r) ⟨[], [], true, false⟩) ∨ (∃ d' T L, d = some d' ∧ ACallsR C.P C.Φ f as T L ∧ get s.row d' = none ∧ K { env := (d', .row d' L.length) :: s.env, box := s.box, row := (d', (T, L)) :: s.row } ⟨[], [], true, true⟩)
theorem KN.mk {f : FuncId} {as : List AVal} {r : AVal} (h : ACalls C.P C.Φ f as r) (hk : K (s.put d r) ⟨[], [], true, false⟩) : KN C K s d f as := .inl ⟨_, h.toP, fun _ e => e ▸ hk⟩
theorem KN.any {f : FuncId} {as : List AVal} {R : AVal → Prop} (h : ACallsP C.P C.Φ f as R) (hk : ∀ r, R r → K (s.put d r) ⟨[], [], true, false⟩) : KN C K s d f as := .inl ⟨R, h, hk⟩
theorem KN.own {f : FuncId} {as : List AVal} {T : TypeId} {L : List (List AVal)} (h : ACallsR C.P C.Φ f as T L) (hr : get s.row dd = none) (hk : K { env := (dd, .row dd L.length) :: s.env, box := s.box, row := (dd, (T, L)) :: s.row } ⟨[], [], true, true⟩) : KN C K s (some dd) f as := .inr ⟨dd, T, L, rfl, h, hr, hk⟩
def KQ (K : St → Fp → Prop) (s : St) (d : Option Tmp) (xs : List (List AVal)) : Prop := ∀ b : Bool, (b = true → xs = []) → K (s.put d (.bool b)) ⟨[], [], false, false⟩
theorem KQ.mk {xs : List (List AVal)} (h : ∀ b : Bool, (b = true → xs = []) → K (s.put d (.bool b)) ⟨[], [], false, false⟩) : KQ K s d xs := h
def KE (C : Ctx) (K : St → Fp → Prop) (s : St) (d : Option Tmp) (k : Nat) (as : List AVal) : Prop := ∃ u, C.Φ k as u ∧ K (s.put d (.lit u)) ⟨[], [], true, false⟩
theorem KE.mk {k : Nat} {as : List AVal} {u : Value} (h : C.Φ k as u) (hk : K (s.put d (.lit u)) ⟨[], [], true, false⟩) : KE C K s d k as := ⟨u, h, hk⟩
def callee (C : Ctx) (K : St → Fp → Prop) (s : St) (d : Option Tmp) (xs : List Operand) (y : AVal) : Prop := match y with
  | .clo f [] => req (fvals s.row C.P s.val xs) (KC C K s d f)
  | .ext k => req (dvals s.row C.P s.val xs) (KE C K s d k)
  | _ => False
def calleeN (C : Ctx) (K : St → Fp → Prop) (s : St) (d : Option Tmp) (xs : List Operand) (y : AVal) : Prop := match y with
  | .clo f [] => req (fvals s.row C.P s.val xs) (KN C K s d f)
  | .ext k => req (dvals s.row C.P s.val xs) (KE C K s d k)
  | _ => False
theorem calleeN_f {f : FuncId} {xs : List Operand} : calleeN C K s d xs (.clo f []) = req (fvals s.row C.P s.val xs) (KN C K s d f) := rfl
theorem calleeN_e {k : Nat} {xs : List Operand} : calleeN C K s d xs (.ext k) = req (dvals s.row C.P s.val xs) (KE C K s d k) := rfl
def nilq (C : Ctx) (K : St → Fp → Prop) (s : St) (d : Option Tmp) (t : TypeId) (y : AVal) : Prop := match y with
  | .sl _ _ xs => req (Telem C.P t) fun _ => KQ K s d xs
  | _ => False
theorem nilq_sl {f : Bool} {z : Nat} {xs : List (List AVal)} : nilq C K s d t (.sl f z xs) = req (Telem C.P t) fun _ => KQ K s d xs := rfl
theorem callee_f {f : FuncId} {xs : List Operand} : callee C K s d xs (.clo f []) = req (fvals s.row C.P s.val xs) (KC C K s d f) := rfl
theorem callee_e {k : Nat} {xs : List Operand} : callee C K s d xs (.ext k) = req (dvals s.row C.P s.val xs) (KE C K s d k) := rfl
/-- append: the element's type, its size and bytes; the row, its elements before; those behind. -/
def appI (P : Program) (s : St) (d : Tmp) (t tx : TypeId) (y x : Option AVal) : Option (TypeId × Nat × Nat × Nat × List (List AVal) × List (List AVal)) := match Telem P t with
  | some e => match Tsz P e, Tby P e, Tzero P e with
    | some z, some b, some zs => if zs.length = z then match aapp P s d e z y, asrc P s.row z tx x with
        | some (r, L), some ys => some (e, z, b, r, L, ys)
        | _, _ => none
      else none
    | _, _, _ => none
  | none => none
def KP (K : St → Fp → Prop) (s : St) (d : Tmp) (q : TypeId × Nat × Nat × Nat × List (List AVal) × List (List AVal)) : Prop :=
  ((q.2.2.2.2.1.length + q.2.2.2.2.2.length) * q.2.2.1 ≤ most ∧ q.2.2.2.2.1.length + q.2.2.2.2.2.length ≤ most) ∧ K { env := (d, .row q.2.2.2.1 (q.2.2.2.2.1.length + q.2.2.2.2.2.length)) :: s.env, box := s.box, row := (q.2.2.2.1, (q.1, q.2.2.2.2.1 ++ q.2.2.2.2.2)) :: s.row } ⟨[], [], false, true⟩
theorem as_move {y : Operand} : astep C ⟨d, .move y, t, p, es, gq⟩ s K = req (s.val y) (KV K s d ⟨[], [], false, false⟩) := rfl
theorem as_assign {y : Operand} : astep C ⟨d, .assign y, t, p, es, gq⟩ s K = req (s.val y) (KV K s d ⟨[], [], false, false⟩) := rfl
theorem as_pick {a b c : Operand} : astep C ⟨d, .pick a b c, t, p, es, gq⟩ s K = req (apure C.P s.row s.val (.pick a b c)) (KV K s d ⟨[], [], false, false⟩) := rfl
theorem as_build {ps : Array (Nat × Operand)} : astep C ⟨d, .build ty ps, t, p, es, gq⟩ s K = req (apure C.P s.row s.val (.build ty ps)) (KV K s d ⟨[], [], true, false⟩) := rfl
theorem as_nil {y : Operand} : astep C ⟨d, .nilCheck y, t, p, es, gq⟩ s K = req (apure C.P s.row s.val (.nilCheck y)) (KV K s d ⟨[], [], false, false⟩) := rfl
theorem as_bin {op : BinOp} {x y : Operand} : astep C ⟨d, .binOp op tx x y ty, t, p, es, gq⟩ s K = req (apure C.P s.row s.val (.binOp op tx x y ty)) (KV K s d ⟨[], [], false, false⟩) := rfl
theorem as_un {op : UnOp} {y : Operand} : astep C ⟨d, .unOp op ty y, t, p, es, gq⟩ s K = req (apure C.P s.row s.val (.unOp op ty y)) (KV K s d ⟨[], [], false, false⟩) := rfl
theorem as_conv {y : Operand} : astep C ⟨d, .convert tx ty y, t, p, es, gq⟩ s K = req (apure C.P s.row s.val (.convert tx ty y)) (KV K s d ⟨[], [], true, false⟩) := rfl
theorem as_iface {y : Operand} : astep C ⟨d, .makeInterface ty y, t, p, es, gq⟩ s K = req (apure C.P s.row s.val (.makeInterface ty y)) (KV K s d ⟨[], [], false, false⟩) := rfl
theorem as_func {f : FuncId} {a b : Array Operand} : astep C ⟨d, .makeFunc (.func f) a b, t, p, es, gq⟩ s K = req (apure C.P s.row s.val (.makeFunc (.func f) a b)) (KV K s d ⟨[], [], false, false⟩) := rfl
theorem as_slice {y : Operand} {a b c : Option Operand} : astep C ⟨d, .slice ty y a b c, t, p, es, gq⟩ s K = req (apure C.P s.row s.val (.slice ty y a b c)) (KV K s d ⟨[], [], true, false⟩) := rfl
theorem as_faddr {y : Operand} {f : Nat} : astep C ⟨d, .fieldAddr ty y f, t, p, es, gq⟩ s K = req (apure C.P s.row s.val (.fieldAddr ty y f)) (KV K s d ⟨[], [], false, false⟩) := rfl
theorem as_field {y : Operand} {f : Nat} : astep C ⟨d, .field ty y f, t, p, es, gq⟩ s K = req (apure C.P s.row s.val (.field ty y f)) (KV K s d ⟨[], [], false, false⟩) := rfl
theorem as_iaddr {x y : Operand} : astep C ⟨d, .indexAddr ty x y, t, p, es, gq⟩ s K = req (apure C.P s.row s.val (.indexAddr ty x y)) (KV K s d ⟨[], [], false, false⟩) := rfl
theorem as_index {x y : Operand} : astep C ⟨d, .index ty x y, t, p, es, gq⟩ s K = req (apure C.P s.row s.val (.index ty x y)) (KV K s d ⟨[], [], false, false⟩) := rfl
theorem as_extract {y : Operand} {i : Nat} : astep C ⟨d, .extract y i, t, p, es, gq⟩ s K = req (apure C.P s.row s.val (.extract y i)) (KV K s d ⟨[], [], false, false⟩) := rfl
theorem as_len {a : Array Operand} {ts : Array TypeId} : astep C ⟨d, .call ⟨.builtin .len, a, ts⟩, t, p, es, gq⟩ s K = req (apure C.P s.row s.val (.call ⟨.builtin .len, a, ts⟩)) (KV K s d ⟨[], [], false, false⟩) := rfl
theorem as_real {a : Array Operand} {ts : Array TypeId} : astep C ⟨d, .call ⟨.builtin .real, a, ts⟩, t, p, es, gq⟩ s K = req (apure C.P s.row s.val (.call ⟨.builtin .real, a, ts⟩)) (KV K s d ⟨[], [], false, false⟩) := rfl
theorem as_imag {a : Array Operand} {ts : Array TypeId} : astep C ⟨d, .call ⟨.builtin .imag, a, ts⟩, t, p, es, gq⟩ s K = req (apure C.P s.row s.val (.call ⟨.builtin .imag, a, ts⟩)) (KV K s d ⟨[], [], false, false⟩) := rfl
theorem as_complex {a : Array Operand} {ts : Array TypeId} : astep C ⟨d, .call ⟨.builtin .complex, a, ts⟩, t, p, es, gq⟩ s K = req (apure C.P s.row s.val (.call ⟨.builtin .complex, a, ts⟩)) (KV K s d ⟨[], [], false, false⟩) := rfl
theorem as_max {a : Array Operand} {ts : Array TypeId} : astep C ⟨d, .call ⟨.builtin .max, a, ts⟩, t, p, es, gq⟩ s K = req (apure C.P s.row s.val (.call ⟨.builtin .max, a, ts⟩)) (KV K s d ⟨[], [], false, false⟩) := rfl
theorem as_min {a : Array Operand} {ts : Array TypeId} : astep C ⟨d, .call ⟨.builtin .min, a, ts⟩, t, p, es, gq⟩ s K = req (apure C.P s.row s.val (.call ⟨.builtin .min, a, ts⟩)) (KV K s d ⟨[], [], false, false⟩) := rfl
theorem as_load {y : Operand} : astep C ⟨d, .load ty y, t, p, es, gq⟩ s K = req (aload C.P s ty (s.val y)) (KV K s d ⟨boxOf (s.val y), [], true, false⟩) := rfl
theorem as_store {x y : Operand} : astep C ⟨none, .store ty y x, t, p, es, gq⟩ s K = req (astore C.P s ty (s.val y) (s.val x)) (KS K s) := rfl
theorem as_alloc : astep C ⟨some dd, .alloc ty, t, p, es, gq⟩ s K = req (Tzero C.P ty) (KA K s dd) := rfl
theorem as_box {y : Operand} : astep C ⟨some dd, .box ty y, t, p, es, gq⟩ s K = req (s.val y) (KB1 K s dd) := rfl
theorem as_lits {n : Nat} {ps : Array (Nat × Operand)} : astep C ⟨d, .buildSlice ty n ps, t, p, es, gq⟩ s K = req (frzParts s.row C.P s.val ps.toList) (KL C K s d ty n) := rfl
theorem as_call {y : Operand} {xs : Array Operand} {ts : Array TypeId} : astep C ⟨d, .call ⟨.value y, xs, ts⟩, t, p, es, gq⟩ s K = req (s.val y) (callee C K s d xs.toList) := by
  show (match s.val y with
    | some (.clo f []) => req (fvals s.row C.P s.val xs.toList) fun as => ∃ r, ACalls C.P C.Φ f as r ∧ K (s.put d r) ⟨[], [], true, false⟩
    | some (.ext k) => req (dvals s.row C.P s.val xs.toList) fun as => ∃ u, C.Φ k as u ∧ K (s.put d (.lit u)) ⟨[], [], true, false⟩
    | _ => False) = _
  cases s.val y with
  | none => rfl
  | some v =>
    cases v with
    | clo f c => cases c <;> rfl
    | _ => rfl
theorem as_append {x y : Operand} : astep C ⟨some dd, .call ⟨.builtin .append, #[y, x], #[ty, tx]⟩, t, p, es, gq⟩ s K = req (appI C.P s dd ty tx (s.val y) (s.val x)) (KP K s dd) := by
  show (req (Telem C.P ty) fun e => req (Tsz C.P e) fun z => req (Tby C.P e) fun b => req (Tzero C.P e) fun zs => req (aapp C.P s dd e z (s.val y)) fun p => req (asrc C.P s.row z tx (s.val x)) fun ys =>
        zs.length = z ∧ (p.2.length + ys.length) * b ≤ most ∧ p.2.length + ys.length ≤ most ∧ K { env := (dd, .row p.1 (p.2.length + ys.length)) :: s.env, box := s.box, row := (p.1, (e, p.2 ++ ys)) :: s.row } ⟨[], [], false, true⟩) = _
  unfold appI
  cases Telem C.P ty with
  | none => rfl
  | some e =>
    simp only [req_some]
    cases Tsz C.P e with
    | none => rfl
    | some z =>
      cases Tby C.P e with
      | none => rfl
      | some b =>
        cases Tzero C.P e with
        | none => rfl
        | some zs =>
          simp only [req_some]
          by_cases hz : zs.length = z
          · rw [if_pos hz]
            cases aapp C.P s dd e z (s.val y) with
            | none => rfl
            | some q =>
              obtain ⟨r, L⟩ := q
              cases asrc C.P s.row z tx (s.val x) with
              | none => rfl
              | some ys => simp only [req_some, KP, hz, true_and, and_assoc]
          · rw [if_neg hz]
            cases aapp C.P s dd e z (s.val y) with
            | none => rfl
            | some q =>
              cases asrc C.P s.row z tx (s.val x) with
              | none => rfl
              | some ys => simp only [req_some, req_none, hz, false_and]
theorem an_move {y : Operand} : astepN C ⟨d, .move y, t, p, es, gq⟩ s K = req (s.val y) (KV K s d ⟨[], [], false, false⟩) := rfl
theorem an_assign {y : Operand} : astepN C ⟨d, .assign y, t, p, es, gq⟩ s K = req (s.val y) (KV K s d ⟨[], [], false, false⟩) := rfl
theorem an_pick {a b c : Operand} : astepN C ⟨d, .pick a b c, t, p, es, gq⟩ s K = req (apure C.P s.row s.val (.pick a b c)) (KV K s d ⟨[], [], false, false⟩) := rfl
theorem an_build {ps : Array (Nat × Operand)} : astepN C ⟨d, .build ty ps, t, p, es, gq⟩ s K = req (apure C.P s.row s.val (.build ty ps)) (KV K s d ⟨[], [], true, false⟩) := rfl
theorem an_nil {y : Operand} : astepN C ⟨d, .nilCheck y, t, p, es, gq⟩ s K = req (apure C.P s.row s.val (.nilCheck y)) (KV K s d ⟨[], [], false, false⟩) := rfl
theorem an_b_add {x y : Operand} : astepN C ⟨d, .binOp .add tx x y ty, t, p, es, gq⟩ s K = req (apure C.P s.row s.val (.binOp .add tx x y ty)) (KV K s d ⟨[], [], false, false⟩) := rfl
theorem an_b_sub {x y : Operand} : astepN C ⟨d, .binOp .sub tx x y ty, t, p, es, gq⟩ s K = req (apure C.P s.row s.val (.binOp .sub tx x y ty)) (KV K s d ⟨[], [], false, false⟩) := rfl
theorem an_b_mul {x y : Operand} : astepN C ⟨d, .binOp .mul tx x y ty, t, p, es, gq⟩ s K = req (apure C.P s.row s.val (.binOp .mul tx x y ty)) (KV K s d ⟨[], [], false, false⟩) := rfl
theorem an_b_quo {x y : Operand} : astepN C ⟨d, .binOp .quo tx x y ty, t, p, es, gq⟩ s K = req (apure C.P s.row s.val (.binOp .quo tx x y ty)) (KV K s d ⟨[], [], false, false⟩) := rfl
theorem an_b_rem {x y : Operand} : astepN C ⟨d, .binOp .rem tx x y ty, t, p, es, gq⟩ s K = req (apure C.P s.row s.val (.binOp .rem tx x y ty)) (KV K s d ⟨[], [], false, false⟩) := rfl
theorem an_b_and {x y : Operand} : astepN C ⟨d, .binOp .and tx x y ty, t, p, es, gq⟩ s K = req (apure C.P s.row s.val (.binOp .and tx x y ty)) (KV K s d ⟨[], [], false, false⟩) := rfl
theorem an_b_or {x y : Operand} : astepN C ⟨d, .binOp .or tx x y ty, t, p, es, gq⟩ s K = req (apure C.P s.row s.val (.binOp .or tx x y ty)) (KV K s d ⟨[], [], false, false⟩) := rfl
theorem an_b_xor {x y : Operand} : astepN C ⟨d, .binOp .xor tx x y ty, t, p, es, gq⟩ s K = req (apure C.P s.row s.val (.binOp .xor tx x y ty)) (KV K s d ⟨[], [], false, false⟩) := rfl
theorem an_b_andNot {x y : Operand} : astepN C ⟨d, .binOp .andNot tx x y ty, t, p, es, gq⟩ s K = req (apure C.P s.row s.val (.binOp .andNot tx x y ty)) (KV K s d ⟨[], [], false, false⟩) := rfl
theorem an_b_shl {x y : Operand} : astepN C ⟨d, .binOp .shl tx x y ty, t, p, es, gq⟩ s K = req (apure C.P s.row s.val (.binOp .shl tx x y ty)) (KV K s d ⟨[], [], false, false⟩) := rfl
theorem an_b_shr {x y : Operand} : astepN C ⟨d, .binOp .shr tx x y ty, t, p, es, gq⟩ s K = req (apure C.P s.row s.val (.binOp .shr tx x y ty)) (KV K s d ⟨[], [], false, false⟩) := rfl
theorem an_b_neq {x y : Operand} : astepN C ⟨d, .binOp .neq tx x y ty, t, p, es, gq⟩ s K = req (apure C.P s.row s.val (.binOp .neq tx x y ty)) (KV K s d ⟨[], [], false, false⟩) := rfl
theorem an_b_lss {x y : Operand} : astepN C ⟨d, .binOp .lss tx x y ty, t, p, es, gq⟩ s K = req (apure C.P s.row s.val (.binOp .lss tx x y ty)) (KV K s d ⟨[], [], false, false⟩) := rfl
theorem an_b_leq {x y : Operand} : astepN C ⟨d, .binOp .leq tx x y ty, t, p, es, gq⟩ s K = req (apure C.P s.row s.val (.binOp .leq tx x y ty)) (KV K s d ⟨[], [], false, false⟩) := rfl
theorem an_b_gtr {x y : Operand} : astepN C ⟨d, .binOp .gtr tx x y ty, t, p, es, gq⟩ s K = req (apure C.P s.row s.val (.binOp .gtr tx x y ty)) (KV K s d ⟨[], [], false, false⟩) := rfl
theorem an_b_geq {x y : Operand} : astepN C ⟨d, .binOp .geq tx x y ty, t, p, es, gq⟩ s K = req (apure C.P s.row s.val (.binOp .geq tx x y ty)) (KV K s d ⟨[], [], false, false⟩) := rfl
theorem an_e_t {x : Operand} {q : Tmp} : astepN C ⟨d, .binOp .eql tx x (.tmp q) ty, t, p, es, gq⟩ s K = req (apure C.P s.row s.val (.binOp .eql tx x (.tmp q) ty)) (KV K s d ⟨[], [], false, false⟩) := rfl
theorem an_e_i {x : Operand} {k : IntKind} {q : Int} : astepN C ⟨d, .binOp .eql tx x (.const (.int k q)) ty, t, p, es, gq⟩ s K = req (apure C.P s.row s.val (.binOp .eql tx x (.const (.int k q)) ty)) (KV K s d ⟨[], [], false, false⟩) := rfl
theorem an_e_b {x : Operand} {q : Bool} : astepN C ⟨d, .binOp .eql tx x (.const (.bool q)) ty, t, p, es, gq⟩ s K = req (apure C.P s.row s.val (.binOp .eql tx x (.const (.bool q)) ty)) (KV K s d ⟨[], [], false, false⟩) := rfl
theorem an_e_s {x : Operand} {q : ByteArray} : astepN C ⟨d, .binOp .eql tx x (.const (.string q)) ty, t, p, es, gq⟩ s K = req (apure C.P s.row s.val (.binOp .eql tx x (.const (.string q)) ty)) (KV K s d ⟨[], [], false, false⟩) := rfl
theorem an_e_f {x : Operand} {k : FloatKind} {q : Nat} : astepN C ⟨d, .binOp .eql tx x (.const (.float k q)) ty, t, p, es, gq⟩ s K = req (apure C.P s.row s.val (.binOp .eql tx x (.const (.float k q)) ty)) (KV K s d ⟨[], [], false, false⟩) := rfl
theorem an_e_c {x : Operand} {k : FloatKind} {q q' : Nat} : astepN C ⟨d, .binOp .eql tx x (.const (.complex k q q')) ty, t, p, es, gq⟩ s K = req (apure C.P s.row s.val (.binOp .eql tx x (.const (.complex k q q')) ty)) (KV K s d ⟨[], [], false, false⟩) := rfl
theorem an_e_a {x : Operand} {q : Array Value} : astepN C ⟨d, .binOp .eql tx x (.const (.agg q)) ty, t, p, es, gq⟩ s K = req (apure C.P s.row s.val (.binOp .eql tx x (.const (.agg q)) ty)) (KV K s d ⟨[], [], false, false⟩) := rfl
theorem an_un {op : UnOp} {y : Operand} : astepN C ⟨d, .unOp op ty y, t, p, es, gq⟩ s K = req (apure C.P s.row s.val (.unOp op ty y)) (KV K s d ⟨[], [], false, false⟩) := rfl
theorem an_conv {y : Operand} : astepN C ⟨d, .convert tx ty y, t, p, es, gq⟩ s K = req (apure C.P s.row s.val (.convert tx ty y)) (KV K s d ⟨[], [], true, false⟩) := rfl
theorem an_iface {y : Operand} : astepN C ⟨d, .makeInterface ty y, t, p, es, gq⟩ s K = req (apure C.P s.row s.val (.makeInterface ty y)) (KV K s d ⟨[], [], false, false⟩) := rfl
theorem an_func {f : FuncId} {a b : Array Operand} : astepN C ⟨d, .makeFunc (.func f) a b, t, p, es, gq⟩ s K = req (apure C.P s.row s.val (.makeFunc (.func f) a b)) (KV K s d ⟨[], [], false, false⟩) := rfl
theorem an_slice {y : Operand} {a b c : Option Operand} : astepN C ⟨d, .slice ty y a b c, t, p, es, gq⟩ s K = req (apure C.P s.row s.val (.slice ty y a b c)) (KV K s d ⟨[], [], true, false⟩) := rfl
theorem an_faddr {y : Operand} {f : Nat} : astepN C ⟨d, .fieldAddr ty y f, t, p, es, gq⟩ s K = req (apure C.P s.row s.val (.fieldAddr ty y f)) (KV K s d ⟨[], [], false, false⟩) := rfl
theorem an_field {y : Operand} {f : Nat} : astepN C ⟨d, .field ty y f, t, p, es, gq⟩ s K = req (apure C.P s.row s.val (.field ty y f)) (KV K s d ⟨[], [], false, false⟩) := rfl
theorem an_iaddr {x y : Operand} : astepN C ⟨d, .indexAddr ty x y, t, p, es, gq⟩ s K = req (apure C.P s.row s.val (.indexAddr ty x y)) (KV K s d ⟨[], [], false, false⟩) := rfl
theorem an_index {x y : Operand} : astepN C ⟨d, .index ty x y, t, p, es, gq⟩ s K = req (apure C.P s.row s.val (.index ty x y)) (KV K s d ⟨[], [], false, false⟩) := rfl
theorem an_extract {y : Operand} {i : Nat} : astepN C ⟨d, .extract y i, t, p, es, gq⟩ s K = req (apure C.P s.row s.val (.extract y i)) (KV K s d ⟨[], [], false, false⟩) := rfl
theorem an_len {a : Array Operand} {ts : Array TypeId} : astepN C ⟨d, .call ⟨.builtin .len, a, ts⟩, t, p, es, gq⟩ s K = req (apure C.P s.row s.val (.call ⟨.builtin .len, a, ts⟩)) (KV K s d ⟨[], [], false, false⟩) := rfl
theorem an_real {a : Array Operand} {ts : Array TypeId} : astepN C ⟨d, .call ⟨.builtin .real, a, ts⟩, t, p, es, gq⟩ s K = req (apure C.P s.row s.val (.call ⟨.builtin .real, a, ts⟩)) (KV K s d ⟨[], [], false, false⟩) := rfl
theorem an_imag {a : Array Operand} {ts : Array TypeId} : astepN C ⟨d, .call ⟨.builtin .imag, a, ts⟩, t, p, es, gq⟩ s K = req (apure C.P s.row s.val (.call ⟨.builtin .imag, a, ts⟩)) (KV K s d ⟨[], [], false, false⟩) := rfl
theorem an_complex {a : Array Operand} {ts : Array TypeId} : astepN C ⟨d, .call ⟨.builtin .complex, a, ts⟩, t, p, es, gq⟩ s K = req (apure C.P s.row s.val (.call ⟨.builtin .complex, a, ts⟩)) (KV K s d ⟨[], [], false, false⟩) := rfl
theorem an_max {a : Array Operand} {ts : Array TypeId} : astepN C ⟨d, .call ⟨.builtin .max, a, ts⟩, t, p, es, gq⟩ s K = req (apure C.P s.row s.val (.call ⟨.builtin .max, a, ts⟩)) (KV K s d ⟨[], [], false, false⟩) := rfl
theorem an_min {a : Array Operand} {ts : Array TypeId} : astepN C ⟨d, .call ⟨.builtin .min, a, ts⟩, t, p, es, gq⟩ s K = req (apure C.P s.row s.val (.call ⟨.builtin .min, a, ts⟩)) (KV K s d ⟨[], [], false, false⟩) := rfl
theorem an_load {y : Operand} : astepN C ⟨d, .load ty y, t, p, es, gq⟩ s K = req (aload C.P s ty (s.val y)) (KV K s d ⟨boxOf (s.val y), [], true, false⟩) := rfl
theorem an_store {x y : Operand} : astepN C ⟨none, .store ty y x, t, p, es, gq⟩ s K = req (astore C.P s ty (s.val y) (s.val x)) (KS K s) := rfl
theorem an_alloc : astepN C ⟨some dd, .alloc ty, t, p, es, gq⟩ s K = req (Tzero C.P ty) (KA K s dd) := rfl
theorem an_box {y : Operand} : astepN C ⟨some dd, .box ty y, t, p, es, gq⟩ s K = req (s.val y) (KB1 K s dd) := rfl
theorem an_lits {n : Nat} {ps : Array (Nat × Operand)} : astepN C ⟨d, .buildSlice ty n ps, t, p, es, gq⟩ s K = req (frzParts s.row C.P s.val ps.toList) (KL C K s d ty n) := rfl
theorem an_append {x y : Operand} : astepN C ⟨some dd, .call ⟨.builtin .append, #[y, x], #[ty, tx]⟩, t, p, es, gq⟩ s K = req (appI C.P s dd ty tx (s.val y) (s.val x)) (KP K s dd) := as_append (t := t) (p := p) (es := es) (gq := gq)
theorem an_call {y : Operand} {xs : Array Operand} {ts : Array TypeId} : astepN C ⟨d, .call ⟨.value y, xs, ts⟩, t, p, es, gq⟩ s K = req (s.val y) (calleeN C K s d xs.toList) := by
  show (match s.val y with
    | some (.clo f []) => req (fvals s.row C.P s.val xs.toList) fun as => (∃ R, ACallsP C.P C.Φ f as R ∧ ∀ r, R r → K (s.put d r) ⟨[], [], true, false⟩) ∨ (∃ d' T L, d = some d' ∧ ACallsR C.P C.Φ f as T L ∧ get s.row d' = none ∧ K { env := (d', .row d' L.length) :: s.env, box := s.box, row := (d', (T, L)) :: s.row } ⟨[], [], true, true⟩)
    | _ => astep C ⟨d, .call ⟨.value y, xs, ts⟩, t, p, es, gq⟩ s K) = _
  rw [as_call]
  cases s.val y with
  | none => rfl
  | some v =>
    cases v with
    | clo f c => cases c <;> rfl
    | _ => rfl
theorem an_isnil {x : Operand} : astepN C ⟨d, .binOp .eql tx x (.const (.slice none 0 0)) ty, t, p, es, gq⟩ s K = req (s.val x) (nilq C K s d tx) := by
  show (match s.val x with
    | some (.sl f z xs) => req (Telem C.P tx) fun _ => ∀ b : Bool, (b = true → xs = []) → K (s.put d (.bool b)) ⟨[], [], false, false⟩
    | _ => astep C ⟨d, .binOp .eql tx x (.const (.slice none 0 0)) ty, t, p, es, gq⟩ s K) = _
  rw [as_bin]
  simp only [apure]
  cases s.val x with
  | none => rfl
  | some v =>
    cases v with
    | lit u => cases u <;> rfl
    | _ => rfl
end
section
variable {C : Ctx} {ops : Array Oper} {s : St} {Q : Post} {id : Nat} {r : List Code}
theorem AStk.reg (hd : allDst C.nt ops = true) (h : ∀ K : St → Prop, (∀ s', AStk C r s' Q → K s') → EV C ops ops.toList s K) : AStk C (.region id ops false :: r) s Q := AStk.region hd fun K hK => EV_sound _ _ _ (h K hK)
theorem AStk.drw (hm : C.P.follows .mixedOrders = true) (hd : allDst C.nt ops = true) (h : ∀ K : St → Prop, (∀ s', AStk C r s' Q → K s') → ED C ops ops.toList [] s (KD ops K)) : AStk C (.region id ops true :: r) s Q := AStk.draw hm hd fun K hK => by
  have := ED_sound _ _ _ _ (h K hK)
  simpa [KD] using this
theorem KD.mk {K : St → Prop} {fps : List Fp} (hc : commOk ops fps = true) (h : K s) : KD ops K s fps := ⟨hc, h⟩
end

theorem AStk.len {C : Ctx} {codes : List Code} {s : St} {Q : Post} (t : Nat) {f : Bool} {z : Nat} {xs : List (List AVal)} (ht : get s.env t = some (.sl f z xs)) (h : xs.length ≤ most → AStk C codes s Q) (hne : codes ≠ []) : AStk C codes s Q := by
  cases codes with
  | nil => exact absurd rfl hne
  | cons c r =>
    intro a w hG
    have hl : xs.length ≤ most := by
      obtain ⟨g, he, hh⟩ := hG.split
      obtain ⟨v, h1, h2⟩ := he.2.2 t _ ht
      have h3 : RelD w g.m (.sl f z xs) v := h2
      cases h3 with
      | sl _ _ _ A c vv h1 h2 h3 h4 hN h5 hA h6 => exact h3
    exact h hl a w hG

attribute [irreducible] AStk EV ED B1 B2 B3 B4 gsel C1 C2 KV KA KB1 KB2 KS KL KC KE KN KQ callee calleeN nilq KP
attribute [local irreducible] astep astepN ACode ALoop req
attribute [go_sem] EV_nil EV_run EV_if ED_nil ED_run ED_if C1_app C2_app KV KA KB1 KB2 KS KL KP an_move an_assign an_pick an_build an_nil an_un an_conv an_func an_slice an_faddr an_field an_iaddr an_index an_extract an_len an_real an_imag an_complex an_max an_min an_load an_store an_alloc an_box an_lits an_append an_call an_isnil calleeN_f an_b_add an_b_sub an_b_mul an_b_quo an_b_rem an_b_and an_b_or an_b_xor an_b_andNot an_b_shl an_b_shr an_b_neq an_b_lss an_b_leq an_b_gtr an_b_geq an_e_t an_e_i an_e_b an_e_s an_e_f an_e_c an_e_a aggEq lits eqKs eqK  calleeN_e nilq_sl callee_f callee_e gsel_tt gsel_ff gsel_tf gsel_ft gsel_skip B1_app B2_app B3_app B4_app gb dstAt as_move as_assign as_pick as_build as_nil as_bin as_un as_conv as_iface an_iface ifEq aconv as_func as_slice as_faddr as_field as_iaddr as_index as_extract as_len as_real as_imag as_complex as_max as_min as_load as_store as_alloc as_box as_lits as_call as_append appI
  req_some req_none St.val St.put envOf get_cons get_nil cellsT cellsA oneA Value.oneCell' apure ofV ofC toList_lit cons_get nil_get
  Option.bind_some Option.bind_none Option.map_some Option.map_none aload astore frz frzL frzParts fvals dvals vals boxes vbin vun vconv oInt acut aslice aindexAddr aindex afieldAddr afield abuiltin alits dense abuild fillA aapp asrc boxOf rowy
  if_true if_false true_and and_true List.map_cons List.map_nil ares aresL ares1 Bool.true_eq_false Bool.false_eq_true Bool.not_true Bool.not_false Option.some.injEq
  List.length_cons List.length_nil List.take_succ_cons List.take_zero List.drop_succ_cons List.drop_zero List.cons_append List.nil_append List.append_nil List.all_cons List.all_nil Bool.and_true Bool.true_and Option.getD_some Option.getD_none List.reverse_cons List.reverse_nil
theorem gather_ev (b : Bool) (z : Nat) (cs : List AVal) (o : Nat) : gather b z cs o = if b = true then if o + z ≤ cs.length then some (.agg ((cs.drop o).take z)) else none else cs[o]? := rfl
attribute [go_sem 100] gather_ev
attribute [go_sem] List.length_map List.getElem?_map decide_true decide_false ne_eq not_true_eq_false not_false_eq_true or_false false_or true_or or_true and_self or_self Nat.mul_one Nat.add_zero Nat.zero_add Int.toNat_natCast Int.natCast_nonneg List.getElem_map
end Go.Va
