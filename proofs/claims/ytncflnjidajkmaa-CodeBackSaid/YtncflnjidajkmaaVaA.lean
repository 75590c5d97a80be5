/- The abstract logic, first part: abstract values, what a machine's world says of them, operations that only compute, append. -/
import Derived.Calls
import Derived.Below
import Derived.Deep.AppendSrc
import Derived.Laws.Sem
import GoSem.Dispatch
import Derived.Laws.Tables
import Derived.Laws.Slices
import Derived.Laws.StructEq
import Derived.Laws.BytesString
import Derived.WideLaws
import Derived.Great.FillDense
import Derived.Orders
import Derived.Deep.Upon
set_option linter.unnecessarySimpa false
set_option linter.unusedVariables false
set_option autoImplicit false
/-! Abstract values and what a machine's value says of them. -/
namespace Go.Va

/-- Abstract values. lit: a value as it stands. agg, tup: several cells, several results. sl: a slice (its elements, each by its cells; full: no spare room). row: the first n of an own row. box: a place in an own variable. el: a place among cells that stay. clo: a function with captured variables. ext: a function of known behaviour. -/
inductive AVal where
  | lit (v : Value)
  | agg (cs : List AVal)
  | tup (vs : List AVal)
  | sl (full : Bool) (z : Nat) (xs : List (List AVal))
  | row (r n : Nat)
  | box (id off : Nat)
  | el (cs : List AVal) (off : Nat)
  | clo (f : Nat) (cap : List AVal)
  | ext (k : Nat)
  | any
  deriving Inhabited

abbrev AVal.int (n : Int) : AVal := .lit (.int .i64 n)
abbrev AVal.bool (b : Bool) : AVal := .lit (.bool b)
abbrev AVal.str (s : ByteArray) : AVal := .lit (.string s)

/-- The greatest length that is spoken of. -/
def most : Nat := 140737488355328

/-- What value v says in world w, cells below the marks m staying as they are. -/
inductive RelD (w : World) (m : Nat → Nat) : AVal → Value → Prop
  | lit (v : Value) : RelD w m (.lit v) v
  | agg (cs : List AVal) (vs : List Value) (hl : vs.length = cs.length) (ho : ∀ v ∈ vs, v.oneCell' = true)
      (h : ∀ (i : Nat) (x : AVal) (v : Value), cs[i]? = some x → vs[i]? = some v → RelD w m x v) : RelD w m (.agg cs) (.agg vs.toArray)
  | tup (cs : List AVal) (vs : List Value) (hl : vs.length = cs.length)
      (h : ∀ (i : Nat) (x : AVal) (v : Value), cs[i]? = some x → vs[i]? = some v → RelD w m x v) : RelD w m (.tup cs) (.tuple vs.toArray)
  | sl (full : Bool) (sz : Nat) (xs : List (List AVal)) (A : Option Addr) (c : Nat) (vv : Nat → Nat → Value)
      (hsz : ∀ e ∈ xs, e.length = sz) (hc : xs.length ≤ c) (hm : xs.length ≤ most) (hf : full = true → c = xs.length) (hN : A = none → c = 0)
      (hcell : ∀ (j : Nat) (e : List AVal) (i : Nat), xs[j]? = some e → i < e.length → ∃ b o, A = some ⟨b, o, none⟩ ∧ w.cell? ⟨b, o + (j * sz + i), none⟩ = some (vv j i) ∧ o + (j * sz + i) < m b ∧ (vv j i).oneCell' = true)
      (hA : xs ≠ [] → ∃ b o, A = some ⟨b, o, none⟩)
      (h : ∀ (j : Nat) (e : List AVal) (i : Nat) (x : AVal), xs[j]? = some e → e[i]? = some x → RelD w m x (vv j i)) : RelD w m (.sl full sz xs) (.slice A xs.length c)
  | el (cs : List AVal) (off b o : Nat) (vv : Nat → Value)
      (hcell : ∀ (i : Nat), i < cs.length → w.cell? ⟨b, o + i, none⟩ = some (vv i) ∧ o + i < m b ∧ (vv i).oneCell' = true)
      (h : ∀ (i : Nat) (x : AVal), cs[i]? = some x → RelD w m x (vv i)) : RelD w m (.el cs off) (.pointer (some ⟨b, o + off, none⟩))

/-- A later world: the cells below the marks are as they were. -/
structure Lat (w : World) (m : Nat → Nat) (w' : World) (m' : Nat → Nat) : Prop where
  cell : ∀ b o, o < m b → w'.cell? ⟨b, o, none⟩ = w.cell? ⟨b, o, none⟩
  mono : ∀ b, m b ≤ m' b
  size : w.heap.size ≤ w'.heap.size

theorem Lat.refl (w : World) (m : Nat → Nat) : Lat w m w m := ⟨fun _ _ _ => rfl, fun _ => Nat.le_refl _, Nat.le_refl _⟩
theorem Lat.trans {w w1 w2 : World} {m m1 m2 : Nat → Nat} (h : Lat w m w1 m1) (k : Lat w1 m1 w2 m2) : Lat w m w2 m2 :=
  ⟨fun b o ho => (k.cell b o (Nat.lt_of_lt_of_le ho (h.mono b))).trans (h.cell b o ho), fun b => Nat.le_trans (h.mono b) (k.mono b), Nat.le_trans h.size k.size⟩

theorem RelD.lat {w w' : World} {m m' : Nat → Nat} (hl : Lat w m w' m') {x : AVal} {v : Value} (h : RelD w m x v) : RelD w' m' x v := by
  induction h with
  | lit v => exact .lit v
  | agg cs vs hl' ho _ ih => exact .agg cs vs hl' ho ih
  | tup cs vs hl' _ ih => exact .tup cs vs hl' ih
  | sl full sz xs A c vv hsz hc hm hf hN hcell hA _ ih =>
    refine .sl full sz xs A c vv hsz hc hm hf hN ?_ hA ih
    intro j e i hj hi
    obtain ⟨b, o, h1, h2, h3, h4⟩ := hcell j e i hj hi
    exact ⟨b, o, h1, (hl.cell b _ h3).trans h2, Nat.lt_of_lt_of_le h3 (hl.mono b), h4⟩
  | el cs off b o vv hcell _ ih =>
    refine .el cs off b o vv ?_ ih
    intro i hi
    obtain ⟨h2, h3, h4⟩ := hcell i hi
    exact ⟨(hl.cell b _ h3).trans h2, Nat.lt_of_lt_of_le h3 (hl.mono b), h4⟩

/-- No cell of a value that isn't there yet is below a mark. -/
def Marks (w : World) (m : Nat → Nat) : Prop := ∀ b, w.heap.size ≤ b → m b = 0

/-- A world that is as it was below its size. -/
theorem lat_below {w w' : World} {m m' : Nat → Nat} (hb : RowKit.Below w.heap.size w w') (hm : Marks w m) (hmm : ∀ b, m b ≤ m' b) : Lat w m w' m' :=
  ⟨fun b o ho => hb.cell (p := ⟨b, o, none⟩) (by
    rcases Nat.lt_or_ge b w.heap.size with h | h
    · exact h
    · rw [hm b h] at ho; omega), hmm, hb.size⟩

end Go.Va
set_option linter.unusedVariables false
set_option autoImplicit false
/-! States of a function's own: slots, variables in memory, own rows; what the machine holds of them. -/
namespace Go.Va
open RowKit

def get {α : Type} : List (Nat × α) → Nat → Option α
  | [], _ => none
  | (k, v) :: l, t => if k = t then some v else get l t
theorem get_nil {α : Type} (t : Nat) : get ([] : List (Nat × α)) t = none := rfl
theorem get_cons {α : Type} (k t : Nat) (v : α) (l : List (Nat × α)) : get ((k, v) :: l) t = if k = t then some v else get l t := rfl
theorem get_here {α : Type} (k : Nat) (v : α) (l : List (Nat × α)) : get ((k, v) :: l) k = some v := by rw [get_cons, if_pos rfl]
theorem get_there {α : Type} {k t : Nat} (v : α) (l : List (Nat × α)) (h : k ≠ t) : get ((k, v) :: l) t = get l t := by rw [get_cons, if_neg h]

structure St where
  env : List (Nat × AVal)
  box : List (Nat × List AVal)
  row : List (Nat × (Nat × List (List AVal)))

/-- What isn't in the program's text: where variables lie, what own rows are, the marks. -/
structure Gh where
  ρ : Nat → Option Nat
  κ : Nat → Value
  m : Nat → Nat

/-- The program, functions of known behaviour, the world and the marks in which the call began, how many slots there are. -/
structure Ctx where
  P : Program
  Φ : Nat → List AVal → Value → Prop
  w0 : World
  m0 : Nat → Nat
  nt : Nat

/-- Function f has a body here. -/
def FnBody (P : Program) (f : FuncId) : Prop := ∃ fn, P.funcs[f]? = some fn ∧ (fn.name == "runtime.NumGoroutine") = false ∧ fn.body.isSome = true

/-- The function value v behaves as φ says, from this world on. -/
def FnOk (P : Program) (φ : List AVal → Value → Prop) (w : World) (m : Nat → Nat) (v : Value) : Prop :=
  ∃ f caps, v = .func (.func f) #[] caps ∧ FnBody P f ∧ ∀ xs r, φ xs r → ∀ w' m', Lat w m w' m' → Marks w' m' → ∀ vs : List Value, vs.length = xs.length → (∀ (i : Nat) x u, xs[i]? = some x → vs[i]? = some u → RelD w' m' x u) →
    Calls P f (vs.toArray ++ caps) w' fun e w'' => e = .returned r ∧ Below w'.heap.size w' w''

/-- What a call's argument says. -/
def RelA (P : Program) (Φ : Nat → List AVal → Value → Prop) (w : World) (m : Nat → Nat) : AVal → Value → Prop
  | .ext k, v => FnOk P (Φ k) w m v
  | x, v => RelD w m x v

/-- The contract of a function: at arguments that say args it hands back what says r; what there was stays. -/
def ACalls (P : Program) (Φ : Nat → List AVal → Value → Prop) (f : FuncId) (args : List AVal) (r : AVal) : Prop :=
  FnBody P f ∧ ∀ w m (vs : List Value), Marks w m → vs.length = args.length → (∀ (i : Nat) x v, args[i]? = some x → vs[i]? = some v → RelA P Φ w m x v) →
    Calls P f vs.toArray w fun e w' => ∃ v m', e = .returned v ∧ RelD w' m' r v ∧ Below w.heap.size w w' ∧ (∀ b, b < w.heap.size → m' b = m b) ∧ Marks w' m'

/-- The contract of a function that hands back one of several. -/
def ACallsP (P : Program) (Φ : Nat → List AVal → Value → Prop) (f : FuncId) (args : List AVal) (R : AVal → Prop) : Prop :=
  FnBody P f ∧ ∀ w m (vs : List Value), Marks w m → vs.length = args.length → (∀ (i : Nat) x v, args[i]? = some x → vs[i]? = some v → RelA P Φ w m x v) →
    Calls P f vs.toArray w fun e w' => ∃ r, R r ∧ ∃ v m', e = .returned v ∧ RelD w' m' r v ∧ Below w.heap.size w w' ∧ (∀ b, b < w.heap.size → m' b = m b) ∧ Marks w' m'
theorem ACalls.toP {P : Program} {Φ : Nat → List AVal → Value → Prop} {f : FuncId} {args : List AVal} {r : AVal} (h : ACalls P Φ f args r) : ACallsP P Φ f args (· = r) :=
  ⟨h.1, fun w m vs h1 h2 h3 => (h.2 w m vs h1 h2 h3).mono fun e w' hq => ⟨r, rfl, hq⟩⟩
theorem ACallsP.one {P : Program} {Φ : Nat → List AVal → Value → Prop} {f : FuncId} {args : List AVal} {r : AVal} (h : ACallsP P Φ f args (· = r)) : ACalls P Φ f args r :=
  ⟨h.1, fun w m vs h1 h2 h3 => (h.2 w m vs h1 h2 h3).mono fun e w' ⟨r', hr, hq⟩ => hr ▸ hq⟩
theorem ACallsP.mono {P : Program} {Φ : Nat → List AVal → Value → Prop} {f : FuncId} {args : List AVal} {R R' : AVal → Prop} (h : ACallsP P Φ f args R) (hR : ∀ r, R r → R' r) : ACallsP P Φ f args R' :=
  ⟨h.1, fun w m vs h1 h2 h3 => (h.2 w m vs h1 h2 h3).mono fun e w' ⟨r', hr, hq⟩ => ⟨r', hR _ hr, hq⟩⟩

/-- A captured variable's place. -/
def RelB (ρ : Nat → Option Nat) : AVal → Value → Prop
  | .box id off, v => ∃ b, ρ id = some b ∧ v = .pointer (some ⟨b, off, none⟩)
  | _, _ => False

/-- What a slot or a variable's cell says. -/
def RelT (C : Ctx) (row : List (Nat × (Nat × List (List AVal)))) (g : Gh) (w : World) : AVal → Value → Prop
  | .row r n, v => ∃ T L, get row r = some (T, L) ∧ n ≤ L.length ∧ (∃ z, (C.P.info? T).map (·.size) = some z ∧ RelD w g.m (.sl false z (L.take n)) v) ∧ (n = L.length → v = g.κ r)
  | .box id off, v => ∃ b, g.ρ id = some b ∧ v = .pointer (some ⟨b, off, none⟩)
  | .clo f cap, v => ∃ caps : List Value, v = .func (.func f) #[] caps.toArray ∧ caps.length = cap.length ∧ ∀ (i : Nat) x u, cap[i]? = some x → caps[i]? = some u → RelB g.ρ x u
  | .ext k, v => FnOk C.P (C.Φ k) w g.m v
  | .any, _ => True
  | x, v => RelD w g.m x v

/-- The block that an own slice may still write. -/
def spare : Value → Option Nat
  | .slice (some a) n c => if n < c then some a.block else none
  | _ => none

/-- An own row: its elements lie there; with spare room it is alone in its block. -/
def RowOk (C : Ctx) (row : List (Nat × (Nat × List (List AVal)))) (g : Gh) (w : World) (r T : Nat) (L : List (List AVal)) : Prop :=
  (∃ z, (C.P.info? T).map (·.size) = some z ∧ RelD w g.m (.sl false z L) (g.κ r)) ∧
  ∀ b, spare (g.κ r) = some b → C.w0.heap.size ≤ b ∧
    (∃ n c arr z, g.κ r = .slice (some ⟨b, 0, none⟩) n c ∧ w.heap[b]? = some (.cells arr T (0, 0)) ∧ (C.P.info? T).map (·.size) = some z ∧ c * z ≤ arr.size ∧ g.m b = n * z) ∧
    (∀ id, g.ρ id ≠ some b) ∧ ∀ r' T' L', r' ≠ r → get row r' = some (T', L') → spare (g.κ r') ≠ some b

/-- What memory holds of the variables and rows. -/
structure Hp (C : Ctx) (box : List (Nat × List AVal)) (row : List (Nat × (Nat × List (List AVal)))) (g : Gh) (w : World) : Prop where
  boxes : ∀ id cs, get box id = some cs → ∃ b arr T, g.ρ id = some b ∧ C.w0.heap.size ≤ b ∧ w.heap[b]? = some (.cells arr T (0, 0)) ∧ arr.size = cs.length ∧ g.m b = 0 ∧
    ∀ (i : Nat) x v, cs[i]? = some x → arr[i]? = some v → v.oneCell' = true ∧ RelT C row g w x v
  inj : ∀ id id' b, g.ρ id = some b → g.ρ id' = some b → id = id'
  dom : ∀ id b, g.ρ id = some b → b < w.heap.size ∧ ∃ cs, get box id = some cs
  rows : ∀ r T L, get row r = some (T, L) → RowOk C row g w r T L
  marks : Marks w g.m
  below : Below C.w0.heap.size C.w0 w
  old : ∀ b, b < C.w0.heap.size → g.m b = C.m0 b

/-- The machine is in state s. -/
def Gam (C : Ctx) (s : St) (a : Act) (w : World) : Prop :=
  ∃ g, a.defers = [] ∧ C.nt ≤ a.tmps.size ∧ Hp C s.box s.row g w ∧ ∀ t x, get s.env t = some x → ∃ v, a.tmps[t]? = some v ∧ RelT C s.row g w x v

/-- A slice with spare room is alone in its block, which is not older than n0 blocks. -/
def Own (P : Program) (n0 : Nat) (w : World) (m : Nat → Nat) (T : TypeId) (v : Value) : Prop :=
  ∀ b, spare v = some b → n0 ≤ b ∧ ∃ n c arr z, v = .slice (some ⟨b, 0, none⟩) n c ∧ w.heap[b]? = some (.cells arr T (0, 0)) ∧ (P.info? T).map (·.size) = some z ∧ c * z ≤ arr.size ∧ m b = n * z
def ACallsR (P : Program) (Φ : Nat → List AVal → Value → Prop) (f : FuncId) (args : List AVal) (T : TypeId) (xs : List (List AVal)) : Prop :=
  FnBody P f ∧ ∀ w m (vs : List Value), Marks w m → vs.length = args.length → (∀ (i : Nat) x v, args[i]? = some x → vs[i]? = some v → RelA P Φ w m x v) →
    Calls P f vs.toArray w fun e w' => ∃ v m', e = .returned v ∧ (∃ z, (P.info? T).map (·.size) = some z ∧ RelD w' m' (.sl false z xs) v) ∧ Below w.heap.size w w' ∧ (∀ b, b < w.heap.size → m' b = m b) ∧ Marks w' m' ∧ Own P w.heap.size w' m' T v

theorem RelT.lat {C : Ctx} {row : List (Nat × (Nat × List (List AVal)))} {g g' : Gh} {w w' : World} {x : AVal} {v : Value} (h : RelT C row g w x v) (hl : Lat w g.m w' g'.m)
    (hρ : ∀ id b, g.ρ id = some b → g'.ρ id = some b) (hκ : ∀ r T L, get row r = some (T, L) → g'.κ r = g.κ r) : RelT C row g' w' x v := by
  cases x with
  | row r n =>
    obtain ⟨T, L, h1, h2, h3, h4⟩ := h
    obtain ⟨z, hz, h3⟩ := h3
    exact ⟨T, L, h1, h2, ⟨z, hz, h3.lat hl⟩, fun hn => by rw [hκ r T L h1]; exact h4 hn⟩
  | box id off =>
    obtain ⟨b, h1, h2⟩ := h
    exact ⟨b, hρ _ _ h1, h2⟩
  | clo f cap =>
    obtain ⟨caps, h1, h2, h3⟩ := h
    refine ⟨caps, h1, h2, fun i x u hx hu => ?_⟩
    have h4 := h3 i x u hx hu
    cases x <;> first | exact h4.elim | skip
    obtain ⟨b, h5, h6⟩ := h4
    exact ⟨b, hρ _ _ h5, h6⟩
  | ext k =>
    obtain ⟨f, caps, h1, h2, h3⟩ := h
    exact ⟨f, caps, h1, h2, fun xs r hr w1 m1 hl1 => h3 xs r hr w1 m1 (hl.trans hl1)⟩
  | any => trivial
  | lit v => exact RelD.lat hl h
  | agg cs => exact RelD.lat hl h
  | tup cs => exact RelD.lat hl h
  | sl f z xs => exact RelD.lat hl h
  | el cs off => exact RelD.lat hl h

/-- Nothing that is told of has been touched: marked cells, variables, rows with spare room. -/
theorem Hp.step {C : Ctx} {box : List (Nat × List AVal)} {row : List (Nat × (Nat × List (List AVal)))} {g : Gh} {w w' : World} {m' : Nat → Nat} (h : Hp C box row g w)
    (hb : Below w.heap.size w w') (hm : ∀ b, b < w.heap.size → m' b = g.m b) (hM : Marks w' m') : Hp C box row { g with m := m' } w' ∧ Lat w g.m w' m' := by
  have hl : Lat w g.m w' m' := lat_below hb h.marks (fun b => by
    rcases Nat.lt_or_ge b w.heap.size with h1 | h1
    · rw [hm b h1]; exact Nat.le_refl _
    · rw [h.marks b h1]; exact Nat.zero_le _)
  refine ⟨⟨?_, h.inj, ?_, ?_, hM, ?_, ?_⟩, hl⟩
  · intro id cs hid
    obtain ⟨b, arr, T, h1, h2, h3, h4, h5, h6⟩ := h.boxes id cs hid
    have hlt : b < w.heap.size := (h.dom id b h1).1
    refine ⟨b, arr, T, h1, h2, (hb.block b hlt).trans h3, h4, (hm b hlt).trans h5, fun i x v hx hv => ?_⟩
    obtain ⟨h7, h8⟩ := h6 i x v hx hv
    exact ⟨h7, h8.lat hl (fun _ _ h => h) (fun _ _ _ _ => rfl)⟩
  · intro id b hid
    obtain ⟨h1, h2⟩ := h.dom id b hid
    exact ⟨Nat.lt_of_lt_of_le h1 hb.size, h2⟩
  · intro r T L hr
    obtain ⟨⟨z, hz, h1⟩, h3⟩ := h.rows r T L hr
    refine ⟨⟨z, hz, h1.lat hl⟩, fun b hs => ?_⟩
    obtain ⟨h4, ⟨n, c, arr, z, h5, h6, h7, h8, h9⟩, h10, h11⟩ := h3 b hs
    have hlt : b < w.heap.size := (Array.getElem?_eq_some_iff.1 h6).1
    exact ⟨h4, ⟨n, c, arr, z, h5, (hb.block b hlt).trans h6, h7, h8, (hm b hlt).trans h9⟩, h10, h11⟩
  · exact h.below.trans (hb.mono (h.below.size))
  · intro b hlt
    exact (hm b (Nat.lt_of_lt_of_le hlt h.below.size)).trans (h.old b hlt)

/-- The machine's slots behind an operation. -/
def St.put (s : St) (d : Option Tmp) (x : AVal) : St := match d with | some t => { s with env := (t, x) :: s.env } | none => s

theorem St.put_box (s : St) (d : Option Tmp) (x : AVal) : (s.put d x).box = s.box := by cases d <;> rfl
theorem St.put_row (s : St) (d : Option Tmp) (x : AVal) : (s.put d x).row = s.row := by cases d <;> rfl
theorem St.put_env (s : St) (t : Tmp) (x : AVal) : (s.put (some t) x).env = (t, x) :: s.env := rfl

/-- The slots hold what the state says, for this heap. -/
def Env (C : Ctx) (env : List (Nat × AVal)) (row : List (Nat × (Nat × List (List AVal)))) (g : Gh) (a : Act) (w : World) : Prop :=
  a.defers = [] ∧ C.nt ≤ a.tmps.size ∧ ∀ t x, get env t = some x → ∃ v, a.tmps[t]? = some v ∧ RelT C row g w x v

theorem Env.put {C : Ctx} {s : St} {row : List (Nat × (Nat × List (List AVal)))} {g : Gh} {a : Act} {w : World} (h : Env C s.env row g a w) {d : Option Tmp} (hd : ∀ t, d = some t → t < C.nt) {x : AVal} {v : Value} (hv : RelT C row g w x v) :
    Env C (s.put d x).env row g (a.put d v) w := by
  obtain ⟨h1, h2, h3⟩ := h
  cases d with
  | none => exact ⟨h1, h2, h3⟩
  | some t =>
    refine ⟨h1, by simpa [Act.put] using h2, fun u y hu => ?_⟩
    have hlt : t < a.tmps.size := Nat.lt_of_lt_of_le (hd t rfl) h2
    rw [St.put_env, get_cons] at hu
    by_cases e : t = u
    · subst e
      rw [if_pos rfl] at hu
      injection hu with hu
      subst hu
      exact ⟨v, by simp [Act.put, hlt], hv⟩
    · rw [if_neg e] at hu
      obtain ⟨z, h4, h5⟩ := h3 u y hu
      exact ⟨z, by simp only [Act.put]; rw [Array.getElem?_setIfInBounds_ne e]; exact h4, h5⟩

theorem Env.lat {C : Ctx} {env : List (Nat × AVal)} {row : List (Nat × (Nat × List (List AVal)))} {g g' : Gh} {a : Act} {w w' : World} (h : Env C env row g a w) (hl : Lat w g.m w' g'.m)
    (hρ : ∀ id b, g.ρ id = some b → g'.ρ id = some b) (hκ : ∀ r T L, get row r = some (T, L) → g'.κ r = g.κ r) : Env C env row g' a w' :=
  ⟨h.1, h.2.1, fun t x ht => by
    obtain ⟨v, h1, h2⟩ := h.2.2 t x ht
    exact ⟨v, h1, h2.lat hl hρ hκ⟩⟩

theorem Gam.of {C : Ctx} {s : St} {a : Act} {w : World} {g : Gh} (he : Env C s.env s.row g a w) (hh : Hp C s.box s.row g w) : Gam C s a w := ⟨g, he.1, he.2.1, hh, he.2.2⟩
theorem Gam.split {C : Ctx} {s : St} {a : Act} {w : World} (h : Gam C s a w) : ∃ g, Env C s.env s.row g a w ∧ Hp C s.box s.row g w := by
  obtain ⟨g, h1, h2, h3, h4⟩ := h
  exact ⟨g, ⟨h1, h2, h4⟩, h3⟩

end Go.Va
set_option linter.unusedVariables false
set_option linter.unusedSimpArgs false
set_option autoImplicit false
/-! What an operation that only computes hands back. -/
namespace Go.Va
open RowKit

/-! #### the program's types -/
def Tsz (P : Program) (t : TypeId) : Option Nat := (P.info? t).map (·.size)
def Tagg (P : Program) (t : TypeId) : Option Bool := match P.underlying t with
  | some (.struct _) => some true
  | some (.array _ _) => some true
  | some _ => some false
  | none => none
def Telem (P : Program) (t : TypeId) : Option TypeId := match P.underlying t with
  | some (.slice e) => some e
  | _ => none
def Tarr (P : Program) (t : TypeId) : Option (Nat × TypeId) := match P.underlying t with
  | some (.array n e) => some (n, e)
  | _ => none
/-- A field: where it begins, its size, whether it is of several cells. -/
def Tfld (P : Program) (t : TypeId) (f : Nat) : Option (Nat × Nat × Bool) := match P.underlying t with
  | some (.struct fs) => match fs[f]? with
    | some fd => match Tsz P fd.type, Tagg P fd.type with
      | some z, some b => some (fd.offset, z, b)
      | _, _ => none
    | none => none
  | _ => none
def isBool (P : Program) (t : TypeId) : Bool := match P.underlying t with
  | some .bool => true
  | _ => false

theorem run_und {P : Program} {t : TypeId} {d : TypeDesc} (h : P.underlying t = some d) (w : World) : (underlying t).run P w = .ok d w := by
  simp [underlying, h]
theorem run_sz {P : Program} {t : TypeId} {z : Nat} (h : Tsz P t = some z) (w : World) : (sizeOf t).run P w = .ok z w := by
  unfold Tsz at h
  cases hi : P.info? t with
  | none => rw [hi] at h; simp at h
  | some i =>
    rw [hi] at h
    simp at h
    subst h
    simp [sizeOf, typeInfo, hi]
theorem run_agg {P : Program} {t : TypeId} {b : Bool} (h : Tagg P t = some b) (w : World) : (isAgg t).run P w = .ok b w := by
  unfold Tagg at h
  cases hu : P.underlying t with
  | none => rw [hu] at h; simp at h
  | some d =>
    rw [hu] at h
    simp only [isAgg, Sem.run_bind, run_und hu, Result.andThen_ok]
    cases d <;> simp_all
theorem elem_und {P : Program} {t e : TypeId} (h : Telem P t = some e) : P.underlying t = some (.slice e) := by
  unfold Telem at h
  split at h
  · rename_i e' hu; rw [hu]; injection h with h; rw [h]
  · cases h
theorem arr_und {P : Program} {t e n : TypeId} (h : Tarr P t = some (n, e)) : P.underlying t = some (.array n e) := by
  unfold Tarr at h
  split at h
  · rename_i n' e' hu; rw [hu]; injection h with h; injection h with h1 h2; rw [h1, h2]
  · cases h
theorem fld_und {P : Program} {t : TypeId} {f o z : Nat} {b : Bool} (h : Tfld P t f = some (o, z, b)) :
    ∃ (fs : Array Field) (fd : Field), P.underlying t = some (.struct fs) ∧ fs[f]? = some fd ∧ fd.offset = o ∧ Tsz P fd.type = some z ∧ Tagg P fd.type = some b := by
  unfold Tfld at h
  split at h
  · rename_i fs hu
    split at h
    · rename_i fd hf
      split at h
      · rename_i z' b' hz hb
        injection h with h
        injection h with h1 h2
        injection h2 with h2 h3
        exact ⟨fs, fd, hu, hf, h1, by rw [hz, h2], by rw [hb, h3]⟩
      · cases h
    · cases h
  · cases h

/-! #### constants -/
def ofC : Value → AVal
  | .slice none 0 0 => .sl true 0 []
  | v => .lit v
theorem relD_nil (w : World) (m : Nat → Nat) (z : Nat) : RelD w m (.sl true z []) (.slice none 0 0) :=
  .sl true z [] none 0 (fun _ _ => default) (by simp) (Nat.le_refl _) (Nat.zero_le _) (fun _ => rfl) (fun _ => rfl) (by simp) (by simp) (by simp)
theorem relD_ofC (w : World) (m : Nat → Nat) (v : Value) : RelD w m (ofC v) v := by
  unfold ofC
  split
  · exact relD_nil w m 0
  · exact .lit v
def ofV : Value → AVal
  | .agg cs => if cs.all (·.oneCell') then .agg (cs.toList.map ofC) else .any
  | .tuple _ => .any
  | v => ofC v
theorem relT_of_relD {C : Ctx} {row : List (Nat × (Nat × List (List AVal)))} {g : Gh} {w : World} {x : AVal} {v : Value} (h : RelD w g.m x v) : RelT C row g w x v := by
  cases h with
  | lit v => exact .lit v
  | agg cs vs hl ho h => exact .agg cs vs hl ho h
  | tup cs vs hl h => exact .tup cs vs hl h
  | sl full sz xs A c vv h1 h2 h3 h4 hN h5 h6 h7 => exact .sl full sz xs A c vv h1 h2 h3 h4 hN h5 h6 h7
  | el cs off b o vv h1 h2 => exact .el cs off b o vv h1 h2
theorem relT_ofC {C : Ctx} {row : List (Nat × (Nat × List (List AVal)))} {g : Gh} {w : World} (v : Value) : RelT C row g w (ofC v) v := relT_of_relD (relD_ofC w g.m v)
theorem relT_ofV {C : Ctx} {row : List (Nat × (Nat × List (List AVal)))} {g : Gh} {w : World} (v : Value) : RelT C row g w (ofV v) v := by
  unfold ofV
  split
  · rename_i cs
    split
    · rename_i ho
      have h : RelD w g.m (.agg (cs.toList.map ofC)) (.agg cs.toList.toArray) := by
        refine .agg _ _ (by simp) (fun v hv => ?_) (fun i x v hx hv => ?_)
        · rw [Array.all_eq_true'] at ho
          exact ho v (by simpa using hv)
        · rw [List.getElem?_map, hv] at hx
          simp at hx
          rw [← hx]
          exact relD_ofC w g.m v
      simpa using relT_of_relD h
    · trivial
  · trivial
  · exact relT_ofC _

/-- The same value, as data: own rows as they stand. -/
def frz (row : List (Nat × (Nat × List (List AVal)))) (P : Program) : AVal → Option AVal
  | .row r n => match get row r with
    | some (T, L) => match Tsz P T with
      | some z => some (.sl false z (L.take n))
      | none => none
    | none => none
  | .lit v => some (.lit v)
  | .agg cs => some (.agg cs)
  | .tup cs => some (.tup cs)
  | .sl f z xs => some (.sl f z xs)
  | .el cs o => some (.el cs o)
  | _ => none
theorem frz_sound {C : Ctx} {row : List (Nat × (Nat × List (List AVal)))} {g : Gh} {w : World} {x y : AVal} {v : Value} (h : RelT C row g w x v) (hf : frz row C.P x = some y) : RelD w g.m y v := by
  cases x <;> simp only [frz] at hf
  case row r n =>
    obtain ⟨T, L, h1, h2, ⟨z, hz, h3⟩, h4⟩ := h
    rw [h1] at hf
    simp only [Tsz, hz] at hf
    injection hf with hf
    rw [← hf]
    exact h3
  all_goals first
    | (injection hf with hf; subst hf; exact h)
    | cases hf

/-- What an operand says. -/
def St.val (s : St) : Operand → Option AVal
  | .tmp t => get s.env t
  | .const v => some (ofV v)
  | .func f => some (.clo f [])
  | .global _ => none
theorem St.val_sound {C : Ctx} {s : St} {row : List (Nat × (Nat × List (List AVal)))} {g : Gh} {a : Act} {w : World} (he : Env C s.env row g a w) (y : Operand) (z : AVal) (h : s.val y = some z) : RelT C row g w z (a.eval y) := by
  cases y with
  | tmp t =>
    obtain ⟨v, h1, h2⟩ := he.2.2 t z h
    have : a.eval (.tmp t) = v := by simp [Act.eval, Array.getD_eq_getD_getElem?, h1]
    rw [this]; exact h2
  | const v =>
    injection h with h
    subst h
    exact relT_ofV v
  | func f =>
    injection h with h
    subst h
    exact ⟨[], rfl, rfl, by simp⟩
  | global _ => cases h

/-! #### two literals -/
def iand (k : IntKind) (a b : Int) : Int := k.wrap (BitVec.ofInt k.bits a &&& BitVec.ofInt k.bits b).toNat
def ior (k : IntKind) (a b : Int) : Int := k.wrap (BitVec.ofInt k.bits a ||| BitVec.ofInt k.bits b).toNat
def ixor (k : IntKind) (a b : Int) : Int := k.wrap (BitVec.ofInt k.bits a ^^^ BitVec.ofInt k.bits b).toNat
def vbin (P : Program) (t : TypeId) (op : BinOp) : Value → Value → Option Value
  | .int k a, .int k' b => match op with
    | .shl => if b < 0 then none else some (.int k (k.wrap (a * 2 ^ (min b.toNat k.bits))))
    | .shr => if b < 0 then none else some (.int k (a.fdiv (2 ^ (min b.toNat k.bits))))
    | op => if k = k' then match op with
      | .add => some (.int k (k.wrap (a + b)))
      | .sub => some (.int k (k.wrap (a - b)))
      | .mul => some (.int k (k.wrap (a * b)))
      | .eql => some (.bool (a == b))
      | .neq => some (.bool (a != b))
      | .lss => some (.bool (decide (a < b)))
      | .leq => some (.bool (decide (a ≤ b)))
      | .gtr => some (.bool (decide (b < a)))
      | .geq => some (.bool (decide (b ≤ a)))
      | .quo => if b = 0 then none else some (.int k (k.wrap (a.tdiv b)))
      | .rem => if b = 0 then none else some (.int k (a.tmod b))
      | .and => some (.int k (iand k a b))
      | .or => some (.int k (ior k a b))
      | .xor => some (.int k (ixor k a b))
      | _ => none
    else none
  | .string a, .string b => match op with
    | .eql => some (.bool (a.toList == b.toList))
    | .neq => some (.bool (!(a.toList == b.toList)))
    | .lss => some (.bool (Op.bytesLess a.toList b.toList))
    | .leq => some (.bool (Op.bytesLess a.toList b.toList || a.toList == b.toList))
    | .gtr => some (.bool (!(Op.bytesLess a.toList b.toList || a.toList == b.toList)))
    | .geq => some (.bool (!Op.bytesLess a.toList b.toList))
    | _ => none
  | .bool a, .bool b => if isBool P t then match op with
    | .eql => some (.bool (a == b))
    | .neq => some (.bool (!(a == b)))
    | _ => none else none
  | .float k a, .float k' b => if k = k' then match op with
    | .eql => some (.bool (k.format.order a b == some .eq))
    | .neq => some (.bool (k.format.order a b != some .eq))
    | .lss => some (.bool (k.format.order a b == some .lt))
    | .leq => some (.bool (k.format.order a b == some .lt || k.format.order a b == some .eq))
    | .gtr => some (.bool (k.format.order a b == some .gt))
    | .geq => some (.bool (k.format.order a b == some .gt || k.format.order a b == some .eq))
    | _ => none else none
  | .complex k a b, .complex k' c d => if k = k' then match op with
    | .eql => some (.bool (k.format.order a c == some .eq && k.format.order b d == some .eq))
    | .neq => some (.bool (!(k.format.order a c == some .eq && k.format.order b d == some .eq)))
    | _ => none else none
  | _, _ => none

theorem isBool_und {P : Program} {t : TypeId} (h : isBool P t = true) : P.underlying t = some .bool := by
  unfold isBool at h
  split at h
  · assumption
  · cases h

theorem run_equalIn_bool {P : Program} {t : TypeId} (d : Nat) (hu : P.underlying t = some .bool) (p q : Bool) (w : World) : (Op.equalIn (d + 1) t (.bool p) (.bool q)).run P w = .ok (p == q) w := by
  simp only [Op.equalIn, Sem.run_bind, run_und hu, Result.andThen_ok]
  rfl

theorem vbin_sound {P : Program} {t : TypeId} {op : BinOp} {a b v : Value} (h : vbin P t op a b = some v) (x y : Operand) (w : World) :
    (do eqGuard op t x y a b; binOp op t a b : Sem Value).run P w = .ok v w := by
  have hg : (eqGuard op t x y a b).run P w = .ok () w := by
    unfold eqGuard
    cases op <;> first
      | rfl
      | (cases a <;> cases b <;> first | rfl | (simp [vbin] at h; done))
  rw [Sem.run_bind, hg, Result.andThen_ok]
  cases a with
  | int k i =>
    cases b with
    | int k' j =>
      cases op <;> simp only [vbin] at h <;>
        (split at h <;> first
          | (cases h; done)
          | (simp only [Option.some.injEq] at h; subst h; simp [binOp, Op.shift, *]; done)
          | (simp only [Option.some.injEq] at h; subst h; simp_all [binOp, Op.intArith, Op.intCmp, Op.intBits, Op.intDiv, iand, ior, ixor]; done)
          | (split at h <;> first
            | (cases h; done)
            | (simp only [Option.some.injEq] at h; subst h; simp_all [binOp, Op.intArith, Op.intCmp, Op.intBits, Op.intDiv, iand, ior, ixor]; done)))
    | _ => simp [vbin] at h
  | string s =>
    cases b with
    | string s' =>
      cases op <;> simp only [vbin] at h <;> first
        | (cases h; done)
        | (simp only [Option.some.injEq] at h; subst h; simp [binOp, Op.stringOp])
    | _ => simp [vbin] at h
  | bool p =>
    cases b with
    | bool q =>
      simp only [vbin] at h
      split at h
      · rename_i hb
        have hu := isBool_und hb
        have he : (Op.equal t (.bool p) (.bool q)).run P w = .ok (p == q) w := run_equalIn_bool 9999 hu p q w
        cases op <;> simp only at h <;> first
          | (cases h; done)
          | (simp only [Option.some.injEq] at h; subst h; simp only [binOp, Sem.run_bind, he, Result.andThen_ok, Sem.run_pure])
      · cases h
    | _ => simp [vbin] at h
  | float k p =>
    cases b with
    | float k' q =>
      simp only [vbin] at h
      split at h
      · rename_i hk
        subst hk
        cases op <;> simp only at h <;> first
          | (cases h; done)
          | (simp only [Option.some.injEq] at h; subst h; simp [binOp, Op.floatCmp])
      · cases h
    | _ => simp [vbin] at h
  | complex k p q =>
    cases b with
    | complex k' p' q' =>
      simp only [vbin] at h
      split at h
      · rename_i hk
        subst hk
        cases op <;> simp only at h <;> first
          | (cases h; done)
          | (simp only [Option.some.injEq] at h; subst h; simp [binOp, Op.complexOp, Op.Complex.cmp, Op.floatCmp, asBool])
      · cases h
    | _ => simp [vbin] at h
  | _ => cases b <;> simp [vbin] at h

end Go.Va
set_option linter.unusedVariables false
set_option linter.unusedSimpArgs false
set_option autoImplicit false
/-! Operations that only compute: their answers as data. -/
namespace Go.Va
open RowKit

/-! #### cell by cell -/
def PW (R : AVal → Value → Prop) (cs : List AVal) (vs : List Value) : Prop := vs.length = cs.length ∧ ∀ (i : Nat) x v, cs[i]? = some x → vs[i]? = some v → R x v
section
variable {R : AVal → Value → Prop} {cs cs' : List AVal} {vs vs' : List Value}
theorem PW.nil : PW R [] [] := ⟨rfl, by simp⟩
theorem PW.cons {x : AVal} {v : Value} (h : R x v) (hs : PW R cs vs) : PW R (x :: cs) (v :: vs) := by
  refine ⟨by simp [hs.1], fun i y u hy hu => ?_⟩
  cases i with
  | zero => simp at hy hu; subst hy; subst hu; exact h
  | succ i => simp at hy hu; exact hs.2 i y u hy hu
theorem PW.append (h : PW R cs vs) (h' : PW R cs' vs') : PW R (cs ++ cs') (vs ++ vs') := by
  refine ⟨by simp [h.1, h'.1], fun i y u hy hu => ?_⟩
  rw [List.getElem?_append] at hy hu
  by_cases hi : i < cs.length
  · rw [if_pos hi] at hy
    rw [if_pos (by rw [h.1]; exact hi)] at hu
    exact h.2 i y u hy hu
  · rw [if_neg hi] at hy
    rw [if_neg (by rw [h.1]; exact hi), h.1] at hu
    exact h'.2 _ y u hy hu
theorem PW.take (h : PW R cs vs) (n : Nat) : PW R (cs.take n) (vs.take n) := by
  refine ⟨by simp [h.1], fun i y u hy hu => ?_⟩
  rw [List.getElem?_take] at hy hu
  by_cases hi : i < n
  · rw [if_pos hi] at hy hu; exact h.2 i y u hy hu
  · rw [if_neg hi] at hy; cases hy
theorem PW.drop (h : PW R cs vs) (n : Nat) : PW R (cs.drop n) (vs.drop n) := by
  refine ⟨by simp [h.1], fun i y u hy hu => ?_⟩
  rw [List.getElem?_drop] at hy hu
  exact h.2 _ y u hy hu
theorem PW.imp {R' : AVal → Value → Prop} (h : PW R cs vs) (hr : ∀ x v, R x v → R' x v) : PW R' cs vs := ⟨h.1, fun i x v hx hv => hr x v (h.2 i x v hx hv)⟩
theorem PW.get (h : PW R cs vs) {i : Nat} {x : AVal} (hx : cs[i]? = some x) : ∃ v, vs[i]? = some v ∧ R x v := by
  have hi : i < cs.length := (List.getElem?_eq_some_iff.1 hx).1
  have hv : vs[i]? = some (vs[i]'(by rw [h.1]; exact hi)) := List.getElem?_eq_getElem _
  exact ⟨_, hv, h.2 i x _ hx hv⟩
end
/-- A cell's value: data in one cell. -/
def Cel (w : World) (m : Nat → Nat) (x : AVal) (v : Value) : Prop := v.oneCell' = true ∧ RelD w m x v
theorem relD_agg {w : World} {m : Nat → Nat} {cs : List AVal} {v : Value} (h : RelD w m (.agg cs) v) : ∃ vs : List Value, v = .agg vs.toArray ∧ PW (Cel w m) cs vs := by
  cases h with
  | agg cs vs hl ho h => exact ⟨vs, rfl, hl, fun i x v hx hv => ⟨ho v (List.mem_of_getElem? hv), h i x v hx hv⟩⟩
theorem relD_agg_mk {w : World} {m : Nat → Nat} {cs : List AVal} {vs : List Value} (h : PW (Cel w m) cs vs) : RelD w m (.agg cs) (.agg vs.toArray) := by
  refine .agg cs vs h.1 (fun v hv => ?_) (fun i x v hx hv => (h.2 i x v hx hv).2)
  obtain ⟨i, hi, he⟩ := List.mem_iff_getElem.1 hv
  have hx : cs[i]? = some (cs[i]'(by rw [← h.1]; exact hi)) := List.getElem?_eq_getElem _
  exact (h.2 i _ v hx (by rw [List.getElem?_eq_getElem hi, he])).1

def oneA : AVal → Bool
  | .lit v => v.oneCell'
  | .sl _ _ _ => true
  | .el _ _ => true
  | _ => false
theorem oneA_sound {w : World} {m : Nat → Nat} {x : AVal} {v : Value} (h : RelD w m x v) (ho : oneA x = true) : Cel w m x v := by
  refine ⟨?_, h⟩
  cases h with
  | lit v => exact ho
  | agg cs vs hl _ h => cases ho
  | tup cs vs hl h => cases ho
  | sl => rfl
  | el => rfl
/-- The cells of a value. -/
def cellsA : AVal → Option (List AVal)
  | .agg cs => some cs
  | x => if oneA x then some [x] else none
theorem cellsA_sound {w : World} {m : Nat → Nat} {x : AVal} {v : Value} (h : RelD w m x v) {cs : List AVal} (hc : cellsA x = some cs) : PW (Cel w m) cs v.cells.toList := by
  have one : ∀ y, cellsA y = (if oneA y then some [y] else none) → RelD w m y v → cellsA y = some cs → PW (Cel w m) cs v.cells.toList := by
    intro y he hy hcy
    rw [he] at hcy
    split at hcy
    · rename_i ho
      injection hcy with hcy
      subst hcy
      have h1 := oneA_sound hy ho
      have : v.cells.toList = [v] := by
        have := h1.1
        cases v <;> first | rfl | cases this
      rw [this]
      exact PW.cons h1 PW.nil
    · cases hcy
  cases x with
  | agg cs' =>
    injection hc with hc
    subst hc
    obtain ⟨vs, rfl, h1⟩ := relD_agg h
    simpa [Value.cells] using h1
  | lit u => exact one _ rfl h hc
  | tup u => exact one _ rfl h hc
  | sl f z xs => exact one _ rfl h hc
  | row r n => exact one _ rfl h hc
  | box i o => exact one _ rfl h hc
  | el c o => exact one _ rfl h hc
  | clo f c => exact one _ rfl h hc
  | ext k => exact one _ rfl h hc
  | any => exact one _ rfl h hc

/-! #### build -/
def fillA (place : Nat → Option (Nat × Nat)) : List AVal → List (Nat × AVal) → Option (List AVal)
  | cells, [] => some cells
  | cells, (i, x) :: rest => match place i with
    | none => none
    | some (off, size) => match cellsA x with
      | none => none
      | some cs => if cs.length = size ∧ off + size ≤ cells.length then fillA place (cells.take off ++ (cs ++ cells.drop (off + size))) rest else none

theorem fold_set (off : Nat) : ∀ (l : List Value) (k : Nat) (cells : Array Value), off + k + l.length ≤ cells.size →
    (l.zipIdx k).foldl (fun cs x => cs.setIfInBounds (off + x.2) x.1) cells = (cells.toList.take (off + k) ++ (l ++ cells.toList.drop (off + k + l.length))).toArray
  | [], k, cells, h => by
    simp
  | v :: l, k, cells, h => by
    simp only [List.zipIdx_cons, List.foldl_cons]
    rw [fold_set off l (k + 1) _ (by simp at h ⊢; omega)]
    apply Array.ext'
    apply List.ext_getElem?
    intro i
    simp only [List.length_cons] at h
    have hl : cells.toList.length = cells.size := Array.length_toList
    simp only [Array.toList_setIfInBounds, List.getElem?_append, List.length_take, List.length_set, List.getElem?_take, List.getElem?_drop, List.getElem?_set, List.length_append, List.length_cons, hl]
    have e1 : min (off + (k + 1)) cells.size = off + k + 1 := by omega
    have e2 : min (off + k) cells.size = off + k := by omega
    rw [e1, e2]
    by_cases h1 : i < off + k
    · rw [if_pos (by omega), if_pos (by omega), if_pos h1, if_pos h1, if_neg (by omega)]
    · by_cases h2 : i = off + k
      · subst h2
        rw [if_pos (by omega), if_pos (by omega), if_pos rfl, if_pos (by omega), if_neg (by omega), if_pos (by omega)]
        simp
      · rw [if_neg (by omega), if_neg h1]
        by_cases h3 : i - (off + k + 1) < l.length
        · rw [if_pos h3, if_pos (by omega)]
          obtain ⟨j, hj⟩ : ∃ j, i - (off + k) = j + 1 := ⟨i - (off + k) - 1, by omega⟩
          rw [hj, List.getElem?_cons_succ]
          congr 1
          omega
        · rw [if_neg h3, if_neg (by omega), if_neg (by omega)]
          congr 1
          omega

theorem fill_sound {w : World} {m : Nat → Nat} (place : Nat → Option (Nat × Nat)) : ∀ (ps : List (Nat × AVal)) (qs : List (Nat × Value)) (cells : List AVal) (arr : Array Value) (out : List AVal),
    PW (Cel w m) cells arr.toList → qs.map (·.1) = ps.map (·.1) → (∀ (i : Nat) p q, ps[i]? = some p → qs[i]? = some q → RelD w m p.2 q.2) → fillA place cells ps = some out →
    ∃ arr', Instr.fill place arr qs = some arr' ∧ PW (Cel w m) out arr'.toList
  | [], [], cells, arr, out, h, _, _, hf => by
    injection hf with hf
    subst hf
    exact ⟨arr, rfl, h⟩
  | [], q :: qs, cells, arr, out, h, hm, _, hf => by simp at hm
  | p :: ps, [], cells, arr, out, h, hm, _, hf => by simp at hm
  | (i, x) :: ps, (i', v) :: qs, cells, arr, out, h, hm, hr, hf => by
    simp only [List.map_cons, List.cons.injEq] at hm
    obtain ⟨rfl, hm⟩ := hm
    simp only [fillA] at hf
    split at hf
    · cases hf
    · rename_i off size hp
      split at hf
      · cases hf
      · rename_i cs hcs
        split at hf
        · rename_i hle
          obtain ⟨hle1, hle2⟩ := hle
          have hv := cellsA_sound (hr 0 (i', x) (i', v) rfl rfl) hcs
          have hvs : v.cells.size = size := by rw [← Array.length_toList, hv.1, hle1]
          have hsz : arr.size = cells.length := by rw [← Array.length_toList, h.1]
          have hfold : (v.cells.zipIdx.foldl (fun cs x => cs.setIfInBounds (off + x.2) x.1) arr) = (arr.toList.take off ++ (v.cells.toList ++ arr.toList.drop (off + size))).toArray := by
            have := fold_set off v.cells.toList 0 arr (by rw [Array.length_toList, hvs]; omega)
            rw [← Array.foldl_toList, Array.toList_zipIdx]
            simpa [hvs] using this
          have := fill_sound place ps qs (cells.take off ++ (cs ++ cells.drop (off + size))) (v.cells.zipIdx.foldl (fun cs x => cs.setIfInBounds (off + x.2) x.1) arr) out
            (by rw [hfold]; exact (h.take off).append (hv.append (h.drop _))) hm (fun j p q hp hq => hr (j + 1) p q (by simpa using hp) (by simpa using hq)) hf
          obtain ⟨arr', h1, h2⟩ := this
          refine ⟨arr', ?_, h2⟩
          simp only [Instr.fill, hp]
          have hno : ¬ (v.cells.size ≠ size ∨ off + v.cells.size > arr.size) := by
            rintro (h3 | h3)
            · exact h3 hvs
            · omega
          rw [if_neg (by simpa using hno)]
          exact h1
        · cases hf

/-- A type's layout: its zero cells, where its parts lie. -/
def Tlay (P : Program) (t : TypeId) : Option (List Value × List (Nat × Nat)) := match P.info? t, P.underlying t with
  | some it, some (.array n e) => match it.zero, P.info? e with
    | some z, some ie => some (z.cells.toList, (List.range n).map fun i => (i * ie.size, ie.size))
    | _, _ => none
  | some it, some (.struct fields) => match it.zero, fields.toList.mapM (fun f => (P.info? f.type).map fun i => (f.offset, i.size)) with
    | some z, some places => some (z.cells.toList, places)
    | _, _ => none
  | _, _ => none

theorem fill_weaken {place place' : Nat → Option (Nat × Nat)} (h : ∀ i p, place i = some p → place' i = some p) : ∀ (qs : List (Nat × Value)) (arr out : Array Value), Instr.fill place arr qs = some out → Instr.fill place' arr qs = some out
  | [], arr, out, hf => hf
  | (i, v) :: qs, arr, out, hf => by
    simp only [Instr.fill] at hf ⊢
    cases hp : place i with
    | none => rw [hp] at hf; cases hf
    | some p =>
      rw [hp] at hf
      rw [h i p hp]
      obtain ⟨off, size⟩ := p
      simp only at hf ⊢
      split at hf
      · cases hf
      · rename_i hn
        rw [if_neg hn]
        exact fill_weaken h qs _ out hf

def abuild (P : Program) (t : TypeId) (ps : List (Nat × AVal)) : Option AVal := match Tlay P t with
  | some (zs, places) => match fillA (places[·]?) (zs.map ofC) ps with
    | some cs => if zs.all (·.oneCell') then some (.agg cs) else none
    | none => none
  | none => none

theorem abuild_sound {P : Program} {t : TypeId} {ps : List (Nat × AVal)} {x : AVal} {w : World} {m : Nat → Nat} (h : abuild P t ps = some x) (qs : Array (Nat × Value)) (hm : qs.toList.map (·.1) = ps.map (·.1))
    (hr : ∀ (i : Nat) p q, ps[i]? = some p → qs.toList[i]? = some q → RelD w m p.2 q.2) : ∃ v, (Instr.build t qs).run P w = .ok v w ∧ RelD w m x v := by
  unfold abuild at h
  split at h
  · rename_i zs places hl
    split at h
    · rename_i cs hf
      split at h
      · rename_i ho
        injection h with h
        subst h
        have h0 : PW (Cel w m) (zs.map ofC) zs.toArray.toList := by
          refine ⟨by simp, fun i y v hy hv => ?_⟩
          simp only [List.getElem?_map] at hy hv
          rw [hv] at hy
          simp at hy
          subst hy
          exact ⟨List.all_eq_true.1 ho v (List.mem_of_getElem? (by simpa using hv)), relD_ofC w m v⟩
        obtain ⟨arr, h1, h2⟩ := fill_sound (places[·]?) ps qs.toList (zs.map ofC) zs.toArray cs h0 hm hr hf
        refine ⟨.agg arr, run_build w t qs arr ?_, by have := relD_agg_mk h2; simpa using this⟩
        unfold Tlay at hl
        unfold Program.built
        split at hl
        · rename_i it n e hi hu
          split at hl
          · rename_i z ie hz hie
            injection hl with hl
            injection hl with hl1 hl2
            rw [hi, hu]
            simp only [hz, hie]
            have hc : z.cells = zs.toArray := by rw [← hl1]
            rw [hc]
            refine fill_weaken ?_ _ _ _ h1
            intro i p hp
            rw [← hl2] at hp
            simp only [List.getElem?_map] at hp
            cases hr : (List.range n)[i]? with
            | none => rw [hr] at hp; cases hp
            | some j =>
              rw [hr] at hp
              have : j = i := by
                obtain ⟨_, h3⟩ := List.getElem?_eq_some_iff.1 hr
                simpa using h3.symm
              subst this
              exact hp
          · cases hl
        · rename_i it fields hi hu
          split at hl
          · rename_i z places' hz hpl
            injection hl with hl
            injection hl with hl1 hl2
            subst hl2
            rw [hi, hu]
            simp only [hz, hpl]
            have hc : z.cells = zs.toArray := by rw [← hl1]
            rw [hc]
            simpa using h1
          · cases hl
        · cases hl
      · cases h
    · cases h
  · cases h

end Go.Va
set_option linter.unusedVariables false
set_option linter.unusedSimpArgs false
set_option autoImplicit false
/-! Operations that only compute, second part. -/
namespace Go.Va
open RowKit

inductive TK where
  | int (k : IntKind)
  | float (k : FloatKind)
  | str
  | oth
def Tk (P : Program) (t : TypeId) : Option TK := match P.underlying t with
  | some (.int k) => some (.int k)
  | some (.float k) => some (.float k)
  | some .string => some .str
  | some _ => some .oth
  | none => none
theorem tk_int {P : Program} {t : TypeId} {k : IntKind} (h : Tk P t = some (.int k)) : P.underlying t = some (.int k) := by
  unfold Tk at h; split at h <;> simp_all
theorem tk_float {P : Program} {t : TypeId} {k : FloatKind} (h : Tk P t = some (.float k)) : P.underlying t = some (.float k) := by
  unfold Tk at h; split at h <;> simp_all
theorem tk_str {P : Program} {t : TypeId} (h : Tk P t = some .str) : P.underlying t = some .string := by
  unfold Tk at h; split at h <;> simp_all
theorem tk_some {P : Program} {t : TypeId} {k : TK} (h : Tk P t = some k) : ∃ d, P.underlying t = some d := by
  unfold Tk at h; split at h <;> simp_all

/-- A literal turned into another type. -/
def vconv (P : Program) (src dst : TypeId) (v : Value) : Option Value := match Tk P src, Tk P dst, v with
  | some _, some (.int k), .int _ n => some (.int k (k.wrap n))
  | some _, some (.float k), .int _ n => some (.float k (k.nearest n))
  | some _, some (.int k), .float s b => match (s.decode b).toInt .zero with
    | some n => if k.min ≤ n ∧ n ≤ k.max then some (.int k n) else none
    | none => none
  | some .str, some .str, .string s => some (.string s)
  | _, _, _ => none
theorem vconv_sound {P : Program} {src dst : TypeId} {a v : Value} (h : vconv P src dst a = some v) (w : World) : (convert src dst a).run P w = .ok v w := by
  unfold vconv at h
  split at h
  · rename_i k1 k k2 n h1 h2
    injection h with h; subst h
    obtain ⟨d, hd⟩ := tk_some h1
    simp only [convert, Sem.run_bind, run_und hd, run_und (tk_int h2), Result.andThen_ok, Conv.intToInt, Sem.run_pure]
  · rename_i k1 k k2 n h1 h2
    injection h with h; subst h
    obtain ⟨d, hd⟩ := tk_some h1
    simp only [convert, Sem.run_bind, run_und hd, run_und (tk_float h2), Result.andThen_ok, Conv.intToFloat, Sem.run_pure]
  · rename_i k1 k s b h1 h2
    split at h
    · rename_i n hn
      split at h
      · rename_i hle
        injection h with h; subst h
        obtain ⟨d, hd⟩ := tk_some h1
        simp only [convert, Sem.run_bind, run_und hd, run_und (tk_int h2), Result.andThen_ok, Conv.floatToInt, hn]
        rw [if_pos hle]
        rfl
      · cases h
    · cases h
  · rename_i s h1 h2
    injection h with h; subst h
    simp only [convert, Sem.run_bind, run_und (tk_str h1), run_und (tk_str h2), Result.andThen_ok, Sem.run_pure]
  · cases h

def vun (op : UnOp) (v : Value) : Option Value := match op, v with
  | .not, .bool b => some (.bool !b)
  | .neg, .int k n => some (.int k (k.wrap (0 - n)))
  | .xor, .int k n => some (.int k (ixor k (if k.signed then -1 else k.max) n))
  | _, _ => none
theorem vun_sound {P : Program} {op : UnOp} {a v : Value} (h : vun op a = some v) (w : World) : (Op.unary op a).run P w = .ok v w := by
  unfold vun at h
  split at h <;> first
    | (injection h with h; subst h; simp [Op.unary, Op.intArith, Op.intBits, ixor]; done)
    | cases h

def oInt (V : Operand → Option AVal) : Option Operand → Option (Option Int)
  | none => some none
  | some x => match V x with
    | some (.lit (.int _ n)) => some (some n)
    | _ => none

/-- A slice cut. -/
def aslice (full : Bool) (z : Nat) (xs : List (List AVal)) (lo hi mx : Option Int) : Option AVal :=
  let l := lo.getD 0
  let h := hi.getD xs.length
  if 0 ≤ l ∧ l ≤ h ∧ h ≤ (xs.length : Int) then match mx, hi with
    | none, _ => some (.sl (full && (h == (xs.length : Int))) z ((xs.drop l.toNat).take (h - l).toNat))
    | some m, some _ => if h ≤ m ∧ m ≤ (xs.length : Int) then some (.sl (m == h) z ((xs.drop l.toNat).take (h - l).toNat)) else none
    | some _, none => none
  else none

theorem relD_drop_take {w : World} {m : Nat → Nat} {full full' : Bool} {z : Nat} {xs : List (List AVal)} {A A' : Option Addr} {c c' l n n0 : Nat} (h : RelD w m (.sl full z xs) (.slice A n0 c)) (hle : l + n ≤ xs.length) (hc : n ≤ c') (hf : full' = true → c' = n) (hN : A' = none → c' = 0)
    (hA : n ≠ 0 → A' = A.map (·.add (l * z))) : RelD w m (.sl full' z ((xs.drop l).take n)) (.slice A' n c') := by
  cases h with
  | sl full z xs A c vv h1 h2 h3 h4 h4N h5 h6 h7 =>
    have hlen : ((xs.drop l).take n).length = n := by simp; omega
    have key : ∀ j e, ((xs.drop l).take n)[j]? = some e → j < n ∧ xs[l + j]? = some e := by
      intro j e hj
      rw [List.getElem?_take] at hj
      by_cases hjn : j < n
      · rw [if_pos hjn, List.getElem?_drop] at hj
        exact ⟨hjn, hj⟩
      · rw [if_neg hjn] at hj; cases hj
    have := RelD.sl (w := w) (m := m) full' z ((xs.drop l).take n) A' c' (fun j i => vv (l + j) i) (fun e he => h1 e (List.mem_of_mem_drop (List.mem_of_mem_take he))) (by rw [hlen]; exact hc) (by rw [hlen]; omega) (by rw [hlen]; exact hf) hN
      (by
        intro j e i hj hi
        obtain ⟨hjn, hj'⟩ := key j e hj
        obtain ⟨b, o, e1, e2, e3, e4⟩ := h5 (l + j) e i hj' hi
        have ea : (o + l * z) + (j * z + i) = o + ((l + j) * z + i) := by rw [Nat.add_mul]; omega
        refine ⟨b, o + l * z, ?_, ?_, ?_, e4⟩
        · rw [hA (by omega), e1]
          simp only [Option.map_some, Addr.add]
          split <;> simp_all
        · rw [ea]; exact e2
        · rw [ea]; exact e3)
      (by
        intro hne
        have hn : n ≠ 0 := fun h0 => hne (by apply List.eq_nil_of_length_eq_zero; omega)
        obtain ⟨b, o, e1⟩ := h6 (fun hx => by subst hx; simp at hle; omega)
        refine ⟨b, o + l * z, ?_⟩
        rw [hA hn, e1]
        simp only [Option.map_some, Addr.add]
        split <;> simp_all)
      (by
        intro j e i x hj hx
        obtain ⟨_, hj'⟩ := key j e hj
        exact h7 (l + j) e i x hj' hx)
    rw [hlen] at this
    exact this

theorem relD_sl_shape {w : World} {m : Nat → Nat} {full : Bool} {z : Nat} {xs : List (List AVal)} {v : Value} (h : RelD w m (.sl full z xs) v) : ∃ A c, v = .slice A xs.length c ∧ xs.length ≤ c ∧ xs.length ≤ most ∧ (full = true → c = xs.length) ∧ (xs ≠ [] → ∃ b o, A = some ⟨b, o, none⟩) ∧ (A = none → c = 0) := by
  cases h with
  | sl full z xs A c vv h1 h2 h3 h4 h4N h5 h6 h7 => exact ⟨A, c, rfl, h2, h3, h4, h6, h4N⟩

theorem aslice_sound {P : Program} {t e : TypeId} {w : World} {m : Nat → Nat} {full : Bool} {z : Nat} {xs : List (List AVal)} {v : Value} {lo hi mx : Option Int} {vl vh vm : Option Value} {x : AVal} (h : RelD w m (.sl full z xs) v)
    (hl : ∀ n, lo = some n → ∃ k, vl = some (.int k n)) (hl0 : lo = none → vl = none) (hh : ∀ n, hi = some n → ∃ k, vh = some (.int k n)) (hh0 : hi = none → vh = none) (hm : ∀ n, mx = some n → ∃ k, vm = some (.int k n)) (hm0 : mx = none → vm = none)
    (ht : Telem P t = some e) (hz : Tsz P e = some z ∨ xs = []) (hz' : ∃ z', Tsz P e = some z') (ha : aslice full z xs lo hi mx = some x) : ∃ u, (Instr.sliceAt t v vl vh vm).run P w = .ok u w ∧ RelD w m x u := by
  obtain ⟨A, c, rfl, hc, hmost, hfull, hA, hcN⟩ := relD_sl_shape h
  have hu := elem_und ht
  obtain ⟨z', hz'⟩ := hz'
  have hrun : ∀ b, (Instr.sliceBounds true xs.length c vl vh vm).run P w = .ok b w → (Instr.sliceAt t (.slice A xs.length c) vl vh vm).run P w = .ok (.slice (if b.2.2 = b.1 then A else A.map (·.add (b.1 * z'))) (b.2.1 - b.1) (b.2.2 - b.1)) w := by
    intro b hb
    simp only [Instr.sliceAt, Instr.slice, Sem.run_bind, run_und hu, Result.andThen_ok, hb, run_sz hz', Sem.run_pure]
  unfold aslice at ha
  simp only at ha
  split at ha
  · rename_i hb
    obtain ⟨hb1, hb2, hb3⟩ := hb
    have hzz : ∀ n : Nat, n ≠ 0 → n ≤ xs.length → z' = z := by
      intro n hn hle
      rcases hz with hz | hz
      · rw [hz'] at hz; injection hz
      · subst hz; simp at hle; omega
    have hAd : ∀ n : Nat, n ≠ 0 → n ≤ xs.length → A.map (·.add (((lo.getD 0).toNat) * z')) = A.map (·.add (((lo.getD 0).toNat) * z)) := fun n hn hle => by rw [hzz n hn hle]
    cases mx with
    | none =>
      simp only [Option.some.injEq] at ha
      subst ha
      have hvm := hm0 rfl
      have hbd : (Instr.sliceBounds true xs.length c vl vh vm).run P w = .ok ((lo.getD 0).toNat, (hi.getD (xs.length : Int)).toNat, c) w := by
        subst hvm
        cases hi with
        | none =>
          rw [hh0 rfl]
          cases lo with
          | none => rw [hl0 rfl]; simp [Instr.sliceBounds]
          | some l =>
            obtain ⟨k, rfl⟩ := hl l rfl
            simp only [Option.getD_some, Option.getD_none] at hb1 hb2 hb3 ⊢
            simp [Instr.sliceBounds, run_sliceBound w k l xs.length .sliceB hb1 hb2]
        | some hv =>
          obtain ⟨kh, rfl⟩ := hh hv rfl
          simp only [Option.getD_some] at hb1 hb2 hb3 ⊢
          have h0 : 0 ≤ hv := by omega
          cases lo with
          | none => rw [hl0 rfl]; simp [Instr.sliceBounds, run_sliceBound w kh hv c .sliceAcap h0 (by omega)]
          | some l =>
            obtain ⟨k, rfl⟩ := hl l rfl
            simp only [Option.getD_some] at hb1 hb2 ⊢
            have eh : ((hv.toNat : Nat) : Int) = hv := Int.toNat_of_nonneg h0
            simp [Instr.sliceBounds, run_sliceBound w kh hv c .sliceAcap h0 (by omega), run_sliceBound w k l hv.toNat .sliceB hb1 (by omega)]
      refine ⟨_, hrun _ hbd, ?_⟩
      simp only
      have e1 : (hi.getD (xs.length : Int) - lo.getD 0).toNat = (hi.getD (xs.length : Int)).toNat - (lo.getD 0).toNat := by omega
      rw [e1]
      refine relD_drop_take h (by omega) (by omega) ?_ ?_ ?_
      · intro hf
        simp only [Bool.and_eq_true, beq_iff_eq] at hf
        have := hfull hf.1
        omega
      · intro hn
        split at hn
        · omega
        · have := hcN (by simpa using hn)
          omega
      · intro hn
        rw [if_neg (by omega)]
        exact hAd _ hn (by omega)
    | some mv =>
      obtain ⟨km, rfl⟩ := hm mv rfl
      cases hi with
      | none => cases ha
      | some hv =>
        simp only [Option.getD_some] at hb1 hb2 hb3 ha
        split at ha
        · rename_i hmm
          simp only [Option.some.injEq] at ha
          subst ha
          obtain ⟨kh, rfl⟩ := hh hv rfl
          have h0 : 0 ≤ hv := by omega
          have eh : ((hv.toNat : Nat) : Int) = hv := Int.toNat_of_nonneg h0
          have em : ((mv.toNat : Nat) : Int) = mv := Int.toNat_of_nonneg (by omega)
          have hbd : (Instr.sliceBounds true xs.length c vl (some (.int kh hv)) (some (.int km mv))).run P w = .ok ((lo.getD 0).toNat, hv.toNat, mv.toNat) w := by
            cases lo with
            | none =>
              rw [hl0 rfl]
              simp [Instr.sliceBounds, run_sliceBound w km mv c .slice3Acap (by omega) (by omega), run_sliceBound w kh hv mv.toNat .slice3B h0 (by omega)]
            | some l =>
              obtain ⟨k, rfl⟩ := hl l rfl
              simp only [Option.getD_some] at hb1 hb2 ⊢
              simp [Instr.sliceBounds, run_sliceBound w km mv c .slice3Acap (by omega) (by omega), run_sliceBound w kh hv mv.toNat .slice3B h0 (by omega), run_sliceBound w k l hv.toNat .slice3C hb1 (by omega)]
          refine ⟨_, hrun _ hbd, ?_⟩
          simp only
          have e1 : (hv - lo.getD 0).toNat = hv.toNat - (lo.getD 0).toNat := by omega
          rw [e1]
          refine relD_drop_take h (by omega) (by omega) ?_ ?_ ?_
          · intro hf
            simp only [beq_iff_eq] at hf
            omega
          · intro hn
            split at hn
            · omega
            · have := hcN (by simpa using hn)
              omega
          · intro hn
            rw [if_neg (by omega)]
            exact hAd _ hn (by omega)
        · cases ha
  · cases ha

end Go.Va
set_option linter.unusedVariables false
set_option linter.unusedSimpArgs false
set_option autoImplicit false
/-! Whether two values of several plain cells are the same. -/
namespace Go.Va
open RowKit
inductive EK where
  | int | bool | str | cpl
  deriving Inhabited, DecidableEq
def ek (P : Program) (t : TypeId) : Option EK := match P.underlying t with
  | some (.int _) => some .int
  | some .bool => some .bool
  | some .string => some .str
  | some (.complex _) => some .cpl
  | _ => none
def eqK : EK → Value → Value → Option Bool
  | .int, .int k a, .int k' b => if k = k' then some (a == b) else none
  | .bool, .bool a, .bool b => some (a == b)
  | .str, .string a, .string b => some (a.toList == b.toList)
  | .cpl, .complex k a b, .complex k' c d => if k = k' then some (k.format.order a c == some .eq && k.format.order b d == some .eq) else none
  | _, _, _ => none
def eqKs : List EK → List Value → List Value → Option Bool
  | [], [], [] => some true
  | k :: ks, u :: us, v :: vs => match eqK k u v, eqKs ks us vs with
    | some a, some b => some (a && b)
    | _, _ => none
  | _, _, _ => none
def fieldsK (P : Program) : Nat → List Field → Option (List EK)
  | _, [] => some []
  | i, f :: r => if f.name ≠ "_" ∧ f.offset = i then match ek P f.type, fieldsK P (i + 1) r with
      | some k, some ks => some (k :: ks)
      | _, _ => none
    else none
def Teq (P : Program) (t : TypeId) : Option (List EK) := if P.stoodInHeld t = true ∨ P.eqGuardType P.depth t = true then none else match P.underlying t with
  | some (.struct fs) => fieldsK P 0 fs.toList
  | some (.array n e) => if Tsz P e = some 1 then (ek P e).map (List.replicate n) else none
  | _ => none
def lits : List AVal → Option (List Value)
  | [] => some []
  | .lit u :: r => match lits r with
    | some l => some (u :: l)
    | none => none
  | _ :: _ => none
def aggEq (P : Program) (t : TypeId) (op : BinOp) (cs ds : List AVal) : Option AVal := match Teq P t, lits cs, lits ds with
  | some ks, some us, some vs => match eqKs ks us vs, op with
    | some b, .eql => some (.bool b)
    | some b, .neq => some (.bool (!b))
    | _, _ => none
  | _, _, _ => none

section
variable {P : Program} (w : World)
theorem ek_eq {t : TypeId} {k : EK} {a b : Value} {r : Bool} (d : Nat) (h : ek P t = some k) (he : eqK k a b = some r) : (Op.equalIn (d + 1) t a b).run P w = .ok r w := by
  unfold ek at h
  split at h
  · rename_i i hu
    injection h with h; subst h
    unfold eqK at he
    split at he
    · split at he
      · rename_i e; injection he with he; subst he; subst e; exact run_equalIn_int w d t _ _ _ _ hu
      · cases he
    all_goals first | (cases he; done) | (rename_i q; cases q)
  · rename_i hu
    injection h with h; subst h
    unfold eqK at he
    split at he
    all_goals first
      | (cases he; done)
      | (rename_i q; cases q; done)
      | (injection he with he; subst he; exact run_equalIn_bool' w d t _ _ hu)
  · rename_i hu
    injection h with h; subst h
    unfold eqK at he
    split at he
    all_goals first
      | (cases he; done)
      | (rename_i q; cases q; done)
      | (injection he with he; subst he; exact run_equalIn_string w d t _ _ hu)
  · rename_i i hu
    injection h with h; subst h
    unfold eqK at he
    split at he
    all_goals first
      | (cases he; done)
      | (rename_i q; cases q; done)
      | skip
    split at he
    · rename_i e; injection he with he; subst he; subst e
      simp only [Op.equalIn, Sem.run_bind, run_und hu, Result.andThen_ok, if_true, Sem.run_pure, Op.floatEq]
    · cases he
  · cases h
theorem ek_part {t : TypeId} {k : EK} {xs : Array Value} {i : Nat} {v : Value} (h : ek P t = some k) (hx : xs[i]? = some v) : (part t xs i).run P w = .ok v w := by
  unfold ek at h
  split at h
  all_goals first
    | (cases h; done)
    | (rename_i hu; simp [part, isAgg, run_und hu, hx])
theorem fields_eq (d : Nat) (us vs : Array Value) : ∀ (fs : List Field) (i : Nat) (ks : List EK) (b : Bool), fieldsK P i fs = some ks → eqKs ks (us.toList.drop i) (vs.toList.drop i) = some b → (Op.eqFields (d + 1) us vs fs).run P w = .ok b w
  | [], i, ks, b, hf, he => by
    injection hf with hf; subst hf
    have : b = true := by
      unfold eqKs at he
      split at he
      · injection he with he; exact he.symm
      · rename_i q _ _; cases q
      · cases he
    subst this
    rfl
  | f :: r, i, ks, b, hf, he => by
    simp only [fieldsK] at hf
    split at hf
    · rename_i hc
      split at hf
      · rename_i k ks' hk hks
        injection hf with hf; subst hf
        cases hu : us.toList.drop i with
        | nil => rw [hu] at he; simp [eqKs] at he
        | cons u us' =>
          cases hv : vs.toList.drop i with
          | nil => rw [hu, hv] at he; simp [eqKs] at he
          | cons v vs' =>
            rw [hu, hv] at he
            simp only [eqKs] at he
            split at he
            · rename_i a b' ha hb'
              injection he with he; subst he
              have hui : us[i]? = some u := by
                have := congrArg (fun l => l[0]?) hu
                simpa [List.getElem?_drop] using this
              have hvi : vs[i]? = some v := by
                have := congrArg (fun l => l[0]?) hv
                simpa [List.getElem?_drop] using this
              have hu' : us.toList.drop (i + 1) = us' := by rw [← List.drop_drop, hu]; rfl
              have hv' : vs.toList.drop (i + 1) = vs' := by rw [← List.drop_drop, hv]; rfl
              have ih := fields_eq d us vs r (i + 1) ks' b' hks (by rw [hu', hv']; exact hb')
              simp only [Op.eqFields, hc.1, ne_eq, not_false_eq_true, if_true, hc.2, Sem.run_bind, ek_part w hk hui, ek_part w hk hvi, ek_eq w d hk ha, Result.andThen_ok]
              cases a with
              | false => rfl
              | true => simp only [Bool.not_true, Bool.false_eq_true, if_false, Bool.true_and]; exact ih
            · cases he
      · cases hf
    · cases hf
theorem array_eq (d : Nat) (t e : TypeId) (n : Nat) (k : EK) (us vs : Array Value) (b : Bool) (ht : P.underlying t = some (.array n e)) (hz : Tsz P e = some 1) (hk : ek P e = some k) (he : eqKs (List.replicate n k) us.toList vs.toList = some b) :
    (Op.equalIn (d + 2) t (.agg us) (.agg vs)).run P w = .ok b w := by
  rw [Op.equalIn]
  simp only [Sem.run_bind, run_und ht, Result.andThen_ok, run_sz hz, Std.Legacy.Range.forIn_eq_forIn_range', Std.Legacy.Range.size, Nat.sub_zero, Nat.add_sub_cancel, Nat.div_one]
  have key : ∀ (m i : Nat) (b : Bool), eqKs (List.replicate m k) (us.toList.drop i) (vs.toList.drop i) = some b →
      (forIn (List.range' i m 1) ((none, ()) : Option Bool × Unit) fun j _ => do
            let x ← part e us (j * 1)
            let y ← part e vs (j * 1)
            let r ← Op.equalIn (d + 1) e x y
            if (!r) = true then pure (ForInStep.done (some false, ())) else pure (ForInStep.yield (none, ())) : Sem (Option Bool × Unit)).run P w = .ok (if b then none else some false, ()) w := by
    intro m
    induction m with
    | zero =>
      intro i b he
      have : b = true := by
        unfold eqKs at he
        split at he
        · injection he with he; exact he.symm
        · rename_i q _ _; cases q
        · cases he
      subst this
      rfl
    | succ m ih =>
      intro i b he
      rw [List.replicate_succ] at he
      cases hu : us.toList.drop i with
      | nil => rw [hu] at he; simp [eqKs] at he
      | cons u us' =>
        cases hv : vs.toList.drop i with
        | nil => rw [hu, hv] at he; simp [eqKs] at he
        | cons v vs' =>
          rw [hu, hv] at he
          simp only [eqKs] at he
          split at he
          · rename_i a b' ha hb'
            injection he with he; subst he
            have hui : us[i]? = some u := by
              have := congrArg (fun l => l[0]?) hu
              simpa [List.getElem?_drop] using this
            have hvi : vs[i]? = some v := by
              have := congrArg (fun l => l[0]?) hv
              simpa [List.getElem?_drop] using this
            have hu' : us.toList.drop (i + 1) = us' := by rw [← List.drop_drop, hu]; rfl
            have hv' : vs.toList.drop (i + 1) = vs' := by rw [← List.drop_drop, hv]; rfl
            have ih' := ih (i + 1) b' (by rw [hu', hv']; exact hb')
            rw [List.range'_succ]
            simp only [List.forIn_cons, Sem.run_bind, Nat.mul_one, ek_part w hk hui, ek_part w hk hvi, ek_eq w d hk ha, Result.andThen_ok]
            cases a with
            | false => simp
            | true =>
              simp only [Bool.not_true, Bool.false_eq_true, if_false, Bool.true_and, Sem.run_pure, Result.andThen_ok]
              simpa using ih'
          · cases he
  have := key n 0 b (by simpa using he)
  simp only [Bool.not_eq_true', Nat.mul_one] at this ⊢
  rw [this]
  cases b <;> rfl
theorem teq_sound {t : TypeId} {ks : List EK} {us vs : List Value} {b : Bool} (h : Teq P t = some ks) (he : eqKs ks us vs = some b) :
    P.eqGuardType P.depth t = false ∧ (Op.equalIn 10000 t (.agg us.toArray) (.agg vs.toArray)).run P w = .ok b w := by
  unfold Teq at h
  split at h
  · cases h
  · rename_i hc
    have hc1 : P.stoodInHeld t = false := by cases hb : P.stoodInHeld t <;> simp_all
    have hc2 : P.eqGuardType P.depth t = false := by cases hb : P.eqGuardType P.depth t <;> simp_all
    refine ⟨hc2, ?_⟩
    split at h
    · rename_i fs hu
      have hfs : P.fieldsOf t = fs := by unfold Program.fieldsOf; rw [hu]
      rw [show (10000 : Nat) = 9999 + 1 from rfl, run_equalIn_struct w 9999 t _ _ (by rw [hfs]; exact hu) hc1, hfs]
      exact fields_eq w 9998 us.toArray vs.toArray fs.toList 0 ks b h (by simpa using he)
    · rename_i n e hu
      split at h
      · rename_i hz
        cases hk : ek P e with
        | none => rw [hk] at h; cases h
        | some k =>
          rw [hk] at h
          simp only [Option.map_some, Option.some.injEq] at h
          subst h
          exact array_eq w 9998 t e n k us.toArray vs.toArray b hu hz hk (by simpa using he)
      · cases h
    · cases h
end
theorem lits_eq {w : World} {m : Nat → Nat} : ∀ (cs : List AVal) (us vs : List Value), lits cs = some us → vs.length = cs.length → (∀ (i : Nat) (x : AVal) (v : Value), cs[i]? = some x → vs[i]? = some v → RelD w m x v) → vs = us
  | [], us, vs, h, hl, _ => by
    injection h with h; subst h
    exact List.eq_nil_of_length_eq_zero hl
  | c :: r, us, vs, h, hl, hr => by
    cases vs with
    | nil => cases hl
    | cons v vs =>
      cases c with
      | lit u =>
        simp only [lits] at h
        split at h
        · rename_i l hl'
          injection h with h; subst h
          have h0 := hr 0 (.lit u) v rfl rfl
          cases h0
          rw [lits_eq r l vs hl' (by simpa using hl) (fun i x v h1 h2 => hr (i + 1) x v (by simpa using h1) (by simpa using h2))]
        · cases h
      | _ => simp [lits] at h
theorem aggEq_sound {P : Program} {t : TypeId} {op : BinOp} {cs ds : List AVal} {x : AVal} {w : World} {m : Nat → Nat} {u v : Value} (h : aggEq P t op cs ds = some x) (hu : RelD w m (.agg cs) u) (hv : RelD w m (.agg ds) v) (y z : Operand) :
    ∃ r, (do eqGuard op t y z u v; binOp op t u v : Sem Value).run P w = .ok r w ∧ RelD w m x r := by
  cases hu with
  | agg _ us hl1 _ h1 =>
    cases hv with
    | agg _ vs hl2 _ h2 =>
      unfold aggEq at h
      split at h
      · rename_i ks us' vs' hk hus hvs
        have e1 := lits_eq cs us' us hus hl1 h1
        have e2 := lits_eq ds vs' vs hvs hl2 h2
        subst e1; subst e2
        split at h
        · rename_i b hb
          injection h with h; subst h
          obtain ⟨g1, g2⟩ := teq_sound w hk hb
          exact ⟨.bool b, by rw [Sem.run_bind, run_eqGuard_agg w _ _ _ _ _ _ g1, Result.andThen_ok, run_eql_struct, g2]; rfl, .lit _⟩
        · rename_i b hb
          injection h with h; subst h
          obtain ⟨g1, g2⟩ := teq_sound w hk hb
          exact ⟨.bool (!b), by rw [Sem.run_bind, run_eqGuard_agg w _ _ _ _ _ _ g1, Result.andThen_ok, run_neq_struct, g2]; rfl, .lit _⟩
        · cases h
      · cases h

/-! #### bytes as a text -/
def bytesOf : List (List AVal) → Option (List UInt8)
  | [] => some []
  | [.lit (.int .u8 n)] :: r => match bytesOf r with
    | some l => some (UInt8.ofNat n.toNat :: l)
    | none => none
  | _ :: _ => none
def encB (l : List UInt8) : List (List AVal) := l.map fun b => [.lit (.int .u8 b.toNat)]
theorem bytesOf_enc (l : List UInt8) : bytesOf (encB l) = some l := by
  induction l with
  | nil => rfl
  | cons b l ih =>
    have : bytesOf (encB (b :: l)) = match bytesOf (encB l) with
      | some q => some (UInt8.ofNat (b.toNat : Int).toNat :: q)
      | none => none := rfl
    rw [this, ih]
    simp
def aconv (P : Program) (src dst : TypeId) (xs : List (List AVal)) : Option AVal := match Telem P src, Tk P dst with
  | some e, some .str => match Tk P e with
    | some (.int .u8) => match bytesOf xs with
      | some l => some (.str ⟨l.toArray⟩)
      | none => none
    | _ => none
  | _, _ => none
theorem lc_from {P : Program} {w : World} {b : Nat} (arr : List Value) (o : Nat) : ∀ (n i : Nat) (acc : Array Value), (∀ j, j < n → ∃ v, arr[i + j]? = some v ∧ w.cell? ⟨b, o + (i + j), none⟩ = some v) →
    (loadCellsFrom ⟨b, o, none⟩ i n acc).run P w = .ok (acc ++ ((arr.drop i).take n).toArray) w
  | 0, i, acc, h => by simp [loadCellsFrom]
  | n + 1, i, acc, h => by
    obtain ⟨v, h1, h2⟩ := h 0 (by omega)
    rw [Nat.add_zero] at h1 h2
    have hi : i < arr.length := (List.getElem?_eq_some_iff.1 h1).1
    have ha : (⟨b, o, none⟩ : Addr).add i = ⟨b, o + i, none⟩ := by
      unfold Addr.add
      split
      · rename_i h; subst h; rfl
      · rfl
    simp only [loadCellsFrom, Sem.run_bind, run_load, ha, h2, Result.andThen_ok]
    rw [lc_from arr o n (i + 1) (acc.push v) (fun j hj => by
      obtain ⟨u, e1, e2⟩ := h (j + 1) (by omega)
      rw [show i + 1 + j = i + (j + 1) by omega]
      exact ⟨u, e1, e2⟩)]
    congr 1
    apply Array.ext'
    have hd : arr.drop i = v :: arr.drop (i + 1) := by
      rw [List.drop_eq_getElem_cons hi]
      have : arr[i] = v := (List.getElem?_eq_some_iff.1 h1).2
      rw [this]
    simp [hd]
theorem bytesOf_ints : ∀ (xs : List (List AVal)) (l : List UInt8), bytesOf xs = some l → ∃ ns : List Int, ns.length = xs.length ∧ ns.map (fun n => UInt8.ofNat n.toNat) = l ∧ ∀ (j : Nat) (e : List AVal), xs[j]? = some e → ∃ n, ns[j]? = some n ∧ e = [.lit (.int .u8 n)]
  | [], l, h => by
    injection h with h; subst h
    exact ⟨[], rfl, rfl, by simp⟩
  | x :: r, l, h => by
    unfold bytesOf at h
    split at h
    · rename_i q; cases q
    · rename_i n r' q
      injection q with q1 q2
      subst q1; subst q2
      split at h
      · rename_i l' hl'
        injection h with h; subst h
        obtain ⟨ns, h1, h2, h3⟩ := bytesOf_ints r l' hl'
        refine ⟨n :: ns, by simp [h1], by simp [h2], ?_⟩
        intro j e he
        cases j with
        | zero => simp at he; exact ⟨n, rfl, he.symm⟩
        | succ j => exact h3 j e (by simpa using he)
      · cases h
    · cases h
theorem foldl_push : ∀ (ns : List Int) (s : ByteArray), ns.foldl (fun r n => r.push (UInt8.ofNat n.toNat)) s = ⟨(s.data.toList ++ ns.map (fun n => UInt8.ofNat n.toNat)).toArray⟩
  | [], s => by simp
  | n :: ns, s => by
    rw [List.foldl_cons, foldl_push ns]
    simp [ByteArray.push]
theorem aconv_sound {P : Program} {src dst : TypeId} {f : Bool} {z : Nat} {xs : List (List AVal)} {x : AVal} {v : Value} {w : World} {m : Nat → Nat} (h : aconv P src dst xs = some x) (hv : RelD w m (.sl f z xs) v) : ∃ r, (convert src dst v).run P w = .ok r w ∧ RelD w m x r := by
  unfold aconv at h
  split at h
  · rename_i e he hd
    split at h
    · rename_i hk
      split at h
      · rename_i l hl
        injection h with h; subst h
        refine ⟨_, ?_, .lit _⟩
        obtain ⟨ns, h1, h2, h3⟩ := bytesOf_ints xs l hl
        cases hv with
        | sl _ _ _ A c vv g1 g2 g3 g4 gN g5 gA g6 =>
          rw [run_convert_bytes_string w src dst e A xs.length c (elem_und he) (tk_int hk) (tk_str hd)]
          cases A with
          | none =>
            have hx : xs = [] := by
              cases xs with
              | nil => rfl
              | cons y ys => obtain ⟨b, o, q⟩ := gA (by simp); cases q
            subst hx
            injection hl with hl; subst hl
            rfl
          | some a =>
            have hc : (loadCells a xs.length).run P w = .ok (ns.map (Value.int .u8)).toArray w := by
              cases hx : xs with
              | nil =>
                rw [hx] at h1
                have : ns = [] := List.eq_nil_of_length_eq_zero h1
                subst this
                rfl
              | cons y ys =>
                obtain ⟨b, o, q⟩ := gA (by rw [hx]; simp)
                injection q with q; subst q
                rw [← hx]
                have := lc_from (P := P) (w := w) (b := b) (ns.map (Value.int .u8)) o xs.length 0 #[] (fun j hj => by
                  obtain ⟨n, k1, k2⟩ := h3 j xs[j] (List.getElem?_eq_getElem hj)
                  have hz : z = 1 := by rw [← g1 xs[j] (List.getElem_mem hj), k2]; rfl
                  obtain ⟨b', o', q1, q2, _⟩ := g5 j xs[j] 0 (List.getElem?_eq_getElem hj) (by rw [k2]; simp)
                  injection q1 with q1; injection q1 with q3 q4; subst q3; subst q4
                  have k3 := g6 j xs[j] 0 (.lit (.int .u8 n)) (List.getElem?_eq_getElem hj) (by rw [k2]; rfl)
                  have k4 : vv j 0 = .int .u8 n := (show ∀ u, RelD w m (.lit (.int .u8 n)) u → u = .int .u8 n by intro u hu; cases hu; rfl) _ k3
                  refine ⟨.int .u8 n, by simp [k1], ?_⟩
                  rw [k4, hz, Nat.mul_one, Nat.add_zero] at q2
                  rw [Nat.zero_add]
                  exact q2)
                rw [loadCells, this]
                rw [List.drop_zero, List.take_of_length_le (by simp [h1])]
                simp
            rw [run_bytesToString w a xs.length c ns hc, foldl_push, h2]
            rfl
      · cases h
    · cases h
  · cases h

/-! #### interfaces -/
def Tif (P : Program) (t : TypeId) : Option Bool := match P.underlying t with
  | some (.interface _) => some true
  | some _ => some false
  | none => none
def ifEq (P : Program) (t : TypeId) (op : BinOp) (a b : Value) : Option Value := match Tif P t, b, op with
  | some true, .nilIface, .eql => match a with
    | .nilIface => some (.bool true)
    | .iface _ _ => some (.bool false)
    | _ => none
  | some true, .nilIface, .neq => match a with
    | .nilIface => some (.bool false)
    | .iface _ _ => some (.bool true)
    | _ => none
  | _, _, _ => none
theorem tif_true {P : Program} {t : TypeId} (h : Tif P t = some true) : P.underlying t = some (.interface (P.methodsAt t)) := by
  unfold Tif at h
  split at h
  · rename_i ms hu
    have : P.methodsAt t = ms := by unfold Program.methodsAt; rw [hu]
    rw [this]; exact hu
  · cases h
  · cases h
theorem ifEq_sound {P : Program} {t : TypeId} {op : BinOp} {a b v : Value} (h : ifEq P t op a b = some v) (x y : Operand) (hy : y = .const .nilIface) (w : World) :
    (do eqGuard op t x y a b; binOp op t a b : Sem Value).run P w = .ok v w := by
  subst hy
  unfold ifEq at h
  split at h
  · rename_i ht
    have hu := tif_true ht
    split at h
    · injection h with h; subst h
      have : (eqGuard .eql t x (.const .nilIface) .nilIface .nilIface).run P w = .ok () w := by simp [eqGuard]
      rw [Sem.run_bind, this, Result.andThen_ok, run_eql_nil_nil w t hu]
    · rename_i u z
      injection h with h; subst h
      have : (eqGuard .eql t x (.const .nilIface) (.iface u z) .nilIface).run P w = .ok () w := by simp [eqGuard]
      rw [Sem.run_bind, this, Result.andThen_ok, run_eql_held_nil w t u z hu]
    · cases h
  · rename_i ht
    have hu := tif_true ht
    split at h
    · injection h with h; subst h
      have : (eqGuard .neq t x (.const .nilIface) .nilIface .nilIface).run P w = .ok () w := by simp [eqGuard]
      rw [Sem.run_bind, this, Result.andThen_ok, run_neq_nil_nil w t hu]
    · rename_i u z
      injection h with h; subst h
      have : (eqGuard .neq t x (.const .nilIface) (.iface u z) .nilIface).run P w = .ok () w := by simp [eqGuard]
      rw [Sem.run_bind, this, Result.andThen_ok, run_neq_held_nil w t u z hu]
    · cases h
  · cases h
theorem mkIface_sound {P : Program} {t : TypeId} (h : Tif P t = some false) (v : Value) (w : World) : (Instr.makeInterface t v).run P w = .ok (.iface t v) w := by
  unfold Tif at h
  split at h
  · cases h
  · rename_i d hd hu
    simp only [Instr.makeInterface, Sem.run_bind, run_und hu, Result.andThen_ok]
    cases d <;> first | rfl | (rename_i ms; exact absurd rfl (hd ms))
  · cases h
end Go.Va
set_option linter.unusedVariables false
set_option linter.unusedSimpArgs false
set_option autoImplicit false
/-! Operations that only compute, all of them. -/
namespace Go.Va
open RowKit

def frzParts (row : List (Nat × (Nat × List (List AVal)))) (P : Program) (V : Operand → Option AVal) : List (Nat × Operand) → Option (List (Nat × AVal))
  | [] => some []
  | (i, x) :: r => match V x with
    | none => none
    | some y => match frz row P y with
      | none => none
      | some z => match frzParts row P V r with
        | none => none
        | some l => some ((i, z) :: l)

def boxes (V : Operand → Option AVal) : List Operand → Option (List AVal)
  | [] => some []
  | x :: r => match V x with
    | some (.box i o) => match boxes V r with
      | some l => some (.box i o :: l)
      | none => none
    | _ => none

/-- Several cells, or one, as one value. -/
def gather (agg : Bool) (z : Nat) (cs : List AVal) (o : Nat) : Option AVal :=
  if agg then if o + z ≤ cs.length then some (.agg ((cs.drop o).take z)) else none else cs[o]?

/-- The builtins that only compute. -/
def abuiltin (P : Program) (b : Builtin) (ts : List TypeId) (xs : List AVal) : Option AVal := match b, ts, xs with
  | .len, t :: _, .lit (.string s) :: _ => match Tk P t with
    | some .str => some (.int s.size)
    | _ => none
  | .len, t :: _, .sl _ _ xs :: _ => match Telem P t with
    | some _ => some (.int xs.length)
    | none => none
  | .len, t :: _, .row _ n :: _ => match Telem P t with
    | some _ => some (.int n)
    | none => none
  | .real, _, [.lit (.complex k a _)] => some (.lit (.float k a))
  | .imag, _, [.lit (.complex k _ b)] => some (.lit (.float k b))
  | .complex, _, [.lit (.float k a), .lit (.float k' b)] => if k = k' then some (.lit (.complex k a b)) else none
  | .max, _, [.lit (.int k a), .lit (.int _ b)] => some (.lit (.int k (if b > a then b else a)))
  | .min, _, [.lit (.int k a), .lit (.int _ b)] => some (.lit (.int k (if b < a then b else a)))
  | _, _, _ => none

def vals (V : Operand → Option AVal) : List Operand → Option (List AVal)
  | [] => some []
  | x :: r => match V x with
    | none => none
    | some y => match vals V r with
      | none => none
      | some l => some (y :: l)

def aindexAddr (P : Program) (t : TypeId) (x i : Option AVal) : Option AVal := match x, i with
  | some (.sl f z xs), some (.lit (.int _ n)) => match Telem P t with
    | some e => match Tsz P e with
      | some z' => if z' = z ∧ 0 ≤ n then match xs[n.toNat]? with
          | some c => some (.el c 0)
          | none => none
        else none
      | none => none
    | none => none
  | some (.box id o), some (.lit (.int _ n)) => match Tarr P t with
    | some (len, e) => match Tsz P e with
      | some z => if 0 ≤ n ∧ n < (len : Int) then some (.box id (o + n.toNat * z)) else none
      | none => none
    | none => none
  | some (.el c o), some (.lit (.int _ n)) => match Tarr P t with
    | some (len, e) => match Tsz P e with
      | some z => if 0 ≤ n ∧ n < (len : Int) then some (.el c (o + n.toNat * z)) else none
      | none => none
    | none => none
  | _, _ => none

def aindex (P : Program) (t : TypeId) (x i : Option AVal) : Option AVal := match x, i with
  | some (.lit (.string s)), some (.lit (.int _ n)) => match Tk P t with
    | some .str => if 0 ≤ n then match s[n.toNat]? with
        | some b => some (.lit (.int .u8 b.toNat))
        | none => none
      else none
    | _ => none
  | some (.agg cs), some (.lit (.int _ n)) => match Tarr P t with
    | some (len, e) => match Tsz P e, Tagg P e with
      | some z, some b => if 0 ≤ n ∧ n < (len : Int) then gather b z cs (n.toNat * z) else none
      | _, _ => none
    | none => none
  | _, _ => none

def afieldAddr (P : Program) (t : TypeId) (x : Option AVal) (f : Nat) : Option AVal := match Tfld P t f with
  | some (o, z, _) => if z = 0 then none else match x with
    | some (.box id o') => some (.box id (o' + o))
    | some (.el c o') => some (.el c (o' + o))
    | _ => none
  | none => none

def afield (P : Program) (t : TypeId) (x : Option AVal) (f : Nat) : Option AVal := match Tfld P t f, x with
  | some (o, z, b), some (.agg cs) => gather b z cs o
  | _, _ => none

def acut (row : List (Nat × (Nat × List (List AVal)))) (P : Program) (t : TypeId) (x : Option AVal) (lo hi mx : Option (Option Int)) : Option AVal := match lo, hi, mx with
  | some lo, some hi, some mx => match x with
    | some (.lit (.string s)) => match Tk P t, mx with
      | some .str, none => if 0 ≤ lo.getD 0 ∧ lo.getD 0 ≤ hi.getD s.size ∧ hi.getD s.size ≤ (s.size : Int) then some (.str (s.extract (lo.getD 0).toNat (hi.getD s.size).toNat)) else none
      | _, _ => none
    | some y => match frz row P y with
      | some (.sl f z xs) => match Telem P t with
        | some e => match Tsz P e with
          | some z' => if z' = z ∨ xs = [] then aslice f z xs lo hi mx else none
          | none => none
        | none => none
      | _ => none
    | none => none
  | _, _, _ => none

def apure (P : Program) (row : List (Nat × (Nat × List (List AVal)))) (V : Operand → Option AVal) : Op → Option AVal
  | .move x => V x
  | .assign x => V x
  | .pick c a b => match V c with
    | some (.lit (.bool t)) => if t then V a else V b
    | _ => none
  | .build t parts => match frzParts row P V parts.toList with
    | some ps => abuild P t ps
    | none => none
  | .nilCheck x => match V x with
    | some (.box i o) => some (.box i o)
    | some (.el c o) => some (.el c o)
    | some (.clo f c) => some (.clo f c)
    | some (.ext k) => some (.ext k)
    | _ => none
  | .binOp op t x y _ => match V x, V y with
    | some (.lit a), some (.lit b) => match vbin P t op a b with
      | some v => some (.lit v)
      | none => match y with
        | .const .nilIface => (ifEq P t op a .nilIface).map .lit
        | _ => none
    | some (.agg cs), some (.agg ds) => aggEq P t op cs ds
    | _, _ => none
  | .unOp op _ x => match V x with
    | some (.lit a) => match vun op a with
      | some v => some (.lit v)
      | none => none
    | _ => none
  | .convert src dst x => match V x with
    | some (.lit a) => match vconv P src dst a with
      | some v => some (.lit v)
      | none => none
    | some y => match frz row P y with
      | some (.sl _ _ xs) => aconv P src dst xs
      | _ => none
    | none => none
  | .makeInterface t x => match V x with
    | some (.lit a) => match Tif P t with
      | some false => some (.lit (.iface t a))
      | _ => none
    | _ => none
  | .makeFunc (.func f) first caps => if first.size = 0 then match boxes V caps.toList with
      | some l => some (.clo f l)
      | none => none
    else none
  | .slice t x lo hi mx => acut row P t (V x) (oInt V lo) (oInt V hi) (oInt V mx)
  | .fieldAddr t x f => afieldAddr P t (V x) f
  | .field t x f => afield P t (V x) f
  | .indexAddr t x i => aindexAddr P t (V x) (V i)
  | .index t x i => aindex P t (V x) (V i)
  | .extract x i => match V x with
    | some (.tup vs) => vs[i]?
    | _ => none
  | .call { callee := .builtin b, args := xs, argTypes := ts } => match vals V xs.toList with
    | some l => abuiltin P b ts.toList l
    | none => none
  | _ => none

section
variable {C : Ctx} {row : List (Nat × (Nat × List (List AVal)))} {g : Gh} {a : Act} {w : World} {V : Operand → Option AVal}

theorem relT_data {x : AVal} {v : Value} (h : RelT C row g w x v) (hd : ∀ r n, x ≠ .row r n) (h1 : ∀ i o, x ≠ .box i o) (h2 : ∀ f c, x ≠ .clo f c) (h3 : ∀ k, x ≠ .ext k) (h4 : x ≠ .any) : RelD w g.m x v := by
  cases x with
  | row r n => exact absurd rfl (hd r n)
  | box i o => exact absurd rfl (h1 i o)
  | clo f c => exact absurd rfl (h2 f c)
  | ext k => exact absurd rfl (h3 k)
  | any => exact absurd rfl h4
  | _ => exact h
theorem relD_lit {m : Nat → Nat} {u v : Value} (h : RelD w m (.lit u) v) : v = u := by cases h; rfl
theorem relT_lit {u v : Value} (h : RelT C row g w (.lit u) v) : v = u := relD_lit (w := w) (m := g.m) h
theorem relT_el {c : List AVal} {o : Nat} {v : Value} (h : RelT C row g w (.el c o) v) : ∃ b o', v = .pointer (some ⟨b, o' + o, none⟩) ∧ ∀ o2, RelD w g.m (.el c o2) (.pointer (some ⟨b, o' + o2, none⟩)) := by
  have h' : RelD w g.m (.el c o) v := h
  cases h' with
  | el cs off b o' vv h1 h2 => exact ⟨_, _, rfl, fun o2 => .el c o2 _ _ _ h1 h2⟩

theorem frzParts_sound (hV : ∀ y z, V y = some z → RelT C row g w z (a.eval y)) : ∀ (l : List (Nat × Operand)) (ps : List (Nat × AVal)), frzParts row C.P V l = some ps →
    (l.map fun x => (x.1, a.eval x.2)).map (·.1) = ps.map (·.1) ∧ ∀ (i : Nat) p q, ps[i]? = some p → (l.map fun x => (x.1, a.eval x.2))[i]? = some q → RelD w g.m p.2 q.2
  | [], ps, h => by
    injection h with h
    subst h
    exact ⟨rfl, by simp⟩
  | (i, x) :: r, ps, h => by
    simp only [frzParts] at h
    split at h
    · cases h
    · rename_i y hy
      split at h
      · cases h
      · rename_i z hz
        split at h
        · cases h
        · rename_i l hl
          injection h with h
          subst h
          obtain ⟨h1, h2⟩ := frzParts_sound hV r l hl
          refine ⟨by simpa using h1, fun j p q hp hq => ?_⟩
          cases j with
          | zero =>
            simp at hp hq
            subst hp; subst hq
            exact frz_sound (hV x y hy) hz
          | succ j => exact h2 j p q (by simpa using hp) (by simpa using hq)

theorem boxes_sound (hV : ∀ y z, V y = some z → RelT C row g w z (a.eval y)) : ∀ (l : List Operand) (cs : List AVal), boxes V l = some cs →
    (l.map a.eval).length = cs.length ∧ ∀ (i : Nat) x u, cs[i]? = some x → (l.map a.eval)[i]? = some u → RelB g.ρ x u
  | [], cs, h => by
    injection h with h
    subst h
    exact ⟨rfl, by simp⟩
  | x :: r, cs, h => by
    simp only [boxes] at h
    split at h
    · rename_i id o hx
      split at h
      · rename_i l hl
        injection h with h
        subst h
        obtain ⟨h1, h2⟩ := boxes_sound hV r l hl
        refine ⟨by simp [← h1], fun j p u hp hu => ?_⟩
        cases j with
        | zero =>
          simp at hp hu
          subst hp; subst hu
          exact hV x _ hx
        | succ j => exact h2 j p u (by simpa using hp) (by simpa using hu)
      · cases h
    · cases h

theorem vals_sound (hV : ∀ y z, V y = some z → RelT C row g w z (a.eval y)) : ∀ (l : List Operand) (xs : List AVal), vals V l = some xs → PW (RelT C row g w) xs (l.map a.eval)
  | [], xs, h => by
    injection h with h
    subst h
    exact PW.nil
  | x :: r, xs, h => by
    simp only [vals] at h
    split at h
    · cases h
    · rename_i y hy
      split at h
      · cases h
      · rename_i l hl
        injection h with h
        subst h
        exact PW.cons (hV x y hy) (vals_sound hV r l hl)

theorem part_sound {t : TypeId} {z o : Nat} {b : Bool} {cs : List AVal} {vs : List Value} {x : AVal} {m : Nat → Nat} (h : PW (Cel w m) cs vs) (hz : Tsz C.P t = some z) (hb : Tagg C.P t = some b) (hg : gather b z cs o = some x) :
    ∃ v, (part t vs.toArray o).run C.P w = .ok v w ∧ RelD w m x v := by
  unfold gather at hg
  cases b with
  | true =>
    simp only [if_true] at hg
    split at hg
    · rename_i hle
      injection hg with hg
      subst hg
      refine ⟨.agg ((vs.drop o).take z).toArray, ?_, relD_agg_mk ((h.drop o).take z)⟩
      simp only [part, Sem.run_bind, run_agg hb, Result.andThen_ok, if_true, run_sz hz, Sem.run_pure]
      congr 2
      apply Array.ext'
      simp
    · cases hg
  | false =>
    simp only [Bool.false_eq_true, if_false] at hg
    obtain ⟨v, h1, h2⟩ := h.get hg
    refine ⟨v, ?_, h2.2⟩
    simp [part, run_agg hb, h1]

theorem oInt_sound (hV : ∀ y z, V y = some z → RelT C row g w z (a.eval y)) {x : Option Operand} {n : Option Int} (h : oInt V x = some n) : (∀ k, n = some k → ∃ kk, x.map a.eval = some (.int kk k)) ∧ (n = none → x.map a.eval = none) := by
  cases x with
  | none =>
    injection h with h
    subst h
    exact ⟨by simp, fun _ => rfl⟩
  | some y =>
    simp only [oInt] at h
    split at h
    · rename_i k i hy
      injection h with h
      subst h
      refine ⟨fun j hj => ?_, by simp⟩
      injection hj with hj
      subst hj
      have h1 := relT_lit (hV y _ hy)
      exact ⟨k, by simp [h1]⟩
    · cases h

theorem afieldAddr_sound (hV : ∀ y z, V y = some z → RelT C row g w z (a.eval y)) {t : TypeId} {y : Operand} {f : Nat} {x : AVal} (h : afieldAddr C.P t (V y) f = some x) : ∃ v, (Instr.fieldAt t (a.eval y) f).run C.P w = .ok v w ∧ RelT C row g w x v := by
  unfold afieldAddr at h
  split at h
  · rename_i o z b hf
    obtain ⟨fs, fd, h1, h2, h3, h4, h5⟩ := fld_und hf
    split at h
    · cases h
    · rename_i hz
      have hrun : ∀ bl off, (Instr.fieldAt t (.pointer (some ⟨bl, off, none⟩)) f).run C.P w = .ok (.pointer (some ⟨bl, off + o, none⟩)) w := by
        intro bl off
        simp only [Instr.fieldAt, Sem.run_bind, run_und h1, Result.andThen_ok, h2, Instr.sureAddr, Sem.run_pure, fieldPlace, run_sz h4]
        rw [if_neg hz]
        simp only [Sem.run_pure, Result.andThen_ok, h3]
        congr 3
        unfold Addr.add
        split
        · rename_i h0; subst h0; rfl
        · rfl
      split at h
      · rename_i id o' hy
        injection h with h
        subst h
        obtain ⟨bl, h6, h7⟩ := hV y _ hy
        rw [h7]
        exact ⟨_, hrun bl o', bl, h6, rfl⟩
      · rename_i c o' hy
        injection h with h
        subst h
        obtain ⟨bl, ob, h6, h7⟩ := relT_el (hV y _ hy)
        rw [h6]
        refine ⟨_, hrun bl (ob + o'), ?_⟩
        rw [Nat.add_assoc]
        exact relT_of_relD (h7 (o' + o))
      · cases h
  · cases h

end
end Go.Va
set_option linter.unusedVariables false
set_option linter.unusedSimpArgs false
set_option autoImplicit false
/-! Operations that only compute: soundness. -/
namespace Go.Va
open RowKit
section
variable {C : Ctx} {row : List (Nat × (Nat × List (List AVal)))} {g : Gh} {a : Act} {w : World} {V : Operand → Option AVal}

theorem relT_sl {f : Bool} {z : Nat} {xs : List (List AVal)} {v : Value} (h : RelT C row g w (.sl f z xs) v) : RelD w g.m (.sl f z xs) v := h

theorem add_plain' (b o n : Nat) : (⟨b, o, none⟩ : Addr).add n = ⟨b, o + n, none⟩ := by
  unfold Addr.add
  split
  · rename_i h; subst h; rfl
  · rfl

theorem sl_elem {m : Nat → Nat} {f : Bool} {z : Nat} {xs : List (List AVal)} {v : Value} (h : RelD w m (.sl f z xs) v) {j : Nat} {c : List AVal} (hj : xs[j]? = some c) :
    ∃ b o cap, v = .slice (some ⟨b, o, none⟩) xs.length cap ∧ c.length = z ∧ ∀ o2, RelD w m (.el c o2) (.pointer (some ⟨b, o + j * z + o2, none⟩)) := by
  cases h with
  | sl full z xs A cp vv h1 h2 h3 h4 h4N h5 h6 h7 =>
    obtain ⟨b, o, hA⟩ := h6 (fun hx => by subst hx; simp at hj)
    refine ⟨b, o, cp, by rw [hA], h1 c (List.mem_of_getElem? hj), fun o2 => ?_⟩
    refine .el c o2 b (o + j * z) (fun i => vv j i) (fun i hi => ?_) (fun i x hx => h7 j c i x hj hx)
    obtain ⟨b', o', e1, e2, e3, e4⟩ := h5 j c i hj hi
    rw [hA] at e1
    injection e1 with e1
    injection e1 with e1 e1' _
    subst e1; subst e1'
    rw [show o + j * z + i = o + (j * z + i) by omega]
    exact ⟨e2, e3, e4⟩

theorem aindexAddr_sound (hV : ∀ y z, V y = some z → RelT C row g w z (a.eval y)) {t : TypeId} {y i : Operand} {x : AVal} (h : aindexAddr C.P t (V y) (V i) = some x) : ∃ v, (Instr.indexAt t (a.eval y) (a.eval i)).run C.P w = .ok v w ∧ RelT C row g w x v := by
  unfold aindexAddr at h
  split at h
  · rename_i f z xs k n hy hi
    split at h
    · rename_i e he
      split at h
      · rename_i z' hz
        split at h
        · rename_i hc
          obtain ⟨rfl, h0⟩ := hc
          split at h
          · rename_i c hcx
            injection h with h
            subst h
            obtain ⟨b, o, cap, h1, h2, h3⟩ := sl_elem (relT_sl (hV y _ hy)) hcx
            have hn : n.toNat < xs.length := (List.getElem?_eq_some_iff.1 hcx).1
            rw [h1, relT_lit (hV i _ hi)]
            refine ⟨.pointer (some ⟨b, o + n.toNat * z', none⟩), ?_, by have := h3 0; rw [Nat.add_zero] at this; exact relT_of_relD this⟩
            simp only [Instr.indexAt, asIntOf, Sem.run_bind, Sem.run_pure, Result.andThen_ok, run_und (elem_und he)]
            rw [Sem.run_ite, if_pos ⟨h0, by omega⟩]
            simp only [Sem.run_bind, run_sz hz, Result.andThen_ok, Sem.run_pure, add_plain']
          · cases h
        · cases h
      · cases h
    · cases h
  · rename_i id o k n hy hi
    split at h
    · rename_i len e he
      split at h
      · rename_i z hz
        split at h
        · rename_i hc
          injection h with h
          subst h
          obtain ⟨b, h1, h2⟩ := hV y _ hy
          rw [h2, relT_lit (hV i _ hi)]
          refine ⟨.pointer (some ⟨b, o + n.toNat * z, none⟩), ?_, b, h1, rfl⟩
          simp only [Instr.indexAt, asIntOf, Sem.run_bind, Sem.run_pure, Result.andThen_ok, run_und (arr_und he), Instr.sureAddr]
          rw [Sem.run_ite, if_pos ⟨hc.1, hc.2⟩]
          simp only [Sem.run_bind, run_sz hz, Result.andThen_ok, Sem.run_pure, add_plain']
        · cases h
      · cases h
    · cases h
  · rename_i c o k n hy hi
    split at h
    · rename_i len e he
      split at h
      · rename_i z hz
        split at h
        · rename_i hc
          injection h with h
          subst h
          obtain ⟨b, o', h1, h2⟩ := relT_el (hV y _ hy)
          rw [h1, relT_lit (hV i _ hi)]
          refine ⟨.pointer (some ⟨b, o' + o + n.toNat * z, none⟩), ?_, by have := h2 (o + n.toNat * z); rw [← Nat.add_assoc] at this; exact relT_of_relD this⟩
          simp only [Instr.indexAt, asIntOf, Sem.run_bind, Sem.run_pure, Result.andThen_ok, run_und (arr_und he), Instr.sureAddr]
          rw [Sem.run_ite, if_pos ⟨hc.1, hc.2⟩]
          simp only [Sem.run_bind, run_sz hz, Result.andThen_ok, Sem.run_pure, add_plain']
        · cases h
      · cases h
    · cases h
  · cases h

theorem relT_agg {cs : List AVal} {v : Value} (h : RelT C row g w (.agg cs) v) : ∃ vs : List Value, v = .agg vs.toArray ∧ PW (Cel w g.m) cs vs := relD_agg (w := w) (m := g.m) h

theorem aindex_sound (hV : ∀ y z, V y = some z → RelT C row g w z (a.eval y)) {t : TypeId} {y i : Operand} {x : AVal} (h : aindex C.P t (V y) (V i) = some x) : ∃ v, (Instr.index t (a.eval y) (a.eval i)).run C.P w = .ok v w ∧ RelT C row g w x v := by
  unfold aindex at h
  split at h
  · rename_i s k n hy hi
    split at h
    · rename_i ht
      split at h
      · rename_i h0
        split at h
        · rename_i b hb
          injection h with h
          subst h
          rw [relT_lit (hV y _ hy), relT_lit (hV i _ hi)]
          refine ⟨.int .u8 b.toNat, ?_, .lit _⟩
          simp [Instr.index, asIntOf, run_und (tk_str ht), h0, hb]
        · cases h
      · cases h
    · cases h
  · rename_i cs k n hy hi
    split at h
    · rename_i len e he
      split at h
      · rename_i z b hz hb
        split at h
        · rename_i hc
          obtain ⟨vs, h1, h2⟩ := relT_agg (hV y _ hy)
          rw [h1, relT_lit (hV i _ hi)]
          obtain ⟨v, h3, h4⟩ := part_sound (C := C) h2 hz hb h
          refine ⟨v, ?_, relT_of_relD h4⟩
          simp only [Instr.index, asIntOf, Sem.run_bind, Sem.run_pure, Result.andThen_ok, run_und (arr_und he)]
          rw [Sem.run_ite, if_pos ⟨hc.1, hc.2⟩]
          simp only [Sem.run_bind, run_sz hz, Result.andThen_ok, h3]
        · cases h
      · cases h
    · cases h
  · cases h

theorem afield_sound (hV : ∀ y z, V y = some z → RelT C row g w z (a.eval y)) {t : TypeId} {y : Operand} {f : Nat} {x : AVal} (h : afield C.P t (V y) f = some x) : ∃ v, (Instr.field t (a.eval y) f).run C.P w = .ok v w ∧ RelT C row g w x v := by
  unfold afield at h
  split at h
  · rename_i o z b cs hf hy
    obtain ⟨fs, fd, h1, h2, h3, h4, h5⟩ := fld_und hf
    obtain ⟨vs, h6, h7⟩ := relT_agg (hV y _ hy)
    obtain ⟨v, h8, h9⟩ := part_sound (C := C) h7 h4 h5 h
    rw [h6]
    refine ⟨v, ?_, relT_of_relD h9⟩
    simp only [Instr.field, Sem.run_bind, run_und h1, Result.andThen_ok, h2, asAgg, Sem.run_pure, h3, h8]
  · cases h

theorem acut_sound (hV : ∀ y z, V y = some z → RelT C row g w z (a.eval y)) {t : TypeId} {y : Operand} {lo hi mx : Option Operand} {x : AVal} (h : acut row C.P t (V y) (oInt V lo) (oInt V hi) (oInt V mx) = some x) :
    ∃ v, (Instr.sliceAt t (a.eval y) (lo.map a.eval) (hi.map a.eval) (mx.map a.eval)).run C.P w = .ok v w ∧ RelT C row g w x v := by
  cases hl : oInt V lo with
  | none => rw [hl] at h; cases h
  | some l =>
    cases hh : oInt V hi with
    | none => rw [hl, hh] at h; cases h
    | some hv =>
      cases hm : oInt V mx with
      | none => rw [hl, hh, hm] at h; cases h
      | some m =>
        rw [hl, hh, hm] at h
        have sl := oInt_sound hV hl
        have sh := oInt_sound hV hh
        have sm := oInt_sound hV hm
        unfold acut at h
        simp only at h
        split at h
        · rename_i s hy
          split at h
          · rename_i ht
            split at h
            · rename_i hb
              obtain ⟨hb1, hb2, hb3⟩ := hb
              injection h with h
              subst h
              rw [relT_lit (hV y _ hy), sm.2 rfl]
              refine ⟨.string (s.extract (l.getD 0).toNat (hv.getD s.size).toNat), ?_, .lit _⟩
              have hbd : (Instr.sliceBounds false s.size s.size (lo.map a.eval) (hi.map a.eval) none).run C.P w = .ok ((l.getD 0).toNat, (hv.getD (s.size : Int)).toNat, s.size) w := by
                cases hv with
                | none =>
                  rw [sh.2 rfl]
                  cases l with
                  | none => rw [sl.2 rfl]; simp [Instr.sliceBounds]
                  | some l =>
                    obtain ⟨k, e⟩ := sl.1 l rfl
                    rw [e]
                    simp only [Option.getD_some, Option.getD_none] at hb1 hb2 hb3 ⊢
                    simp [Instr.sliceBounds, run_sliceBound w k l s.size .sliceB hb1 hb2]
                | some hv =>
                  obtain ⟨kh, e⟩ := sh.1 hv rfl
                  rw [e]
                  simp only [Option.getD_some] at hb1 hb2 hb3 ⊢
                  have h0 : 0 ≤ hv := by omega
                  cases l with
                  | none => rw [sl.2 rfl]; simp [Instr.sliceBounds, run_sliceBound w kh hv s.size .sliceAlen h0 (by omega)]
                  | some l =>
                    obtain ⟨k, e'⟩ := sl.1 l rfl
                    rw [e']
                    simp only [Option.getD_some] at hb1 hb2 ⊢
                    have eh : ((hv.toNat : Nat) : Int) = hv := Int.toNat_of_nonneg h0
                    simp [Instr.sliceBounds, run_sliceBound w kh hv s.size .sliceAlen h0 (by omega), run_sliceBound w k l hv.toNat .sliceB hb1 (by omega)]
              simp only [Instr.sliceAt, Instr.slice, Sem.run_bind, run_und (tk_str ht), Result.andThen_ok, hbd, Option.isSome_none, Bool.false_eq_true, if_false, Sem.run_pure]
            · cases h
          · cases h
        · rename_i y' _ hy
          split at h
          · rename_i f z xs hf
            split at h
            · rename_i e he
              split at h
              · rename_i z' hz
                split at h
                · rename_i hzz
                  obtain ⟨u, h1, h2⟩ := aslice_sound (frz_sound (hV y _ hy) hf) sl.1 sl.2 sh.1 sh.2 sm.1 sm.2 he (by
                    rcases hzz with e1 | e1
                    · exact .inl (by rw [hz, e1])
                    · exact .inr e1) ⟨z', hz⟩ h
                  exact ⟨u, h1, relT_of_relD h2⟩
                · cases h
              · cases h
            · cases h
          · cases h
        · cases h

theorem abuiltin_sound {b : Builtin} {ts : Array TypeId} {ty : TypeId} {cs : Array Bool} {xs : List AVal} {x : AVal} {vs : List Value} (hv : PW (RelT C row g w) xs vs) (h : abuiltin C.P b ts.toList xs = some x) :
    ∃ v, (builtin b ts ty cs vs.toArray).run C.P w = .ok (.value v) w ∧ RelT C row g w x v := by
  have two : ∀ {y z : AVal} {l : List AVal}, xs = y :: z :: l → ∃ v u r, vs = v :: u :: r ∧ RelT C row g w y v ∧ RelT C row g w z u ∧ r.length = l.length := by
    intro y z l e
    subst e
    obtain ⟨h1, h2⟩ := hv
    match vs, h1, h2 with
    | v :: u :: r, h1, h2 => exact ⟨v, u, r, rfl, h2 0 y v rfl rfl, h2 1 z u rfl rfl, by simpa using h1⟩
  have one : ∀ {y : AVal} {l : List AVal}, xs = y :: l → ∃ v r, vs = v :: r ∧ RelT C row g w y v ∧ r.length = l.length := by
    intro y l e
    subst e
    obtain ⟨h1, h2⟩ := hv
    match vs, h1, h2 with
    | v :: r, h1, h2 => exact ⟨v, r, rfl, h2 0 y v rfl rfl, by simpa using h1⟩
  unfold abuiltin at h
  split at h
  · rename_i t tr s r hts
    obtain ⟨v, r', rfl, h1, _⟩ := one rfl
    split at h
    · rename_i ht
      injection h with h
      subst h
      rw [relT_lit h1]
      refine ⟨.int .i64 s.size, ?_, .lit _⟩
      have h0 : ts[0]? = some t := by rw [← Array.getElem?_toList, hts]; rfl
      simp [builtin, Builtin.len_, h0, run_und (tk_str ht), goInt]
    · cases h
  · rename_i t tr f z ys r hts
    obtain ⟨v, r', rfl, h1, _⟩ := one rfl
    split at h
    · rename_i e ht
      injection h with h
      subst h
      obtain ⟨A, c, rfl, _⟩ := relD_sl_shape (relT_sl h1)
      refine ⟨.int .i64 ys.length, ?_, .lit _⟩
      have h0 : ts[0]? = some t := by rw [← Array.getElem?_toList, hts]; rfl
      simp [builtin, Builtin.len_, h0, run_und (elem_und ht), goInt]
    · cases h
  · rename_i t tr rr n r hts
    obtain ⟨v, r', rfl, h1, _⟩ := one rfl
    split at h
    · rename_i e ht
      injection h with h
      subst h
      obtain ⟨T, L, _, hn, ⟨z, _, h3⟩, _⟩ := h1
      obtain ⟨A, c, rfl, _⟩ := relD_sl_shape h3
      refine ⟨.int .i64 n, ?_, .lit _⟩
      have h0 : ts[0]? = some t := by rw [← Array.getElem?_toList, hts]; rfl
      have hl : (L.take n).length = n := by simp; omega
      rw [hl]
      simp [builtin, Builtin.len_, h0, run_und (elem_und ht), goInt]
    · cases h
  · rename_i k p q
    obtain ⟨v, r', rfl, h1, h2⟩ := one rfl
    have : r' = [] := List.eq_nil_of_length_eq_zero h2
    subst this
    injection h with h
    subst h
    rw [relT_lit h1]
    exact ⟨.float k p, rfl, .lit _⟩
  · rename_i k p q
    obtain ⟨v, r', rfl, h1, h2⟩ := one rfl
    have : r' = [] := List.eq_nil_of_length_eq_zero h2
    subst this
    injection h with h
    subst h
    rw [relT_lit h1]
    exact ⟨.float k q, rfl, .lit _⟩
  · rename_i k p k' q
    obtain ⟨v, u, r', rfl, h1, h2, h3⟩ := two rfl
    have : r' = [] := List.eq_nil_of_length_eq_zero h3
    subst this
    split at h
    · rename_i hk
      injection h with h
      subst h
      rw [relT_lit h1, relT_lit h2]
      refine ⟨.complex k p q, ?_, .lit _⟩
      have e : Builtin.complex_ ts ty #[.float k p, .float k' q] = if k = k' then pure (.complex k p q) else stuck "complex: parts of different kinds" := rfl
      rw [if_pos hk] at e
      show (do let r ← Builtin.complex_ ts ty #[.float k p, .float k' q]; pure (Next.value r) : Sem Next).run C.P w = _
      rw [e]
      rfl
    · cases h
  · rename_i k p k' q
    obtain ⟨v, u, r', rfl, h1, h2, h3⟩ := two rfl
    have : r' = [] := List.eq_nil_of_length_eq_zero h3
    subst this
    injection h with h
    subst h
    rw [relT_lit h1, relT_lit h2]
    exact ⟨.int k (if q > p then q else p), by simp [builtin, Builtin.max_, Builtin.max2], .lit _⟩
  · rename_i k p k' q
    obtain ⟨v, u, r', rfl, h1, h2, h3⟩ := two rfl
    have : r' = [] := List.eq_nil_of_length_eq_zero h3
    subst this
    injection h with h
    subst h
    rw [relT_lit h1, relT_lit h2]
    exact ⟨.int k (if q < p then q else p), by simp [builtin, Builtin.min_, Builtin.min2], .lit _⟩
  · cases h

/-- An operation that only computes: it hands back what apure says; the world stays. -/
theorem apure_sound (hV : ∀ y z, V y = some z → RelT C row g w z (a.eval y)) (o : Oper) {x : AVal} (h : apure C.P row V o.op = some x) : ∃ v, (execOp a.eval o).run C.P w = .ok (.value v) w ∧ RelT C row g w x v := by
  unfold execOp
  cases ho : o.op <;> rw [ho] at h <;> simp only [apure] at h <;> try (cases h; done)
  case move y => exact ⟨_, rfl, hV y _ h⟩
  case assign y => exact ⟨_, rfl, hV y _ h⟩
  case pick c p q =>
    split at h
    · rename_i t hc
      have := relT_lit (hV c _ hc)
      cases t with
      | true =>
        simp only [if_true] at h
        exact ⟨a.eval p, by simp [this, asBool], hV p _ h⟩
      | false =>
        simp only [Bool.false_eq_true, if_false] at h
        exact ⟨a.eval q, by simp [this, asBool], hV q _ h⟩
    · cases h
  case build t parts =>
    split at h
    · rename_i ps hps
      obtain ⟨h1, h2⟩ := frzParts_sound hV parts.toList ps hps
      obtain ⟨v, h3, h4⟩ := abuild_sound h (parts.map fun (i, x) => (i, a.eval x)) (by simpa using h1) (by simpa using h2)
      exact ⟨v, by simp [h3], relT_of_relD h4⟩
    · cases h
  case nilCheck y =>
    split at h
    · rename_i i o' hy
      injection h with h
      subst h
      obtain ⟨b, h1, h2⟩ := hV y _ hy
      exact ⟨_, by simp [h2], b, h1, h2⟩
    · rename_i c o' hy
      injection h with h
      subst h
      obtain ⟨b, ob, h1, h2⟩ := relT_el (hV y _ hy)
      exact ⟨.pointer (some ⟨b, ob + o', none⟩), by simp [h1], relT_of_relD (h2 o')⟩
    · rename_i f c hy
      injection h with h
      subst h
      obtain ⟨caps, h1, h2⟩ := hV y _ hy
      exact ⟨_, by simp [h1], caps, h1, h2⟩
    · rename_i k hy
      injection h with h
      subst h
      obtain ⟨f, caps, h1, h2⟩ := hV y _ hy
      exact ⟨_, by simp [h1], f, caps, h1, h2⟩
    · cases h
  case binOp op t y z ty =>
    split at h
    · rename_i p q hy hz
      split at h
      · rename_i v hv
        injection h with h
        subst h
        have e0 := vbin_sound hv y z w
        have e1 := relT_lit (hV y _ hy)
        have e2 := relT_lit (hV z _ hz)
        refine ⟨v, ?_, .lit _⟩
        show ((do let r ← (do eqGuard op t y z (a.eval y) (a.eval z); binOp op t (a.eval y) (a.eval z) : Sem Value); pure (Next.value r)) : Sem Next).run C.P w = _
        rw [e1, e2, Sem.run_bind, e0]
        rfl
      · split at h
        · cases hq : ifEq C.P t op p .nilIface with
          | none => rw [hq] at h; cases h
          | some v =>
            rw [hq] at h
            injection h with h
            subst h
            have e1 := relT_lit (hV y _ hy)
            have e0 := ifEq_sound hq y (.const .nilIface) rfl w
            refine ⟨v, ?_, .lit _⟩
            show ((do let r ← (do eqGuard op t y (.const .nilIface) (a.eval y) .nilIface; binOp op t (a.eval y) .nilIface : Sem Value); pure (Next.value r)) : Sem Next).run C.P w = _
            rw [e1, Sem.run_bind, e0]
            rfl
        · cases h
    · rename_i cs ds hy hz
      obtain ⟨r, e0, e1⟩ := aggEq_sound h (w := w) (m := g.m) (hV y _ hy) (hV z _ hz) y z
      refine ⟨r, ?_, relT_of_relD e1⟩
      show ((do let r ← (do eqGuard op t y z (a.eval y) (a.eval z); binOp op t (a.eval y) (a.eval z) : Sem Value); pure (Next.value r)) : Sem Next).run C.P w = _
      rw [Sem.run_bind, e0]
      rfl
    · cases h
  case unOp op t y =>
    split at h
    · rename_i p hy
      split at h
      · rename_i v hv
        injection h with h
        subst h
        have e1 := relT_lit (hV y _ hy)
        exact ⟨v, by simp [e1, vun_sound hv], .lit _⟩
      · cases h
    · cases h
  case convert src dst y =>
    split at h
    · rename_i p hy
      split at h
      · rename_i v hv
        injection h with h
        subst h
        have e1 := relT_lit (hV y _ hy)
        exact ⟨v, by simp [e1, vconv_sound hv], .lit _⟩
      · cases h
    · rename_i q hne hq
      split at h
      · rename_i f z xs hf
        have hd := frz_sound (hV y _ hq) hf
        obtain ⟨r, h1, h2⟩ := aconv_sound h hd
        exact ⟨r, by simp [h1], relT_of_relD h2⟩
      · cases h
    · cases h
  case makeInterface t y =>
    split at h
    · rename_i p hy
      split at h
      · rename_i ht
        injection h with h
        subst h
        have e1 := relT_lit (hV y _ hy)
        exact ⟨_, by simp [e1, mkIface_sound ht], .lit _⟩
      · cases h
    · cases h
  case makeFunc fn first caps =>
    cases fn <;> simp only at h <;> try (cases h; done)
    rename_i f
    split at h
    · rename_i hf
      split at h
      · rename_i l hl
        injection h with h
        subst h
        obtain ⟨h1, h2⟩ := boxes_sound hV caps.toList l hl
        refine ⟨.func (.func f) #[] (caps.toList.map a.eval).toArray, ?_, caps.toList.map a.eval, rfl, h1, h2⟩
        have : first = #[] := Array.size_eq_zero_iff.1 hf
        subst this
        simp only [Instr.makeFunc, Sem.run_bind, Sem.run_pure, Result.andThen_ok, Array.map_empty]
        congr 3
        apply Array.ext'
        simp
      · cases h
    · cases h
  case slice t y lo hi mx =>
    obtain ⟨v, h1, h2⟩ := acut_sound hV h
    exact ⟨v, by simp [h1], h2⟩
  case fieldAddr t y f =>
    obtain ⟨v, h1, h2⟩ := afieldAddr_sound hV h
    exact ⟨v, by simp [h1], h2⟩
  case field t y f =>
    obtain ⟨v, h1, h2⟩ := afield_sound hV h
    exact ⟨v, by simp [h1], h2⟩
  case indexAddr t y i =>
    obtain ⟨v, h1, h2⟩ := aindexAddr_sound hV h
    exact ⟨v, by simp [h1], h2⟩
  case index t y i =>
    obtain ⟨v, h1, h2⟩ := aindex_sound hV h
    exact ⟨v, by simp [h1], h2⟩
  case extract y i =>
    split at h
    · rename_i vs hy
      have hr := hV y _ hy
      have hr' : RelD w g.m (.tup vs) (a.eval y) := hr
      generalize hu : a.eval y = u at hr'
      cases hr' with
      | tup cs us hl hh =>
        obtain ⟨v, h1, h2⟩ := PW.get (R := RelD w g.m) ⟨hl, hh⟩ h
        exact ⟨v, by simp [hu, Instr.extract, h1], relT_of_relD h2⟩
    · cases h
  case call c =>
    obtain ⟨callee, args, ts⟩ := c
    cases callee <;> simp only at h <;> try (cases h; done)
    rename_i b
    split at h
    · rename_i l hl
      obtain ⟨v, h1, h2⟩ := abuiltin_sound (ty := o.type) (cs := args.map fun | .const _ => true | _ => false) (vals_sound hV args.toList l hl) h
      refine ⟨v, ?_, h2⟩
      have e : (List.map a.eval args.toList).toArray = args.map a.eval := by apply Array.ext'; simp
      rw [e] at h1
      show (do let d ← resolve a.eval { callee := .builtin b, args := args, argTypes := ts } o.type; invoke d.target d.args : Sem Next).run C.P w = _
      rw [← h1]
      simp only [resolve, Sem.run_bind, Sem.run_pure, Result.andThen_ok, invoke]
      rfl
    · cases h

end
end Go.Va
set_option linter.unusedVariables false
set_option linter.unusedSimpArgs false
set_option autoImplicit false
/-! Operations that read and make memory. -/
namespace Go.Va
open RowKit

inductive Upd where
  | slot (t : Nat) (x : AVal)
  | box (id : Nat) (cs : List AVal)
  | row (r T : Nat) (L : List (List AVal))
def St.app (s : St) : Upd → St
  | .slot t x => { s with env := (t, x) :: s.env }
  | .box id cs => { s with box := (id, cs) :: s.box }
  | .row r T L => { s with row := (r, (T, L)) :: s.row }

/-- What an operation looks at and what it writes, beside slots. -/
structure Fp where
  rb : List Nat
  wb : List Nat
  lr : Bool
  wr : Bool

/-- The slots that an operation looks at. -/
def uses (ops : Array Oper) (o : Oper) : List Tmp := o.looksAt ops

/-- An operation, at whatever state is like s where it looks, turns the state as us says. -/
def OpOk (C : Ctx) (ops : Array Oper) (o : Oper) (s : St) (fp : Fp) (us : List Upd) : Prop :=
  ∀ (s' : St) (a : Act) (w : World) (Q : Exit → Act → World → Prop) (K : Act → World → Prop), (∀ t ∈ uses ops o, get s'.env t = get s.env t) → (∀ id, id ∈ fp.rb ∨ id ∈ fp.wb → get s'.box id = get s.box id) → ((fp.lr = true ∨ fp.wr = true) → ∀ r, get s'.row r = get s.row r) →
    Gam C s' a w → (∀ a' w', Gam C (us.foldl St.app s') a' w' → K a' w') → if Region.wanted o (yielded ops a.tmps) = true then o.wp C.P a w K Q else K (a.put o.dst undef) w
def UsOk (o : Oper) (fp : Fp) (us : List Upd) : Prop := ∀ u ∈ us, match u with
  | .slot t _ => o.dst = some t
  | .box id _ => id ∈ fp.wb
  | .row _ _ _ => fp.wr = true

theorem uses_op {ops : Array Oper} {o : Oper} {t : Tmp} (h : Operand.tmp t ∈ o.op.operands.toList) : t ∈ uses ops o := by
  unfold uses Oper.looksAt
  refine List.mem_append_left _ (List.mem_filterMap.2 ⟨.tmp t, h, rfl⟩)
theorem val_congr {ops : Array Oper} {o : Oper} {s s' : St} (h : ∀ t ∈ uses ops o, get s'.env t = get s.env t) : ∀ y ∈ o.op.operands.toList, s'.val y = s.val y := by
  intro y hy
  cases y with
  | tmp t => exact h t (uses_op hy)
  | _ => rfl

/-! #### a new block -/
theorem heap_alloc_new (w : World) (o : Obj) : (w.alloc o).heap[w.heap.size]? = some o := by
  show (w.heap.push o)[w.heap.size]? = _
  simp
/-- A new block: of a variable (its cells may be written), or of a slice's cells that stay. -/
theorem Hp.alloc {C : Ctx} {box : List (Nat × List AVal)} {row : List (Nat × (Nat × List (List AVal)))} {g : Gh} {w : World} (h : Hp C box row g w) (arr : Array Value) (T : TypeId) (k : Nat) (fr : Nat × Nat := (0, 0)) :
    Hp C box row { g with m := fun b => if b = w.heap.size then k else g.m b } (w.alloc (.cells arr T fr)) ∧ Lat w g.m (w.alloc (.cells arr T fr)) (fun b => if b = w.heap.size then k else g.m b) := by
  refine Hp.step h ((Below.refl _ w).alloc (Nat.le_refl _) _) (fun b hb => if_neg (by omega)) (fun b hb => ?_)
  have hs : (w.alloc (.cells arr T fr)).heap.size = w.heap.size + 1 := by simp
  rw [hs] at hb
  show (if b = w.heap.size then k else g.m b) = 0
  rw [if_neg (by omega)]
  exact h.marks b (by omega)

theorem cell_new (w : World) (arr : Array Value) (T : TypeId) (i : Nat) (fr : Nat × Nat := (0, 0)) : (w.alloc (.cells arr T fr)).cell? ⟨w.heap.size, i, none⟩ = arr[i]? := by
  unfold World.cell?
  rw [show (w.alloc (.cells arr T fr)).heap[(⟨w.heap.size, i, none⟩ : Addr).block]? = some (.cells arr T fr) from heap_alloc_new w _]
  simp

/-- A new variable. -/
theorem Hp.newbox {C : Ctx} {box : List (Nat × List AVal)} {row : List (Nat × (Nat × List (List AVal)))} {g : Gh} {w : World} (h : Hp C box row g w) (id : Nat) (hid : get box id = none) (cs : List AVal) (arr : Array Value) (T : TypeId)
    (hc : PW (fun x v => v.oneCell' = true ∧ RelT C row g w x v) cs arr.toList) :
    ∃ g', Hp C ((id, cs) :: box) row g' (w.alloc (.cells arr T)) ∧ g'.ρ id = some w.heap.size ∧ Lat w g.m (w.alloc (.cells arr T)) g'.m ∧ (∀ i b, g.ρ i = some b → g'.ρ i = some b) ∧ g'.κ = g.κ := by
  obtain ⟨h1, hl⟩ := h.alloc arr T 0
  have hnone : g.ρ id = none := by
    cases he : g.ρ id with
    | none => rfl
    | some b =>
      obtain ⟨_, c, hc⟩ := h.dom id b he
      rw [hid] at hc; cases hc
  refine ⟨{ ρ := fun i => if i = id then some w.heap.size else g.ρ i, κ := g.κ, m := fun b => if b = w.heap.size then 0 else g.m b }, ⟨?_, ?_, ?_, ?_, h1.marks, h1.below, h1.old⟩, if_pos rfl, hl, ?_, rfl⟩
  · intro i c hi
    rw [get_cons] at hi
    have key : ∀ {x : AVal} {v : Value}, RelT C row g w x v → RelT C row { ρ := fun i => if i = id then some w.heap.size else g.ρ i, κ := g.κ, m := fun b => if b = w.heap.size then 0 else g.m b } (w.alloc (.cells arr T)) x v := fun hx => hx.lat hl (fun i2 b2 hi2 => by
      show (if i2 = id then some w.heap.size else g.ρ i2) = some b2
      rw [if_neg (fun e => by subst e; rw [hnone] at hi2; cases hi2)]; exact hi2) (fun _ _ _ _ => rfl)
    by_cases e : id = i
    · subst e
      rw [if_pos rfl] at hi
      injection hi with hi
      subst hi
      refine ⟨w.heap.size, arr, T, if_pos rfl, h.below.size, heap_alloc_new _ _, by rw [← Array.length_toList, hc.1], if_pos rfl, fun j x v hx hv => ?_⟩
      obtain ⟨h2, h3⟩ := hc.2 j x v hx (by simpa using hv)
      exact ⟨h2, key h3⟩
    · rw [if_neg e] at hi
      obtain ⟨b, arr', T', h2, h3, h4, h5, h6, h7⟩ := h1.boxes i c hi
      refine ⟨b, arr', T', by show (if i = id then some w.heap.size else g.ρ i) = some b; rw [if_neg (Ne.symm e)]; exact h2, h3, h4, h5, h6, fun j x v hx hv => ?_⟩
      obtain ⟨h8, h9⟩ := h7 j x v hx hv
      refine ⟨h8, h9.lat (Lat.refl _ _) (fun i b hi => ?_) (fun _ _ _ _ => rfl)⟩
      show (if i = id then some w.heap.size else g.ρ i) = some b
      rw [if_neg (fun e => by subst e; have hi' : g.ρ i = some b := hi; rw [hnone] at hi'; cases hi')]; exact hi
  · intro i j b hi hj
    have hi' : (if i = id then some w.heap.size else g.ρ i) = some b := hi
    have hj' : (if j = id then some w.heap.size else g.ρ j) = some b := hj
    by_cases e1 : i = id <;> by_cases e2 : j = id
    · rw [e1, e2]
    · rw [if_pos e1] at hi'; rw [if_neg e2] at hj'
      injection hi' with hi'
      have := (h.dom j b hj').1
      omega
    · rw [if_neg e1] at hi'; rw [if_pos e2] at hj'
      injection hj' with hj'
      have := (h.dom i b hi').1
      omega
    · rw [if_neg e1] at hi'; rw [if_neg e2] at hj'
      exact h.inj i j b hi' hj'
  · intro i b hi
    have hi' : (if i = id then some w.heap.size else g.ρ i) = some b := hi
    have hs : (w.alloc (.cells arr T)).heap.size = w.heap.size + 1 := by simp
    rw [hs, get_cons]
    by_cases e : i = id
    · rw [if_pos e] at hi'
      injection hi' with hi'
      rw [if_pos e.symm]
      exact ⟨by omega, _, rfl⟩
    · rw [if_neg e] at hi'
      rw [if_neg (Ne.symm e)]
      have := h.dom i b hi'
      exact ⟨by omega, this.2⟩
  · intro r T' L hr
    obtain ⟨h2, h3⟩ := h1.rows r T' L hr
    refine ⟨h2, fun b hb => ?_⟩
    obtain ⟨h4, h5, h6, h7⟩ := h3 b hb
    refine ⟨h4, h5, fun i hi => ?_, h7⟩
    have hi' : (if i = id then some w.heap.size else g.ρ i) = some b := hi
    by_cases e : i = id
    · rw [if_pos e] at hi'
      injection hi' with hi'
      obtain ⟨n, c, arr', z, e1, e2, e3, e4, e5⟩ := h5
      obtain ⟨_, hr1⟩ := h.rows r T' L hr
      obtain ⟨_, ⟨n', c', arr'', z', f1, f2, _⟩, _⟩ := hr1 b hb
      have := (Array.getElem?_eq_some_iff.1 f2).1
      omega
    · rw [if_neg e] at hi'
      exact h6 i hi'
  · intro i b hi
    show (if i = id then some w.heap.size else g.ρ i) = some b
    rw [if_neg (fun e => by subst e; rw [hnone] at hi; cases hi)]; exact hi

/-- The cells that a value fills: of an own variable. -/
def cellsT : AVal → Option (List AVal)
  | .agg cs => some cs
  | .row r n => some [.row r n]
  | .box i o => some [.box i o]
  | .clo f c => some [.clo f c]
  | .ext k => some [.ext k]
  | x => if oneA x then some [x] else none
theorem cellsT_sound {C : Ctx} {row : List (Nat × (Nat × List (List AVal)))} {g : Gh} {w : World} {x : AVal} {v : Value} (h : RelT C row g w x v) {cs : List AVal} (hc : cellsT x = some cs) : PW (fun x v => v.oneCell' = true ∧ RelT C row g w x v) cs v.cells.toList := by
  have one : ∀ {y : AVal} {l : List AVal}, l = [y] → v.oneCell' = true → RelT C row g w y v → PW (fun x v => v.oneCell' = true ∧ RelT C row g w x v) l v.cells.toList := by
    intro y l hl h1 h2
    subst hl
    have : v.cells.toList = [v] := by cases v <;> first | rfl | cases h1
    rw [this]
    exact PW.cons ⟨h1, h2⟩ PW.nil
  have dat : ∀ {y : AVal}, (if oneA y then some [y] else none) = some cs → RelD w g.m y v → PW (fun x v => v.oneCell' = true ∧ RelT C row g w x v) cs v.cells.toList := by
    intro y hy hd
    split at hy
    · rename_i ho
      injection hy with hy
      exact one hy.symm (oneA_sound hd ho).1 (relT_of_relD hd)
    · cases hy
  cases x with
  | agg cs' =>
    injection hc with hc
    subst hc
    obtain ⟨vs, rfl, h1⟩ := relD_agg (w := w) (m := g.m) h
    have := h1.imp (R' := fun x v => v.oneCell' = true ∧ RelT C row g w x v) (fun x v hx => ⟨hx.1, relT_of_relD hx.2⟩)
    simpa [Value.cells] using this
  | row r n =>
    injection hc with hc
    have h' := h
    obtain ⟨T, L, _, _, ⟨z, _, h3⟩, _⟩ := h'
    obtain ⟨A, c, e, _⟩ := relD_sl_shape h3
    exact one hc.symm (by rw [e]; rfl) h
  | box i o =>
    injection hc with hc
    obtain ⟨b, _, e⟩ := id h
    exact one hc.symm (by rw [e]; rfl) h
  | clo f c =>
    injection hc with hc
    obtain ⟨caps, e, _⟩ := id h
    exact one hc.symm (by rw [e]; rfl) h
  | ext k =>
    injection hc with hc
    obtain ⟨f, caps, e, _⟩ := id h
    exact one hc.symm (by rw [e]; rfl) h
  | any => cases hc
  | lit u => exact dat (y := .lit u) hc h
  | tup u => exact dat (y := .tup u) hc h
  | sl f z xs => exact dat (y := .sl f z xs) hc h
  | el c o => exact dat (y := .el c o) hc h

/-- A type's zero cells. -/
def Tzero (P : Program) (t : TypeId) : Option (List Value) := match P.info? t with
  | some i => match i.zero with
    | some z => if z.cells.all (·.oneCell') then some z.cells.toList else none
    | none => none
  | none => none
theorem tzero_run {P : Program} {t : TypeId} {zs : List Value} (h : Tzero P t = some zs) (w : World) : ∃ z : Value, (zeroValue t).run P w = .ok z w ∧ z.cells.toList = zs ∧ ∀ v ∈ zs, v.oneCell' = true := by
  unfold Tzero at h
  split at h
  · rename_i i hi
    split at h
    · rename_i z hz
      split at h
      · rename_i ho
        injection h with h
        subst h
        refine ⟨z, by simp [zeroValue, typeInfo, hi, hz], rfl, fun v hv => ?_⟩
        rw [Array.all_eq_true'] at ho
        exact ho v (by simpa using hv)
      · cases h
    · cases h
  · cases h

/-! #### reading -/
def frzL (row : List (Nat × (Nat × List (List AVal)))) (P : Program) : List AVal → Option (List AVal)
  | [] => some []
  | x :: r => match frz row P x with
    | none => none
    | some y => match frzL row P r with
      | none => none
      | some l => some (y :: l)
theorem frzL_sound {C : Ctx} {row : List (Nat × (Nat × List (List AVal)))} {g : Gh} {w : World} : ∀ {cs : List AVal} {vs : List Value} {out : List AVal}, PW (fun x v => v.oneCell' = true ∧ RelT C row g w x v) cs vs → frzL row C.P cs = some out → PW (Cel w g.m) out vs
  | [], vs, out, h, hf => by
    injection hf with hf
    subst hf
    have := h.1
    have : vs = [] := List.eq_nil_of_length_eq_zero this
    subst this
    exact PW.nil
  | x :: r, [], out, h, hf => by have := h.1; simp at this
  | x :: r, v :: vs, out, h, hf => by
    simp only [frzL] at hf
    split at hf
    · cases hf
    · rename_i y hy
      split at hf
      · cases hf
      · rename_i l hl
        injection hf with hf
        subst hf
        have h0 := h.2 0 x v rfl rfl
        have ht : PW (fun x v => v.oneCell' = true ∧ RelT C row g w x v) r vs := ⟨by simpa using h.1, fun i y u hy hu => h.2 (i + 1) y u (by simpa using hy) (by simpa using hu)⟩
        exact PW.cons ⟨h0.1, frz_sound h0.2 hy⟩ (frzL_sound ht hl)

def aload (P : Program) (s : St) (t : TypeId) (x : Option AVal) : Option AVal := match Tsz P t, Tagg P t, x with
  | some z, some b, some (.box id o) => match get s.box id with
    | some cs => if b then if o + z ≤ cs.length then match frzL s.row P ((cs.drop o).take z) with
          | some l => some (.agg l)
          | none => none
        else none
      else cs[o]?
    | none => none
  | some z, some b, some (.el c o) => gather b z c o
  | _, _, _ => none

theorem run_loadCells_from {P : Program} {w : World} {b : Nat} (arr : List Value) (o : Nat) : ∀ (n i : Nat) (acc : Array Value), (∀ j, j < n → ∃ v, arr[i + j]? = some v ∧ w.cell? ⟨b, o + (i + j), none⟩ = some v) →
    (loadCellsFrom ⟨b, o, none⟩ i n acc).run P w = .ok (acc ++ ((arr.drop i).take n).toArray) w
  | 0, i, acc, h => by simp [loadCellsFrom]
  | n + 1, i, acc, h => by
    obtain ⟨v, h1, h2⟩ := h 0 (by omega)
    rw [Nat.add_zero] at h1 h2
    have hi : i < arr.length := (List.getElem?_eq_some_iff.1 h1).1
    simp only [loadCellsFrom, Sem.run_bind, run_load, add_plain', h2, Result.andThen_ok]
    rw [run_loadCells_from arr o n (i + 1) (acc.push v) (fun j hj => by
      obtain ⟨u, e1, e2⟩ := h (j + 1) (by omega)
      rw [show i + 1 + j = i + (j + 1) by omega]
      exact ⟨u, e1, e2⟩)]
    congr 1
    apply Array.ext'
    have hd : arr.drop i = v :: arr.drop (i + 1) := by
      rw [List.drop_eq_getElem_cons hi]
      have : arr[i] = v := (List.getElem?_eq_some_iff.1 h1).2
      rw [this]
    simp [hd]

theorem run_loadVar_agg {P : Program} {w : World} {t : TypeId} {b o z : Nat} {vs : List Value} (hz : Tsz P t = some z) (hb : Tagg P t = some true) (hl : vs.length = z) (h : ∀ j, j < z → ∃ v, vs[j]? = some v ∧ w.cell? ⟨b, o + j, none⟩ = some v) :
    (loadVar t ⟨b, o, none⟩).run P w = .ok (.agg vs.toArray) w := by
  simp only [loadVar, Sem.run_bind, run_agg hb, Result.andThen_ok, if_true, run_sz hz, loadCells]
  rw [run_loadCells_from vs o z 0 #[] (fun j hj => by simpa using h j hj)]
  simp only [Result.andThen_ok, Sem.run_pure]
  congr 2
  apply Array.ext'
  simp [← hl]
theorem run_loadVar_one {P : Program} {w : World} {t : TypeId} {a : Addr} {v : Value} (hb : Tagg P t = some false) (h : w.cell? a = some v) : (loadVar t a).run P w = .ok v w := by
  simp [loadVar, run_agg hb, h]

theorem aload_sound {C : Ctx} {s : St} {g : Gh} {a : Act} {w : World} (hh : Hp C s.box s.row g w) {t : TypeId} {y : Operand} (hV : ∀ z, s.val y = some z → RelT C s.row g w z (a.eval y)) {x : AVal} (h : aload C.P s t (s.val y) = some x) :
    ∃ v, (Instr.loadAt t (a.eval y)).run C.P w = .ok v w ∧ RelT C s.row g w x v := by
  unfold aload at h
  split at h
  · rename_i z b id o hz hb hy
    split at h
    · rename_i cs hcs
      obtain ⟨bl, arr, T, h1, h2, h3, h4, h5, h6⟩ := hh.boxes id cs hcs
      obtain ⟨bl', h7, h8⟩ := hV _ hy
      rw [h1] at h7
      injection h7 with h7
      subst h7
      have hpw : PW (fun x v => v.oneCell' = true ∧ RelT C s.row g w x v) cs arr.toList := ⟨by rw [Array.length_toList, h4], fun i x v hx hv => h6 i x v hx (by simpa using hv)⟩
      have hcell : ∀ j, w.cell? ⟨bl, j, none⟩ = arr[j]? := fun j => by simp [World.cell?, h3]
      rw [h8]
      cases b with
      | true =>
        simp only [if_true] at h
        split at h
        · rename_i hle
          split at h
          · rename_i l hl
            injection h with h
            subst h
            have hp2 := frzL_sound ((hpw.drop o).take z) hl
            have hlen : ((arr.toList.drop o).take z).length = z := by
              have := hpw.1
              simp at this ⊢
              omega
            refine ⟨.agg ((arr.toList.drop o).take z).toArray, ?_, relT_of_relD (relD_agg_mk hp2)⟩
            simp only [Instr.loadAt, Instr.sureAddr, Sem.run_bind, Sem.run_pure, Result.andThen_ok]
            refine run_loadVar_agg hz hb hlen (fun j hj => ?_)
            have hlt : o + j < arr.size := by omega
            refine ⟨arr[o + j], ?_, by rw [hcell]; exact Array.getElem?_eq_getElem hlt⟩
            rw [List.getElem?_take, if_pos hj, List.getElem?_drop]
            simp [hlt]
          · cases h
        · cases h
      | false =>
        simp only [Bool.false_eq_true, if_false] at h
        obtain ⟨v, h9, h10⟩ := hpw.get h
        refine ⟨v, ?_, h10.2⟩
        simp only [Instr.loadAt, Instr.sureAddr, Sem.run_bind, Sem.run_pure, Result.andThen_ok]
        exact run_loadVar_one hb (by rw [hcell]; simpa using h9)
    · cases h
  · rename_i z b c o hz hb hy
    have hr : RelD w g.m (.el c o) (a.eval y) := hV _ hy
    generalize hu : a.eval y = u at hr
    cases hr with
    | el cs off bl o' vv h1 h2 =>
      unfold gather at h
      cases b with
      | true =>
        simp only [if_true] at h
        split at h
        · rename_i hle
          injection h with h
          subst h
          have hp : PW (Cel w g.m) c ((List.range c.length).map vv) := by
            refine ⟨by simp, fun i x v hx hv => ?_⟩
            have hi : i < c.length := (List.getElem?_eq_some_iff.1 hx).1
            rw [List.getElem?_map, List.getElem?_range hi] at hv
            injection hv with hv
            subst hv
            exact ⟨(h1 i hi).2.2, h2 i x hx⟩
          refine ⟨.agg ((((List.range c.length).map vv).drop o).take z).toArray, ?_, relT_of_relD (relD_agg_mk ((hp.drop o).take z))⟩
          simp only [Instr.loadAt, Instr.sureAddr, Sem.run_bind, Sem.run_pure, Result.andThen_ok]
          refine run_loadVar_agg hz hb (by simp; omega) (fun j hj => ?_)
          have hlt : o + j < c.length := by omega
          refine ⟨vv (o + j), ?_, by rw [Nat.add_assoc]; exact (h1 (o + j) hlt).1⟩
          rw [List.getElem?_take, if_pos hj, List.getElem?_drop, List.getElem?_map, List.getElem?_range hlt]
          rfl
        · cases h
      | false =>
        simp only [Bool.false_eq_true, if_false] at h
        have hi : o < c.length := (List.getElem?_eq_some_iff.1 h).1
        refine ⟨vv o, ?_, relT_of_relD (h2 o x h)⟩
        simp only [Instr.loadAt, Instr.sureAddr, Sem.run_bind, Sem.run_pure, Result.andThen_ok]
        exact run_loadVar_one hb (h1 o hi).1
  · cases h

end Go.Va
set_option linter.unusedVariables false
set_option linter.unusedSimpArgs false
set_option autoImplicit false
/-! Stores; slices made; append. -/
namespace Go.Va
open RowKit

/-- A variable's cells written. -/
theorem Hp.store {C : Ctx} {box : List (Nat × List AVal)} {row : List (Nat × (Nat × List (List AVal)))} {g : Gh} {w : World} (h : Hp C box row g w) {id b : Nat} {cs cs' : List AVal} {arr arr' : Array Value} {T : TypeId} (hid : get box id = some cs) (hb : g.ρ id = some b)
    (ha : w.heap[b]? = some (.cells arr T (0, 0))) (hm : g.m b = 0) (hc : PW (fun x v => v.oneCell' = true ∧ RelT C row g w x v) cs' arr'.toList) (hlen : cs'.length = cs.length) (hbase : C.w0.heap.size ≤ b) :
    Hp C ((id, cs') :: box) row g (w.setRow b arr') ∧ Lat w g.m (w.setRow b arr') g.m := by
  have hother : ∀ k, k ≠ b → (w.setRow b arr').heap[k]? = w.heap[k]? := fun k hk => setRow_other w b k arr' hk
  have hl : Lat w g.m (w.setRow b arr') g.m := ⟨fun k o ho => cell_setRow_other w b arr' ⟨k, o, none⟩ (fun e => by
    have e' : k = b := e
    subst e'; rw [hm] at ho; omega), fun _ => Nat.le_refl _, by simp⟩
  refine ⟨⟨?_, h.inj, ?_, ?_, ?_, ?_, h.old⟩, hl⟩
  · intro i c hi
    rw [get_cons] at hi
    by_cases e : id = i
    · subst e
      rw [if_pos rfl] at hi
      injection hi with hi
      subst hi
      refine ⟨b, arr', T, hb, hbase, setRow_heap w b arr arr' T (0, 0) ha, by rw [← Array.length_toList, hc.1], hm, fun j x v hx hv => ?_⟩
      obtain ⟨h1, h2⟩ := hc.2 j x v hx (by simpa using hv)
      exact ⟨h1, h2.lat hl (fun _ _ h => h) (fun _ _ _ _ => rfl)⟩
    · rw [if_neg e] at hi
      obtain ⟨b', arr2, T2, h2, h3, h4, h5, h6, h7⟩ := h.boxes i c hi
      have hne : b' ≠ b := fun e2 => by subst e2; exact e (h.inj id i b' hb h2)
      refine ⟨b', arr2, T2, h2, h3, (hother b' hne).trans h4, h5, h6, fun j x v hx hv => ?_⟩
      obtain ⟨h8, h9⟩ := h7 j x v hx hv
      exact ⟨h8, h9.lat hl (fun _ _ h => h) (fun _ _ _ _ => rfl)⟩
  · intro i b' hi
    obtain ⟨h1, c, h2⟩ := h.dom i b' hi
    refine ⟨by simpa using h1, ?_⟩
    rw [get_cons]
    by_cases e : id = i
    · exact ⟨cs', if_pos e⟩
    · exact ⟨c, by rw [if_neg e]; exact h2⟩
  · intro r T' L hr
    obtain ⟨⟨z, hz, h1⟩, h3⟩ := h.rows r T' L hr
    refine ⟨⟨z, hz, h1.lat hl⟩, fun b' hs => ?_⟩
    obtain ⟨h4, ⟨n, c, arr2, z2, h5, h6, h7, h8, h9⟩, h10, h11⟩ := h3 b' hs
    have hne : b' ≠ b := fun e2 => by subst e2; exact h10 id hb
    exact ⟨h4, ⟨n, c, arr2, z2, h5, (hother b' hne).trans h6, h7, h8, h9⟩, h10, h11⟩
  · intro k hk
    exact h.marks k (by simpa using hk)
  · exact h.below.trans ⟨rfl, rfl, rfl, by simp, fun k hk => hother k (by omega)⟩

/-! #### slices by their cells -/
theorem flatten_get {α : Type} (z : Nat) : ∀ (xs : List (List α)) (j i : Nat), (∀ e ∈ xs, e.length = z) → i < z → xs.flatten[j * z + i]? = (xs[j]?).bind (·[i]?)
  | [], j, i, h, hi => by simp
  | e :: xs, j, i, h, hi => by
    have he : e.length = z := h e List.mem_cons_self
    rw [List.flatten_cons, List.getElem?_append]
    cases j with
    | zero =>
      rw [if_pos (by omega)]
      simp
    | succ j =>
      have : (j + 1) * z + i = z + (j * z + i) := by rw [Nat.add_mul]; omega
      rw [if_neg (by omega), this, he, Nat.add_sub_cancel_left, flatten_get z xs j i (fun e he => h e (List.mem_cons_of_mem _ he)) hi]
      simp
theorem flatten_len {α : Type} (z : Nat) : ∀ (xs : List (List α)), (∀ e ∈ xs, e.length = z) → xs.flatten.length = xs.length * z
  | [], h => by simp
  | e :: xs, h => by
    rw [List.flatten_cons, List.length_append, flatten_len z xs (fun e he => h e (List.mem_cons_of_mem _ he)), h e List.mem_cons_self, List.length_cons, Nat.add_mul]
    omega

/-- A slice whose cells lie at the begin of a block. -/
theorem relD_of_flat {w : World} {m : Nat → Nat} {full : Bool} {z b c : Nat} {xs : List (List AVal)} {flat : List Value} (hz : ∀ e ∈ xs, e.length = z) (hp : PW (Cel w m) xs.flatten flat)
    (hcell : ∀ (j : Nat) v, flat[j]? = some v → w.cell? ⟨b, j, none⟩ = some v ∧ j < m b) (hc : xs.length ≤ c) (hmost : xs.length ≤ most) (hf : full = true → c = xs.length) : RelD w m (.sl full z xs) (.slice (some ⟨b, 0, none⟩) xs.length c) := by
  have key : ∀ j e i, xs[j]? = some e → i < e.length → ∃ v, flat[j * z + i]? = some v ∧ Cel w m e[i]! v := by
    intro j e i hj hi
    have he : e.length = z := hz e (List.mem_of_getElem? hj)
    have hx : xs.flatten[j * z + i]? = some e[i]! := by
      rw [flatten_get z xs j i hz (by omega), hj]
      simp [hi]
    exact hp.get hx
  refine .sl full z xs (some ⟨b, 0, none⟩) c (fun j i => (flat[j * z + i]?).getD default) hz hc hmost hf (fun h => by cases h) ?_ (fun _ => ⟨b, 0, rfl⟩) ?_
  · intro j e i hj hi
    obtain ⟨v, h1, h2⟩ := key j e i hj hi
    obtain ⟨h3, h4⟩ := hcell _ v h1
    refine ⟨b, 0, rfl, ?_, by rw [Nat.zero_add]; exact h4, ?_⟩
    · rw [Nat.zero_add, h1]; exact h3
    · rw [h1]; exact h2.1
  · intro j e i x hj hx
    have hi : i < e.length := (List.getElem?_eq_some_iff.1 hx).1
    obtain ⟨v, h1, h2⟩ := key j e i hj hi
    rw [h1]
    have : e[i]! = x := by
      obtain ⟨h5, h6⟩ := List.getElem?_eq_some_iff.1 hx
      simp [h5, h6]
    rw [this] at h2
    exact h2.2

/-- The cells of a slice, in line. -/
theorem relD_flat {w : World} {m : Nat → Nat} {full : Bool} {z n c : Nat} {xs : List (List AVal)} {A : Option Addr} (h : RelD w m (.sl full z xs) (.slice A n c)) :
    ∃ flat, PW (Cel w m) xs.flatten flat ∧ flat.length = xs.length * z ∧ (∀ e ∈ xs, e.length = z) ∧ ∀ (j : Nat) v, flat[j]? = some v → ∃ b o, A = some ⟨b, o, none⟩ ∧ w.cell? ⟨b, o + j, none⟩ = some v ∧ o + j < m b := by
  cases h with
  | sl full z xs A c vv h1 h2 h3 h4 h4N h5 h6 h7 =>
    have hlen := flatten_len z xs h1
    refine ⟨(List.range (xs.length * z)).map fun q => vv (q / z) (q % z), ⟨by simp [hlen], ?_⟩, by simp, h1, ?_⟩
    · intro q x v hx hv
      have hq : q < xs.length * z := by rw [← hlen]; exact (List.getElem?_eq_some_iff.1 hx).1
      have hz0 : 0 < z := by
        rcases Nat.eq_zero_or_pos z with h0 | h0
        · subst h0; omega
        · exact h0
      rw [List.getElem?_map, List.getElem?_range hq] at hv
      injection hv with hv
      subst hv
      have hmod : q % z < z := Nat.mod_lt _ hz0
      have hdiv : q / z < xs.length := by rw [Nat.div_lt_iff_lt_mul hz0]; exact hq
      have hqe : q = q / z * z + q % z := by rw [Nat.mul_comm]; exact (Nat.div_add_mod q z).symm
      rw [hqe, flatten_get z xs _ _ h1 hmod, List.getElem?_eq_getElem hdiv, Option.bind_some] at hx
      have hj : xs[q / z]? = some xs[q / z] := List.getElem?_eq_getElem hdiv
      obtain ⟨b, o, e1, e2, e3, e4⟩ := h5 (q / z) _ (q % z) hj (by rw [h1 _ (List.mem_of_getElem? hj)]; exact hmod)
      exact ⟨e4, h7 _ _ _ x hj hx⟩
    · intro q v hv
      have hq : q < xs.length * z := by
        have := (List.getElem?_eq_some_iff.1 hv).1
        simpa using this
      have hz0 : 0 < z := by
        rcases Nat.eq_zero_or_pos z with h0 | h0
        · subst h0; omega
        · exact h0
      rw [List.getElem?_map, List.getElem?_range hq] at hv
      injection hv with hv
      subst hv
      have hmod : q % z < z := Nat.mod_lt _ hz0
      have hdiv : q / z < xs.length := by rw [Nat.div_lt_iff_lt_mul hz0]; exact hq
      have hqe : q / z * z + q % z = q := by rw [Nat.mul_comm]; exact Nat.div_add_mod q z
      have hj : xs[q / z]? = some xs[q / z] := List.getElem?_eq_getElem hdiv
      obtain ⟨b, o, e1, e2, e3, e4⟩ := h5 (q / z) _ (q % z) hj (by rw [h1 _ (List.mem_of_getElem? hj)]; exact hmod)
      rw [hqe] at e2 e3
      exact ⟨b, o, e1, e2, e3⟩

/-! #### a slice literal -/
def dense (z : Nat) : Nat → List (Nat × AVal) → Option (List (List AVal))
  | _, [] => some []
  | k, (i, x) :: r => match cellsA x with
    | none => none
    | some cs => if i = k ∧ cs.length = z then match dense z (k + 1) r with
        | some l => some (cs :: l)
        | none => none
      else none
def alits (P : Program) (t : TypeId) (len : Nat) (ps : List (Nat × AVal)) : Option AVal := match Telem P t with
  | some e => match Tsz P e, Tzero P e with
    | some z, some zs => if zs.length = z ∧ z ≠ 0 ∧ len * z ≤ 16777216 then match dense z 0 ps with
        | some xs => if xs.length = len then some (.sl true z xs) else none
        | none => none
      else none
    | _, _ => none
  | none => none
theorem fill_dense {w : World} {m : Nat → Nat} (z : Nat) : ∀ (ps : List (Nat × AVal)) (qs : List (Nat × Value)) (k : Nat) (arr : Array Value) (xs : List (List AVal)), qs.map (·.1) = ps.map (·.1) →
    (∀ (i : Nat) p q, ps[i]? = some p → qs[i]? = some q → RelD w m p.2 q.2) → dense z k ps = some xs → arr.size = (k + xs.length) * z →
    ∃ flat, Instr.fill (fun i => some (i * z, z)) arr qs = some (arr.toList.take (k * z) ++ flat).toArray ∧ PW (Cel w m) xs.flatten flat ∧ ∀ e ∈ xs, e.length = z
  | [], [], k, arr, xs, _, _, hd, hs => by
    injection hd with hd
    subst hd
    refine ⟨[], ?_, PW.nil, by simp⟩
    simp only [Instr.fill, List.append_nil]
    congr 1
    apply Array.ext'
    simp at hs
    have : arr.toList.length ≤ k * z := by rw [Array.length_toList, hs]; exact Nat.le_refl _
    simp [List.take_of_length_le this]
  | [], q :: qs, k, arr, xs, hm, _, _, _ => by simp at hm
  | p :: ps, [], k, arr, xs, hm, _, _, _ => by simp at hm
  | (i, x) :: ps, (i', v) :: qs, k, arr, xs, hm, hr, hd, hs => by
    simp only [List.map_cons, List.cons.injEq] at hm
    obtain ⟨rfl, hm⟩ := hm
    simp only [dense] at hd
    split at hd
    · cases hd
    · rename_i cs hcs
      split at hd
      · rename_i hik
        obtain ⟨rfl, hcl⟩ := hik
        split at hd
        · rename_i l hl
          injection hd with hd
          subst hd
          have hv := cellsA_sound (hr 0 (i', x) (i', v) rfl rfl) hcs
          have hvs : v.cells.size = z := by rw [← Array.length_toList, hv.1, hcl]
          have hfit : i' * z + z ≤ arr.size := by rw [hs, List.length_cons, show i' + (l.length + 1) = (i' + 1) + l.length by omega, Nat.add_mul, Nat.add_mul]; omega
          have hfold : (v.cells.zipIdx.foldl (fun cs x => cs.setIfInBounds (i' * z + x.2) x.1) arr) = (arr.toList.take (i' * z) ++ (v.cells.toList ++ arr.toList.drop (i' * z + z))).toArray := by
            have := fold_set (i' * z) v.cells.toList 0 arr (by rw [Array.length_toList, hvs]; omega)
            rw [← Array.foldl_toList, Array.toList_zipIdx]
            simpa [hvs] using this
          obtain ⟨flat, h1, h2, h3⟩ := fill_dense z ps qs (i' + 1) (v.cells.zipIdx.foldl (fun cs x => cs.setIfInBounds (i' * z + x.2) x.1) arr) l hm (fun j p q hp hq => hr (j + 1) p q (by simpa using hp) (by simpa using hq)) hl
            (by rw [hfold]; simp [hvs]; rw [hs]; simp [Nat.add_mul]; simp [hs, Nat.add_mul] at hfit; omega)
          refine ⟨v.cells.toList ++ flat, ?_, by rw [List.flatten_cons]; exact hv.append h2, fun e he => ?_⟩
          · simp only [Instr.fill]
            have hno : ¬ (v.cells.size ≠ z ∨ i' * z + v.cells.size > arr.size) := by
              rintro (h4 | h4)
              · exact h4 hvs
              · omega
            rw [if_neg (by simpa using hno), h1, hfold]
            congr 1
            apply Array.ext'
            have e1 : (i' + 1) * z = i' * z + z := by rw [Nat.add_mul]; omega
            have e2 : (arr.toList.take (i' * z) ++ (v.cells.toList ++ arr.toList.drop (i' * z + z))).take ((i' + 1) * z) = arr.toList.take (i' * z) ++ v.cells.toList := by
              rw [e1, ← List.append_assoc, List.take_append_of_le_length (by simp [hvs]; omega)]
              apply List.take_of_length_le
              simp [hvs]; omega
            simp only [e2]
            simp
          · rcases List.mem_cons.1 he with rfl | he
            · exact hcl
            · exact h3 e he
        · cases hd
      · cases hd

theorem alits_strong {C : Ctx} {box : List (Nat × List AVal)} {row : List (Nat × (Nat × List (List AVal)))} {g : Gh} {w : World} (hh : Hp C box row g w) {t : TypeId} {len : Nat} {ps : List (Nat × AVal)} {x : AVal} (h : alits C.P t len ps = some x) (qs : Array (Nat × Value)) (hm : qs.toList.map (·.1) = ps.map (·.1))
    (hr : ∀ (i : Nat) p q, ps[i]? = some p → qs.toList[i]? = some q → RelD w g.m p.2 q.2) :
    ∃ n arr e, Telem C.P t = some e ∧ (Instr.buildSlice t len qs).run C.P w = .ok (.slice (some ⟨w.heap.size, 0, none⟩) n n) (w.alloc (.cells arr e)) ∧ ∀ fr, ∃ g', RelT C row g' (w.alloc (.cells arr e fr)) x (.slice (some ⟨w.heap.size, 0, none⟩) n n) ∧ Hp C box row g' (w.alloc (.cells arr e fr)) ∧ Lat w g.m (w.alloc (.cells arr e fr)) g'.m ∧ g'.ρ = g.ρ ∧ g'.κ = g.κ := by
  unfold alits at h
  split at h
  · rename_i e he
    split at h
    · rename_i z zs hz hzs
      split at h
      · rename_i hc
        obtain ⟨hc1, hc2, hc3⟩ := hc
        split at h
        · rename_i xs hd
          split at h
          · rename_i hxl
            injection h with h
            subst h
            subst hxl
            obtain ⟨zv, hz1, hz2, hz3⟩ := tzero_run hzs w
            have key : ∀ arr0 : Array Value, arr0.size = xs.length * z → ∃ flat, Instr.fill (fun i => some (i * z, z)) arr0 qs.toList = some flat.toArray ∧ PW (Cel w g.m) xs.flatten flat ∧ ∀ e ∈ xs, e.length = z := by
              intro arr0 ha
              obtain ⟨flat, h1, h2, h3⟩ := fill_dense z ps qs.toList 0 arr0 xs hm hr hd (by rw [ha, Nat.zero_add])
              exact ⟨flat, by simpa using h1, h2, h3⟩
            obtain ⟨flat, h1, h2, h3⟩ := key ((Array.range (xs.length * z)).map (fun x => (if xs.length * z = 0 then #[] else zv.cells)[x % (if xs.length * z = 0 then #[] else zv.cells).size]!)) (by simp)
            have hrun : (Instr.buildSlice t xs.length qs).run C.P w = .ok (.slice (some ⟨w.heap.size, 0, none⟩) xs.length xs.length) (w.alloc (.cells flat.toArray e)) := by
              simp only [Instr.buildSlice, Sem.run_bind, run_und (elem_und he), Result.andThen_ok, run_sz hz]
              rw [Sem.run_ite, if_neg (by omega)]
              by_cases h0 : xs.length * z = 0
              · simp only [if_pos h0] at h1
                simp only [Sem.run_bind, if_pos h0, Sem.run_pure, Result.andThen_ok]
                simp only [newRow, h1, Sem.run_bind, run_newObj, Result.andThen_ok, Sem.run_pure]
                rfl
              · simp only [if_neg h0] at h1
                simp only [Sem.run_bind, if_neg h0, hz1, Result.andThen_ok, Sem.run_pure]
                simp only [newRow, h1, Sem.run_bind, run_newObj, Result.andThen_ok, Sem.run_pure]
                rfl
            have hfl : flat.length = xs.length * z := by rw [h2.1, flatten_len z xs h3]
            refine ⟨_, _, _, he, hrun, fun fr => ?_⟩
            obtain ⟨h5, h6⟩ := hh.alloc flat.toArray e (xs.length * z) fr
            refine ⟨_, ?_, h5, h6, rfl, rfl⟩
            refine relT_of_relD (relD_of_flat h3 (h2.imp fun x v hx => ⟨hx.1, hx.2.lat h6⟩) (fun j v hv => ?_) (Nat.le_refl _) ?_ (fun _ => rfl))
            · have hj : j < flat.length := (List.getElem?_eq_some_iff.1 hv).1
              refine ⟨by rw [cell_new (fr := fr)]; simpa using hv, ?_⟩
              show j < (if w.heap.size = w.heap.size then xs.length * z else _)
              rw [if_pos rfl]; omega
            · have : xs.length * 1 ≤ xs.length * z := Nat.mul_le_mul_left _ (by omega)
              unfold most
              omega
          · cases h
        · cases h
      · cases h
    · cases h
  · cases h

theorem alits_sound {C : Ctx} {box : List (Nat × List AVal)} {row : List (Nat × (Nat × List (List AVal)))} {g : Gh} {w : World} (hh : Hp C box row g w) {t : TypeId} {len : Nat} {ps : List (Nat × AVal)} {x : AVal} (h : alits C.P t len ps = some x) (qs : Array (Nat × Value)) (hm : qs.toList.map (·.1) = ps.map (·.1))
    (hr : ∀ (i : Nat) p q, ps[i]? = some p → qs.toList[i]? = some q → RelD w g.m p.2 q.2) :
    ∃ v w' g', (Instr.buildSlice t len qs).run C.P w = .ok v w' ∧ RelT C row g' w' x v ∧ Hp C box row g' w' ∧ Lat w g.m w' g'.m ∧ g'.ρ = g.ρ ∧ g'.κ = g.κ := by
  obtain ⟨n, arr, e, _, h1, h2⟩ := alits_strong hh h qs hm hr
  obtain ⟨g', h3⟩ := h2 (0, 0)
  exact ⟨_, _, g', h1, h3⟩

end Go.Va
set_option linter.unusedVariables false
set_option linter.unusedSimpArgs false
set_option autoImplicit false
/-! append. -/
namespace Go.Va
open RowKit

/-- An own row has grown. -/
theorem RelT.grow {C : Ctx} {row : List (Nat × (Nat × List (List AVal)))} {g g' : Gh} {w w' : World} {x : AVal} {v : Value} {r T : Nat} {L ys : List (List AVal)} (h : RelT C row g w x v) (hl : Lat w g.m w' g'.m)
    (hρ : ∀ id b, g.ρ id = some b → g'.ρ id = some b) (hκ : ∀ r', r' ≠ r → g'.κ r' = g.κ r') (hr : get row r = none ∨ (get row r = some (T, L) ∧ (ys = [] → g'.κ r = g.κ r))) : RelT C ((r, (T, L ++ ys)) :: row) g' w' x v := by
  cases x with
  | row r' n =>
    obtain ⟨T', L', h1, h2, ⟨z, hz, h3⟩, h4⟩ := h
    by_cases e : r = r'
    · subst e
      rcases hr with hr | ⟨hr, hy⟩
      · rw [h1] at hr; cases hr
      · rw [h1] at hr
        injection hr with hr
        injection hr with hr1 hr2
        subst hr1; subst hr2
        refine ⟨T', L' ++ ys, get_here _ _ _, by simp; omega, ⟨z, hz, ?_⟩, fun hn => ?_⟩
        · rw [List.take_append_of_le_length h2]
          exact h3.lat hl
        · have hy0 : ys = [] := by
            simp at hn
            exact List.eq_nil_of_length_eq_zero (by omega)
          rw [hy hy0]
          subst hy0
          exact h4 (by simpa using hn)
    · refine ⟨T', L', by rw [get_there _ _ e]; exact h1, h2, ⟨z, hz, h3.lat hl⟩, fun hn => ?_⟩
      rw [hκ r' (Ne.symm e)]
      exact h4 hn
  | box id off =>
    obtain ⟨b, h1, h2⟩ := h
    exact ⟨b, hρ _ _ h1, h2⟩
  | clo f cap =>
    obtain ⟨caps, h1, h2, h3⟩ := h
    refine ⟨caps, h1, h2, fun i x u hx hu => ?_⟩
    have h4 := h3 i x u hx hu
    cases x <;> first | exact h4.elim | skip
    obtain ⟨b, h5, h6⟩ := h4
    exact ⟨b, hρ _ _ h5, h6⟩
  | ext k =>
    obtain ⟨f, caps, h1, h2, h3⟩ := h
    exact ⟨f, caps, h1, h2, fun xs r hr w1 m1 hl1 => h3 xs r hr w1 m1 (hl.trans hl1)⟩
  | any => trivial
  | lit v => exact RelD.lat hl h
  | agg cs => exact RelD.lat hl h
  | tup cs => exact RelD.lat hl h
  | sl f z xs => exact RelD.lat hl h
  | el cs off => exact RelD.lat hl h

/-- An own row is another one now; but for its block nothing has been touched. -/
theorem Hp.rowstep {C : Ctx} {box : List (Nat × List AVal)} {row : List (Nat × (Nat × List (List AVal)))} {g : Gh} {w w' : World} {m' : Nat → Nat} {r T : Nat} {L ys : List (List AVal)} {v : Value} (h : Hp C box row g w)
    (hw : ∀ b, b < w.heap.size → w'.heap[b]? = w.heap[b]? ∨ ((∃ T L, get row r = some (T, L)) ∧ spare (g.κ r) = some b)) (hB : Below C.w0.heap.size C.w0 w') (hl : Lat w g.m w' m')
    (hm : ∀ b, b < w.heap.size → m' b = g.m b ∨ ((∃ T L, get row r = some (T, L)) ∧ spare (g.κ r) = some b)) (hM : Marks w' m') (hold : ∀ b, b < C.w0.heap.size → m' b = C.m0 b)
    (hrel : ∃ z, (C.P.info? T).map (·.size) = some z ∧ RelD w' m' (.sl false z (L ++ ys)) v)
    (hsp : ∀ b, spare v = some b → C.w0.heap.size ≤ b ∧ (∃ n c arr z, v = .slice (some ⟨b, 0, none⟩) n c ∧ w'.heap[b]? = some (.cells arr T (0, 0)) ∧ (C.P.info? T).map (·.size) = some z ∧ c * z ≤ arr.size ∧ m' b = n * z) ∧
      (∀ id, g.ρ id ≠ some b) ∧ ∀ r' T' L', r' ≠ r → get row r' = some (T', L') → spare (g.κ r') ≠ some b)
    (hr : get row r = none ∨ (get row r = some (T, L) ∧ (ys = [] → v = g.κ r))) :
    Hp C box ((r, (T, L ++ ys)) :: row) { ρ := g.ρ, κ := fun q => if q = r then v else g.κ q, m := m' } w' := by
  have hx : ∀ b, ((∃ T L, get row r = some (T, L)) ∧ spare (g.κ r) = some b) → (∀ id, g.ρ id ≠ some b) ∧ ∀ r' T' L', r' ≠ r → get row r' = some (T', L') → spare (g.κ r') ≠ some b := by
    rintro b ⟨⟨T1, L1, h1⟩, h2⟩
    obtain ⟨_, h3⟩ := h.rows r T1 L1 h1
    obtain ⟨_, _, h4, h5⟩ := h3 b h2
    exact ⟨h4, h5⟩
  have hrt : ∀ {x : AVal} {u : Value}, RelT C row g w x u → RelT C ((r, (T, L ++ ys)) :: row) { ρ := g.ρ, κ := fun q => if q = r then v else g.κ q, m := m' } w' x u := by
    intro x u hxu
    refine hxu.grow (g' := { ρ := g.ρ, κ := fun q => if q = r then v else g.κ q, m := m' }) hl (fun _ _ h => h) (fun q hq => if_neg hq) ?_
    rcases hr with hr | ⟨hr, hy⟩
    · exact .inl hr
    · exact .inr ⟨hr, fun e => (if_pos rfl).trans (hy e)⟩
  refine ⟨?_, h.inj, ?_, ?_, hM, hB, hold⟩
  · intro id cs hid
    obtain ⟨b, arr, T1, h1, h2, h3, h4, h5, h6⟩ := h.boxes id cs hid
    have hlt := (h.dom id b h1).1
    refine ⟨b, arr, T1, h1, h2, ?_, h4, ?_, fun i x u hx hu => ?_⟩
    · rcases hw b hlt with e | e
      · exact e.trans h3
      · exact absurd h1 ((hx b e).1 id)
    · rcases hm b hlt with e | e
      · exact e.trans h5
      · exact absurd h1 ((hx b e).1 id)
    · obtain ⟨h7, h8⟩ := h6 i x u hx hu
      exact ⟨h7, hrt h8⟩
  · intro id b hid
    obtain ⟨h1, h2⟩ := h.dom id b hid
    exact ⟨Nat.lt_of_lt_of_le h1 hl.size, h2⟩
  · intro q T1 L1 hq
    by_cases e : r = q
    · subst e
      rw [get_here] at hq
      injection hq with hq
      injection hq with hq1 hq2
      subst hq1; subst hq2
      have hk : (if r = r then v else g.κ r) = v := if_pos rfl
      refine ⟨?_, fun b hb => ?_⟩
      · obtain ⟨z, hz, h1⟩ := hrel
        exact ⟨z, hz, by show RelD w' m' _ (if r = r then v else g.κ r); rw [hk]; exact h1⟩
      · have hb' : spare (if r = r then v else g.κ r) = some b := hb
        rw [hk] at hb'
        obtain ⟨h1, h2, h3, h4⟩ := hsp b hb'
        refine ⟨h1, ?_, h3, fun r' T' L' hr' hg => ?_⟩
        · obtain ⟨n, c, arr, z, e1, e2, e3, e4, e5⟩ := h2
          exact ⟨n, c, arr, z, by show (if r = r then v else g.κ r) = _; rw [hk]; exact e1, e2, e3, e4, e5⟩
        · rw [get_there _ _ (Ne.symm hr')] at hg
          show spare (if r' = r then v else g.κ r') ≠ _
          rw [if_neg hr']
          exact h4 r' T' L' hr' hg
    · rw [get_there _ _ e] at hq
      have hk : (if q = r then v else g.κ q) = g.κ q := if_neg (Ne.symm e)
      obtain ⟨⟨z, hz, h1⟩, h3⟩ := h.rows q T1 L1 hq
      refine ⟨⟨z, hz, by show RelD w' m' _ (if q = r then v else g.κ q); rw [hk]; exact h1.lat hl⟩, fun b hb => ?_⟩
      have hb' : spare (if q = r then v else g.κ q) = some b := hb
      rw [hk] at hb'
      obtain ⟨h4, ⟨n, c, arr, z2, h5, h6, h7, h8, h9⟩, h10, h11⟩ := h3 b hb'
      have hlt : b < w.heap.size := (Array.getElem?_eq_some_iff.1 h6).1
      refine ⟨h4, ⟨n, c, arr, z2, by show (if q = r then v else g.κ q) = _; rw [hk]; exact h5, ?_, h7, h8, ?_⟩, h10, fun r' T' L' hr' hg => ?_⟩
      · rcases hw b hlt with e1 | e1
        · exact e1.trans h6
        · exact absurd hb' ((hx b e1).2 q T1 L1 (Ne.symm e) hq)
      · rcases hm b hlt with e1 | e1
        · exact e1.trans h9
        · exact absurd hb' ((hx b e1).2 q T1 L1 (Ne.symm e) hq)
      · show spare (if r' = r then v else g.κ r') ≠ _
        by_cases e1 : r' = r
        · rw [if_pos e1]
          intro hv
          obtain ⟨_, _, _, h12⟩ := hsp b hv
          exact h12 q T1 L1 (Ne.symm e) hq hb'
        · rw [if_neg e1]
          rw [get_there _ _ (Ne.symm e1)] at hg
          exact h11 r' T' L' hr' hg

/-- What is appended: out of a slice, or a string's bytes. -/
theorem src_slice {P : Program} {w : World} {m : Nat → Nat} {f : Bool} {z : Nat} {ys : List (List AVal)} {u : Value} {tx e' : TypeId} (hk : P.underlying tx = some (.slice e')) (h : RelD w m (.sl f z ys) u) :
    ∃ news, Src P z tx u ys.length news w ∧ PW (Cel w m) ys.flatten news ∧ ∀ e ∈ ys, e.length = z := by
  obtain ⟨A, c, rfl, hc, hm, _, hA, _⟩ := relD_sl_shape h
  obtain ⟨flat, h1, h2, h3, h4⟩ := relD_flat h
  have one : ∀ v ∈ flat, v.oneCell' = true := by
    intro v hv
    obtain ⟨i, hi, he⟩ := List.mem_iff_getElem.1 hv
    have hx : ys.flatten[i]? = some (ys.flatten[i]'(by rw [← h1.1]; exact hi)) := List.getElem?_eq_getElem _
    exact (h1.2 i _ v hx (by rw [List.getElem?_eq_getElem hi, he])).1
  cases A with
  | none =>
    have hy : ys = [] := by
      cases ys with
      | nil => rfl
      | cons a b => obtain ⟨_, _, e⟩ := hA (by simp); cases e
    subst hy
    have : flat = [] := List.eq_nil_of_length_eq_zero (by rw [h2]; simp)
    subst this
    exact ⟨[], Src.ofNil w hk c, h1, h3⟩
  | some ad =>
    refine ⟨flat, Src.ofSlice w hk ad ys.length c flat h2 (fun j v hv => ?_) one, h1, h3⟩
    obtain ⟨b, o, e1, e2, _⟩ := h4 j v hv
    injection e1 with e1
    rw [e1, add_plain']
    exact e2
theorem src_string {P : Program} {w : World} {m : Nat → Nat} {s : ByteArray} {tx : TypeId} (hk : P.underlying tx = some .string) :
    ∃ news, Src P 1 tx (.string s) (s.data.toList.map fun b => [AVal.lit (.int .u8 b.toNat)]).length news w ∧ PW (Cel w m) (s.data.toList.map fun b => [AVal.lit (.int .u8 b.toNat)]).flatten news ∧ ∀ e ∈ (s.data.toList.map fun b => [AVal.lit (.int .u8 b.toNat)]), e.length = 1 := by
  refine ⟨byteCells s, ?_, ?_, ?_⟩
  · have : (s.data.toList.map fun b => [AVal.lit (.int .u8 b.toNat)]).length = s.size := by
      rw [List.length_map, Array.length_toList]; rfl
    rw [this]
    exact Src.ofString w hk s
  · unfold byteCells
    generalize s.data.toList = l
    induction l with
    | nil => exact PW.nil
    | cons b l ih => exact PW.cons ⟨rfl, .lit _⟩ ih
  · intro e he
    obtain ⟨b, _, rfl⟩ := List.mem_map.1 he
    rfl

end Go.Va
set_option linter.unusedVariables false
set_option linter.unusedSimpArgs false
set_option autoImplicit false
/-! append: soundness. -/
namespace Go.Va
open RowKit

theorem info_of {P : Program} {e : TypeId} {z by_ : Nat} {zs : List Value} (hz : Tsz P e = some z) (hby : (P.info? e).map (·.bytes) = some by_) (hzs : Tzero P e = some zs) : ∃ i zv, P.info? e = some i ∧ i.size = z ∧ i.bytes = by_ ∧ i.zero = some zv ∧ zv.cells.toList = zs := by
  unfold Tsz at hz
  unfold Tzero at hzs
  cases hi : P.info? e with
  | none => rw [hi] at hz; cases hz
  | some i =>
    rw [hi] at hz hby hzs
    simp only at hzs
    split at hzs
    · rename_i zv hzv
      split at hzs
      · injection hzs with hzs
        exact ⟨i, zv, rfl, by simpa using hz, by simpa using hby, hzv, hzs⟩
      · cases hzs
    · cases hzs

theorem spare_some {v : Value} {b : Nat} (h : spare v = some b) : ∃ a n c, v = .slice (some a) n c ∧ n < c ∧ a.block = b := by
  unfold spare at h
  split at h
  · rename_i a n c
    split at h
    · rename_i hlt
      injection h with h
      exact ⟨a, n, c, rfl, hlt, h⟩
    · cases h
  · cases h

theorem append_sound {C : Ctx} {box : List (Nat × List AVal)} {row : List (Nat × (Nat × List (List AVal)))} {g : Gh} {w : World} (hh : Hp C box row g w) {t tx ty e : TypeId} {z by_ r n c : Nat} {zs : List Value} {xs ys : List (List AVal)} {A : Option Addr} {xv : Value} {news : List Value}
    (ht : C.P.underlying t = some (.slice e)) (hz : Tsz C.P e = some z) (hby : (C.P.info? e).map (·.bytes) = some by_) (hzs : Tzero C.P e = some zs) (hzl : zs.length = z)
    (hx : RelD w g.m (.sl false z xs) (.slice A n c)) (hcase : (get row r = none ∧ c = n) ∨ (get row r = some (e, xs) ∧ g.κ r = .slice A n c))
    (hs : Src C.P z tx xv ys.length news w) (hn : PW (Cel w g.m) ys.flatten news) (hyz : ∀ e ∈ ys, e.length = z) (hb : (xs.length + ys.length) * by_ ≤ most) (hmost : xs.length + ys.length ≤ most) :
    ∃ v w' g', (Builtin.append_ #[t, tx] ty #[.slice A n c, xv]).run C.P w = .ok v w' ∧ Hp C box ((r, (e, xs ++ ys)) :: row) g' w' ∧ RelT C ((r, (e, xs ++ ys)) :: row) g' w' (.row r (xs.length + ys.length)) v ∧ Lat w g.m w' g'.m ∧ g'.ρ = g.ρ ∧ (∀ q, q ≠ r → g'.κ q = g.κ q) ∧ (get row r ≠ none → ys = [] → g'.κ r = g.κ r) := by
  obtain ⟨i, zv, hi, hiz, hib, hi0, hzv⟩ := info_of hz hby hzs
  have hnl : n = xs.length := by
    obtain ⟨A', c', e1, _⟩ := relD_sl_shape hx
    injection e1
  subst hnl
  have hxz : ∀ e ∈ xs, e.length = z := by
    obtain ⟨flat, h1, h2, h3, h4⟩ := relD_flat hx
    exact h3
  have hxc : xs.length ≤ c := by
    obtain ⟨A', c', e1, h1, _⟩ := relD_sl_shape hx
    injection e1 with _ _ e3
    omega
  have hr0 : ∀ v, (ys = [] → v = .slice A xs.length c) → get row r = none ∨ (get row r = some (e, xs) ∧ (ys = [] → v = g.κ r)) := by
    intro v hv
    rcases hcase with ⟨h1, _⟩ | ⟨h1, h2⟩
    · exact .inl h1
    · exact .inr ⟨h1, fun hy => by rw [h2]; exact hv hy⟩
  have hTz : (C.P.info? e).map (·.size) = some z := hz
  -- what holds of the end, told from the new value
  have fin : ∀ (v : Value) (w' : World) (m' : Nat → Nat), Hp C box ((r, (e, xs ++ ys)) :: row) { ρ := g.ρ, κ := fun q => if q = r then v else g.κ q, m := m' } w' → Lat w g.m w' m' → (ys = [] → v = .slice A xs.length c) →
      (Builtin.append_ #[t, tx] ty #[.slice A xs.length c, xv]).run C.P w = .ok v w' →
      ∃ v w' g', (Builtin.append_ #[t, tx] ty #[.slice A xs.length c, xv]).run C.P w = .ok v w' ∧ Hp C box ((r, (e, xs ++ ys)) :: row) g' w' ∧ RelT C ((r, (e, xs ++ ys)) :: row) g' w' (.row r (xs.length + ys.length)) v ∧ Lat w g.m w' g'.m ∧ g'.ρ = g.ρ ∧ (∀ q, q ≠ r → g'.κ q = g.κ q) ∧ (get row r ≠ none → ys = [] → g'.κ r = g.κ r) := by
    intro v w' m' hH hl hv hrun
    refine ⟨v, w', _, hrun, hH, ?_, hl, rfl, fun q hq => if_neg hq, fun h1 hy => ?_⟩
    · obtain ⟨⟨z', hz', h2⟩, _⟩ := hH.rows r e (xs ++ ys) (get_here _ _ _)
      have h2' : RelD w' m' (.sl false z' (xs ++ ys)) (if r = r then v else g.κ r) := h2
      rw [if_pos rfl] at h2'
      refine ⟨e, xs ++ ys, get_here _ _ _, by simp, ⟨z', hz', ?_⟩, fun _ => (if_pos rfl).symm⟩
      rw [← List.length_append, List.take_length]
      exact h2'
    · show (if r = r then v else g.κ r) = g.κ r
      rw [if_pos rfl, hv hy]
      rcases hcase with ⟨h2, _⟩ | ⟨_, h2⟩
      · exact absurd h2 h1
      · exact h2.symm
  by_cases hk : ys.length = 0
  · -- nothing is appended
    have hy : ys = [] := List.eq_nil_of_length_eq_zero hk
    subst hy
    have hnews : news = [] := List.eq_nil_of_length_eq_zero (by rw [hn.1]; rfl)
    subst hnews
    have hrun := run_append_nothing w t tx ty e i ht hi A xs.length c hxc xv (by rw [hiz]; exact hs)
    refine fin _ w g.m (hh.rowstep (v := .slice A xs.length c) (ys := []) (fun b _ => .inl rfl) hh.below (Lat.refl _ _) (fun b _ => .inl rfl) hh.marks hh.old ⟨z, hTz, by rw [List.append_nil]; exact hx⟩ (fun b hb => ?_) (hr0 _ fun _ => rfl)) (Lat.refl _ _) (fun _ => rfl) hrun
    rcases hcase with ⟨_, h1⟩ | ⟨h1, h2⟩
    · obtain ⟨a, n', c', e1, e2, _⟩ := spare_some hb
      injection e1 with _ e3 e4
      omega
    · obtain ⟨_, h3⟩ := hh.rows r e xs h1
      rw [← h2] at hb
      have := h3 b hb
      rw [h2] at this
      exact this
  · have hnlen : news.length = ys.length * z := hs.newsLen
    obtain ⟨olds, ho1, ho2, _, ho4⟩ := relD_flat hx
    have hone : ∀ {cs : List AVal} {l : List Value}, PW (Cel w g.m) cs l → ∀ v ∈ l, v.oneCell' = true := by
      intro cs l hp v hv
      obtain ⟨j, hj, he⟩ := List.mem_iff_getElem.1 hv
      have hxx : cs[j]? = some (cs[j]'(by rw [← hp.1]; exact hj)) := List.getElem?_eq_getElem _
      exact (hp.2 j _ v hxx (by rw [List.getElem?_eq_getElem hj, he])).1
    have hflat : (xs ++ ys).flatten = xs.flatten ++ ys.flatten := List.flatten_append
    have hallz : ∀ e ∈ xs ++ ys, e.length = z := fun e he => by
      rcases List.mem_append.1 he with he | he
      · exact hxz e he
      · exact hyz e he
    have hlen2 : (xs ++ ys).length = xs.length + ys.length := List.length_append
    by_cases hroom : xs.length + ys.length ≤ c
    · -- there is room: the block is its own
      rcases hcase with ⟨_, h1⟩ | ⟨h1, h2⟩
      · omega
      · have hAs : ∃ a, A = some a := by
          cases A with
          | some a => exact ⟨a, rfl⟩
          | none =>
            obtain ⟨A', c', e1, _, _, _, _, hN⟩ := relD_sl_shape hx
            injection e1 with e2 _ e3
            have := hN e2.symm
            omega
        obtain ⟨a, rfl⟩ := hAs
        have hsp0 : spare (g.κ r) = some a.block := by rw [h2]; simp [spare, show xs.length < c by omega]
        obtain ⟨_, h3⟩ := hh.rows r e xs h1
        obtain ⟨h4, ⟨n', c', arr, z', h5, h6, h7, h8, h9⟩, h10, h11⟩ := h3 a.block hsp0
        rw [h2] at h5
        injection h5 with e1 e2 e3
        injection e1 with e1
        have hz'z : z' = z := by rw [hTz] at h7; injection h7 with h7; exact h7.symm
        subst hz'z
        subst e3
        rw [← e2] at h9
        generalize hbk : a.block = b at *
        subst e1
        have hfit : (xs.length + ys.length) * z' ≤ c * z' := Nat.mul_le_mul_right _ hroom
        have hfit' : xs.length * z' + ys.length * z' ≤ arr.size := by rw [← Nat.add_mul]; omega
        have hcell : ∀ j, w.cell? ⟨b, j, none⟩ = arr[j]? := fun j => by simp [World.cell?, h6]
        have hfroz : ∀ j, w.frozen? ⟨b, j, none⟩ = false := fun j => by simp [World.frozen?, h6]
        have hrun := run_append_room_src (P := C.P) w t tx ty e i ht hi b 0 xs.length c xv ys.length news (by rw [hiz]; exact hs) hroom (fun j hj => by
          rw [hcell, hiz, Nat.zero_add]
          rw [Array.getElem?_eq_getElem (by omega)]; rfl) (fun j _ => hfroz _)
        rw [hiz, Nat.zero_add] at hrun
        have hset : w.setCells b (xs.length * z') news = w.setRow b (arr.toList.take (xs.length * z') ++ news ++ arr.toList.drop (xs.length * z' + news.length)).toArray := by
          have r1 := run_storeCells_cells (P := C.P) b (xs.length * z') news 0 w (fun j hj => by
            rw [hcell, Array.getElem?_eq_getElem (by omega)]; rfl) (fun j _ => hfroz _) (hone hn)
          have r2 := run_storeCells_at C.P b (xs.length * z') e news 0 arr w h6 (by omega) (hone hn)
          rw [r1] at r2
          simp only [Nat.add_zero] at r2
          injection r2
        rw [hset] at hrun
        generalize harr : (arr.toList.take (xs.length * z') ++ news ++ arr.toList.drop (xs.length * z' + news.length)).toArray = arr' at hrun
        have hasz : arr'.size = arr.size := by rw [← harr]; simp; omega
        have hget : ∀ (j : Nat) (v : Value), (olds ++ news)[j]? = some v → arr'[j]? = some v := by
          intro j v hv
          rw [← harr]
          simp only [List.getElem?_toArray]
          rw [List.getElem?_append] at hv
          by_cases hj : j < olds.length
          · rw [if_pos hj] at hv
            obtain ⟨b', o', e1, e2, e3⟩ := ho4 j v hv
            injection e1 with e1
            injection e1 with e1 e4 _
            subst e1; subst e4
            rw [Nat.zero_add, hcell] at e2
            rw [List.getElem?_append_left (by simp; omega), List.getElem?_append_left (by simp; omega), List.getElem?_take, if_pos (by omega)]
            simpa using e2
          · rw [if_neg hj] at hv
            have hj2 : j - olds.length < news.length := (List.getElem?_eq_some_iff.1 hv).1
            rw [List.getElem?_append_left (by simp; omega), List.getElem?_append_right (by simp; omega)]
            rw [← hv]
            congr 1
            simp
            omega
        have hl : Lat w g.m (w.setRow b arr') (fun q => if q = b then (xs.length + ys.length) * z' else g.m q) := by
          refine ⟨fun q o ho => ?_, fun q => ?_, by simp⟩
          · by_cases hq : q = b
            · subst hq
              rw [cell_setRow_same w q o arr arr' e (0, 0) h6, hcell]
              rw [h9] at ho
              have hoo : o < olds.length := by omega
              have hv1 : olds[o]? = some olds[o] := List.getElem?_eq_getElem hoo
              obtain ⟨b', o', e1, e2, e3⟩ := ho4 o _ hv1
              injection e1 with e1
              injection e1 with e1 e4 _
              subst e4
              subst e1
              rw [Nat.zero_add, hcell] at e2
              rw [e2]
              exact hget o _ (by rw [List.getElem?_append_left hoo]; exact hv1)
            · exact cell_setRow_other w b arr' ⟨q, o, none⟩ hq
          · show g.m q ≤ if q = b then _ else _
            split
            · rename_i hq; subst hq; rw [h9]; exact Nat.mul_le_mul_right _ (by omega)
            · exact Nat.le_refl _
        have hlt : b < w.heap.size := (Array.getElem?_eq_some_iff.1 h6).1
        have hrel2 : RelD (w.setRow b arr') (fun q => if q = b then (xs.length + ys.length) * z' else g.m q) (.sl false z' (xs ++ ys)) (.slice (some ⟨b, 0, none⟩) (xs.length + ys.length) c) := by
          have hq := relD_of_flat (w := w.setRow b arr') (m := fun q => if q = b then (xs.length + ys.length) * z' else g.m q) (full := false) (b := b) (c := c) (flat := olds ++ news) hallz (by rw [hflat]; exact (ho1.append hn).imp fun x v hx => ⟨hx.1, hx.2.lat hl⟩) (fun j v hv => by
            have hj : j < (olds ++ news).length := (List.getElem?_eq_some_iff.1 hv).1
            rw [List.length_append, ho2, hnlen] at hj
            refine ⟨by rw [cell_setRow_same w b j arr arr' e (0, 0) h6]; exact hget j v hv, ?_⟩
            show j < if b = b then _ else _
            rw [if_pos rfl, Nat.add_mul]
            exact hj) (by omega) (by omega) (fun h => by cases h)
          rw [hlen2] at hq
          exact hq
        refine fin _ _ _ (hh.rowstep (v := .slice (some ⟨b, 0, none⟩) (xs.length + ys.length) c) (ys := ys) (fun q hq => ?_) (hh.below.trans (show Below C.w0.heap.size w (w.setRow b arr') from ⟨rfl, rfl, rfl, by simp, fun k hk => setRow_other w b k arr' (by omega)⟩)) hl (fun q hq => ?_) (fun q hq => ?_) (fun q hq => ?_) ⟨z', hTz, hrel2⟩ (fun q hq => ?_) (hr0 _ fun hy => absurd (by rw [hy]; rfl) hk)) hl (fun hy => absurd (by rw [hy]; rfl) hk) hrun
        · by_cases hqb : q = b
          · exact .inr ⟨⟨e, xs, h1⟩, by rw [hqb]; exact hsp0⟩
          · exact .inl (setRow_other w b q arr' hqb)
        · by_cases hqb : q = b
          · exact .inr ⟨⟨e, xs, h1⟩, by rw [hqb]; exact hsp0⟩
          · exact .inl (if_neg hqb)
        · have hq' : w.heap.size ≤ q := by simpa using hq
          show (if q = b then _ else g.m q) = 0
          rw [if_neg (by omega)]
          exact hh.marks q hq'
        · show (if q = b then _ else g.m q) = _
          rw [if_neg (by omega)]
          exact hh.old q hq
        · obtain ⟨a2, n2, c2, e1, e2, e3⟩ := spare_some hq
          injection e1 with e4 e5 e6
          injection e4 with e4
          rw [← e4] at e3
          have e3' : b = q := e3
          subst e3'
          refine ⟨h4, ⟨_, c, arr', z', rfl, setRow_heap w b arr arr' e (0, 0) h6, hTz, by omega, ?_⟩, h10, h11⟩
          show (if b = b then _ else _) = _
          rw [if_pos rfl]
    · -- there is none: a new block
      have hg : c < xs.length + ys.length := by omega
      have hold : (Builtin.firstCells i.size xs.length (.slice A xs.length c)).run C.P w.drew = .ok olds.toArray w.drew := by
        rw [hiz]
        cases A with
        | none =>
          have h0 : xs = [] := by
            obtain ⟨A', c', e1, _, _, _, hA, _⟩ := relD_sl_shape hx
            cases xs with
            | nil => rfl
            | cons p q =>
              obtain ⟨_, _, e2⟩ := hA (by simp)
              injection e1 with e3
              rw [e2] at e3
              cases e3
          subst h0
          have : olds = [] := List.eq_nil_of_length_eq_zero (by rw [ho2]; simp)
          subst this
          exact run_firstCells_none w.drew z 0 0 c
        | some a =>
          refine run_firstCells_some w.drew z xs.length a xs.length c olds ho2 (fun j v hv => ?_)
          obtain ⟨b', o', e1, e2, e3⟩ := ho4 j v hv
          injection e1 with e1
          subst e1
          rw [add_plain']
          simpa using e2
      have hfitb : Builtin.nextslicecap (xs.length + ys.length) c * i.bytes ≤ 281474976710656 := growslice_fits hg (by rw [hib]; exact hb)
      have hrun := run_append_grow_src (P := C.P) w t tx ty e i zv ht hi hi0 A xs.length c olds hold xv ys.length news (by rw [hiz]; exact hs) hg (by unfold most at hmost; omega) hfitb
      have hge := grownCap_ge w (xs.length + ys.length) c e
      generalize hcap : grownCap w (xs.length + ys.length) c e = cap at hrun hge
      generalize harr : (olds ++ news).toArray ++ Builtin.zeroCells zv.cells (cap - (xs.length + ys.length)) = arr at hrun
      have hzsz : zv.cells.size = z := by rw [← Array.length_toList, hzv, hzl]
      have hasz : arr.size = cap * z := by
        rw [← harr]
        simp only [Array.size_append, List.size_toArray, List.length_append, ho2, hnlen, Builtin.zeroCells, Array.size_map, Array.size_range, hzsz]
        rw [← Nat.add_mul, ← Nat.add_mul]
        congr 1
        omega
      have hget : ∀ (j : Nat) (v : Value), (olds ++ news)[j]? = some v → arr[j]? = some v := by
        intro j v hv
        have hj : j < (olds ++ news).length := (List.getElem?_eq_some_iff.1 hv).1
        rw [← harr, Array.getElem?_append_left (by simpa using hj)]
        simpa using hv
      have hsize : w.drew.heap.size = w.heap.size := rfl
      have hb0 : Below w.heap.size w (w.drew.alloc (.cells arr e)) := ((Below.refl _ w).drew).alloc (Nat.le_refl _) _
      obtain ⟨hH, hl⟩ := hh.step (w' := w.drew.alloc (.cells arr e)) (m' := fun q => if q = w.heap.size then (xs.length + ys.length) * z else g.m q) hb0 (fun q hq => if_neg (by omega)) (fun q hq => by
        have hs1 : (w.drew.alloc (.cells arr e)).heap.size = w.heap.size + 1 := by simp
        rw [hs1] at hq
        show (if q = w.heap.size then _ else g.m q) = 0
        rw [if_neg (by omega)]
        exact hh.marks q (by omega))
      have hcellN : ∀ j, (w.drew.alloc (.cells arr e)).cell? ⟨w.heap.size, j, none⟩ = arr[j]? := fun j => cell_new w.drew arr e j
      have hrel2 : RelD (w.drew.alloc (.cells arr e)) (fun q => if q = w.heap.size then (xs.length + ys.length) * z else g.m q) (.sl false z (xs ++ ys)) (.slice (some ⟨w.heap.size, 0, none⟩) (xs.length + ys.length) cap) := by
        have hq := relD_of_flat (w := w.drew.alloc (.cells arr e)) (m := fun q => if q = w.heap.size then (xs.length + ys.length) * z else g.m q) (full := false) (b := w.heap.size) (c := cap) (flat := olds ++ news) hallz (by rw [hflat]; exact (ho1.append hn).imp fun x v hx => ⟨hx.1, hx.2.lat hl⟩) (fun j v hv => by
          have hj : j < (olds ++ news).length := (List.getElem?_eq_some_iff.1 hv).1
          rw [List.length_append, ho2, hnlen] at hj
          refine ⟨by rw [hcellN]; exact hget j v hv, ?_⟩
          show j < if w.heap.size = w.heap.size then _ else _
          rw [if_pos rfl, Nat.add_mul]
          exact hj) (by omega) (by omega) (fun h => by cases h)
        rw [hlen2] at hq
        exact hq
      refine fin _ _ _ (hh.rowstep (v := .slice (some ⟨w.heap.size, 0, none⟩) (xs.length + ys.length) cap) (ys := ys) (fun q hq => .inl (hb0.block q hq)) hH.below hl (fun q hq => .inl (if_neg (by omega))) hH.marks hH.old ⟨z, hTz, hrel2⟩ (fun q hq => ?_) (hr0 _ fun hy => absurd (by rw [hy]; rfl) hk)) hl (fun hy => absurd (by rw [hy]; rfl) hk) hrun
      obtain ⟨a2, n2, c2, e1, e2, e3⟩ := spare_some hq
      injection e1 with e4 e5 e6
      injection e4 with e4
      rw [← e4] at e3
      have e3' : w.heap.size = q := e3
      subst e3'
      refine ⟨hh.below.size, ⟨_, cap, arr, z, rfl, heap_alloc_new w.drew _, hTz, by omega, ?_⟩, fun id hid => ?_, fun r' T' L' hr' hg' hs' => ?_⟩
      · show (if w.heap.size = w.heap.size then _ else _) = _
        rw [if_pos rfl]
      · have := (hh.dom id _ hid).1
        omega
      · obtain ⟨_, h3⟩ := hh.rows r' T' L' hg'
        obtain ⟨_, ⟨_, _, arr2, _, _, h6, _⟩, _⟩ := h3 _ hs'
        have := (Array.getElem?_eq_some_iff.1 h6).1
        omega

end Go.Va
