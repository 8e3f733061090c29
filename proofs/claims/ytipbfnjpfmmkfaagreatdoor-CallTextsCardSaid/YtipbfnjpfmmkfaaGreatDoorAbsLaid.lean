/-
  THE PACKAGE VARIABLES THAT STAY, out of a row's list and its worlds' shape; a tied claim's wrap with both. Generic over the program. Conditions: none.
-/
import Derived.Test.YtipbfnjpfmmkfaaGreatDoorAbsLaw
import Derived.Lib.LaidU8
import Derived.Shelf.Vars
import Derived.Handed
set_option linter.unusedVariables false
set_option linter.unusedSimpArgs false
set_option linter.unusedSectionVars false
namespace Go.Abs
open Go Go.Proofs Go.Lib
variable [GTab]
theorem gok_of {P : Program} {W : World} (ht : ∀ g cs, (g, cs) ∈ GTab.tab → (∃ name, P.globalNamed name = some g ∧ W.var? P name = some cs.toArray) ∧ ∀ v ∈ cs, v.oneCell' = true)
    (hi : ∀ g, g ∈ GTab.ints → ∃ n t fr, W.heap[g]? = some (.cells #[.int .i64 n] t fr)) : GOk (fun _ => False) W := by
  have key : ∀ g cs, (g, cs) ∈ GTab.tab → ∃ t fr, W.heap[g]? = some (.cells cs.toArray t fr) := fun g cs h => by
    obtain ⟨⟨name, hg, hv⟩, _⟩ := ht g cs h
    unfold World.var? at hv
    rw [hg] at hv
    simp only [Option.bind_some] at hv
    cases hw : W.heap[g]? with
    | none => rw [hw] at hv; cases hv
    | some o =>
      rw [hw] at hv
      cases o with
      | cells c t fr => simp only [Option.some.injEq] at hv; subst hv; exact ⟨t, fr, rfl⟩
      | _ => cases hv
  refine ⟨fun g cs h => ⟨fun h => h, ?_⟩, key, fun g cs h => (ht g cs h).2, fun g h => ?_⟩
  · obtain ⟨t, fr, hh⟩ := key g cs h
    exact (Array.getElem?_eq_some_iff.1 hh).1
  · obtain ⟨n, t, fr, hh⟩ := hi g h
    exact ⟨fun h => h, (Array.getElem?_eq_some_iff.1 hh).1, n, t, fr, hh⟩
theorem var_ints {P : Program} {W : World} {name : String} {k : IntKind} {zs : List Int} {g : Nat} {t e : TypeId} {n : Nat} {d : DataW Unit} (h : VarReads P W name d) (hd : d = tabData k zs)
    (hg : P.globalNamed name = some g) (hty : (P.globals[g]?).map (·.type) = some t) (ht : P.underlying t = some (.array n e)) (he : P.underlying e = some (.int k)) (hce : P.cellsOf e = 1) (hct : P.cellsOf t = n) :
    W.var? P name = some (zs.map fun z => Value.int k z).toArray := by
  subst hd
  obtain ⟨g', t', cs, fuel, p, hg', ht', hvar, hd⟩ := h
  obtain rfl := Option.some.inj (hg.symm.trans hg')
  obtain rfl := Option.some.inj (hty.symm.trans ht')
  rw [hvar, ← cells_of_tab ht he hce hct hd]
/-- An array of structs of ints of one kind. -/
theorem var_structs {P : Program} {W : World} {name : String} {k : IntKind} {rows : List (List Int)} {g : Nat} {t e : TypeId} {n m : Nat} {fs : Array Field} {d : DataW Unit} (h : VarReads P W name d)
    (hd : d = .agg (rows.map fun zs => .agg (zs.map fun z => .lit (.int k z))))
    (hg : P.globalNamed name = some g) (hty : (P.globals[g]?).map (·.type) = some t) (ht : P.underlying t = some (.array n e)) (hct : P.cellsOf t = n * m) (he : P.underlying e = some (.struct fs)) (hce : P.cellsOf e = m) (hm : m = fs.size)
    (hf : ∀ (i : Nat) (f : Field), fs[i]? = some f → P.underlying f.type = some (.int k) ∧ f.offset = i ∧ P.cellsOf f.type = 1) (hr : ∀ zs ∈ rows, zs.length = m) (hn : rows.length = n) :
    W.var? P name = some (rows.flatMap fun zs => zs.map fun z => Value.int k z).toArray := by
  subst hd
  obtain ⟨g', t', cs, fuel, p, hg', ht', hvar, hd⟩ := h
  obtain rfl := Option.some.inj (hg.symm.trans hg')
  obtain rfl := Option.some.inj (hty.symm.trans ht')
  have hlen : cs.toList.length = n * m := by
    cases fuel with
    | zero => simp [DataW.trod] at hd
    | succ fuel =>
      simp only [DataW.trod, ht, hce] at hd
      split at hd
      · rename_i hl; rw [← hct]; simpa using hl
      · cases hd
  have hi : ∀ i (hi : i < n), (cs.toList.drop (i * m)).take m = (rows[i]'(by omega)).map fun z => Value.int k z := fun i hi => by
    obtain ⟨fuel', d, q, hdi, hel⟩ := array_elem ht hd i hi
    rw [List.getElem?_map, List.getElem?_eq_getElem (by omega)] at hdi
    simp only [Option.map_some, Option.some.injEq] at hdi
    subst hdi
    rw [hce] at hel
    exact ints_of_struct he hf (by rw [hce, hm]) hel
  have : ∀ (rows : List (List Int)) (cs : List Value), (∀ zs ∈ rows, zs.length = m) → cs.length = rows.length * m → (∀ i (h : i < rows.length), (cs.drop (i * m)).take m = rows[i].map fun z => Value.int k z) → cs = rows.flatMap fun zs => zs.map fun z => Value.int k z := by
    intro rows
    induction rows with
    | nil => intro cs _ h _; simpa using h
    | cons zs r ih =>
      intro cs hr hl h
      have h0 := h 0 (by simp)
      simp only [Nat.zero_mul, List.drop_zero, List.getElem_cons_zero] at h0
      rw [List.flatMap_cons, ← h0, ← ih (cs.drop m) (fun zs hz => hr zs (by simp [hz])) (by rw [List.length_drop, hl, List.length_cons, Nat.add_mul]; omega) (fun i hi => ?_), List.take_append_drop]
      have := h (i + 1) (by simpa using hi)
      rw [List.drop_drop, Nat.add_comm m, ← Nat.succ_mul]
      simpa using this
  rw [hvar, ← this rows cs.toList hr (by rw [hlen, hn]) (fun i h => hi i (by omega))]
theorem int_of_shaped {P : Program} {w : World} {g : Nat} {t : TypeId} {zero : Array Value} (h : w.ShapedOpen P) (hg : Nat.blt g P.globals.size = true)
    (h0 : ((begin P (fun _ _ => 0) default).world.heap[g]?).bind Obj.row? = some (zero, t)) (hz : zero.size = 1)
    (hb : P.buildable t = true) (hc : P.cellTypes P.depth t = some [t]) (hu : P.underlying t = some (.int .i64)) : ∃ n t fr, w.heap[g]? = some (.cells #[.int .i64 n] t fr) := by
  have hg : g < P.globals.size := by simpa [Nat.blt_eq] using hg
  obtain ⟨m, hm⟩ := cell_of_shapedOpen_int h hg h0 hz hb hc hu
  obtain ⟨cs, hh, hs, _⟩ := h.1 g zero t hg h0
  refine ⟨m, t, (0, 0), ?_⟩
  rw [hh]
  rw [hz] at hs
  simp only [World.cell?, hh] at hm
  have : cs = #[cs[0]'(by omega)] := by
    apply Array.ext
    · simpa using hs
    · intro i h1 h2
      have : i = 0 := by omega
      subst this; rfl
  rw [this]
  congr 3
  simpa [hs] using hm
section
variable {H : Type} {enc : TypeId × Value → H}
/-- The wrap of a tied claim: what the row lists (X) and the world's shape are both at hand. -/
theorem lifted {a : Assume} {C : Checked} {os : Os} {f : FuncId} {fn : Func} {s : ChangeSpec} {conds : List PathCond} {apart fresh handsOn again : Bool} {X : World → Array Value → Prop}
    (hX : ∀ (w w' : World) (args : Array Value), w.heap = w'.heap → X w args → X w' args)
    (own : ownKnob C.prog.godebug = none) (started : os.Started) (noInit : C.prog.inits.idxOf? f = none) (hfn : C.prog.funcs[f]? = some fn)
    (witness : ∃ (w : World) (tape : Tape) (i : Input), w.os = os ∧ (w.forCall tape i).Shaped C.prog ∧ i.vars = [] ∧ Input.okWide C.prog (w.forCall tape i) .any w.heap.size f i ∧
      ((s.pre enc C.prog fn conds apart (w.forCall tape i).memory i.args ∧ X (w.forCall tape i).memory i.args) ∧ sizedMet enc C.prog fn (OpenSpec.ofChange s) apart (w.forCall tape i).memory i.args) ∧ a.holds C.prog (lone (Frame.enter C.prog f i.args .normal) [] (w.forCall tape i)))
    (contract : ∀ (W : World) (base : Nat) (args : Array Value) (ds gs : List (DataW H)) (before : List MemPlace),
      (∀ (j : Nat) t v, fn.params[j]? = some t → args[j]? = some v → Value.okWide C.prog W .any base t v) → DataW.Whole enc C.prog fn.params.toList s.vars apart W args.toList ds gs before →
      X W args → W.ShapedOpen C.prog → Calls C.prog f args W fun e W' => ∃ v, e = .returned v ∧ s.post enc C.prog fn apart fresh handsOn again W args v W') :
    ReturnsInHanded a C os f .any (fun w args => (s.pre enc C.prog fn conds apart w args ∧ X w args) ∧ sizedMet enc C.prog fn (OpenSpec.ofChange s) apart w args) (s.post enc C.prog fn apart fresh handsOn again) := by
  refine returnsInHanded_of_calls own started noInit witness fun w tape i _ hsh _ hok hpre hholds => ?_
  obtain ⟨_, _, _, fn', hfn', _, _, _, _, hval⟩ := hok
  cases Option.some.inj (hfn'.symm.trans hfn)
  obtain ⟨⟨⟨ds, gs, before, hw, _⟩, hx⟩, _⟩ := hpre
  exact (contract (w.forCall tape i) w.heap.size i.args ds gs before hval (DataW.Whole.of_heap (w' := w.forCall tape i) (by rfl) hw) (hX _ _ _ (by rfl) hx) hsh).mono fun e W' ⟨v, he, hp⟩ => by
    subst he
    exact ChangeSpec.post_blind hp
/-- The same, and how much the arguments weigh. -/
theorem lifted2 {a : Assume} {C : Checked} {os : Os} {f : FuncId} {fn : Func} {s : ChangeSpec} {conds : List PathCond} {apart fresh handsOn again : Bool} {X : World → Array Value → Prop}
    (hX : ∀ (w w' : World) (args : Array Value), w.heap = w'.heap → X w args → X w' args)
    (own : ownKnob C.prog.godebug = none) (started : os.Started) (noInit : C.prog.inits.idxOf? f = none) (hfn : C.prog.funcs[f]? = some fn)
    (witness : ∃ (w : World) (tape : Tape) (i : Input), w.os = os ∧ (w.forCall tape i).Shaped C.prog ∧ i.vars = [] ∧ Input.okWide C.prog (w.forCall tape i) .any w.heap.size f i ∧
      ((s.pre enc C.prog fn conds apart (w.forCall tape i).memory i.args ∧ X (w.forCall tape i).memory i.args) ∧ sizedMet enc C.prog fn (OpenSpec.ofChange s) apart (w.forCall tape i).memory i.args) ∧ a.holds C.prog (lone (Frame.enter C.prog f i.args .normal) [] (w.forCall tape i)))
    (contract : ∀ (W : World) (base : Nat) (args : Array Value) (ds gs : List (DataW H)) (before : List MemPlace),
      (∀ (j : Nat) t v, fn.params[j]? = some t → args[j]? = some v → Value.okWide C.prog W .any base t v) → DataW.Whole enc C.prog fn.params.toList s.vars apart W args.toList ds gs before →
      X W args → W.ShapedOpen C.prog → (DataW.weightsEach C.prog (fn.params.toList ++ (OpenSpec.ofChange s).bare.plain.varTypes C.prog) (ds ++ gs)).all (· ≤ reachBytes) = true → Calls C.prog f args W fun e W' => ∃ v, e = .returned v ∧ s.post enc C.prog fn apart fresh handsOn again W args v W') :
    ReturnsInHanded a C os f .any (fun w args => (s.pre enc C.prog fn conds apart w args ∧ X w args) ∧ sizedMet enc C.prog fn (OpenSpec.ofChange s) apart w args) (s.post enc C.prog fn apart fresh handsOn again) := by
  refine returnsInHanded_of_calls own started noInit witness fun w tape i _ hsh _ hok hpre hholds => ?_
  obtain ⟨_, _, _, fn', hfn', _, _, _, _, hval⟩ := hok
  cases Option.some.inj (hfn'.symm.trans hfn)
  obtain ⟨⟨_, hx⟩, _, ds, gs, before, hw, hz⟩ := hpre
  exact (contract (w.forCall tape i) w.heap.size i.args ds gs before hval (DataW.Whole.of_heap (w' := w.forCall tape i) (by rfl) hw) (hX _ _ _ (by rfl) hx) hsh hz).mono fun e W' ⟨v, he, hp⟩ => by
    subst he
    exact ChangeSpec.post_blind hp
end
end Go.Abs
