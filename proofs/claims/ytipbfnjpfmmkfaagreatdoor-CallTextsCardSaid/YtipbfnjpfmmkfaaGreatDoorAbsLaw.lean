/-
  A LAW's ROW: its arguments as abstract values; what a call that owns nothing leaves is what the row asks. Generic over the program. Conditions: none.
-/
import Derived.Test.YtipbfnjpfmmkfaaGreatDoorAbsBridge
set_option linter.unusedVariables false
set_option linter.unusedSectionVars false
namespace Go.Abs
open Go Go.ChangeShapes Go.WideShapes Go.ChangeAt Go.RowKit
variable [GTab]

/-- The types of a list are laid in rows, and what they lead to is of the list. -/
def kidsB (P : Program) (L : List TypeId) : Bool := L.all fun t => match P.underlying t with
  | some (.pointer e) => L.contains e
  | some (.slice e) => L.contains e && Nat.blt 0 (P.cellsOf e)
  | some (.array n e) => L.contains e && Nat.beq (P.cellsOf t) (n * P.cellsOf e)
  | some (.struct fs) => fs.toList.all (fun f => L.contains f.type) && Nat.beq (P.cellsOf t) (fs.toList.map fun f => P.cellsOf f.type).sum &&
      (List.range fs.toList.length).all (fun j => match fs.toList[j]? with | some f => Nat.beq f.offset ((fs.toList.take j).map fun f => P.cellsOf f.type).sum | none => true)
  | some (.map _ e) => L.contains e
  | _ => true
theorem kids_of {P : Program} {L : List TypeId} (h : kidsB P L = true) : Kids P (· ∈ L) where
  pointer := fun {t e} ht hu => by
    have := List.all_eq_true.1 h t ht
    simpa [hu] using this
  slice := fun {t e} ht hu => by
    have := List.all_eq_true.1 h t ht
    simp [hu] at this; exact this.1
  array := fun {t e n} ht hu => by
    have := List.all_eq_true.1 h t ht
    simp only [hu, Bool.and_eq_true] at this
    exact ⟨by simpa using this.1, Nat.eq_of_beq_eq_true this.2⟩
  struct := fun {t fs} ht hu => by
    have := List.all_eq_true.1 h t ht
    simp only [hu, Bool.and_eq_true] at this
    obtain ⟨⟨h1, h2⟩, h3⟩ := this
    refine ⟨fun f hf => by simpa using List.all_eq_true.1 h1 f hf, Nat.eq_of_beq_eq_true h2, fun j f hf => ?_⟩
    have hj : j < fs.toList.length := (List.getElem?_eq_some_iff.1 hf).1
    have := List.all_eq_true.1 h3 j (by simpa using hj)
    rw [hf] at this
    exact Nat.eq_of_beq_eq_true this
  map := fun {t k e} ht hu => by
    have := List.all_eq_true.1 h t ht
    simpa [hu] using this
theorem kids_pos {P : Program} {L : List TypeId} (h : kidsB P L = true) {t e : TypeId} (ht : t ∈ L) (hu : P.underlying t = some (.slice e)) : 0 < P.cellsOf e := by
  have := List.all_eq_true.1 h t ht
  simp only [hu, Bool.and_eq_true] at this
  exact Nat.le_of_ble_eq_true this.2

section
variable {H : Type} {enc : TypeId × Value → H} {P : Program}
theorem sameAt_of_below {W W' : World} (hb : Below W.heap.size W W') {p : MemPlace} (hp : p.block < W.heap.size) : W.sameAt W' p := by
  cases p with
  | cell b o => exact cell?_same (hb.block b hp) o
  | map b => exact hb.block b hp
theorem trodAll_below {L : List TypeId} (hk : kidsB P L = true) {W W' : World} (hb : Below W.heap.size W W') {sp : Nat → Bool} : ∀ {ts : List TypeId} {vs : List Value} {ds : List (DataW H)} {ps : List MemPlace}, (∀ t ∈ ts, t ∈ L) → (∀ p ∈ ps, p.block < W.heap.size) →
    (∀ p ∈ ps, sp p.block = true) → DataW.TrodAll enc P W 0 (fun _ => true) true ts vs ds ps → DataW.TrodAll enc P W' 0 sp true ts vs ds ps
  | [], vs, ds, ps, hL, hlt, hsp, h => by
    cases vs <;> cases ds <;> simp [DataW.TrodAll] at h ⊢
    exact h
  | t :: ts, vs, ds, ps, hL, hlt, hsp, h => by
    obtain ⟨v, vs', d, ds', p, q, rfl, rfl, rfl, ⟨n, h1⟩, h2⟩ := trodAll_cons h
    refine ⟨p, q, ⟨n, ?_⟩, trodAll_below hk hb (fun t ht => hL t (by simp [ht])) (fun x hx => hlt x (by simp [hx])) (fun x hx => hsp x (by simp [hx])) h2, rfl⟩
    exact DataW.trod_stays (kids_of hk) (fun ht hu => kids_pos hk ht hu) (by simp) (hL t (by simp)) h1 (fun x hx => sameAt_of_below hb (hlt x (by simp [hx]))) (fun x hx => hsp x (by simp [hx]))

/-- **What a law's row asks**, behind a call that has turned nothing that stood. -/
theorem law_post {f : Func} {s : ChangeSpec} {apart fresh handsOn again : Bool} {W W' : World} {args : Array Value} {ds gs : List (DataW H)} {before : List MemPlace} {L : List TypeId} {tb : TypeId}
    (hW : DataW.Whole enc P f.params.toList s.vars apart W args.toList ds gs before) (hv : s.vars = []) (hk : kidsB P L = true) (hL : f.params.toList.all (L.contains ·) = true) (hb : Below W.heap.size W W') (hr : f.resultTypes = #[tb]) (htb : P.underlying tb = some .bool)
    (hfn : s.fn H (ds ++ gs) = { results := [.lit (.bool true)], args := ds }) : s.post enc P f apart fresh handsOn again W args (.bool true) W' := by
  have hlt := hW.lt
  have hLm : ∀ t ∈ f.params.toList, t ∈ L := fun t ht => by simpa using List.all_eq_true.1 hL t ht
  have hW0 := hW
  obtain ⟨p, q, hA, hV, rfl, hz, hn⟩ := hW
  have hgq : gs = [] ∧ q = [] := by rw [hv] at hV; exact trodVars_none hV
  obtain ⟨rfl, rfl⟩ := hgq
  simp only [List.append_nil] at *
  have hargs : ∀ sp : Nat → Bool, (∀ x ∈ p, sp x.block = true) → DataW.TrodAll enc P W' 0 sp true f.params.toList args.toList ds p := fun sp hsp => trodAll_below hk hb hLm hlt hsp hA
  have hres : ∀ (b : Nat) (sp : Nat → Bool) (hd : Bool), DataW.TrodAll enc P W' b sp hd f.resultTypes.toList ((Value.bool true).resultList f.resultTypes.size) [.lit (.bool true)] [] := fun b sp hd => by
    rw [hr]; exact trodAll_mk1 (shut_bool htb true)
  have hvars : ∀ sp : Nat → Bool, DataW.TrodVars (H := H) enc P W' sp s.vars [] [] := fun sp => by rw [hv]; rfl
  have hold : ∀ x ∈ p, (fun b => decide (b < W.heap.size)) x.block = true := fun x hx => by simpa using hlt x hx
  refine ⟨ds, [], p, [], p, [], hW0, by simp only [List.append_nil]; rw [hfn]; exact hres _ _ _, by simp only [List.append_nil]; rw [hfn]; exact hargs _ hold, by simp only [List.append_nil]; rw [hfn]; exact hvars _, hb.frame _ |> World.keptBut_mono (fun x hx => hx) , fun _ => ?_⟩
  refine ⟨ok_one hr rfl (okWide_bool_mk htb true), _, [], ([] ++ p) ++ [], ⟨[] ++ p, [], trodAll_append (hargs _ (fun _ _ => rfl)) (hres _ _ _), hvars _, rfl, ?_, ?_⟩, ?_⟩
  · intro b o hp
    have hp' : MemPlace.cell b o ∈ p := by simpa using hp
    have hlt' := hlt _ hp'
    have : W'.frozen? ⟨b, o, none⟩ = W.frozen? ⟨b, o, none⟩ := by
      unfold World.frozen?
      rw [show W'.heap[b]? = W.heap[b]? from hb.block b hlt']
    rw [this]; exact hz b o hp'
  · intro ha; simpa using hn ha
  · intro x hx _; simpa using hx

theorem not_agg {w : World} {r : Reach} {b : Nat} {t : TypeId} {v : Value} (h : Value.okWide P w r b t v) (hu : (match P.underlying t with | some (.struct _) | some (.array _ _) => true | _ => false) = false) : v.cells = #[v] := by
  cases v with
  | agg xs =>
    exfalso
    unfold Value.okWide at h
    split at h
    · rename_i he; rw [he] at hu; cases hu
    · rename_i he; rw [he] at hu; cases hu
    · unfold Cell.okWide at h
      split at h <;> first | (rename_i heq; cases heq; done) | skip
      unfold Cell.ok at h
      split at h <;> first | exact h | (rename_i heq; cases heq; done)
  | _ => rfl
/-- An argument of one cell. -/
theorem Rd.one {t : TypeId} {α : Type} {enc' : α → List AV} {ok : α → Prop} (hR : Rd P t enc' ok) {w : World} {r : Reach} {b base : Nat} {sp : Nat → Bool} {held : Bool} {v : Value} {d : DataW H} {ps : List MemPlace} (e1 : α → AV) (he : ∀ a, enc' a = [e1 a])
    (hu : (match P.underlying t with | some (.struct _) | some (.array _ _) => true | _ => false) = false) (hval : Value.okWide P w r b t v) (hd : DataW.Trod enc P w base sp held t v d ps) : ∃ a, ok a ∧ CRel (fun _ => False) w (e1 a) v := by
  obtain ⟨n, h⟩ := hd
  obtain ⟨a, ha, hrow⟩ := hR.read enc w base sp held n _ _ h
  rw [not_agg hval hu, he] at hrow
  obtain ⟨u, hu', hr, _⟩ := hrow.2 0 _ rfl
  simp at hu'
  subst hu'
  exact ⟨a, ha, hr⟩
/-- An argument that is a struct. -/
theorem Rd.agg {t : TypeId} {fs : Array Field} {α : Type} {enc' : α → List AV} {ok : α → Prop} (hR : Rd P t enc' ok) {w : World} {r : Reach} {b base : Nat} {sp : Nat → Bool} {held : Bool} {v : Value} {d : DataW H} {ps : List MemPlace}
    (hu : P.underlying t = some (.struct fs)) (hval : Value.okWide P w r b t v) (hd : DataW.Trod enc P w base sp held t v d ps) : ∃ a, ok a ∧ CRel (fun _ => False) w (.agg (enc' a)) v := by
  obtain ⟨n, h⟩ := hd
  obtain ⟨a, ha, hrow⟩ := hR.read enc w base sp held n _ _ h
  unfold Value.okWide at hval
  rw [hu] at hval
  obtain ⟨cs, rfl, _⟩ := hval
  refine ⟨a, ha, .agg (by simpa [Value.cells] using hrow.1) fun i x v hx hv => ?_⟩
  obtain ⟨u, hu, hr, _⟩ := hrow.2 i x hx
  simp only [Value.cells, Array.getElem?_toList] at hu
  rw [hv] at hu; cases hu; exact hr
end

/-- A law's call, from what is known of its arguments. -/
theorem law_calls {P : Program} {k : FuncId} {args : List AV} (hs : PSpec P k args (.pl (.bool true))) {W : World} {vs : Array Value} (hl : args.length = vs.size) (ha : ∀ (i : Nat) (x : AV) (v : Value), args[i]? = some x → vs[i]? = some v → CRel (fun _ => False) W x v)
    (hg : GOk (fun _ => False) W := by exact GOk.nil rfl rfl) : Calls P k vs W (fun e W' => e = .returned (.bool true) ∧ Below W.heap.size W W') := by
  have hH : HRel (fun _ => False) noEmb [] W := ⟨(fun b o h => by cases h), (fun b p h => by cases h), (fun b b' p p' h => by cases h), (fun b h => h.elim), (fun b p h => by cases h), hg.mono (Nat.le_refl _) (fun _ hk => .inl (hk.elim id (fun h => (own_noEmb _ h).elim))) (fun _ _ _ => rfl)⟩
  have hA : Args (fun _ => False) noEmb W args vs.toList := ⟨by simpa using hl, fun i x v hx hv => .c ((ha i x v hx (by simpa using hv)).mono (Nat.le_refl _) (fun b hb => .inl (hb.elim id (fun h => (own_noEmb _ h).elim))) (fun _ _ _ => rfl))⟩
  have := hs.2 (fun _ => False) noEmb W vs.toList hH hA
  simp only [Array.toArray_toList] at this
  refine this.mono ?_
  rintro e w' ⟨r, v, H', M, β', rfl, ⟨rfl, rfl⟩, hH', hv, hkp, _⟩
  exact ⟨by rw [hv.pl_eq], hkp.below own_noEmb⟩
end Go.Abs
