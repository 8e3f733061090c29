/-
  slices.SortFunc AT STRUCTS: the shelf's contract as a contract over abstract states. Generic over the program. Conditions: a total order; fewer than 2^62 elements.
-/
import Derived.Test.YtebcdmfekidfoaaDoorAbsAuto
import Derived.Test.YtebcdmfekidfoaaDoorAbsPureS
import Derived.Shelf.SlSortCmp.NoneTotal
import Derived.Lib.QuietBelow
set_option linter.unusedVariables false
set_option linter.unusedSimpArgs false
set_option linter.unusedSectionVars false
namespace Go.Abs
open Go Go.Shelf Go.RowKit Go.Lib Go.Sort Go.Proofs
variable [GTab]
theorem flat_div {α β : Type} [Inhabited α] [Inhabited β] {e : α → List β} {k : Nat} (hk : ∀ x, (e x).length = k) : ∀ (l : List α) (j : Nat), j < l.length * k → (l.flatMap e)[j]? = some ((e l.toArray[j / k]!)[j % k]!)
  | [], j, h => by simp at h
  | a :: r, j, h => by
    have k0 : 0 < k := by rcases Nat.eq_zero_or_pos k with h0 | h0; · subst h0; simp at h
                          · exact h0
    rw [List.flatMap_cons]
    by_cases hj : j < k
    · rw [List.getElem?_append_left (by rw [hk]; exact hj), Nat.div_eq_of_lt hj, Nat.mod_eq_of_lt hj]
      have : j < (e a).length := by rw [hk]; exact hj
      simp [this]
    · have hle : k ≤ j := by omega
      rw [List.getElem?_append_right (by rw [hk]; exact hle), hk, flat_div hk r (j - k) (by rw [List.length_cons, Nat.add_mul, Nat.one_mul] at h; omega)]
      have e1 : j / k = (j - k) / k + 1 := by
        rw [Nat.div_eq j k, if_pos ⟨k0, hle⟩]
      have e2 : (j - k) % k = j % k := (Nat.mod_eq_sub_mod hle).symm
      rw [e1, e2]
      simp [List.getElem!_eq_getElem?_getD]
theorem grown_of {w w' : World} (h : BelowD w w') : ∃ q os', w' = grow (w.drewN q) os' := by
  obtain ⟨p, hp⟩ := regrown_of_below h.1
  refine ⟨w'.drawn - w.drawn, p.os, ?_⟩
  have e : w'.drawn = p.d := by rw [hp]; rfl
  have h2 := h.2
  rw [hp]
  show grow (redrawn w p.d) p.os = grow (w.drewN (p.d - w.drawn)) p.os
  congr 1
  show ({ w with drawn := p.d } : World) = { w with drawn := w.drawn + (p.d - w.drawn) }
  congr 1
  omega
theorem heap_put {w : World} {blk : Nat} {f : Array Value → Array Value} {k : Nat} (h : k ≠ blk) : (mapBlock w blk f).heap[k]? = w.heap[k]? := by
  show (w.heap.modify blk (onCells f))[k]? = _
  rw [Array.getElem?_modify, if_neg (Ne.symm h)]
theorem heap_put_at {w : World} {blk : Nat} {f : Array Value → Array Value} {c : Array Value} {t : TypeId} {fr : Nat × Nat} (h : w.heap[blk]? = some (.cells c t fr)) : (mapBlock w blk f).heap[blk]? = some (.cells (f c) t fr) := by
  show (w.heap.modify blk (onCells f))[blk]? = _
  rw [Array.getElem?_modify, if_pos rfl, h]; rfl
section
variable {P : Program} {ρ : Ren} {α : Type} [Inhabited α]
theorem cmp_lays {k : Nat} {e : α → List AV} {enc : α → List Value} (he : ∀ x, e x = (enc x).map AV.pl) {cf : α → α → Int} {g : Nat} (hg : ∀ x y, PSpec P g [.agg (e x), .agg (e y)] (.pl (.int .i64 (cf x y)))) (blk off size : Nat) (w : World) (hG : GOk (· = blk) w) : CmpLays P g #[] enc k cf blk off size w := by
  intro m os dk _ x y
  have hGW : GOk (fun _ => False) (sortWorldK enc k w blk off m dk os) := hG.mono (by
      show _ ≤ ((w.heap.modify blk _) ++ os).size
      simp) (fun _ h => h.elim) (fun q hq hne => by
      show ((putRowK enc k (Sort.ahead w m) blk off dk).heap ++ os)[q]? = _
      rw [Array.getElem?_append_left (by show q < (w.heap.modify blk _).size; simpa using hq)]
      exact heap_put (w := Sort.ahead w m) hne)
  generalize sortWorldK enc k w blk off m dk os = W at hGW
  have harg : ∀ z : α, VRel (fun _ => False) noEmb W (.agg (e z)) (.agg (enc z).toArray) := fun z => by
    refine .agg (by rw [he]; simp) fun i a v ha hv => ?_
    rw [he, List.getElem?_map] at ha
    simp only [List.getElem?_toArray] at hv
    rw [hv] at ha; cases ha
    exact .c (.pl _)
  have hH : HRel (fun _ => False) noEmb [] W := ⟨fun b o h => (by cases h), fun b p h => (by cases h), fun b b' p p' h => (by cases h), fun _ h => h.elim, fun b p h => (by cases h), hGW.mono (Nat.le_refl _) (fun _ hk => .inl (hk.elim id (fun h => (own_noEmb _ h).elim))) (fun _ _ _ => rfl)⟩
  have := (hg x y).2 (fun _ => False) noEmb W [.agg (enc x).toArray, .agg (enc y).toArray] hH ⟨rfl, fun i a v ha hv => by
    match i, ha, hv with
    | 0, ha, hv => cases ha; cases hv; exact harg x
    | 1, ha, hv => cases ha; cases hv; exact harg y
    | i + 2, ha, hv => simp at ha⟩
  refine Calls.mono this ?_
  rintro en w' ⟨r', v, H', M, β', rfl, ⟨rfl, rfl⟩, hH', hv, hkp, _⟩
  obtain rfl := hv.pl_eq
  exact ⟨rfl, grown_of (hkp.belowD own_noEmb)⟩
theorem sort_x (L : SlLaysF0.n6 P ρ) {k : Nat} (k0 : 0 < k) (aE : ∀ w, (isAgg (ρ.t 24)).run P w = .ok true w) (zE : ∀ w, (Go.sizeOf (ρ.t 24)).run P w = .ok k w) {e : α → List AV} {enc : α → List Value} (he : ∀ x, e x = (enc x).map AV.pl) (hk : ∀ x, (enc x).length = k) (h1 : ∀ x, ∀ v ∈ enc x, v.oneCell' = true)
    {cf : α → α → Int} (hO : SWO (ltOf cf)) (hT : ∀ x y, (ltOf cf) x y = false → (ltOf cf) y x = false → x = y) {g : Nat} (hg : ∀ x y, PSpec P g [.agg (e x), .agg (e y)] (.pl (.int .i64 (cf x y)))) (hf : ∀ (es : Array Value) (w : World), (callFunc (ρ.f 6) es).run P w = .ok (.enter (ρ.f 6) es) w)
    (l : List α) (hsz : l.length < 4611686018427387904) :
    XSpec P (ρ.f 6) [.sl 101 0 l.length, .fn (.func g) [] []] [(101, .row k 0 (l.flatMap e))] (.tup []) [(101, .row k 0 ((l.mergeSort fun x y => !(ltOf cf) y x).flatMap e))] [] := by
  refine ⟨hf, fun F β w vs hH hA => ?_⟩
  obtain ⟨hlen, hall⟩ := hA
  match vs, hlen with
  | [v1, v2], _ =>
  have hv1 := hall 0 _ v1 rfl rfl
  have hv2 := hall 1 _ v2 rfl rfl
  obtain ⟨f1, f2, rfl, ⟨hf1, _⟩, ⟨hf2, _⟩⟩ := hv2.fn_inv
  obtain rfl : f1 = #[] := Array.eq_empty_of_size_eq_zero hf1.symm
  obtain rfl : f2 = #[] := Array.eq_empty_of_size_eq_zero hf2.symm
  have hsrt : (l.mergeSort fun x y => !(ltOf cf) y x).length = l.length := List.length_mergeSort l
  have hek : ∀ x, (e x).length = k := fun x => by rw [he]; simp [hk]
  obtain ⟨p, hp, hcase⟩ := hv1.sl_inv
  obtain ⟨p', hp', hpk, hnil, hr⟩ := hH.obj 101 _ rfl
  rw [hp] at hp'; cases hp'
  have hdom : ∀ b q, β b = some q → b = 101 ∧ q = p := fun b q hq => by
    obtain ⟨o, ho⟩ := hH.dom b q hq
    rw [hget_cons] at ho
    by_cases hb : 101 = b
    · subst hb; rw [hp] at hq; cases hq; exact ⟨rfl, rfl⟩
    · rw [if_neg hb] at ho; cases ho
  rcases hcase with ⟨hn, c, rfl, hc, hlim⟩ | ⟨hl0, A, rfl⟩
  · obtain ⟨cv, fr, ⟨t, ht⟩, hsz2, h5, h6, h7⟩ := hr hn
    have hbl : p.blk < w.heap.size := hH.blk_lt hp hn
    have hflat : ∀ (m : List α) (j : Nat), j < m.length * k → (m.flatMap e)[j]? = some (.pl (flatK enc k m.toArray)[j]!) := fun m j hj => by
      rw [get_flatK _ _ _ _ (by simpa using hj)]
      have : m.flatMap e = (m.flatMap enc).map AV.pl := by
        rw [List.map_flatMap]; congr 1; funext x; exact he x
      rw [this, List.getElem?_map, flat_div hk m j hj]; rfl
    have hHold : HoldsK enc k w p.blk (p.st + 0) l.toArray := by
      intro j hj
      rw [size_flatK] at hj
      have hj : j < l.length * k := by simpa using hj
      obtain ⟨v, hv, hcr, _⟩ := h6 j _ (hflat l j hj)
      cases hcr
      have hjs : p.st + j < cv.size := (Array.getElem?_eq_some_iff.1 hv).1
      rw [Nat.add_zero]
      refine ⟨by simp only [World.cell?, ht]; simpa using hv, ?_⟩
      simp only [World.frozen?, ht]
      have := h7 (p.st + j) hjs
      obtain ⟨lo, hi⟩ := fr
      simp only [Bool.and_eq_false_iff, decide_eq_false_iff_not]
      by_cases q : lo ≤ p.st + j
      · by_cases q2 : p.st + j < hi
        · have := this q q2; omega
        · exact .inr q2
      · exact .inl q
    have hcon := AnyQ.slices_SortFunc_total L k aE zE enc hk h1 cf hO g #[] p.blk (p.st + 0) c l.toArray w (hg default default).1 (cmp_lays he hg _ _ _ _ (hH.glob.mono (Nat.le_refl _) (fun b hb => .inl (.inr ⟨101, p, hp, hn, hb.symm⟩)) (fun _ _ _ => rfl))) hHold hbl (by simpa using hsz) hT
    refine Calls.mono hcon ?_
    rintro en w' ⟨rfl, n, os, rfl⟩
    generalize hd' : (l.mergeSort fun x y => !(ltOf cf) y x) = d' at hsrt
    have hd2 : (l.toArray.toList.mergeSort fun x y => !(ltOf cf) y x) = d' := by simpa using hd'
    have hcells : (sortWorldK enc k w p.blk (p.st + 0) n d'.toArray os).heap[p.blk]? = some (.cells (putCells id (p.st + 0) (flatK enc k d'.toArray) cv) t fr) := by
      show ((putRowK enc k (Sort.ahead w n) p.blk (p.st + 0) d'.toArray).heap ++ os)[p.blk]? = _
      rw [Array.getElem?_append_left (by show p.blk < (w.heap.modify p.blk _).size; simpa using hbl)]
      exact heap_put_at (w := Sort.ahead w n) ht
    have hother : ∀ q, q < w.heap.size → q ≠ p.blk → (sortWorldK enc k w p.blk (p.st + 0) n d'.toArray os).heap[q]? = w.heap[q]? := fun q hq hne => by
      show ((putRowK enc k (Sort.ahead w n) p.blk (p.st + 0) d'.toArray).heap ++ os)[q]? = _
      rw [Array.getElem?_append_left (by show q < (w.heap.modify p.blk _).size; simpa using hq)]
      exact heap_put (w := Sort.ahead w n) hne
    have hgrow : w.heap.size ≤ (sortWorldK enc k w p.blk (p.st + 0) n d'.toArray os).heap.size := by
      show _ ≤ ((w.heap.modify p.blk _) ++ os).size
      simp
    have hpsz : (putCells id (p.st + 0) (flatK enc k d'.toArray) cv).size = cv.size := by simp [putCells]
    have hl2 : (d'.flatMap e).length = d'.length * k := flat_length hek d'
    have hl1 : (l.flatMap e).length = l.length * k := flat_length hek l
    refine ⟨_, .tuple #[], _, [], β, rfl, ⟨rfl, rfl, rfl⟩, ?_, .tup rfl (fun i x v hx => by simp at hx), ?_, fun b q hq _ => hq⟩
    · refine ⟨fun b o ho => ?_, fun b q hq => ?_, hH.inj, fun q hq => Nat.lt_of_lt_of_le (hH.fresh q hq) hgrow, hH.apart, hH.glob.mono hgrow (fun _ h => .inl h) (fun q hq hno => hother q hq (fun e => hno (.inr ⟨101, p, hp, hn, e.symm⟩)))⟩
      · rw [hget_cons] at ho
        by_cases hb : 101 = b
        · rw [if_pos hb] at ho; cases ho; subst hb
          refine ⟨p, hp, hpk, fun h => (by rw [hn] at h; cases h), fun _ => ⟨_, fr, ⟨t, hcells⟩, by rw [hpsz]; exact hsz2, by rw [hpsz, hl2, hsrt, ← hl1]; exact h5, fun i x hx => ?_, fun o' ho' => h7 o' (by rw [hpsz] at ho'; exact ho')⟩⟩
          have hi : i < d'.length * k := by rw [← hl2]; exact (List.getElem?_eq_some_iff.1 hx).1
          rw [hflat d' i hi] at hx
          cases hx
          have hin : p.st + i < cv.size := by rw [hl1] at h5; rw [hsrt] at hi; omega
          have hone : ((flatK enc k d'.toArray)[i]!).oneCell' = true := by
            rw [get_flatK _ _ _ _ (by simpa using hi)]
            have hk' : i % k < (enc (d'.toArray[i / k]!)).length := (by rw [hk]; exact Nat.mod_lt _ k0)
            rw [getElem!_pos (enc (d'.toArray[i / k]!)) (i % k) hk']
            exact h1 _ _ (List.getElem_mem hk')
          refine ⟨_, ?_, .pl _, hone⟩
          have hfs : i < (flatK enc k d'.toArray).size := by rw [size_flatK]; simpa using hi
          simp only [putCells, Array.getElem?_mapIdx]
          rw [Array.getElem?_eq_getElem hin]
          simp only [Option.map_some, Nat.add_zero]
          rw [if_pos ⟨by omega, by omega⟩]
          rw [show p.st + i - p.st = i by omega]; rfl
        · rw [if_neg hb] at ho; cases ho
      · obtain ⟨rfl, rfl⟩ := hdom b q hq
        exact ⟨_, rfl⟩
    · exact ⟨rfl, ⟨rfl, Nat.le_add_right _ _⟩, rfl, hgrow, fun q hq hno => hother q hq (fun h => hno ⟨101, p, hp, hn, h.symm⟩), fun q hq => .inl hq⟩
  · have hl : l = [] := List.eq_nil_of_length_eq_zero hl0
    subst hl
    refine Calls.mono (AnyF.slices_SortFunc_none { L with } A 0 (.func (.func g) #[] #[]) w) ?_
    rintro en w' ⟨rfl, rfl⟩
    exact ⟨_, .tuple #[], _, [], β, rfl, ⟨rfl, rfl, rfl⟩, by simpa using hH, .tup rfl (fun i x v hx => by simp at hx), Keeps.refl _ _, fun b q hq _ => hq⟩
end
theorem _root_.W.Tot.swo {α : Type} {cmp : α → α → Option Int} {cf : α → α → Int} (h : W.Tot cmp cf) : SWO (ltOf cf) where
  irrefl x := by simpa [ltOf] using h.irrefl x
  trans x y z h1 h2 := by simp [ltOf] at *; exact h.trans _ _ _ h1 h2
  ntrans x y z h1 h2 := by
    simp [ltOf] at *
    have := h.ntrans x y z (by omega) (by omega)
    omega
theorem _root_.W.Tot.ant {α : Type} {cmp : α → α → Option Int} {cf : α → α → Int} (h : W.Tot cmp cf) (x y : α) (h1 : ltOf cf x y = false) (h2 : ltOf cf y x = false) : x = y :=
  h.anti x y (by simpa [ltOf] using h1) (by simpa [ltOf] using h2)
end Go.Abs
