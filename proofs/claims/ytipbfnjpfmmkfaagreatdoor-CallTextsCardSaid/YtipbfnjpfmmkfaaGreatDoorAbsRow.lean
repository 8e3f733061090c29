/-
  ROWS: literals, appends, made rows, rows let be. Generic over the program. Conditions: none.
-/
import Derived.Test.YtipbfnjpfmmkfaaGreatDoorAbsEff
set_option linter.unusedVariables false
set_option linter.unusedSimpArgs false
set_option linter.unusedSectionVars false
namespace Go.Abs
open Go
variable [GTab]

/-- The elements that a slice shows: how many, their cells. -/
def srcAt (H : List (Nat × AObj)) (k : Nat) : AV → Option (Nat × List AV)
  | .vs m ds => some (m, ds)
  | .sl b o m => match hget H b with
    | some (.row _ _ _ cs) => some (m, (cs.drop o).take (m * k))
    | _ => none
  | .pl (.slice none 0 0) => some (0, [])
  | _ => none

theorem SatB.src {c : Ctx} {s : St} {β : Emb} {a : Act} {w : World} (hs : SatB c s β a w) {x : AV} {v : Value} (hv : VRel c.F β w x v) {k m : Nat} {ds : List AV} (hsrc : srcAt s.H k x = some (m, ds)) (hds : ds.length = m * k) :
    ∃ (A : Option Addr) (cap : Nat) (news : List Value), v = .slice A m cap ∧ (0 < m → ∃ ad, A = some ad) ∧ news.length = m * k ∧ (∀ ad, A = some ad → ∀ (j : Nat) (u : Value), news[j]? = some u → w.cell? (ad.add j) = some u) ∧
      (∀ u ∈ news, u.oneCell' = true) ∧ ∀ (i : Nat) (y : AV), ds[i]? = some y → ∃ u, news[i]? = some u ∧ CRel (off c.F β) w y u := by
  have build : ∀ (blk o : Nat), (∀ (i : Nat) (y : AV), ds[i]? = some y → ∃ u, w.cell? ⟨blk, o + i, none⟩ = some u ∧ CRel (off c.F β) w y u ∧ u.oneCell' = true) →
      ∃ news : List Value, news.length = m * k ∧ (∀ (j : Nat) (u : Value), news[j]? = some u → w.cell? ((⟨blk, o, none⟩ : Addr).add j) = some u) ∧ (∀ u ∈ news, u.oneCell' = true) ∧ ∀ (i : Nat) (y : AV), ds[i]? = some y → ∃ u, news[i]? = some u ∧ CRel (off c.F β) w y u := by
    intro blk o h
    have hg : ∀ i, i < ds.length → ∃ u, w.cell? ⟨blk, o + i, none⟩ = some u ∧ CRel (off c.F β) w ds[i]! u ∧ u.oneCell' = true := fun i hi => h i _ (by simp [hi])
    refine ⟨(List.range ds.length).map fun i => (w.cell? ⟨blk, o + i, none⟩).getD undef, by simp [hds], fun j u hj => ?_, fun u hu => ?_, fun i y hy => ?_⟩
    · have hjl : j < ds.length := by have := (List.getElem?_eq_some_iff.1 hj).1; simpa using this
      obtain ⟨u', hu', _⟩ := hg j hjl
      simp [hjl, hu'] at hj
      rw [a_add, hu', hj]
    · simp only [List.mem_map, List.mem_range] at hu
      obtain ⟨i, hi, rfl⟩ := hu
      obtain ⟨u', hu', _, h1⟩ := hg i hi
      rw [hu']; exact h1
    · obtain ⟨u, hu, hr, _⟩ := h i y hy
      have hi := (List.getElem?_eq_some_iff.1 hy).1
      exact ⟨u, by simp [hi, hu], hr⟩
  cases x with
  | vs m' ds' =>
    simp only [srcAt, Option.some.injEq, Prod.mk.injEq] at hsrc
    obtain ⟨rfl, rfl⟩ := hsrc
    obtain ⟨A, cap, rfl, _, h⟩ := hv.vs_inv
    rcases h with rfl | ⟨blk, o, rfl, _, _, h⟩
    · obtain rfl := List.eq_nil_of_length_eq_zero (l := ds') (by simpa using hds)
      exact ⟨A, cap, [], rfl, fun h => by omega, by simp, by simp, by simp, by simp⟩
    · obtain ⟨news, h1, h2, h3, h4⟩ := build blk o h
      exact ⟨_, cap, news, rfl, fun _ => ⟨_, rfl⟩, h1, fun ad had => by cases had; exact h2, h3, h4⟩
  | sl b o m' =>
    simp only [srcAt] at hsrc
    split at hsrc
    · rename_i k' fz cs hg
      simp only [Option.some.injEq, Prod.mk.injEq] at hsrc
      obtain ⟨rfl, rfl⟩ := hsrc
      obtain ⟨p, hp, h⟩ := hv.sl_inv
      obtain ⟨p', hp', hr⟩ := hs.heap.obj b _ hg
      rw [hp] at hp'; cases hp'
      obtain ⟨_, hnil, hr⟩ := hr
      rcases h with ⟨hn, cap, rfl, _, _⟩ | ⟨rfl, A0, rfl⟩
      · obtain ⟨cv, fr, hcv, _, _, h6, _⟩ := hr hn
        obtain ⟨news, h1, h2, h3, h4⟩ := build p.blk (p.st + o) (fun i y hy => by
          have hi : i < m' * k := by rw [← hds]; exact (List.getElem?_eq_some_iff.1 hy).1
          rw [List.getElem?_take_of_lt hi, List.getElem?_drop] at hy
          obtain ⟨u, hu, hc, h1⟩ := h6 _ y hy
          exact ⟨u, by rw [cell_of_cells hcv, Nat.add_assoc]; exact hu, hc, h1⟩)
        exact ⟨_, cap, news, rfl, fun _ => ⟨_, rfl⟩, h1, fun ad had => by cases had; exact h2, h3, h4⟩
      · exact ⟨A0, 0, [], rfl, fun h => by omega, by simp, by simp, by simp, by simp⟩
    · cases hsrc
  | pl u =>
    obtain rfl := hv.pl_eq
    unfold srcAt at hsrc
    split at hsrc
    all_goals first
      | (cases hsrc; done)
      | (rename_i heq; cases heq; done)
      | skip
    rename_i heq
    cases heq
    simp only [Option.some.injEq, Prod.mk.injEq] at hsrc
    obtain ⟨rfl, rfl⟩ := hsrc
    exact ⟨none, 0, [], rfl, fun h => by omega, by simp, by simp, by simp, by simp⟩
  | _ => simp [srcAt] at hsrc

/-- What is behind an append: how many, their cells, whether it is a slice or a text. -/
structure Behind (P : Program) (w : World) (t2 : TypeId) (k m : Nat) (news : List Value) (v2 : Value) : Prop where
  ty : ∃ d2, P.underlying t2 = some d2 ∧ ∀ q, d2 ≠ .int q
  len : ∀ w' : World, (Builtin.lenOf v2).run P w' = .ok m w'
  first : ∀ w' : World, w'.heap = w.heap → (Builtin.firstCells k m v2).run P w' = .ok news.toArray w'
theorem zeros_no {d2 : TypeDesc} (h : ∀ q, d2 ≠ .int q) : (d2 matches .int _) = false := by
  cases d2 <;> first | rfl | exact absurd rfl (h _)
theorem run_append_in {P : Program} {w w' : World} {t t2 ty e : TypeId} {i : TypeInfo} (ht : P.underlying t = some (.slice e)) (hi : P.info? e = some i) (blk o sLen sCap : Nat) (m : Nat) (news : List Value) {v2 : Value}
    (hB : Behind P w t2 i.size m news v2) (hroom : sLen + m ≤ sCap) (hst : (storeCells ⟨blk, o + sLen * i.size, none⟩ news 0).run P w = .ok () w') :
    (Builtin.append_ #[t, t2] ty #[.slice (some ⟨blk, o, none⟩) sLen sCap, v2]).run P w = .ok (.slice (some ⟨blk, o, none⟩) (sLen + m) sCap) w' := by
  obtain ⟨⟨d2, hd2, hn2⟩, hlen, hf⟩ := hB
  have hz := zeros_no hn2
  simp only [Builtin.append_, List.getElem?_toArray, List.getElem?_cons_zero, List.getElem?_cons_succ]
  simp [run_underlying ht, run_underlying hd2, hz, sizeOf, typeInfo, hi, hlen, hroom, hf w rfl, a_add, hst]
theorem run_append_nil0 {P : Program} {w : World} {t t2 ty e : TypeId} {i : TypeInfo} (ht : P.underlying t = some (.slice e)) (hi : P.info? e = some i) (A0 : Option Addr) {v2 : Value}
    (hB : Behind P w t2 i.size 0 [] v2) :
    (Builtin.append_ #[t, t2] ty #[.slice A0 0 0, v2]).run P w = .ok (.slice A0 0 0) w := by
  obtain ⟨⟨d2, hd2, hn2⟩, hlen, hf⟩ := hB
  have hz := zeros_no hn2
  cases A0 <;> simp [Builtin.append_, run_underlying ht, run_underlying hd2, hz, sizeOf, typeInfo, hi, hlen, hf w rfl, storeCells]
theorem run_app_grow {P : Program} (w : World) (t t2 ty e : TypeId) (i : TypeInfo) (z : Value) (ht : P.underlying t = some (.slice e)) (hi : P.info? e = some i) (hz : i.zero = some z)
    (A0 : Option Addr) (sLen sCap : Nat) (olds : List Value) (hold : (Builtin.firstCells i.size sLen (.slice A0 sLen sCap)).run P w.drew = .ok olds.toArray w.drew)
    (n : Nat) (news : List Value) {v2 : Value} (hB : Behind P w t2 i.size n news v2)
    (hg : sCap < sLen + n) (h63 : ((sLen + n : Nat) : Int) ≤ 9223372036854775807) (hfit : Builtin.nextslicecap (sLen + n) sCap * i.bytes ≤ 281474976710656) :
    (Builtin.append_ #[t, t2] ty #[.slice A0 sLen sCap, v2]).run P w =
      .ok (.slice (some ⟨w.heap.size, 0, none⟩) (sLen + n) (grownCap w (sLen + n) sCap e))
        (w.drew.alloc (.cells (olds.toArray ++ news.toArray ++ Builtin.zeroCells z.cells (grownCap w (sLen + n) sCap e - (sLen + n))) e)) := by
  obtain ⟨⟨d2, hd2, hn2⟩, hlen, hf⟩ := hB
  have hz2 := zeros_no hn2
  have hn : ¬ (sLen + n ≤ sCap) := by omega
  have h63' : ¬ (9223372036854775807 < ((sLen : Int) + (n : Int))) := by omega
  have h48' : ¬ (281474976710656 < Builtin.nextslicecap (sLen + n) sCap * i.bytes) := by omega
  simp [Builtin.append_, run_underlying ht, run_underlying hd2, hz2, sizeOf, typeInfo, zeroValue, hi, hz, hlen, hn, h63', h48', Question.forced, hf w.drew rfl, hold, newRow, grownCap]
  congr 2
  apply Array.ext'
  simp [List.append_assoc]
theorem run_append_nilA {P : Program} (w : World) (t t2 ty e : TypeId) (i : TypeInfo) (z : Value) (ht : P.underlying t = some (.slice e)) (hi : P.info? e = some i) (hz : i.zero = some z)
    (A0 : Option Addr) (n : Nat) (news : List Value) {v2 : Value} (hB : Behind P w t2 i.size n news v2)
    (h0 : 0 < n) (h63 : (n : Int) ≤ 9223372036854775807) (h48 : n * i.bytes ≤ 281474976710656) :
    (Builtin.append_ #[t, t2] ty #[.slice A0 0 0, v2]).run P w =
      .ok (.slice (some ⟨w.heap.size, 0, none⟩) n (grownCap w n 0 e)) (w.drew.alloc (.cells (news.toArray ++ Builtin.zeroCells z.cells (grownCap w n 0 e - n)) e)) := by
  have hold : (Builtin.firstCells i.size 0 (.slice A0 0 0)).run P w.drew = .ok ([] : List Value).toArray w.drew := by
    cases A0 with
    | none => simp [Builtin.firstCells]
    | some a0 => exact run_firstCells_some (P := P) w.drew i.size 0 a0 0 0 [] (by simp) (by simp)
  have := run_app_grow (P := P) w t t2 ty e i z ht hi hz A0 0 0 [] hold n news hB (by omega) (by simpa using h63) (by rw [Nat.zero_add, nextslicecap_zero h0]; exact h48)
  simpa using this
theorem run_first {P : Program} {w : World} {A : Option Addr} {m k c : Nat} {news : List Value} (hl : news.length = m * k) (hA : 0 < m → ∃ ad, A = some ad) (h : ∀ ad, A = some ad → ∀ (j : Nat) (u : Value), news[j]? = some u → w.cell? (ad.add j) = some u) :
    (Builtin.firstCells k m (.slice A m c)).run P w = .ok news.toArray w := by
  cases A with
  | none =>
    have : m = 0 := by rcases Nat.eq_zero_or_pos m with h0 | h0; exact h0; obtain ⟨ad, h⟩ := hA h0; cases h
    subst this
    obtain rfl : news = [] := List.eq_nil_of_length_eq_zero (by simpa using hl)
    simp [Builtin.firstCells]
  | some ad => exact run_firstCells_some (P := P) w k m ad m c news hl (h ad rfl)

section
variable {c : Ctx} {s : St} {d : Option Tmp} {ty : TypeId} {pos : String} {af : Array Edge} {g : Option (Nat × Bool)}

theorem append_coreG {t t2 : TypeId} {a : Act} {w : World} {β : Emb} {v1 v2 : Value} {b o n k fz m : Nat} {cs ds : List AV} {ti ei : TI} {e : TypeId} (hs : SatB c s β a w) (ht : tget c.U t = some ti) (htd : ti.desc = .slice e) (he : tget c.U e = some ei) (hk : ei.size = k)
    (hzs : ei.zero.cells.size = k) (hbp : 0 < ei.bytes) (hx : VRel c.F β w (.sl b o n) v1) (hb : hget s.H b = some (.row e k fz cs)) (hin : o + n * k ≤ cs.length) (hfz : fz ≤ o + n * k)
    (hsrc : ∃ news : List Value, Behind c.P w t2 k m news v2 ∧ news.length = m * k ∧ (∀ u ∈ news, u.oneCell' = true) ∧ ∀ (i : Nat) (y : AV), ds[i]? = some y → ∃ u, news[i]? = some u ∧ CRel (off c.F β) w y u) (hds : ds.length = m * k) (hbytes : (n + m) * ei.bytes ≤ 140737488355328) :
    ∃ r w' β', (Builtin.append_ #[t, t2] ty #[v1, v2]).run c.P w = .ok r w' ∧ SatB c ⟨killT b s.T, (b, .row e k (fz - o) ((cs.drop o).take (n * k) ++ ds)) :: killH b s.H, b :: s.M⟩ β' a w' ∧ VRel c.F β' w' (.sl b 0 (n + m)) r := by
  have hu := ty_under ht
  rw [htd] at hu
  obtain ⟨i, hi, hi1, hi2, hi3⟩ := ty_info he
  rw [hk] at hi1
  obtain ⟨news, hB, hnl, hn1, hrel⟩ := hsrc
  have hB' : Behind c.P w t2 i.size m news v2 := by rw [hi1]; exact hB
  obtain ⟨p, hp, hcase⟩ := hx.sl_inv2
  obtain ⟨p', hp', hr⟩ := hs.heap.obj b _ hb
  rw [hp] at hp'; cases hp'
  obtain ⟨hpk, hnil, hr⟩ := hr
  have hlen : ((cs.drop o).take (n * k) ++ ds).length = (n + m) * k := by
    simp only [List.length_append, List.length_take, List.length_drop, hds, Nat.add_mul]
    omega
  have h63 : ((n + m : Nat) : Int) ≤ 9223372036854775807 := by
    have : n + m ≤ (n + m) * ei.bytes := Nat.le_mul_of_pos_right _ hbp
    omega
  -- what the new row says, wherever it lies
  have hO : ∀ {p2 : Place}, (p2.nil = false → (p.nil = false ∧ p2.blk = p.blk) ∨ w.heap.size ≤ p2.blk) → ∀ k', off c.F (upd β b p2) k' → off c.F β k' ∨ w.heap.size ≤ k' := by
    rintro p2 hblk k' (hk' | ⟨j, q, hq, hqn, rfl⟩)
    · exact .inl (.inl hk')
    · rcases upd_some hq with ⟨rfl, rfl⟩ | ⟨_, hq⟩
      · rcases hblk hqn with ⟨h1, h2⟩ | h
        · exact .inl (.inr ⟨b, p, hp, h1, h2.symm⟩)
        · exact .inr h
      · exact .inl (.inr ⟨j, q, hq, hqn, rfl⟩)
  rcases hcase with ⟨hn, cap, hv, hcap, hclim⟩ | ⟨rfl, A0, hv, hA0⟩
  · obtain ⟨cv, fr, hcv, hlim, h5, h6, h7⟩ := hr hn
    by_cases hroom : n + m ≤ cap
    · -- there is room
      have hmk : (n + m) * k ≤ cap * k := Nat.mul_le_mul_right _ hroom
      rw [hpk] at hclim
      have hspace : p.st + o + n * k + m * k ≤ cv.size := by rw [Nat.add_mul] at hmk; omega
      have hst : (storeCells ⟨p.blk, p.st + o + n * i.size, none⟩ news 0).run c.P w = .ok () (w.setCells p.blk (p.st + o + n * k) news) := by
        have ht' := hcv; unfold CellsAt at ht'
        have := run_storeCells_cells (P := c.P) p.blk (p.st + o + n * k) news 0 w (fun j hj => by
            rw [hnl] at hj
            simp [World.cell?, ht']
            omega) (fun j hj => by
            rw [hnl] at hj
            have h7' := h7 (p.st + o + n * k + 0 + j) (by omega)
            obtain ⟨lo, hi⟩ := fr
            simp only [World.frozen?, ht', Bool.and_eq_false_iff, decide_eq_false_iff_not]
            by_cases q : lo ≤ p.st + o + n * k + 0 + j
            · by_cases q2 : p.st + o + n * k + 0 + j < hi
              · have := h7' q q2; omega
              · exact .inr q2
            · exact .inl q) hn1
        simpa [hi1] using this
      have hrun := run_append_in (P := c.P) (ty := ty) hu hi p.blk (p.st + o) n cap m news hB' hroom hst
      have hbut := But.setCells p.blk news (p.st + o + n * k) w
      let p2 : Place := ⟨p.blk, p.st + o, p.lim, k, false⟩
      have hblk : p2.nil = false → (p.nil = false ∧ p2.blk = p.blk) ∨ w.heap.size ≤ p2.blk := fun _ => .inl ⟨hn, rfl⟩
      have hw : ∀ k', k' < w.heap.size → ¬ off c.F β k' → (w.setCells p.blk (p.st + o + n * k) news).heap[k']? = w.heap[k']? := fun k' hk' hno => hbut.block k' hk' (fun e => hno (.inr ⟨b, p, hp, hn, e.symm⟩))
      have hs' := hs.replace (p' := p2) hp hblk ⟨hbut.os, hbut.tape, hbut.output, hbut.size, fun k' hk' hno => hbut.block k' hk' (fun e => hno ⟨hn, e⟩)⟩ (o := .row e k (fz - o) ((cs.drop o).take (n * k) ++ ds)) (by
        have ht' := hcv; unfold CellsAt at ht'
        refine ⟨rfl, (fun h => by cases h), fun _ => ⟨_, fr, heap_setCells _ _ _ _ _ _ _ ht', by rw [wr_size]; exact hlim, by rw [hlen, wr_size, Nat.add_mul]; show p.st + o + _ ≤ _; omega, fun j z hz => ?_, fun o' ho' h1 h2 => ?_⟩⟩
        · rw [wr_get _ _ _ _ (by rw [hnl]; omega), hnl]
          show ∃ v, (if p.st + o + n * k ≤ p.st + o + j ∧ p.st + o + j < p.st + o + n * k + m * k then _ else _) = some v ∧ _
          by_cases hj : j < n * k
          · rw [List.getElem?_append_left (by simp; omega), List.getElem?_take_of_lt hj, List.getElem?_drop] at hz
            obtain ⟨u, hu', hc, h1⟩ := h6 _ z hz
            exact ⟨u, by rw [if_neg (by omega), Nat.add_assoc]; exact hu', hc.mono hbut.size (hO hblk) hw, h1⟩
          · rw [List.getElem?_append_right (by simp; omega)] at hz
            have hlt : ((cs.drop o).take (n * k)).length = n * k := by simp; omega
            rw [hlt] at hz
            obtain ⟨u, hu', hc⟩ := hrel _ z hz
            have hj2 : j - n * k < m * k := by rw [← hds]; exact (List.getElem?_eq_some_iff.1 hz).1
            refine ⟨u, ?_, hc.mono hbut.size (hO hblk) hw, hn1 u (List.mem_of_getElem? hu')⟩
            rw [if_pos (by omega), show p.st + o + j - (p.st + o + n * k) = j - n * k by omega]
            exact hu'
        · rw [wr_size] at ho'
          have := h7 o' ho' h1 h2
          show o' < p.st + o + (fz - o)
          omega)
      rw [hv]
      refine ⟨_, _, upd β b p2, hrun, hs', ?_⟩
      exact .sl (p := p2) (upd_same _ _ _) rfl hroom (by show p.st + o + 0 + cap * k ≤ p.lim; omega)
    · -- it grows
      have hm0 : 0 < m := by omega
      let olds : List Value := (cv.toList.drop (p.st + o)).take (n * k)
      have hol : olds.length = n * k := by simp [olds]; omega
      have hog : ∀ j, j < n * k → olds[j]? = cv[p.st + o + j]? := fun j hj => by
        simp only [olds]
        rw [List.getElem?_take_of_lt hj, List.getElem?_drop]
        simp
      have hfit := growslice_fits (need := n + m) (old := cap) (bytes := ei.bytes) (by omega) hbytes
      have hrun := run_app_grow (P := c.P) w t t2 ty e i ei.zero hu hi hi3 (some ⟨p.blk, p.st + o, none⟩) n cap olds (run_firstCells_some (P := c.P) w.drew i.size n ⟨p.blk, p.st + o, none⟩ n cap olds (by rw [hi1]; exact hol) (fun j v hj => by
          have hjl : j < n * k := by rw [← hol]; exact (List.getElem?_eq_some_iff.1 hj).1
          rw [hog j hjl] at hj
          show w.cell? _ = _
          rw [a_add, cell_of_cells hcv]; exact hj))
        m news hB' (by omega) h63 (by rw [hi2]; exact hfit)
      generalize hgc : grownCap w (n + m) cap e = newCap at hrun
      have hgc' : n + m ≤ newCap := by rw [← hgc]; exact Nat.le_add_right _ _
      generalize harr : olds.toArray ++ news.toArray ++ Builtin.zeroCells ei.zero.cells (newCap - (n + m)) = arr at hrun
      have hsz : arr.size = newCap * k := by
        rw [← harr]
        simp only [Array.size_append, List.size_toArray, hol, hnl, size_zeroCells, hzs]
        rw [Nat.sub_mul, Nat.add_mul]
        have : (n + m) * k ≤ newCap * k := Nat.mul_le_mul_right _ hgc'
        rw [Nat.add_mul] at this
        omega
      let p2 : Place := ⟨w.heap.size, 0, arr.size, k, false⟩
      have hblk : p2.nil = false → (p.nil = false ∧ p2.blk = p.blk) ∨ w.heap.size ≤ p2.blk := fun _ => .inr (Nat.le_refl _)
      have hbl : ∀ k', k' < w.heap.size → (w.drew.alloc (.cells arr e)).heap[k']? = w.heap[k']? := fun k' hk' => RowKit.Below.heap_alloc _ _ _ hk'
      have hsize : w.heap.size ≤ (w.drew.alloc (.cells arr e)).heap.size := by simp
      have hs' := hs.replace (w' := w.drew.alloc (.cells arr e)) (p' := p2) hp hblk ⟨rfl, ⟨rfl, Nat.le_succ _⟩, rfl, hsize, fun k' hk' _ => hbl k' hk'⟩ (o := .row e k (fz - o) ((cs.drop o).take (n * k) ++ ds)) (by
        refine ⟨rfl, (fun h => by cases h), fun _ => ⟨arr, (0, 0), heap_alloc_at w.drew _, rfl, by rw [hlen, hsz]; show 0 + _ ≤ _; have := Nat.mul_le_mul_right k hgc'; omega, fun j z hz => ?_, fun o' ho' h1 h2 => by simp at h2⟩⟩
        show ∃ v, arr[0 + j]? = some v ∧ _
        rw [Nat.zero_add]
        by_cases hj : j < n * k
        · rw [List.getElem?_append_left (by simp; omega), List.getElem?_take_of_lt hj, List.getElem?_drop] at hz
          obtain ⟨u, hu', hc, h1⟩ := h6 _ z hz
          refine ⟨u, ?_, hc.mono hsize (hO hblk) (fun k' hk' _ => hbl k' hk'), h1⟩
          rw [← harr, Array.getElem?_append_left (by simp [hol]; omega), Array.getElem?_append_left (by simp [hol]; omega)]
          simp only [List.getElem?_toArray]
          rw [hog j hj, Nat.add_assoc]; exact hu'
        · rw [List.getElem?_append_right (by simp; omega)] at hz
          have hlt : ((cs.drop o).take (n * k)).length = n * k := by simp; omega
          rw [hlt] at hz
          obtain ⟨u, hu', hc⟩ := hrel _ z hz
          have hj2 : j - n * k < m * k := by rw [← hds]; exact (List.getElem?_eq_some_iff.1 hz).1
          refine ⟨u, ?_, hc.mono hsize (hO hblk) (fun k' hk' _ => hbl k' hk'), hn1 u (List.mem_of_getElem? hu')⟩
          rw [← harr, Array.getElem?_append_left (by simp [hol, hnl]; omega), Array.getElem?_append_right (by simp [hol]; omega)]
          simpa [hol] using hu')
      rw [hv]
      refine ⟨_, _, upd β b p2, hrun, hs', ?_⟩
      exact .sl (p := p2) (upd_same _ _ _) rfl hgc' (by show 0 + 0 + newCap * k ≤ arr.size; omega)
  · -- nil
    by_cases hm0 : m = 0
    · subst hm0
      obtain rfl : ds = [] := List.eq_nil_of_length_eq_zero (by simpa using hds)
      obtain rfl : news = [] := List.eq_nil_of_length_eq_zero (by simpa using hnl)
      have hrun := run_append_nil0 (P := c.P) (w := w) (ty := ty) hu hi A0 hB'
      rw [hv]
      simp only [Nat.zero_mul, List.take_zero, List.append_nil, Nat.add_zero]
      cases hpn : p.nil with
      | true =>
        obtain rfl : A0 = none := by
          cases A0 with
          | none => rfl
          | some ad => have := (hA0 ad rfl).1; rw [hpn] at this; cases this
        have hs' := hs.replace (w' := w) (p' := ⟨0, 0, 0, k, true⟩) hp (fun h => by cases h) ⟨rfl, ⟨rfl, Nat.le_refl _⟩, rfl, Nat.le_refl _, fun _ _ _ => rfl⟩ (o := .row e k (fz - o) []) ⟨rfl, (fun _ => rfl), (fun h => by cases h)⟩
        exact ⟨_, _, upd β b ⟨0, 0, 0, k, true⟩, hrun, hs', .slz (upd_same _ _ _) (fun _ h => by cases h)⟩
      | false =>
        obtain ⟨cv, fr, hcv, hlim, h5, h6, h7⟩ := hr hpn
        let p2 : Place := ⟨p.blk, p.st + o, p.lim, p.k, false⟩
        have hs' := hs.replace (w' := w) (p' := p2) hp (fun _ => .inl ⟨hpn, rfl⟩) ⟨rfl, ⟨rfl, Nat.le_refl _⟩, rfl, Nat.le_refl _, fun _ _ _ => rfl⟩ (o := .row e k (fz - o) []) ⟨hpk, (fun _ => rfl), fun _ => ⟨cv, fr, hcv, hlim, by simp [p2]; omega, fun i x hx => by simp at hx, fun o' ho' h1 h2 => by have := h7 o' ho' h1 h2; show o' < p.st + o + (fz - o); omega⟩⟩
        exact ⟨_, _, upd β b p2, hrun, hs', .slz (upd_same _ _ _) (fun ad h => ⟨rfl, (hA0 ad h).2⟩)⟩
    · have hrun := run_append_nilA (P := c.P) w t t2 ty e i ei.zero hu hi hi3 A0 m news hB' (by omega) (by simpa using h63) (by rw [hi2]; rw [Nat.zero_add] at hbytes; omega)
      generalize hgc : grownCap w m 0 e = newCap at hrun
      have hgc' : m ≤ newCap := by rw [← hgc]; exact Nat.le_add_right _ _
      generalize harr : news.toArray ++ Builtin.zeroCells ei.zero.cells (newCap - m) = arr at hrun
      have hsz : arr.size = newCap * k := by
        rw [← harr]
        simp only [Array.size_append, List.size_toArray, hnl, size_zeroCells, hzs]
        rw [Nat.sub_mul]
        have : m * k ≤ newCap * k := Nat.mul_le_mul_right _ hgc'
        omega
      let p2 : Place := ⟨w.heap.size, 0, arr.size, k, false⟩
      have hblk : p2.nil = false → (p.nil = false ∧ p2.blk = p.blk) ∨ w.heap.size ≤ p2.blk := fun _ => .inr (Nat.le_refl _)
      have hbl : ∀ k', k' < w.heap.size → (w.drew.alloc (.cells arr e)).heap[k']? = w.heap[k']? := fun k' hk' => RowKit.Below.heap_alloc _ _ _ hk'
      have hsize : w.heap.size ≤ (w.drew.alloc (.cells arr e)).heap.size := by simp
      have hs' := hs.replace (w' := w.drew.alloc (.cells arr e)) (p' := p2) hp hblk ⟨rfl, ⟨rfl, Nat.le_succ _⟩, rfl, hsize, fun k' hk' _ => hbl k' hk'⟩ (o := .row e k (fz - o) ds) (by
        refine ⟨rfl, (fun h => by cases h), fun _ => ⟨arr, (0, 0), heap_alloc_at w.drew _, rfl, by rw [hds, hsz]; show 0 + _ ≤ _; have := Nat.mul_le_mul_right k hgc'; omega, fun j z hz => ?_, fun o' ho' h1 h2 => by simp at h2⟩⟩
        show ∃ v, arr[0 + j]? = some v ∧ _
        rw [Nat.zero_add]
        obtain ⟨u, hu', hc⟩ := hrel _ z hz
        have hj2 : j < m * k := by rw [← hds]; exact (List.getElem?_eq_some_iff.1 hz).1
        refine ⟨u, ?_, hc.mono hsize (hO hblk) (fun k' hk' _ => hbl k' hk'), hn1 u (List.mem_of_getElem? hu')⟩
        rw [← harr, Array.getElem?_append_left (by simp [hnl]; omega)]
        simpa using hu')
      rw [hv]
      simp only [Nat.zero_mul, List.take_zero, List.nil_append, Nat.zero_add]
      refine ⟨_, _, upd β b p2, hrun, hs', ?_⟩
      exact (.sl (p := p2) (upd_same _ _ _) rfl hgc' (by show 0 + 0 + newCap * k ≤ arr.size; omega))

theorem append_core {t : TypeId} {a : Act} {w : World} {β : Emb} {v1 v2 : Value} {b o n k fz m : Nat} {cs ds : List AV} {ti ei : TI} {e : TypeId} (hs : SatB c s β a w) (ht : tget c.U t = some ti) (htd : ti.desc = .slice e) (he : tget c.U e = some ei) (hk : ei.size = k)
    (hzs : ei.zero.cells.size = k) (hbp : 0 < ei.bytes) (hx : VRel c.F β w (.sl b o n) v1) (hb : hget s.H b = some (.row e k fz cs)) (hin : o + n * k ≤ cs.length) (hfz : fz ≤ o + n * k)
    (hsrc : ∃ (A : Option Addr) (cap : Nat) (news : List Value), v2 = .slice A m cap ∧ (0 < m → ∃ ad, A = some ad) ∧ news.length = m * k ∧ (∀ ad, A = some ad → ∀ (j : Nat) (u : Value), news[j]? = some u → w.cell? (ad.add j) = some u) ∧
      (∀ u ∈ news, u.oneCell' = true) ∧ ∀ (i : Nat) (y : AV), ds[i]? = some y → ∃ u, news[i]? = some u ∧ CRel (off c.F β) w y u) (hds : ds.length = m * k) (hbytes : (n + m) * ei.bytes ≤ 140737488355328) :
    ∃ r w' β', (Builtin.append_ #[t, t] ty #[v1, v2]).run c.P w = .ok r w' ∧ SatB c ⟨killT b s.T, (b, .row e k (fz - o) ((cs.drop o).take (n * k) ++ ds)) :: killH b s.H, b :: s.M⟩ β' a w' ∧ VRel c.F β' w' (.sl b 0 (n + m)) r := by
  obtain ⟨A, cap2, news, rfl, hA, hnl, hnews, hn1, hrel⟩ := hsrc
  refine append_coreG hs ht htd he hk hzs hbp hx hb hin hfz ⟨news, ⟨⟨_, (ty_under ht).trans (congrArg some htd), fun q h => by cases h⟩, fun w' => by simp [Builtin.lenOf], fun w' hw' => ?_⟩, hnl, hn1, hrel⟩ hds hbytes
  exact run_first hnl hA (fun ad had j u hj => by
    have := hnews ad had j u hj
    rw [show w'.cell? (ad.add j) = w.cell? (ad.add j) by simp only [World.cell?, hw']]; exact this)
/-- A text behind a row of bytes. -/
theorem e_appendS {t t2 : TypeId} {x y : Operand} {b o n fz : Nat} {cs : List AV} {l : ByteArray} {ti ti2 ei : TI} {e : TypeId} (ht : tget c.U t = some ti) (htd : ti.desc = .slice e) (ht2 : tget c.U t2 = some ti2) (ht2d : ti2.desc = .string) (he : tget c.U e = some ei) (hk : ei.size = 1) (hzs : ei.zero.cells.size = 1) (hbp : 0 < ei.bytes)
    (hx : opv s.T x = some (.sl b o n)) (hb : hget s.H b = some (.row e 1 fz cs)) (hin : o + n * 1 ≤ cs.length) (hfz : fz ≤ o + n * 1) (hy : opv s.T y = some (.pl (.string l)))
    (hbytes : (n + l.size) * ei.bytes ≤ 140737488355328) (hd : dstOk c.N d = true) :
    EOp c ⟨d, .call { callee := .builtin .append, args := #[x, y], argTypes := #[t, t2] }, ty, pos, af, g⟩ s ⟨putT (killT b s.T) d (.sl b 0 (n + l.size)), (b, .row e 1 (fz - o) ((cs.drop o).take (n * 1) ++ l.data.toList.map fun u => AV.pl (.int .u8 (u.toNat : Int)))) :: killH b s.H, b :: s.M⟩ := by
  intro a w β hs
  have hv2 : a.eval y = .string l := hs.pl hy
  obtain ⟨r, w', β', hrun, hs', hr⟩ := append_coreG (ty := ty) (t2 := t2) (v2 := .string l) (m := l.size) (ds := l.data.toList.map fun u => AV.pl (.int .u8 (u.toNat : Int))) hs ht htd he hk hzs hbp (hs.op hx) hb hin hfz ⟨l.data.toList.map fun u => Value.int .u8 (u.toNat : Int),
    ⟨⟨_, (ty_under ht2).trans (congrArg some ht2d), fun q h => by cases h⟩, fun w' => by simp [Builtin.lenOf], fun w' _ => by
      have : l.extract 0 l.size = l := by
        apply ByteArray.ext
        simp [ByteArray.data_extract]
      simp only [Builtin.firstCells, this, Sem.run_pure]
      rw [show l.data.toList.map (fun u => Value.int .u8 (u.toNat : Int)) = (l.data.map fun u => Value.int .u8 (u.toNat : Int)).toList by rw [Array.toList_map], Array.toArray_toList]⟩, by rw [List.length_map, Array.length_toList, Nat.mul_one]; rfl, fun u hu => by
      obtain ⟨v, _, rfl⟩ := List.mem_map.1 hu; rfl, fun i y hy => by
      rw [List.getElem?_map, Option.map_eq_some_iff] at hy
      obtain ⟨u, hu, rfl⟩ := hy
      exact ⟨_, by rw [List.getElem?_map, hu]; rfl, .pl _⟩⟩ (by rw [List.length_map, Array.length_toList, Nat.mul_one]; rfl) hbytes
  exact ⟨w', β', .inl ⟨r, by simp [execOp, resolve, invoke, builtin, hv2, hrun], hs'.put hd hr⟩⟩
theorem e_append {t : TypeId} {x y : Operand} {b o n k fz m : Nat} {cs ds : List AV} {ay : AV} {ti ei : TI} {e : TypeId} (ht : tget c.U t = some ti) (htd : ti.desc = .slice e) (he : tget c.U e = some ei) (hk : ei.size = k) (hzs : ei.zero.cells.size = k) (hbp : 0 < ei.bytes)
    (hx : opv s.T x = some (.sl b o n)) (hb : hget s.H b = some (.row e k fz cs)) (hin : o + n * k ≤ cs.length) (hfz : fz ≤ o + n * k) (hy : opv s.T y = some ay) (hsrc : srcAt s.H k ay = some (m, ds)) (hds : ds.length = m * k)
    (hbytes : (n + m) * ei.bytes ≤ 140737488355328) (hd : dstOk c.N d = true) :
    EOp c ⟨d, .call { callee := .builtin .append, args := #[x, y], argTypes := #[t, t] }, ty, pos, af, g⟩ s ⟨putT (killT b s.T) d (.sl b 0 (n + m)), (b, .row e k (fz - o) ((cs.drop o).take (n * k) ++ ds)) :: killH b s.H, b :: s.M⟩ := by
  intro a w β hs
  obtain ⟨r, w', β', hrun, hs', hr⟩ := append_core (ty := ty) hs ht htd he hk hzs hbp (hs.op hx) hb hin hfz (hs.src (hs.op hy) hsrc hds) hds hbytes
  exact ⟨w', β', .inl ⟨r, by simp [execOp, resolve, invoke, builtin, hrun], hs'.put hd hr⟩⟩

/-! ### A slice of one's own, one element -/
end
end Go.Abs
