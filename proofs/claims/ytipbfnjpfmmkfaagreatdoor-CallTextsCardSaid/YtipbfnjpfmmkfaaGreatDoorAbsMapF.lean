/-
  MAPS THAT NOBODY WRITES, as values: a map of one's own is frozen; looks into a frozen one; the nil map. Generic over the program. Conditions: none.
-/
import Derived.Test.YtipbfnjpfmmkfaaGreatDoorAbsMap
set_option linter.unusedVariables false
set_option linter.unusedSimpArgs false
set_option linter.unusedSectionVars false
namespace Go.Abs
open Go Go.RowKit Go.Proofs W
variable [GTab]
def frzM (b : Nat) (ks xs : List AV) : AV → AV
  | .nptr z i o => match Nat.beq i b with | true => .gone | false => .nptr z i o
  | .sl i o n => match Nat.beq i b with | true => .gone | false => .sl i o n
  | .mp i => match Nat.beq i b with | true => .vm ks xs | false => .mp i
  | .it i => match Nat.beq i b with | true => .gone | false => .it i
  | x => x
theorem Sat.frzM {c : Ctx} {T : List (Nat × AV)} {H : List (Nat × AObj)} {M : List Nat} {a : Act} {w : World} (h : Sat c ⟨T, H, M⟩ a w) {b : Nat} {es : List (AV × AV)} (hb : hget H b = some (.map es)) :
    Sat c ⟨mapT (Abs.frzM b (es.map (·.1)) (es.map (·.2))) T, mapH (Abs.frzM b (es.map (·.1)) (es.map (·.2))) (hdel H b), b :: M⟩ a w := by
  obtain ⟨β, hs⟩ := h
  obtain ⟨p0, hp0, hro⟩ := hs.heap.obj b _ hb
  let β' : Emb := fun i => if b = i then none else β i
  have hβ' : ∀ i q, β' i = some q → b ≠ i ∧ β i = some q := fun i q hq => by
    by_cases e : b = i
    · simp [β', e] at hq
    · simp only [β', if_neg e] at hq; exact ⟨e, hq⟩
  have hβ : ∀ i q, i ≠ b → β i = some q → β' i = some q := fun i q hi hq => by show (if b = i then none else β i) = some q; rw [if_neg (Ne.symm hi)]; exact hq
  have hO : ∀ k, off c.F β' k → off c.F β k ∨ w.heap.size ≤ k := fun k hk => .inl (hk.imp id (own_mono fun i p hp => (hβ' i p hp).2))
  have hw : ∀ k, k < w.heap.size → ¬ off c.F β k → w.heap[k]? = w.heap[k]? := fun _ _ _ => rfl
  obtain ⟨hn, ms, ck, hheap, hlen, hent, hdist⟩ := hro
  have hoff : ¬ off c.F β' p0.blk := by
    rintro (hF | ⟨j, q, hq, hqn, hqb⟩)
    · exact hs.heap.apart b p0 hp0 hn hF
    · obtain ⟨h1, h2⟩ := hβ' j q hq
      exact h1 (hs.heap.inj b j p0 q hp0 h2 hn hqn hqb.symm)
  have hvm : CRel (off c.F β') w (.vm (es.map (·.1)) (es.map (·.2))) (.map (some p0.blk)) := by
    have hget : ∀ {i : Nat} {e : MapEntry}, ms[i]? = some e → ∃ x, es[i]? = some x := fun {i e} he => by
      have : i < es.length := by rw [hlen]; exact (Array.getElem?_eq_some_iff.1 he).1
      exact ⟨_, List.getElem?_eq_getElem this⟩
    refine .vm ms ck hheap hoff (hs.heap.blk_lt hp0 hn) (by simpa using hlen) (by simpa using hlen) (fun i e he => ?_) hdist (fun i x e hx he => ?_) (fun i x e hx he => ?_)
    · obtain ⟨x, hx⟩ := hget he
      exact (hent i x e hx he).2.2
    · rw [List.getElem?_map, Option.map_eq_some_iff] at hx
      obtain ⟨y, hy, rfl⟩ := hx
      exact (hent i y e hy he).1.mono (Nat.le_refl _) hO hw
    · rw [List.getElem?_map, Option.map_eq_some_iff] at hx
      obtain ⟨y, hy, rfl⟩ := hx
      exact (hent i y e hy he).2.1.mono (Nat.le_refl _) hO hw
  have hleaf : ∀ x v, x.leaf = true → VRel c.F β w x v → VRel c.F β' w (Abs.frzM b (es.map (·.1)) (es.map (·.2)) x) v := by
    intro x v hx hv
    cases hv with
    | @ptr i o p hp hn =>
      simp only [Abs.frzM]; split
      · exact .gone
      · rename_i e; exact .ptr (hβ _ _ (Nat.ne_of_beq_eq_false e) hp) hn
    | @pnil i o =>
      simp only [Abs.frzM]; split
      · exact .gone
      · exact .pnil
    | @sl i o n cap p hp hn hcap hl =>
      simp only [Abs.frzM]; split
      · exact .gone
      · rename_i e; exact .sl (hβ _ _ (Nat.ne_of_beq_eq_false e) hp) hn hcap hl
    | @slz i o a p hp ha =>
      simp only [Abs.frzM]; split
      · exact .gone
      · rename_i e; exact .slz (hβ _ _ (Nat.ne_of_beq_eq_false e) hp) ha
    | @mp i p hp hn =>
      simp only [Abs.frzM]; split
      · rename_i e; obtain rfl := Nat.eq_of_beq_eq_true e
        rw [hp0] at hp; cases hp
        exact .c hvm
      · rename_i e; exact .mp (hβ _ _ (Nat.ne_of_beq_eq_false e) hp) hn
    | @it i p hp hn =>
      simp only [Abs.frzM]; split
      · exact .gone
      · rename_i e; exact .it (hβ _ _ (Nat.ne_of_beq_eq_false e) hp) hn
    | c h => cases h <;> cases hx
    | agg => cases hx
    | tup => cases hx
    | fn => cases hx
    | ifc => cases hx
    | anyp => cases hx
    | junk => cases hx
    | gone => cases hx
  refine ⟨β', hs.defers, hs.size, ⟨fun i ob hg => ?_, fun i q hq => ?_, fun i j q r hq hr => hs.heap.inj i j q r (hβ' i q hq).2 (hβ' j r hr).2, hs.heap.fresh, fun i q hq => hs.heap.apart i q (hβ' i q hq).2, hs.heap.glob.mono (Nat.le_refl _) hO hw⟩, fun i x hx => ?_, ?_, fun i q hq hm => ?_⟩
  · rw [hget_mapH, hget_hdel] at hg
    by_cases e : b = i
    · rw [if_pos e] at hg; cases hg
    · rw [if_neg e, Option.map_eq_some_iff] at hg
      obtain ⟨ob, ho, rfl⟩ := hg
      obtain ⟨q, hq, hr⟩ := hs.heap.obj i ob ho
      exact ⟨q, hβ i q (Ne.symm e) hq, hr.mapN (Nat.le_refl _) hO hw hleaf (fun _ => rfl)⟩
  · obtain ⟨ob, ho⟩ := hs.heap.dom i q (hβ' i q hq).2
    exact ⟨_, by rw [hget_mapH, hget_hdel, if_neg (hβ' i q hq).1, ho]; rfl⟩
  · rw [get_mapT, Option.map_eq_some_iff] at hx
    obtain ⟨y, hy, rfl⟩ := hx
    obtain ⟨u, hu, hr⟩ := hs.slot i y hy
    exact ⟨u, hu, hr.mapN (Nat.le_refl _) hO hw hleaf⟩
  · exact ⟨hs.keeps.os, hs.keeps.tape, hs.keeps.output, hs.keeps.size, hs.keeps.block, fun k hk => hs.keeps.grows k (own_mono (fun i p hp => (hβ' i p hp).2) hk)⟩
  · rw [mem_cons, Bool.or_eq_false_iff, decide_eq_false_iff_not] at hm
    exact hβ i q (Ne.symm hm.1) (hs.stay i q hq hm.2)
section
variable {c : Ctx} {s : St} {Q : Exit → Act → World → Prop} {T : List (Nat × AV)} {H : List (Nat × AObj)} {M : List Nat} {code : Code} {ops : Array Oper} {rest : List Oper} {hot : List Nat} {l : Plan} {i : Nat} {d : Tmp} {ty : TypeId} {pos : String} {af : Array Edge} {e : Exit} {g : Option (Nat × Bool)} {d' : Option Tmp}
theorem MP_fst {κ ν : Type} {kv : κ → Value} {ev : ν → AV} (m : List (κ × ν)) : (MP kv ev m).map (·.1) = m.map fun x => AV.pl (kv x.1) := by simp [MP, List.map_map, Function.comp_def]
theorem MP_snd {κ ν : Type} {kv : κ → Value} {ev : ν → AV} (m : List (κ × ν)) : (MP kv ev m).map (·.2) = m.map fun x => ev x.2 := by simp [MP, List.map_map, Function.comp_def]
/-- What a frozen map of m is put for. -/
abbrev frzV {κ ν : Type} (b : Nat) (kv : κ → Value) (ev : ν → AV) (m : List (κ × ν)) : AV → AV := frzM b (m.map fun x => .pl (kv x.1)) (m.map fun x => ev x.2)
theorem Sat.frzV {κ ν : Type} {kv : κ → Value} {ev : ν → AV} {m : List (κ × ν)} {a : Act} {w : World} (h : Sat c ⟨T, H, M⟩ a w) {b : Nat} (hb : hget H b = some (.map (MP kv ev m))) : Sat c ⟨mapT (Abs.frzV b kv ev m) T, mapH (Abs.frzV b kv ev m) (hdel H b), b :: M⟩ a w := by
  have := h.frzM hb
  rw [MP_fst, MP_snd] at this
  exact this
theorem f_frzm {κ ν : Type} {kv : κ → Value} {ev : ν → AV} {m : List (κ × ν)} (b : Nat) (h : Fin c Q e ⟨mapT (frzV b kv ev m) T, mapH (frzV b kv ev m) (hdel H b), b :: M⟩) (hb : hget H b = some (.map (MP kv ev m)) := by exact rfl) : Fin c Q e ⟨T, H, M⟩ := fun a w hs => h a w (hs.frzV hb)
/-- A frozen map of m. -/
abbrev vM {κ ν : Type} (kv : κ → Value) (ev : ν → AV) (m : List (κ × ν)) : AV := .vm (m.map fun x => .pl (kv x.1)) (m.map fun x => ev x.2)
section
variable {κ ν : Type} [DecidableEq κ] {kd : TypeDesc} {kv : κ → Value} {ev : ν → AV}
def vgetR : Bool → AV → Bool → AV
  | true, x, b => .tup [x, .pl (.bool b)]
  | false, x, _ => x
theorem q_lookupG (ok : Bool) (K : KeyK κ kd kv) {t kt et : TypeId} {x y : Operand} {b : Nat} {m : List (κ × ν)} {k : κ} {z : ν} {ti ki ei : TI} (ht : tget c.U t = some ti) (htd : ti.desc = .map kt et) (hkt : tget c.U kt = some ki) (hkd : ki.desc = kd) (het : tget c.U et = some ei)
    (hx : opv s.T x = some (.mp b)) (hb : hget s.H b = some (.map (m.map fun x => (AV.pl (kv x.1), ev x.2)))) (hy : opv s.T y = some (.pl (kv k))) (hz : ofVal ei.zero = ev z) :
    QOp c ⟨d', .lookup t x y ok, ty, pos, af, g⟩ s (vgetR ok (ev ((mget m k).getD z)) (mget m k).isSome) := by
  intro a w β hs
  have hu : c.P.underlying t = some (.map kt et) := (ty_under ht).trans (congrArg some htd)
  have huk : c.P.underlying kt = some kd := (ty_under hkt).trans (congrArg some hkd)
  obtain ⟨i, hi, hi1, hi2, hi3⟩ := ty_info het
  obtain ⟨p, hp, hn, hv⟩ := (hs.op hx).mp_inv
  obtain ⟨p', hp', hr⟩ := hs.heap.obj b _ hb
  rw [hp] at hp'; cases hp'
  obtain ⟨_, ms, ck, hheap, hlen, hent, _⟩ := hr
  have hlt : p.blk < w.heap.size := (Array.getElem?_eq_some_iff.1 hheap).1
  have hkeys := ent_keys hlen hent
  have tupR : ∀ {u : Value} {q : Bool}, VRel c.F β w (ev ((mget m k).getD z)) u → (mget m k).isSome = q → VRel c.F β w (vgetR ok (ev ((mget m k).getD z)) (mget m k).isSome) (if ok then .tuple #[u, .bool q] else u) := fun {u q} hu hq => by
    cases ok with
    | false => exact hu
    | true =>
    refine .tup rfl fun i y v hy hv => ?_
    match i, hy, hv with
    | 0, hy, hv => simp at hy hv; subst hy hv; exact hu
    | 1, hy, hv => simp at hy hv; subst hy hv; rw [hq]; exact .c (.pl _)
    | i + 2, hy, hv => simp at hy
  rcases findNow_eq K k m ms.toList 0 hkeys with ⟨j, e, h1, h2, ⟨v, h3, h4⟩, _⟩ | ⟨h1, h2, _⟩
  · refine ⟨if ok then .tuple #[e.val, .bool true] else e.val, tupR ?_ (by rw [h4]; rfl), fun w' hbl => ?_⟩
    · rw [h4]
      exact .c (hent j (AV.pl (kv k), ev v) e (by rw [List.getElem?_map, h3]; rfl) (by simpa using h2)).2.1
    · have hw' : w'.heap[p.blk]? = some (.map ms ck) := by rw [hbl.block p.blk hlt]; exact hheap
      simp [execOp, Instr.lookup, hv, hs.pl hy, run_underlying hu, run_getMap hw', K.check _ _ _ huk, Instr.findKey, run_underlying huk, h1, Result.andThen]
  · refine ⟨if ok then .tuple #[ei.zero, .bool false] else ei.zero, tupR ?_ (by rw [h2]; rfl), fun w' hbl => ?_⟩
    · rw [h2]
      show VRel c.F β w (ev z) ei.zero
      rw [← hz]
      exact .c (CRel.ofVal _ _ _)
    · have hw' : w'.heap[p.blk]? = some (.map ms ck) := by rw [hbl.block p.blk hlt]; exact hheap
      simp [execOp, Instr.lookup, hv, hs.pl hy, run_underlying hu, run_getMap hw', K.check _ _ _ huk, Instr.findKey, run_underlying huk, h1, zeroValue, typeInfo, hi, hi3, Result.andThen]
theorem n_mget (K : KeyK κ kd kv) {m : List (κ × ν)} {k : κ} (z : ν) {t kt et : TypeId} {x y : Operand} {b : Nat} {ti ki ei : TI} (hn : RunM c ops hot Q l ⟨(d, .tup [ev ((mget m k).getD z), B (mget m k).isSome]) :: T, H, M⟩) (ht : tget c.U t = some ti := by exact rfl) (htd : ti.desc = .map kt et := by exact rfl) (hkt : tget c.U kt = some ki := by exact rfl) (hkd : ki.desc = kd := by exact rfl) (het : tget c.U et = some ei := by exact rfl)
    (hx : opv T x = some (.mp b) := by exact rfl) (hb : hget H b = some (.map (MP kv ev m)) := by exact rfl) (hy : opv T y = some (.pl (kv k)) := by exact rfl) (hz : ofVal ei.zero = ev z := by exact rfl) (hdo : dstOk c.N (some d) = true := by exact rfl) :
    RunN c ops hot Q i false ⟨some d, .lookup t x y true, ty, pos, af, none⟩ l ⟨T, H, M⟩ := RunN_q (s := ⟨T, H, M⟩) (q_lookupG true K ht htd hkt hkd het hx hb hy hz) rfl hdo hn
end
end
end Go.Abs
