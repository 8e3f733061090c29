/-
  MAPS OF ONE'S OWN, under keys that are texts or whole numbers, as operations over abstract states. Generic over the program. Conditions: none.
-/
import Derived.Test.YtipbfnjpfmmkfaaGreatDoorAbsDeep
import Derived.Test.YtipbfnjpfmmkfaaGreatDoorAbsPureC
import Derived.MapKept
set_option linter.unusedVariables false
set_option linter.unusedSimpArgs false
set_option linter.unusedSectionVars false
namespace Go.Abs
open Go Go.RowKit Go.Proofs W
variable [GTab]
/-- Keys: how they lie, and that the model's look tells them apart. -/
structure KeyK (κ : Type) [DecidableEq κ] (kd : TypeDesc) (kv : κ → Value) : Prop where
  same : ∀ a b, Instr.sameNow kd (kv a) (kv b) = some (decide (a = b))
  bits : ∀ a, Instr.sameBits 10000 (kv a) (kv a) = true
  one : ∀ a, (kv a).oneCell' = true
  check : ∀ {P : Program} {t : TypeId} (e : Bool) (a : κ) (w : World), P.underlying t = some kd → (Instr.checkKey e 10000 t (kv a)).run P w = .ok () w
theorem keyS : KeyK Str .string (fun s => .string ⟨s.toArray⟩) where
  same a b := by
    have e : ((⟨a.toArray⟩ : ByteArray) == ⟨b.toArray⟩) = (a.toArray == b.toArray) := rfl
    show some ((⟨a.toArray⟩ : ByteArray) == ⟨b.toArray⟩) = _
    rw [e]
    congr 1
    by_cases h : a = b
    · subst h; simp
    · rw [decide_eq_false h, beq_eq_false_iff_ne]
      intro e
      exact h (by simpa using congrArg Array.toList e)
  bits a := by
    have e : ((⟨a.toArray⟩ : ByteArray) == ⟨a.toArray⟩) = (a.toArray == a.toArray) := rfl
    show ((⟨a.toArray⟩ : ByteArray) == ⟨a.toArray⟩) = true
    rw [e]; simp
  one a := rfl
  check e a w h := MapKept.run_checkKey (n := 9999) h (by simp [MapKept.IsKey]) e
theorem keyI (k : IntKind) : KeyK Int (.int k) (fun n => .int k n) where
  same a b := by
    simp only [Instr.sameNow, if_true]
    congr 1
  bits a := by simp [Instr.sameBits]
  one a := rfl
  check e a w h := MapKept.run_checkKey (n := 9999) h (by simp [MapKept.IsKey]) e
section
variable {κ ν : Type} [DecidableEq κ] {kd : TypeDesc} {kv : κ → Value}
theorem findNow_eq (K : KeyK κ kd kv) (k : κ) : ∀ (m : List (κ × ν)) (es : List MapEntry) (i : Nat), es.map (·.key) = m.map (fun x => kv x.1) →
    (∃ j e, Instr.findNow kd (kv k) es i = some (some (i + j, e.val)) ∧ es[j]? = some e ∧ (∃ v, m[j]? = some (k, v) ∧ mget m k = some v) ∧ ∀ v', mput m k v' = m.set j (k, v')) ∨
    (Instr.findNow kd (kv k) es i = some none ∧ mget m k = none ∧ ∀ v', mput m k v' = m ++ [(k, v')])
  | [], [], i, _ => .inr ⟨rfl, rfl, fun _ => rfl⟩
  | [], e :: es, i, h => by simp at h
  | x :: m, [], i, h => by simp at h
  | (a, x) :: m, e :: es, i, h => by
    simp only [List.map_cons, List.cons.injEq] at h
    have hs := K.same k a
    rw [← h.1] at hs
    by_cases hk : k = a
    · subst hk
      rw [decide_eq_true rfl] at hs
      refine .inl ⟨0, e, ?_, rfl, ⟨x, rfl, by simp [mget]⟩, fun v' => by simp [mput]⟩
      simp only [Instr.findNow, hs, Nat.add_zero]
    · rw [decide_eq_false hk] at hs
      rcases findNow_eq K k m es (i + 1) h.2 with ⟨j, e', h1, h2, ⟨v, h3, h4⟩, h5⟩ | ⟨h1, h2, h3⟩
      · refine .inl ⟨j + 1, e', ?_, h2, ⟨v, h3, by simp [mget, hk, h4]⟩, fun v' => by simp [mput, hk, h5]⟩
        simp only [Instr.findNow, hs, h1]
        congr 3; omega
      · refine .inr ⟨?_, by simp [mget, hk, h2], fun v' => by simp [mput, hk, h3]⟩
        simp only [Instr.findNow, hs, h1]
end
section
variable {c : Ctx} {s : St} {d : Option Tmp} {ty : TypeId} {pos : String} {af : Array Edge} {g : Option (Nat × Bool)}
theorem CRel.pl_eq {O : Nat → Prop} {w : World} {u v : Value} (h : CRel O w (.pl u) v) : v = u := by
  generalize hx : AV.pl u = x at h
  cases h <;> cases hx
  rfl
theorem VRel.mp_inv {F : Nat → Prop} {β : Emb} {w : World} {v : Value} {b : Nat} (h : VRel F β w (.mp b) v) : ∃ p, β b = some p ∧ p.nil = false ∧ v = .map (some p.blk) := by
  cases h with
  | mp hp hn => exact ⟨_, hp, hn, rfl⟩
  | c h => cases h
theorem run_getMap {P : Program} {w : World} {r : Nat} {ms : Array MapEntry} {ck : Nat} (h : w.heap[r]? = some (.map ms ck)) : (getObj r).run P w = .ok (.map ms ck) w := by simp only [getObj, Sem.run, h]
theorem run_setMap {P : Program} {w : World} {r : Nat} {ms : Array MapEntry} {ck : Nat} {o : Obj} (h : w.heap[r]? = some (.map ms ck)) : (setObj r o).run P w = .ok () { w with heap := w.heap.setIfInBounds r o } := by simp only [setObj, Sem.run, h]
theorem e_makeMap {t : TypeId} {r : Option Operand} (hr : r = none) (hb : hget s.H (nm d) = none) (hd : dstOk c.N d = true) :
    EOpB c ⟨d, .makeMap t r, ty, pos, af, g⟩ s ⟨putT s.T d (.mp (nm d)), (nm d, .map []) :: s.H, s.M⟩ := by
  subst hr
  intro a w β hs
  let p : Place := ⟨w.heap.size, 0, 0, 0, false⟩
  have hs' := hs.newobj (w' := w.alloc (.map #[] 0)) hb p (.inr trivial) (fun _ => ⟨Nat.le_refl _, by simp [p]⟩) (But.alloc _ _) (o := .map [])
    ⟨rfl, #[], 0, heap_alloc_at w _, rfl, fun i x e hx => by simp at hx, fun i j e e' h => by simp at h⟩
  refine ⟨_, _, below_alloc _ _, .map (some w.heap.size), ?_, hs'.put hd (.mp (p := p) (by simp [upd]) rfl)⟩
  simp [execOp, Instr.makeMap]
theorem ent_keys {κ ν : Type} {kv : κ → Value} {ev : ν → AV} {O : Nat → Prop} {w : World} {m : List (κ × ν)} {ms : Array MapEntry} {ck : Nat} (hl : (m.map fun x => (AV.pl (kv x.1), ev x.2)).length = ms.size)
    (h : ∀ (i : Nat) (x : AV × AV) (e : MapEntry), (m.map fun x => (AV.pl (kv x.1), ev x.2))[i]? = some x → ms[i]? = some e → CRel O w x.1 e.key ∧ CRel O w x.2 e.val ∧ e.born < ck) : ms.toList.map (·.key) = m.map fun x => kv x.1 := by
  apply List.ext_getElem?
  intro i
  rw [List.getElem?_map, List.getElem?_map, Array.getElem?_toList]
  by_cases hi : i < m.length
  · have hi2 : i < ms.size := by rw [← hl]; simpa using hi
    rw [List.getElem?_eq_getElem hi, Array.getElem?_eq_getElem hi2]
    have := (h i (AV.pl (kv m[i].1), ev m[i].2) ms[i] (by simp [hi]) (Array.getElem?_eq_getElem hi2)).1
    simp only [Option.map_some]
    rw [CRel.pl_eq this]
  · rw [List.getElem?_eq_none (by omega), Array.getElem?_eq_none (by rw [← hl]; simpa using hi)]; rfl
section
variable {κ ν : Type} [DecidableEq κ] {kd : TypeDesc} {kv : κ → Value} {ev : ν → AV}
theorem q_lookup_ok (K : KeyK κ kd kv) {t kt et : TypeId} {x y : Operand} {b : Nat} {m : List (κ × ν)} {k : κ} {z : ν} {ti ki ei : TI} (ht : tget c.U t = some ti) (htd : ti.desc = .map kt et) (hkt : tget c.U kt = some ki) (hkd : ki.desc = kd) (het : tget c.U et = some ei)
    (hx : opv s.T x = some (.mp b)) (hb : hget s.H b = some (.map (m.map fun x => (AV.pl (kv x.1), ev x.2)))) (hy : opv s.T y = some (.pl (kv k))) (hz : ofVal ei.zero = ev z) :
    QOp c ⟨d, .lookup t x y true, ty, pos, af, g⟩ s (.tup [ev ((mget m k).getD z), .pl (.bool (mget m k).isSome)]) := by
  intro a w β hs
  have hu : c.P.underlying t = some (.map kt et) := (ty_under ht).trans (congrArg some htd)
  have huk : c.P.underlying kt = some kd := (ty_under hkt).trans (congrArg some hkd)
  obtain ⟨i, hi, hi1, hi2, hi3⟩ := ty_info het
  obtain ⟨p, hp, hn, hv⟩ := (hs.op hx).mp_inv
  obtain ⟨p', hp', hr⟩ := hs.heap.obj b _ hb
  rw [hp] at hp'; cases hp'
  obtain ⟨_, ms, ck, hheap, hlen, hent, _⟩ := hr
  have hlt : p.blk < w.heap.size := (Array.getElem?_eq_some_iff.1 hheap).1
  have hkeys := ent_keys hlen hent
  have tupR : ∀ {u : Value} {q : Bool}, VRel c.F β w (ev ((mget m k).getD z)) u → (mget m k).isSome = q → VRel c.F β w (.tup [ev ((mget m k).getD z), .pl (.bool (mget m k).isSome)]) (.tuple #[u, .bool q]) := fun {u q} hu hq => by
    refine .tup rfl fun i y v hy hv => ?_
    match i, hy, hv with
    | 0, hy, hv => simp at hy hv; subst hy hv; exact hu
    | 1, hy, hv => simp at hy hv; subst hy hv; rw [hq]; exact .c (.pl _)
    | i + 2, hy, hv => simp at hy
  rcases findNow_eq K k m ms.toList 0 hkeys with ⟨j, e, h1, h2, ⟨v, h3, h4⟩, _⟩ | ⟨h1, h2, _⟩
  · refine ⟨.tuple #[e.val, .bool true], tupR ?_ (by rw [h4]; rfl), fun w' hbl => ?_⟩
    · rw [h4]
      exact .c (hent j (AV.pl (kv k), ev v) e (by rw [List.getElem?_map, h3]; rfl) (by simpa using h2)).2.1
    · have hw' : w'.heap[p.blk]? = some (.map ms ck) := by rw [hbl.block p.blk hlt]; exact hheap
      simp [execOp, Instr.lookup, hv, hs.pl hy, run_underlying hu, run_getMap hw', K.check _ _ _ huk, Instr.findKey, run_underlying huk, h1, Result.andThen]
  · refine ⟨.tuple #[ei.zero, .bool false], tupR ?_ (by rw [h2]; rfl), fun w' hbl => ?_⟩
    · rw [h2]
      show VRel c.F β w (ev z) ei.zero
      rw [← hz]
      exact .c (CRel.ofVal _ _ _)
    · have hw' : w'.heap[p.blk]? = some (.map ms ck) := by rw [hbl.block p.blk hlt]; exact hheap
      simp [execOp, Instr.lookup, hv, hs.pl hy, run_underlying hu, run_getMap hw', K.check _ _ _ huk, Instr.findKey, run_underlying huk, h1, zeroValue, typeInfo, hi, hi3, Result.andThen]
theorem map_put (K : KeyK κ kd kv) {t kt et : TypeId} {a : Act} {w : World} {β : Emb} {v1 v2 v3 : Value} {b : Nat} {m : List (κ × ν)} {k : κ} {v : ν} {ti ki : TI} (hs : SatB c s β a w) (ht : tget c.U t = some ti) (htd : ti.desc = .map kt et) (hkt : tget c.U kt = some ki) (hkd : ki.desc = kd)
    (hx : VRel c.F β w (.mp b) v1) (hb : hget s.H b = some (.map (m.map fun x => (AV.pl (kv x.1), ev x.2)))) (hy : v2 = kv k) (hv3 : CRel (off c.F β) w (ev v) v3) :
    ∃ w', (Instr.mapUpdate t v1 v2 v3).run c.P w = .ok () w' ∧ SatB c ⟨s.T, hset s.H b (.map ((mput m k v).map fun x => (AV.pl (kv x.1), ev x.2))), s.M⟩ β a w' := by
  subst hy
  have hu : c.P.underlying t = some (.map kt et) := (ty_under ht).trans (congrArg some htd)
  have huk : c.P.underlying kt = some kd := (ty_under hkt).trans (congrArg some hkd)
  obtain ⟨p, hp, hn, rfl⟩ := hx.mp_inv
  obtain ⟨p', hp', hr⟩ := hs.heap.obj b _ hb
  rw [hp] at hp'; cases hp'
  obtain ⟨_, ms, ck, hheap, hlen, hent, hborn⟩ := hr
  have hlt : p.blk < w.heap.size := (Array.getElem?_eq_some_iff.1 hheap).1
  have hkeys := ent_keys hlen hent
  have hlen' : m.length = ms.size := by simpa using hlen
  have hO : ∀ b, off c.F β b → off c.F β b ∨ w.heap.size ≤ b := fun _ h => .inl h
  rcases findNow_eq K k m ms.toList 0 hkeys with ⟨j, e, h1, h2, ⟨v0, h3, h4⟩, h5⟩ | ⟨h1, h2, h5⟩
  · have hj : j < ms.size := by
      have := (List.getElem?_eq_some_iff.1 h2).1; simpa using this
    have hek : e.key = kv k := CRel.pl_eq (hent j (AV.pl (kv k), ev v0) e (by rw [List.getElem?_map, h3]; rfl) (by simpa using h2)).1
    have hbut := But.setObj w p.blk (.map (ms.modify j fun e => { e with key := kv k, val := v3 }) ck)
    have hw : ∀ q, q < w.heap.size → ¬ off c.F β q → ({ w with heap := w.heap.setIfInBounds p.blk (.map (ms.modify j fun e => { e with key := kv k, val := v3 }) ck) } : World).heap[q]? = w.heap[q]? := fun q hq hno => hbut.block q hq (fun e => hno (.inr ⟨b, p, hp, hn, e.symm⟩))
    refine ⟨_, ?_, hs.setobj hp hn hbut (o := .map ((mput m k v).map fun x => (AV.pl (kv x.1), ev x.2))) ⟨hn, ms.modify j fun e => { e with key := kv k, val := v3 }, ck, by simp [hlt], by rw [h5]; simpa using hlen', fun i x e' hx he' => ?_, fun i i' e1 e2 h1' h2' hb' => ?_⟩⟩
    · have hge : ms[j]? = some e := by simpa using h2
      simp [Instr.mapUpdate, run_underlying hu, run_getMap hheap, K.check _ _ _ huk, Instr.findKey, run_underlying huk, h1, hge, hek, Instr.keyThatStays, K.bits, run_setMap hheap, Result.andThen]
    · rw [h5, List.getElem?_map] at hx
      rw [Array.getElem?_modify] at he'
      by_cases hij : j = i
      · subst hij
        rw [List.getElem?_set_self (by omega)] at hx
        simp only [Option.map_some, Option.some.injEq] at hx
        subst hx
        have hge : ms[j]? = some e := by simpa using h2
        rw [if_pos rfl, hge] at he'
        simp only [Option.map_some, Option.some.injEq] at he'
        subst he'
        exact ⟨.pl _, hv3.mono hbut.size hO hw, (hent j (AV.pl (kv k), ev v0) e (by rw [List.getElem?_map, h3]; rfl) hge).2.2⟩
      · rw [List.getElem?_set_ne hij] at hx
        rw [if_neg hij] at he'
        obtain ⟨q1, q2, q3⟩ := hent i x e' (by rw [List.getElem?_map]; exact hx) he'
        exact ⟨q1.mono hbut.size hO hw, q2.mono hbut.size hO hw, q3⟩
    · have key : ∀ {i : Nat} {e' : MapEntry}, (ms.modify j fun e => { e with key := kv k, val := v3 })[i]? = some e' → ∃ e0, ms[i]? = some e0 ∧ e0.born = e'.born := fun {i e'} h => by
        rw [Array.getElem?_modify] at h
        by_cases hij : j = i
        · rw [if_pos hij] at h
          obtain ⟨e0, h0, rfl⟩ := Option.map_eq_some_iff.1 h
          exact ⟨e0, h0, rfl⟩
        · rw [if_neg hij] at h; exact ⟨e', h, rfl⟩
      obtain ⟨a1, b1, c1⟩ := key h1'
      obtain ⟨a2, b2, c2⟩ := key h2'
      exact hborn i i' a1 a2 b1 b2 (by rw [c1, c2]; exact hb')
  · have hbut := But.setObj w p.blk (.map (ms.push { key := kv k, val := v3, born := ck }) (ck + 1))
    have hw : ∀ q, q < w.heap.size → ¬ off c.F β q → ({ w with heap := w.heap.setIfInBounds p.blk (.map (ms.push { key := kv k, val := v3, born := ck }) (ck + 1)) } : World).heap[q]? = w.heap[q]? := fun q hq hno => hbut.block q hq (fun e => hno (.inr ⟨b, p, hp, hn, e.symm⟩))
    have hbn : ∀ {i : Nat} {e' : MapEntry}, ms[i]? = some e' → e'.born < ck := fun {i e'} h => by
      have hi : i < m.length := by rw [hlen']; exact (Array.getElem?_eq_some_iff.1 h).1
      exact (hent i (AV.pl (kv m[i].1), ev m[i].2) e' (by simp [hi]) h).2.2
    refine ⟨_, ?_, hs.setobj hp hn hbut (o := .map ((mput m k v).map fun x => (AV.pl (kv x.1), ev x.2))) ⟨hn, ms.push { key := kv k, val := v3, born := ck }, ck + 1, by simp [hlt], by rw [h5]; simp [hlen'], fun i x e' hx he' => ?_, fun i i' e1 e2 h1' h2' hb' => ?_⟩⟩
    · simp [Instr.mapUpdate, run_underlying hu, run_getMap hheap, K.check _ _ _ huk, Instr.findKey, run_underlying huk, h1, run_setMap hheap, Result.andThen]
    · rw [h5, List.getElem?_map] at hx
      rw [Array.getElem?_push] at he'
      by_cases hi : i = ms.size
      · rw [if_pos hi] at he'
        simp only [Option.some.injEq] at he'
        subst he'
        rw [List.getElem?_append_right (by omega), show i - m.length = 0 by omega] at hx
        simp at hx
        subst hx
        exact ⟨.pl _, hv3.mono hbut.size hO hw, Nat.lt_succ_self _⟩
      · rw [if_neg hi] at he'
        have hlt2 : i < ms.size := (Array.getElem?_eq_some_iff.1 he').1
        rw [List.getElem?_append_left (by omega)] at hx
        obtain ⟨q1, q2, q3⟩ := hent i x e' (by rw [List.getElem?_map]; exact hx) he'
        exact ⟨q1.mono hbut.size hO hw, q2.mono hbut.size hO hw, Nat.lt_succ_of_lt q3⟩
    · rw [Array.getElem?_push] at h1' h2'
      by_cases hi : i = ms.size <;> by_cases hi' : i' = ms.size
      · omega
      · rw [if_pos hi] at h1'; rw [if_neg hi'] at h2'
        cases h1'
        have := hbn h2'
        simp only at hb'; omega
      · rw [if_neg hi] at h1'; rw [if_pos hi'] at h2'
        cases h2'
        have := hbn h1'
        simp only at hb'; omega
      · rw [if_neg hi] at h1'; rw [if_neg hi'] at h2'
        exact hborn i i' e1 e2 h1' h2' hb'
theorem e_mapUpdate (K : KeyK κ kd kv) {t kt et : TypeId} {x y z : Operand} {b : Nat} {m : List (κ × ν)} {k : κ} {v : ν} {ti ki : TI} (op : Op) (hop : op = .mapUpdate t x y z ∨ op = .insert t x y z) (ht : tget c.U t = some ti) (htd : ti.desc = .map kt et) (hkt : tget c.U kt = some ki) (hkd : ki.desc = kd)
    (hx : opv s.T x = some (.mp b)) (hb : hget s.H b = some (.map (m.map fun x => (AV.pl (kv x.1), ev x.2)))) (hy : opv s.T y = some (.pl (kv k))) (hz : opv s.T z = some (ev v)) (hcl : (ev v).closed = true) (hd : d = none) :
    EOp c ⟨d, op, ty, pos, af, g⟩ s ⟨s.T, hset s.H b (.map ((mput m k v).map fun x => (AV.pl (kv x.1), ev x.2))), s.M⟩ := by
  subst hd
  intro a w β hs
  have hv3 : CRel (off c.F β) w (ev v) (a.eval z) := (hs.op hz).closed hcl
  obtain ⟨w', h1, h2⟩ := map_put K hs ht htd hkt hkd (hs.op hx) hb (hs.pl hy) hv3
  rcases hop with rfl | rfl
  · exact ⟨w', β, .inr ⟨by simp [execOp, h1, Result.andThen], h2⟩⟩
  · exact ⟨w', β, .inr ⟨by simp [execOp, h1, Result.andThen], h2⟩⟩
end
end
/-! ### The steps -/
abbrev kS : Str → Value := fun s => .string ⟨s.toArray⟩
abbrev kI (k : IntKind) : Int → Value := fun n => .int k n
abbrev MP {κ ν : Type} (kv : κ → Value) (ev : ν → AV) (m : List (κ × ν)) : List (AV × AV) := m.map fun x => (AV.pl (kv x.1), ev x.2)
section
variable {c : Ctx} {Q : Exit → Act → World → Prop} {T : List (Nat × AV)} {H : List (Nat × AObj)} {M : List Nat} {ops : Array Oper} {rest : List Oper} {d : Tmp} {ty : TypeId} {pos : String} {af : Array Edge}
theorem l_mmake {t : TypeId} (hn : RunL c ops Q rest ⟨(d, .mp (nm (some d))) :: T, (nm (some d), .map []) :: H, M⟩) (hb : hget H (nm (some d)) = none := by exact rfl) (hdo : dstOk c.N (some d) = true := by exact rfl) :
    RunL c ops Q (⟨some d, .makeMap t none, ty, pos, af, none⟩ :: rest) ⟨T, H, M⟩ := RunL_e (s := ⟨T, H, M⟩) (e_makeMap rfl hb hdo).e rfl hn
theorem l_mget {κ ν : Type} [DecidableEq κ] {kd : TypeDesc} {kv : κ → Value} (K : KeyK κ kd kv) {ev : ν → AV} {m : List (κ × ν)} {k : κ} (z : ν) {t kt et : TypeId} {x y : Operand} {b : Nat} {ti ki ei : TI} (hn : RunL c ops Q rest ⟨(d, .tup [ev ((mget m k).getD z), B (mget m k).isSome]) :: T, H, M⟩) (ht : tget c.U t = some ti := by exact rfl) (htd : ti.desc = .map kt et := by exact rfl) (hkt : tget c.U kt = some ki := by exact rfl) (hkd : ki.desc = kd := by exact rfl) (het : tget c.U et = some ei := by exact rfl)
    (hx : opv T x = some (.mp b) := by exact rfl) (hb : hget H b = some (.map (MP kv ev m)) := by exact rfl) (hy : opv T y = some (.pl (kv k)) := by exact rfl) (hz : ofVal ei.zero = ev z := by exact rfl) (hdo : dstOk c.N (some d) = true := by exact rfl) :
    RunL c ops Q (⟨some d, .lookup t x y true, ty, pos, af, none⟩ :: rest) ⟨T, H, M⟩ := RunL_q (s := ⟨T, H, M⟩) (q_lookup_ok K ht htd hkt hkd het hx hb hy hz) rfl hdo hn
theorem l_mput {κ ν : Type} [DecidableEq κ] {kd : TypeDesc} {kv : κ → Value} (K : KeyK κ kd kv) {ev : ν → AV} {m : List (κ × ν)} {k : κ} (v : ν) {t kt et : TypeId} {x y z : Operand} {b : Nat} {ti ki : TI} (hn : RunL c ops Q rest ⟨T, hset H b (.map (MP kv ev (mput m k v))), M⟩) (ht : tget c.U t = some ti := by exact rfl) (htd : ti.desc = .map kt et := by exact rfl) (hkt : tget c.U kt = some ki := by exact rfl) (hkd : ki.desc = kd := by exact rfl)
    (hx : opv T x = some (.mp b) := by exact rfl) (hb : hget H b = some (.map (MP kv ev m)) := by exact rfl) (hy : opv T y = some (.pl (kv k)) := by exact rfl) (hz : opv T z = some (ev v) := by exact rfl) (hcl : (ev v).closed = true := by exact rfl) :
    RunL c ops Q (⟨none, .insert t x y z, ty, pos, af, none⟩ :: rest) ⟨T, H, M⟩ := RunL_e (s := ⟨T, H, M⟩) (e_mapUpdate K _ (.inr rfl) ht htd hkt hkd hx hb hy hz hcl rfl) rfl hn
theorem l_mupd {κ ν : Type} [DecidableEq κ] {kd : TypeDesc} {kv : κ → Value} (K : KeyK κ kd kv) {ev : ν → AV} {m : List (κ × ν)} {k : κ} (v : ν) {t kt et : TypeId} {x y z : Operand} {b : Nat} {ti ki : TI} (hn : RunL c ops Q rest ⟨T, hset H b (.map (MP kv ev (mput m k v))), M⟩) (ht : tget c.U t = some ti := by exact rfl) (htd : ti.desc = .map kt et := by exact rfl) (hkt : tget c.U kt = some ki := by exact rfl) (hkd : ki.desc = kd := by exact rfl)
    (hx : opv T x = some (.mp b) := by exact rfl) (hb : hget H b = some (.map (MP kv ev m)) := by exact rfl) (hy : opv T y = some (.pl (kv k)) := by exact rfl) (hz : opv T z = some (ev v) := by exact rfl) (hcl : (ev v).closed = true := by exact rfl) :
    RunL c ops Q (⟨none, .mapUpdate t x y z, ty, pos, af, none⟩ :: rest) ⟨T, H, M⟩ := RunL_e (s := ⟨T, H, M⟩) (e_mapUpdate K _ (.inl rfl) ht htd hkt hkd hx hb hy hz hcl rfl) rfl hn
end
end Go.Abs
