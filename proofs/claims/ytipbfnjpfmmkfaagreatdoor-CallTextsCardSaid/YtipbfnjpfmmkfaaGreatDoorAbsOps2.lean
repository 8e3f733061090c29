/-
  MORE OPERATIONS: lengths, pieces, conversions, what is built; calls in a region of open order; calls that are given owned objects. Generic over the program. Conditions: none.
-/
import Derived.Test.YtipbfnjpfmmkfaaGreatDoorAbsRow2
set_option linter.unusedVariables false
set_option linter.unusedSimpArgs false
set_option linter.unusedSectionVars false
namespace Go.Abs
open Go
variable [GTab]

section
variable {c : Ctx} {s : St} {d : Option Tmp} {ty : TypeId} {pos : String} {af : Array Edge} {g : Option (Nat × Bool)}

theorem q_builtin {b : Builtin} {xs : List Operand} {argTs : Array TypeId} {r : AV} (h : ∀ a w β, SatB c s β a w → ∃ v, VRel c.F β w r v ∧ ∀ w', RowKit.Below w.heap.size w w' → (builtin b argTs ty (xs.toArray.map fun | .const _ => true | _ => false) (xs.toArray.map a.eval)).run c.P w' = .ok (.value v) w') :
    QOp c ⟨d, .call { callee := .builtin b, args := xs.toArray, argTypes := argTs }, ty, pos, af, g⟩ s r := by
  intro a w β hs
  obtain ⟨v, hv, hr⟩ := h a w β hs
  refine ⟨v, hv, fun w' hb => ?_⟩
  have := hr w' hb
  simp only [execOp, resolve, Sem.run_bind, Sem.run_pure, Result.andThen_ok, invoke]
  exact this

def lenA : AV → Option Nat
  | .vs n _ => some n
  | .sl _ _ n => some n
  | .pl (.slice _ n _) => some n
  | _ => none
theorem VRel.len {F : Nat → Prop} {β : Emb} {w : World} {x : AV} {v : Value} {n : Nat} (h : VRel F β w x v) (hn : lenA x = some n) : ∃ A c, v = .slice A n c := by
  cases x with
  | vs m cs => cases hn; obtain ⟨A, c, rfl, _⟩ := h.vs_inv; exact ⟨A, c, rfl⟩
  | sl b o m =>
    cases hn
    obtain ⟨p, _, ⟨_, c, rfl, _⟩ | ⟨rfl, _, rfl⟩⟩ := h.sl_inv
    · exact ⟨_, c, rfl⟩
    · exact ⟨_, _, rfl⟩
  | pl u =>
    obtain rfl := h.pl_eq
    unfold lenA at hn
    split at hn
    all_goals first
      | (cases hn; done)
      | (rename_i heq; cases heq; done)
      | skip
    rename_i heq
    cases heq
    cases hn
    exact ⟨_, _, rfl⟩
  | _ => cases hn

theorem q_len {t : TypeId} {x : Operand} {ax : AV} {n : Nat} {ti : TI} {e : TypeId} (ht : tget c.U t = some ti) (htd : ti.desc = .slice e) (hx : opv s.T x = some ax) (hn : lenA ax = some n) :
    QOp c ⟨d, .call { callee := .builtin .len, args := #[x], argTypes := #[t] }, ty, pos, af, g⟩ s (.pl (.int .i64 (n : Int))) := by
  refine q_builtin (xs := [x]) fun a w β hs => ⟨_, .c (.pl _), fun w' _ => ?_⟩
  have hu := ty_under ht
  rw [htd] at hu
  obtain ⟨A, cap, hv⟩ := (hs.op hx).len hn
  simp [builtin, Builtin.len_, run_underlying hu, hv, goInt]
theorem q_len_str {t : TypeId} {x : Operand} {b : ByteArray} {ti : TI} (ht : tget c.U t = some ti) (htd : ti.desc = .string) (hx : opv s.T x = some (.pl (.string b))) :
    QOp c ⟨d, .call { callee := .builtin .len, args := #[x], argTypes := #[t] }, ty, pos, af, g⟩ s (.pl (.int .i64 (b.size : Int))) := by
  refine q_builtin (xs := [x]) fun a w β hs => ⟨_, .c (.pl _), fun w' _ => ?_⟩
  have hu := ty_under ht
  rw [htd] at hu
  simp [builtin, Builtin.len_, run_underlying hu, hs.pl hx, goInt]

/-! ### Strings: a byte, a piece -/
theorem q_index_str {t : TypeId} {x y : Operand} {b : ByteArray} {k : IntKind} {i : Nat} {ti : TI} (ht : tget c.U t = some ti) (htd : ti.desc = .string) (hx : opv s.T x = some (.pl (.string b))) (hy : opv s.T y = some (.pl (.int k (i : Int)))) (hi : i < b.size) :
    QOp c ⟨d, .index t x y, ty, pos, af, g⟩ s (.pl (.int .u8 ((b[i]'hi).toNat : Int))) := by
  intro a w β hs
  have hu := ty_under ht
  rw [htd] at hu
  refine ⟨_, .c (.pl _), fun w' _ => ?_⟩
  simp [execOp, Instr.index, asIntOf, run_underlying hu, hs.pl hx, hs.pl hy, hi]

/-- A bound of a piece: a number, or what stands for none. -/
def bnd (T : List (Nat × AV)) (dflt : Int) : Option Operand → Option Int
  | none => some dflt
  | some o => match opv T o with
    | some (.pl (.int _ i)) => some i
    | _ => none
theorem run_bnd {P : Program} {w : World} {c : Ctx} {s : St} {β : Emb} {a : Act} {w0 : World} (hs : SatB c s β a w0) {dflt i : Int} {o : Option Operand} (h : bnd s.T dflt o = some i) :
    (o = none ∧ i = dflt) ∨ ∃ q k, o = some q ∧ a.eval q = .int k i := by
  cases o with
  | none => cases h; exact .inl ⟨rfl, rfl⟩
  | some q =>
    simp only [bnd] at h
    split at h
    · rename_i k j hq
      cases h
      exact .inr ⟨q, k, rfl, hs.pl hq⟩
    · cases h

theorem run_sliceBounds {P : Program} {w : World} {isS : Bool} {len cap : Nat} {lo hi : Option Value} {l h : Nat} (hlo : (lo = none ∧ l = 0) ∨ ∃ k, lo = some (.int k (l : Int))) (hhi : (hi = none ∧ h = len) ∨ ∃ k, hi = some (.int k (h : Int))) (hl : l ≤ h) (hc : h ≤ cap) :
    (Instr.sliceBounds isS len cap lo hi none).run P w = .ok (l, h, cap) w := by
  have hh : ((match hi, (none : Option Value) with
    | some v, some _ => Instr.sliceBound v cap .slice3B
    | some v, none => Instr.sliceBound v cap (if isS then .sliceAcap else .sliceAlen)
    | none, none => pure len
    | none, some _ => stuck "Slice: max without high") : Sem Nat).run P w = .ok h w := by
    rcases hhi with ⟨rfl, rfl⟩ | ⟨k, rfl⟩
    · rfl
    · simp [Instr.sliceBound, asIntOf, hc]
  have hll : ((match lo with
    | some v => Instr.sliceBound v h .sliceB
    | none => pure 0) : Sem Nat).run P w = .ok l w := by
    rcases hlo with ⟨rfl, rfl⟩ | ⟨k, rfl⟩
    · rfl
    · simp [Instr.sliceBound, asIntOf, hl]
  rcases hlo with ⟨rfl, rfl⟩ | ⟨k, rfl⟩ <;> rcases hhi with ⟨rfl, rfl⟩ | ⟨k', rfl⟩ <;> simp [Instr.sliceBounds, Instr.sliceBound, asIntOf, hc, hl]

theorem s_slice_str {t : TypeId} {x : Operand} {lo hi : Option Operand} {b : ByteArray} {l h : Nat} {ti : TI} (ht : tget c.U t = some ti) (htd : ti.desc = .string) (hx : opv s.T x = some (.pl (.string b)))
    (hlo : bnd s.T 0 lo = some (l : Int)) (hhi : bnd s.T (b.size : Int) hi = some (h : Int)) (hl : l ≤ h) (hh : h ≤ b.size) : QOpS c ⟨d, .slice t x lo hi none, ty, pos, af, g⟩ s (.pl (.string (b.extract l h))) := by
  intro a w β hs
  have hu := ty_under ht
  rw [htd] at hu
  refine ⟨_, .c (.pl _), fun w' => ?_⟩
  have h1 : (lo.map a.eval = none ∧ l = 0) ∨ ∃ k, lo.map a.eval = some (.int k (l : Int)) := by
    rcases run_bnd (P := c.P) (w := w) hs hlo with ⟨rfl, h0⟩ | ⟨q, k, rfl, hq⟩
    · exact .inl ⟨rfl, by omega⟩
    · exact .inr ⟨k, by simp [hq]⟩
  have h2 : (hi.map a.eval = none ∧ h = b.size) ∨ ∃ k, hi.map a.eval = some (.int k (h : Int)) := by
    rcases run_bnd (P := c.P) (w := w) hs hhi with ⟨rfl, h0⟩ | ⟨q, k, rfl, hq⟩
    · exact .inl ⟨rfl, by omega⟩
    · exact .inr ⟨k, by simp [hq]⟩
  simp [execOp, Instr.sliceAt, Instr.slice, run_underlying hu, hs.pl hx, run_sliceBounds h1 h2 hl hh]
theorem q_slice_str {t : TypeId} {x : Operand} {lo hi : Option Operand} {b : ByteArray} {l h : Nat} {ti : TI} (ht : tget c.U t = some ti) (htd : ti.desc = .string) (hx : opv s.T x = some (.pl (.string b)))
    (hlo : bnd s.T 0 lo = some (l : Int)) (hhi : bnd s.T (b.size : Int) hi = some (h : Int)) (hl : l ≤ h) (hh : h ≤ b.size) : QOp c ⟨d, .slice t x lo hi none, ty, pos, af, g⟩ s (.pl (.string (b.extract l h))) := (s_slice_str ht htd hx hlo hhi hl hh).later

theorem s_slice_vs {t : TypeId} {x : Operand} {lo hi : Option Operand} {n : Nat} {cs ds : List AV} {l h : Nat} {ti ei : TI} {e : TypeId} (ht : tget c.U t = some ti) (htd : ti.desc = .slice e) (he : tget c.U e = some ei) (hx : opv s.T x = some (.vs n cs))
    (hlo : bnd s.T 0 lo = some (l : Int)) (hhi : bnd s.T (n : Int) hi = some (h : Int)) (hl : l ≤ h) (hh : h ≤ n) (hds : (cs.drop (l * ei.size)).take ((h - l) * ei.size) = ds) : QOpS c ⟨d, .slice t x lo hi none, ty, pos, af, g⟩ s (.vs (h - l) ds) := by
  intro a w β hs
  have hu := ty_under ht
  rw [htd] at hu
  have h1 : (lo.map a.eval = none ∧ l = 0) ∨ ∃ k, lo.map a.eval = some (.int k (l : Int)) := by
    rcases run_bnd (P := c.P) (w := w) hs hlo with ⟨rfl, h0⟩ | ⟨q, k, rfl, hq⟩
    · exact .inl ⟨rfl, by omega⟩
    · exact .inr ⟨k, by simp [hq]⟩
  have h2 : (hi.map a.eval = none ∧ h = n) ∨ ∃ k, hi.map a.eval = some (.int k (h : Int)) := by
    rcases run_bnd (P := c.P) (w := w) hs hhi with ⟨rfl, h0⟩ | ⟨q, k, rfl, hq⟩
    · exact .inl ⟨rfl, by omega⟩
    · exact .inr ⟨k, by simp [hq]⟩
  obtain ⟨A, cap, hv, hcap, hmem⟩ := (hs.op hx).vs_inv
  have hrun : ∀ w', (execOp a.eval ⟨d, .slice t x lo hi none, ty, pos, af, g⟩).run c.P w' = .ok (.value (.slice (if cap = l then A else A.map (·.add (l * ei.size))) (h - l) (cap - l))) w' := fun w' => by
    simp [execOp, Instr.sliceAt, Instr.slice, run_underlying hu, hv, run_sliceBounds h1 h2 hl (Nat.le_trans hh hcap), ty_size he]
  refine ⟨_, .c ?_, fun w' => hrun w'⟩
  have hdl : ∀ (i : Nat) (y : AV), ds[i]? = some y → i < (h - l) * ei.size ∧ cs[l * ei.size + i]? = some y := fun i y hy => by
    subst hds
    have hi := (List.getElem?_eq_some_iff.1 hy).1
    simp at hi
    rw [List.getElem?_take_of_lt (by omega), List.getElem?_drop] at hy
    exact ⟨by omega, hy⟩
  by_cases hhl : h = l
  · subst hhl
    have : ds = [] := by subst hds; simp
    subst this
    rw [Nat.sub_self]
    exact .vs0
  · have hne : cap ≠ l := by omega
    rw [if_neg hne]
    rcases hmem with h0 | ⟨blk, o, rfl, ho, hb, hm⟩
    · omega
    · simp only [Option.map_some, a_add]
      refine VRel.vs_mk (by omega) ho hb fun i y hy => ?_
      rw [Nat.add_assoc]
      exact hm _ y (hdl i y hy).2
theorem q_slice_vs {t : TypeId} {x : Operand} {lo hi : Option Operand} {n : Nat} {cs ds : List AV} {l h : Nat} {ti ei : TI} {e : TypeId} (ht : tget c.U t = some ti) (htd : ti.desc = .slice e) (he : tget c.U e = some ei) (hx : opv s.T x = some (.vs n cs))
    (hlo : bnd s.T 0 lo = some (l : Int)) (hhi : bnd s.T (n : Int) hi = some (h : Int)) (hl : l ≤ h) (hh : h ≤ n) (hds : (cs.drop (l * ei.size)).take ((h - l) * ei.size) = ds) : QOp c ⟨d, .slice t x lo hi none, ty, pos, af, g⟩ s (.vs (h - l) ds) := (s_slice_vs ht htd he hx hlo hhi hl hh hds).later

theorem s_slice_part {te : TypeId} {t : TypeId} {x : Operand} {lo hi : Option Operand} {b o n l h o' : Nat} {k fz : Nat} {cs : List AV} {ti ei : TI} {e : TypeId} (ht : tget c.U t = some ti) (htd : ti.desc = .slice e) (he : tget c.U e = some ei) (hx : opv s.T x = some (.sl b o n))
    (hb : hget s.H b = some (.row te k fz cs)) (hk : ei.size = k)
    (hlo : bnd s.T 0 lo = some (l : Int)) (hhi : bnd s.T (n : Int) hi = some (h : Int)) (hl : l ≤ h) (hh : h ≤ n) (ho' : o + l * k = o') : QOpS c ⟨d, .slice t x lo hi none, ty, pos, af, g⟩ s (.sl b o' (h - l)) := by
  intro a w β hs
  have hu := ty_under ht
  rw [htd] at hu
  have h1 : (lo.map a.eval = none ∧ l = 0) ∨ ∃ k, lo.map a.eval = some (.int k (l : Int)) := by
    rcases run_bnd (P := c.P) (w := w) hs hlo with ⟨rfl, h0⟩ | ⟨q, k, rfl, hq⟩
    · exact .inl ⟨rfl, by omega⟩
    · exact .inr ⟨k, by simp [hq]⟩
  have h2 : (hi.map a.eval = none ∧ h = n) ∨ ∃ k, hi.map a.eval = some (.int k (h : Int)) := by
    rcases run_bnd (P := c.P) (w := w) hs hhi with ⟨rfl, h0⟩ | ⟨q, k, rfl, hq⟩
    · exact .inl ⟨rfl, by omega⟩
    · exact .inr ⟨k, by simp [hq]⟩
  obtain ⟨p, hp, hcase⟩ := (hs.op hx).sl_inv2
  obtain ⟨p', hp', hr⟩ := hs.heap.obj b _ hb
  rw [hp] at hp'; cases hp'
  obtain ⟨hpk, _, _⟩ := hr
  have hrun : ∀ A cap, a.eval x = .slice A n cap → n ≤ cap → ∀ w', (execOp a.eval ⟨d, .slice t x lo hi none, ty, pos, af, g⟩).run c.P w' = .ok (.value (.slice (if cap = l then A else A.map (·.add (l * ei.size))) (h - l) (cap - l))) w' := fun A cap hv hcap w' => by
    simp [execOp, Instr.sliceAt, Instr.slice, run_underlying hu, hv, run_sliceBounds h1 h2 hl (Nat.le_trans hh hcap), ty_size he]
  subst ho'
  rcases hcase with ⟨hn, cap, hv, hcap, hlim⟩ | ⟨rfl, A0, hv, hA0⟩
  · refine ⟨_, ?_, fun w' => hrun _ _ hv hcap w'⟩
    by_cases hc0 : cap = l
    · have : h = l := by omega
      subst this
      subst hc0
      rw [if_pos rfl, Nat.sub_self]
      exact .slz hp (fun ad h => by cases h; exact ⟨hn, rfl⟩)
    · rw [if_neg hc0, hk]
      simp only [Option.map_some, a_add, Nat.add_assoc]
      refine .sl hp hn (by omega) ?_
      have : (cap - l) * p.k + l * k = cap * p.k := by rw [hpk, ← Nat.add_mul]; congr 1; omega
      omega
  · have hl0 : l = 0 := by omega
    have hh0 : h = 0 := by omega
    subst hl0; subst hh0
    refine ⟨_, ?_, fun w' => hrun _ _ hv (Nat.le_refl _) w'⟩
    exact VRel.slz hp hA0
theorem q_slice_part {te : TypeId} {t : TypeId} {x : Operand} {lo hi : Option Operand} {b o n l h o' : Nat} {k fz : Nat} {cs : List AV} {ti ei : TI} {e : TypeId} (ht : tget c.U t = some ti) (htd : ti.desc = .slice e) (he : tget c.U e = some ei) (hx : opv s.T x = some (.sl b o n))
    (hb : hget s.H b = some (.row te k fz cs)) (hk : ei.size = k)
    (hlo : bnd s.T 0 lo = some (l : Int)) (hhi : bnd s.T (n : Int) hi = some (h : Int)) (hl : l ≤ h) (hh : h ≤ n) (ho' : o + l * k = o') : QOp c ⟨d, .slice t x lo hi none, ty, pos, af, g⟩ s (.sl b o' (h - l)) := (s_slice_part ht htd he hx hb hk hlo hhi hl hh ho').later
/-! ### What is built without memory -/
theorem q_makeFunc {f : Fn} {first cap : Array Operand} {l1 l2 : List AV} (h1 : opvL s.T first.toList = some l1) (h2 : opvL s.T cap.toList = some l2) : QOp c ⟨d, .makeFunc f first cap, ty, pos, af, g⟩ s (.fn f l1 l2) := by
  intro a w β hs
  obtain ⟨n1, q1⟩ := opvL_get hs h1
  obtain ⟨n2, q2⟩ := opvL_get hs h2
  refine ⟨.func f (first.map a.eval) (cap.map a.eval), .fn (by simpa using n1) (fun i x v hx hv => q1 i x v hx (by simpa using hv)) (by simpa using n2) (fun i x v hx hv => q2 i x v hx (by simpa using hv)), fun w' _ => rfl⟩
/-- Where the parts of a struct come to lie. -/
def fillA (pl : Nat → Option (Nat × Nat)) : List AV → List (Nat × AV) → Option (List AV)
  | cs, [] => some cs
  | cs, (i, x) :: r => match pl i with
    | none => none
    | some (o, n) => match Nat.beq (cellsA x).length n with
      | false => none
      | true => match fit x with
        | false => none
        | true => match Nat.ble (o + n) cs.length with
          | false => none
          | true => fillA pl (updL cs o (cellsA x)) r
def partsA (T : List (Nat × AV)) : List (Nat × Operand) → Option (List (Nat × AV))
  | [] => some []
  | (i, x) :: r => match opv T x with
    | none => none
    | some ax => match partsA T r with
      | none => none
      | some l => some ((i, ax) :: l)
def placeOf (U : List (Nat × TI)) (fs : Array Field) (i : Nat) : Option (Nat × Nat) :=
  match fs[i]? with
  | none => none
  | some f => match tget U f.type with
    | none => none
    | some ti => some (f.offset, ti.size)

def fsOk (U : List (Nat × TI)) : List Field → Bool
  | [] => true
  | f :: r => (tget U f.type).isSome && fsOk U r
theorem fsOk_get {U : List (Nat × TI)} : ∀ {l : List Field}, fsOk U l = true → ∀ f ∈ l, (tget U f.type).isSome = true
  | [], _, f, hf => by simp at hf
  | x :: r, h, f, hf => by
    simp only [fsOk, Bool.and_eq_true] at h
    rcases List.mem_cons.1 hf with rfl | hf
    · exact h.1
    · exact fsOk_get h.2 f hf

theorem fillA_spec {F : Nat → Prop} {β : Emb} {w : World} {pl : Nat → Option (Nat × Nat)} {pl' : Nat → Option (Nat × Nat)} (hpl : ∀ i q, pl i = some q → pl' i = some q) : ∀ {ps : List (Nat × AV)} {vs : List (Nat × Value)} {cs ds : List AV} {cv : Array Value},
    ps.length = vs.length → (∀ (i : Nat) (p : Nat × AV) (v : Nat × Value), ps[i]? = some p → vs[i]? = some v → p.1 = v.1 ∧ VRel F β w p.2 v.2) → fillA pl cs ps = some ds → cs.length = cv.size → (∀ (i : Nat) (x : AV) (v : Value), cs[i]? = some x → cv[i]? = some v → VRel F β w x v) →
    ∃ dv, Instr.fill pl' cv vs = some dv ∧ ds.length = dv.size ∧ ∀ (i : Nat) (x : AV) (v : Value), ds[i]? = some x → dv[i]? = some v → VRel F β w x v
  | [], [], cs, ds, cv, _, _, h, hl, hr => by cases h; exact ⟨cv, rfl, hl, hr⟩
  | [], v :: r, _, _, _, hlen, _, _, _, _ => by simp at hlen
  | p :: r, [], _, _, _, hlen, _, _, _, _ => by simp at hlen
  | (i, x) :: r, (j, v) :: vr, cs, ds, cv, hlen, hp, h, hl, hr => by
    obtain ⟨rfl, hx⟩ := hp 0 (i, x) (j, v) rfl rfl
    simp only at hx
    simp only [fillA] at h
    split at h
    · cases h
    rename_i o n hpi
    split at h
    · cases h
    rename_i hb
    split at h
    · cases h
    rename_i hf
    split at h
    · cases h
    rename_i hle
    have hn := Nat.eq_of_beq_eq_true hb
    have hle := Nat.le_of_ble_eq_true hle
    obtain ⟨hc1, hc2⟩ := hx.cells hf
    have hcv : ¬ (v.cells.size ≠ n ∨ o + v.cells.size > cv.size) := by omega
    have hstep : v.cells.zipIdx.foldl (fun cs (x : Value × Nat) => cs.setIfInBounds (o + x.2) x.1) cv = wr cv o v.cells.toList := by
      rw [← Array.foldl_toList, Array.toList_zipIdx, foldl_wr]; rfl
    obtain ⟨dv, h1, h2, h3⟩ := fillA_spec hpl (cv := wr cv o v.cells.toList) (ps := r) (vs := vr) (by simpa using hlen) (fun k p u hk hu => hp (k + 1) p u (by simpa using hk) (by simpa using hu)) h
      (by rw [wr_size, updL_length (by omega)]; exact hl) (fun k y u hy hu => by
        rw [updL_get (by omega)] at hy
        rw [wr_get _ _ _ _ (by simp; omega)] at hu
        simp only [Array.length_toList] at hu
        by_cases hk : o ≤ k ∧ k < o + (cellsA x).length
        · rw [if_pos hk] at hy
          rw [if_pos (by omega)] at hu
          obtain ⟨u', hu', hr', _⟩ := hc2 _ y hy
          simp at hu
          rw [hu] at hu'; cases hu'; exact hr'
        · rw [if_neg hk] at hy
          rw [if_neg (by omega)] at hu
          exact hr k y u hy hu)
    refine ⟨dv, ?_, h2, h3⟩
    simp only [Instr.fill, hpl i _ hpi]
    rw [if_neg (by simpa using hcv)]
    exact (congrArg (fun c' => Instr.fill pl' c' vr) hstep).trans h1

theorem partsA_spec {a : Act} {w : World} {β : Emb} (hs : SatB c s β a w) : ∀ {ps : List (Nat × Operand)} {l : List (Nat × AV)}, partsA s.T ps = some l → l.length = (ps.map fun (i, x) => (i, a.eval x)).length ∧
    ∀ (i : Nat) (p : Nat × AV) (v : Nat × Value), l[i]? = some p → (ps.map fun (i, x) => (i, a.eval x))[i]? = some v → p.1 = v.1 ∧ VRel c.F β w p.2 v.2
  | [], l, h => by cases h; exact ⟨rfl, by simp⟩
  | (j, x) :: r, l, h => by
    simp only [partsA] at h
    split at h
    · cases h
    rename_i ax hax
    split at h
    · cases h
    rename_i l1 h1
    cases h
    obtain ⟨hl, hall⟩ := partsA_spec hs h1
    refine ⟨by simpa using hl, fun i p v hp hv => ?_⟩
    cases i with
    | zero => simp at hp hv; subst hp; subst hv; exact ⟨rfl, hs.op hax⟩
    | succ i => exact hall i p v (by simpa using hp) (by simpa using hv)

theorem q_build {t : TypeId} {parts : Array (Nat × Operand)} {ps : List (Nat × AV)} {zs ds : List AV} {ti : TI} {fs : Array Field} (ht : tget c.U t = some ti) (htd : ti.desc = .struct fs) (hfs : fsOk c.U fs.toList = true) (hz : cellsA (ofVal ti.zero) = zs) (hzf : fit (ofVal ti.zero) = true)
    (hps : partsA s.T parts.toList = some ps) (hfill : fillA (placeOf c.U fs) zs ps = some ds) : QOp c ⟨d, .build t parts, ty, pos, af, g⟩ s (.agg ds) := by
  intro a w β hs
  have hu := ty_under ht
  rw [htd] at hu
  obtain ⟨hpl, hpr⟩ := partsA_spec hs hps
  have hz0 : VRel c.F β w (ofVal ti.zero) ti.zero := .c (CRel.ofVal _ _ _)
  obtain ⟨hzl, hzc⟩ := hz0.cells hzf
  rw [hz] at hzl hzc
  -- the places of the fields
  have hplaces : ∃ pls : Array (Nat × Nat), (∀ w', (fs.mapM fun f => (do pure (f.offset, ← sizeOf f.type) : Sem (Nat × Nat))).run c.P w' = .ok pls w') ∧ ∀ i q, placeOf c.U fs i = some q → pls[i]? = some q := by
    have hlist : ∀ l : List Field, (∀ f ∈ l, (tget c.U f.type).isSome = true) → ∃ pls : List (Nat × Nat), (∀ w', (l.mapM fun f => (do pure (f.offset, ← sizeOf f.type) : Sem (Nat × Nat))).run c.P w' = .ok pls w') ∧ pls.length = l.length ∧ ∀ (i : Nat) (f : Field) (q : TI), l[i]? = some f → tget c.U f.type = some q → pls[i]? = some (f.offset, q.size) := by
      intro l
      induction l with
      | nil => intro _; exact ⟨[], fun _ => rfl, rfl, by simp⟩
      | cons f r ih =>
        intro h
        obtain ⟨pls, h1, h2, h3⟩ := ih (fun f' hf' => h f' (by simp [hf']))
        obtain ⟨q, hq⟩ := Option.isSome_iff_exists.1 (h f (by simp))
        refine ⟨(f.offset, q.size) :: pls, fun w' => ?_, by simp [h2], fun i f' q' hf' hq' => ?_⟩
        · rw [List.mapM_cons]
          simp only [Sem.run_bind, ty_size hq, Result.andThen_ok, Sem.run_pure, h1]
        · cases i with
          | zero => simp at hf'; subst hf'; rw [hq] at hq'; cases hq'; rfl
          | succ i => simpa using h3 i f' q' (by simpa using hf') hq'
    obtain ⟨pls, h1, h2, h3⟩ := hlist fs.toList (fsOk_get hfs)
    refine ⟨pls.toArray, fun w' => ?_, fun i q hq => ?_⟩
    · have : (fs.mapM fun f => (do pure (f.offset, ← sizeOf f.type) : Sem (Nat × Nat))) = List.toArray <$> fs.toList.mapM fun f => (do pure (f.offset, ← sizeOf f.type) : Sem (Nat × Nat)) := by
        rw [← List.mapM_toArray, Array.toArray_toList]
      rw [this]
      simp only [Sem.run_map, h1, Result.andThen_ok]
    · unfold placeOf at hq
      split at hq
      · cases hq
      rename_i f hf
      split at hq
      · cases hq
      rename_i q' hq'
      cases hq
      simpa using h3 i f q' (by simpa using hf) hq'
  obtain ⟨pls, hrunp, hpls⟩ := hplaces
  obtain ⟨dv, h1, h2, h3⟩ := fillA_spec (F := c.F) (β := β) (w := w) (pl' := (pls[·]?)) hpls (vs := parts.toList.map fun (i, x) => (i, a.eval x)) (cv := ti.zero.cells) hpl hpr hfill hzl (fun i x v hx hv => by
    obtain ⟨u, hu', hr, _⟩ := hzc i x hx
    rw [hv] at hu'; cases hu'; exact hr)
  refine ⟨.agg dv, .agg h2 h3, fun w' _ => ?_⟩
  have hp : (parts.map fun (i, x) => (i, a.eval x)).toList = parts.toList.map fun (i, x) => (i, a.eval x) := by simp
  simp only [execOp, Instr.build, Sem.run_bind, ty_zero ht, Result.andThen_ok, run_underlying hu, hrunp, hp, h1, Sem.run_pure]
end

/-! ### A call in a region of open order: its result is a plain value -/
section
variable {c : Ctx} {Q : Exit → Act → World → Prop} {s : St} {ops : Array Oper} {rest : List Oper} {o : Oper}
end
end Go.Abs
