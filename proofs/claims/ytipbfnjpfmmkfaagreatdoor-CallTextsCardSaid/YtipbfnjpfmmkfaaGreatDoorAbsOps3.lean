/-
  MORE OPERATIONS: a slice and nil; bytes as a string; a slice of nothing. Generic over the program. Conditions: none.
-/
import Derived.Test.YtipbfnjpfmmkfaaGreatDoorAbsMix
import Derived.Laws.BytesArg
set_option linter.unusedVariables false
set_option linter.unusedSectionVars false
namespace Go.Abs
open Go
variable [GTab]

/-! ### Operations whose result is not known -/
def QOpX (c : Ctx) (o : Oper) (s : St) (X : AV → Prop) : Prop :=
  ∀ a w β, SatB c s β a w → ∃ x, X x ∧ ∃ v, VRel c.F β w x v ∧ ∀ w', RowKit.Below w.heap.size w w' → (execOp a.eval o).run c.P w' = .ok (.value v) w'
section
variable {c : Ctx} {Q : Exit → Act → World → Prop} {s : St} {ops : Array Oper} {rest : List Oper} {o : Oper} {X : AV → Prop} {hot : List Nat} {l : Plan} {i : Nat}
theorem RunL_qx (h : QOpX c o s X) (hg : o.guard = none) (hd : dstOk c.N o.dst = true) (hr : ∀ x, X x → RunL c ops Q rest ⟨putT s.T o.dst x, s.H, s.M⟩) : RunL c ops Q (o :: rest) s := by
  rintro a w ⟨β, hs⟩
  obtain ⟨x, hx, v, hv, hrun⟩ := h a w β hs
  refine wpList_plain hg fun K hK => ?_
  unfold Oper.wp
  rw [hrun w (RowKit.Below.refl _ _), Oper.upon_value]
  exact hK _ _ (hr x hx _ _ ⟨β, hs.put hd hv⟩)
end

def lenN : AV → Option Nat
  | .vs n _ => some n
  | .sl _ _ n => some n
  | _ => none
section
variable {c : Ctx} {s : St} {d : Option Tmp} {ty : TypeId} {pos : String} {af : Array Edge} {g : Option (Nat × Bool)}

theorem run_equal_nil {P : Program} {t e : TypeId} (ht : P.underlying t = some (.slice e)) (w : World) (A : Option Addr) (n cap : Nat) : (binOp .eql t (.slice A n cap) (.slice none 0 0)).run P w = .ok (.bool A.isNone) w := by
  have key : (Op.equal t (.slice A n cap) (.slice none 0 0)).run P w = .ok A.isNone w := by
    show (Op.equalIn (9999 + 1) t (.slice A n cap) (.slice none 0 0)).run P w = _
    generalize 9999 = d
    cases A <;> simp [Op.equalIn, run_underlying ht]
  show (do pure (Value.bool (← Op.equal t (.slice A n cap) (.slice none 0 0))) : Sem Value).run P w = _
  simp [key]
/-- Is a slice nil? Then it is empty. -/
theorem qx_eqnil {t t' : TypeId} {x : Operand} {ax : AV} {n : Nat} {ti : TI} {e : TypeId} (ht : tget c.U t = some ti) (htd : ti.desc = .slice e) (hx : opv s.T x = some ax) (hn : lenN ax = some n) :
    QOpX c ⟨d, .binOp .eql t x (.const (.slice none 0 0)) t', ty, pos, af, g⟩ s (fun z => ∃ b : Bool, z = .pl (.bool b) ∧ (b = true → n = 0)) := by
  intro a w β hs
  have hv := hs.op hx
  have key : ∃ A cap, a.eval x = .slice A n cap ∧ (A = none → n = 0) := by
    cases ax with
    | vs m cs =>
      cases hn
      obtain ⟨A, cap, he, _, h⟩ := hv.vs_inv
      refine ⟨A, cap, he, fun h0 => ?_⟩
      rcases h with h | ⟨b, o, h, _⟩
      · exact h
      · rw [h0] at h; cases h
    | sl b o m =>
      cases hn
      obtain ⟨p, hp, h⟩ := hv.sl_inv
      rcases h with ⟨hn, cap, he, _⟩ | ⟨h0, A, he⟩
      · exact ⟨_, cap, he, fun h => by cases h⟩
      · exact ⟨_, _, by rw [he, h0], fun _ => h0⟩
    | _ => simp [lenN] at hn
  obtain ⟨A, cap, he, h0⟩ := key
  refine ⟨.pl (.bool A.isNone), ⟨A.isNone, rfl, fun h => h0 (by simpa using h)⟩, _, .c (.pl _), fun w' _ => ?_⟩
  have h2 : a.eval (.const (.slice none 0 0)) = .slice none 0 0 := rfl
  have h3 : eqGuard .eql t x (.const (.slice none 0 0)) (.slice A n cap) (.slice none 0 0) = pure () := rfl
  simp [execOp, he, h2, h3, run_equal_nil ((c.hU t ti ht).1.trans (congrArg some htd))]

def encB (l : List UInt8) : List AV := l.map fun b => .pl (.int .u8 (b.toNat : Int))
theorem encB_length (l : List UInt8) : (encB l).length = l.length := by simp [encB]

/-- Bytes, as a string. -/
theorem q_conv_bytes {src dst : TypeId} {x : Operand} {ax : AV} {l : List UInt8} {n : Nat} {ds : List AV} {t1 t2 ei : TI} {e : TypeId} (h1 : tget c.U src = some t1) (hd1 : t1.desc = .slice e) (he : tget c.U e = some ei) (hek : ei.desc = .int .u8)
    (h2 : tget c.U dst = some t2) (hd2 : t2.desc = .string) (hx : opv s.T x = some ax) (hsrc : srcAt s.H 1 ax = some (n, ds)) (hds : ds = encB l) (hn : l.length = n) :
    QOp c ⟨d, .convert src dst x, ty, pos, af, g⟩ s (.pl (.string ⟨l.toArray⟩)) := by
  intro a w β hs
  subst hds hn
  obtain ⟨A, cap, news, hv, hA, hlen, hcell, hone, hall⟩ := hs.src (hs.op hx) hsrc (by rw [encB_length, Nat.mul_one])
  have hnews : news = (l.map fun b => (b.toNat : Int)).map (Value.int .u8) := by
    apply List.ext_getElem?
    intro i
    by_cases hi : i < l.length
    · obtain ⟨u, hu, hr⟩ := hall i (.pl (.int .u8 (l[i].toNat : Int))) (by simp [encB, hi])
      cases hr
      rw [hu]; simp [hi]
    · rw [List.getElem?_eq_none (by rw [hlen]; omega), List.getElem?_eq_none (by simp; omega)]
  refine ⟨_, .c (.pl _), fun w' hb => ?_⟩
  have hun1 := (c.hU src t1 h1).1.trans (congrArg some hd1)
  have hun2 := (c.hU dst t2 h2).1.trans (congrArg some hd2)
  have hune := (c.hU e ei he).1.trans (congrArg some hek)
  cases A with
  | none =>
    have : l = [] := by
      cases l with
      | nil => rfl
      | cons b r => obtain ⟨ad, h⟩ := hA (by simp); cases h
    subst this
    have hr := run_convert_bytes_string (P := c.P) w' src dst e none 0 cap hun1 hune hun2
    simp only [List.length_nil] at hv
    simp only [execOp, hv]
    simp [hr, Conv.bytesToString]
    rfl
  | some ad =>
    have hl : (loadCells ad l.length).run c.P w' = .ok ((l.map fun b => (b.toNat : Int)).map (Value.int .u8)).toArray w' := by
      have := run_loadCells_list (P := c.P) w' ad news (fun j v hj => Below.cell_at hb (hcell ad rfl j v hj))
      rw [hlen, Nat.mul_one, hnews] at this
      exact this
    have hr := run_convert_bytes_string (P := c.P) w' src dst e (some ad) l.length cap hun1 hune hun2
    rw [run_bytesToString w' ad l.length cap _ hl, foldl_push_bytes] at hr
    have hfin : (⟨ByteArray.empty.data ++ (List.map (fun n => UInt8.ofNat n.toNat) (List.map (fun b : UInt8 => (b.toNat : Int)) l)).toArray⟩ : ByteArray) = ⟨l.toArray⟩ := by
      congr 1
      rw [List.map_map]
      have : ((fun n : Int => UInt8.ofNat n.toNat) ∘ fun b : UInt8 => (b.toNat : Int)) = id := by
        funext b
        simp
      rw [this, List.map_id]
      simp [ByteArray.empty, ByteArray.emptyWithCapacity]
      try rfl
    rw [hfin] at hr
    simp only [execOp, hv]
    simp [hr]

/-- The place of an element, what stands there being known. -/
theorem s_indexAddr_vsD {t : TypeId} {x y : Operand} {n : Nat} {cs ds : List AV} {k : IntKind} {i : Int} {ti ei : TI} {e : TypeId} (ht : tget c.U t = some ti) (htd : ti.desc = .slice e) (he : tget c.U e = some ei)
    (hx : opv s.T x = some (.vs n cs)) (hy : opv s.T y = some (.pl (.int k i))) (hi : 0 ≤ i ∧ i < n) (hds : cs.drop (i.toNat * ei.size) = ds) : QOpS c ⟨d, .indexAddr t x y, ty, pos, af, g⟩ s (.vptr ds) := by
  subst hds
  exact s_indexAddr_vsI ht htd he hx hy hi
theorem q_indexAddr_vsD {t : TypeId} {x y : Operand} {n : Nat} {cs ds : List AV} {k : IntKind} {i : Int} {ti ei : TI} {e : TypeId} (ht : tget c.U t = some ti) (htd : ti.desc = .slice e) (he : tget c.U e = some ei)
    (hx : opv s.T x = some (.vs n cs)) (hy : opv s.T y = some (.pl (.int k i))) (hi : 0 ≤ i ∧ i < n) (hds : cs.drop (i.toNat * ei.size) = ds) : QOp c ⟨d, .indexAddr t x y, ty, pos, af, g⟩ s (.vptr ds) := (s_indexAddr_vsD ht htd he hx hy hi hds).later
/-- Parts, one behind the other. -/
def seqB : Nat → List (Nat × Operand) → Bool
  | _, [] => true
  | i, (j, _) :: r => Nat.beq j i && seqB (i + 1) r
theorem enumO_of : ∀ (l : List (Nat × Operand)) (i : Nat), seqB i l = true → l = enumO i (l.map (·.2))
  | [], i, _ => rfl
  | (j, x) :: r, i, h => by
    simp only [seqB, Bool.and_eq_true] at h
    obtain rfl := Nat.eq_of_beq_eq_true h.1
    rw [List.map_cons, enumO, ← enumO_of r _ h.2]
theorem e_buildSliceN {t : TypeId} {n : Nat} {parts : Array (Nat × Operand)} {axs cs : List AV} {ti ei : TI} {e k : Nat} (ht : tget c.U t = some ti) (htd : ti.desc = .slice e) (he : tget c.U e = some ei) (hk : ei.size = k) (hk0 : Nat.blt 0 k = true)
    (hzs : ei.zero.cells.size = k) (hparts : seqB 0 parts.toList = true) (hn : parts.toList.length = n) (hn0 : Nat.blt 0 n = true) (hx : opvL s.T (parts.toList.map (·.2)) = some axs) (hfit : fitAll k axs = true) (hcs : cellsL axs = cs) (hlim : Nat.ble (n * k) (2 ^ 24) = true) (hb : hget s.H (nm d) = none) (hd : dstOk c.N d = true) :
    EOpB c ⟨d, .buildSlice t n parts, ty, pos, af, g⟩ s ⟨putT s.T d (.sl (nm d) 0 n), (nm d, .row e k 0 cs) :: s.H, s.M⟩ := by
  have h0 : 0 < n := Nat.le_of_ble_eq_true hn0
  exact e_buildSlice ht htd he hk (Nat.le_of_ble_eq_true hk0) hzs (enumO_of _ _ hparts) (by simpa using hn) (by rintro h; rw [← hn] at h0; rw [List.map_eq_nil_iff] at h; rw [h] at h0; simp at h0) hx hfit hcs (Nat.le_of_ble_eq_true hlim) hb hd
/-- A slice of no elements, of its own. -/
theorem e_buildSlice0 {t : TypeId} {parts : Array (Nat × Operand)} {ti ei : TI} {e k : Nat} (ht : tget c.U t = some ti) (htd : ti.desc = .slice e) (he : tget c.U e = some ei) (hk : ei.size = k) (hp : parts = #[]) (hb : hget s.H (nm d) = none) (hd : dstOk c.N d = true) :
    EOpB c ⟨d, .buildSlice t 0 parts, ty, pos, af, g⟩ s ⟨putT s.T d (.sl (nm d) 0 0), (nm d, .row e k 0 []) :: s.H, s.M⟩ := by
  intro a w β hs
  subst hp
  obtain ⟨β', hs', hr⟩ := hs.newrow hb #[] e (k := k) (n := 0) (cs := []) rfl (by simp) (by simp) (fr := (0, 0)) (fun o ho _ h => by simp at ho)
  refine ⟨_, β', below_alloc _ _, _, ?_, hs'.put hd hr⟩
  have hf : Instr.fill (fun i => some (i * ei.size, ei.size)) ((Array.range 0).map fun _ => (default : Value)) [] = some #[] := by
    have : ((Array.range 0).map fun _ => (default : Value)) = #[] := by simp
    rw [this]; simp [Instr.fill]
  simp [execOp, Instr.buildSlice, ty_desc ht, htd, ty_size he, newRow, hf]
end

/-! ### Rows of elements -/
theorem flat_drop {α : Type} {enc : α → List AV} {k : Nat} (hk : ∀ x, (enc x).length = k) : ∀ (l : List α) (i : Nat) (h : i < l.length), (l.flatMap enc).drop (i * k) = enc l[i] ++ (l.drop (i + 1)).flatMap enc
  | x :: r, 0, h => by simp
  | x :: r, i + 1, h => by
    have := flat_drop hk r i (by simpa using h)
    rw [List.flatMap_cons, Nat.add_mul, Nat.one_mul, Nat.add_comm, ← hk x, List.drop_append]
    simp only [List.getElem_cons_succ, List.drop_succ_cons]
    rw [← this, hk x]
    simp [hk x]
theorem flat_length {α : Type} {enc : α → List AV} {k : Nat} (hk : ∀ x, (enc x).length = k) (l : List α) : (l.flatMap enc).length = l.length * k := by
  induction l with
  | nil => simp
  | cons x r ih => rw [List.flatMap_cons, List.length_append, ih, hk, List.length_cons, Nat.add_mul, Nat.one_mul, Nat.add_comm]

section
variable {c : Ctx} {Q : Exit → Act → World → Prop} {T : List (Nat × AV)} {H : List (Nat × AObj)} {M : List Nat} {ops : Array Oper} {rest : List Oper} {d : Tmp} {ty : TypeId} {pos : String} {af : Array Edge} {hot : List Nat} {lq : Plan} {i0 : Nat}
  {t t' : TypeId} {x : Operand} {ax : AV} {n : Nat} {ti : TI} {e : TypeId}
theorem RL_eqnil (ht : tget c.U t = some ti) (htd : ti.desc = .slice e) (hx : opv T x = some ax) (hn : lenN ax = some n) (hdo : dstOk c.N (some d) = true)
    (hnext : ∀ b : Bool, (b = true → n = 0) → RunL c ops Q rest ⟨(d, .pl (.bool b)) :: T, H, M⟩) : RunL c ops Q (⟨some d, .binOp .eql t x (.const (.slice none 0 0)) t', ty, pos, af, none⟩ :: rest) ⟨T, H, M⟩ :=
  RunL_qx (s := ⟨T, H, M⟩) (qx_eqnil ht htd hx hn) rfl hdo (fun z ⟨b, hz, hb⟩ => by subst hz; exact hnext b hb)
end
end Go.Abs
