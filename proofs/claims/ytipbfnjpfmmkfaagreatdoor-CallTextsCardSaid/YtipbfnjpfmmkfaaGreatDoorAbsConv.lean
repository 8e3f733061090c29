/-
  A LITERAL OF BYTES THAT IS CONVERTED TO ITS OWN TYPE ([]byte of a constant text): two operations as one step. Generic over the program. Conditions: none.
-/
import Derived.Test.YtipbfnjpfmmkfaaGreatDoorAbsMapF
import Derived.Test.YtipbfnjpfmmkfaaGreatDoorAbsStr
set_option linter.unusedVariables false
set_option linter.unusedSimpArgs false
set_option linter.unusedSectionVars false
namespace Go.Abs
open Go Go.RowKit Go.Proofs W
variable [GTab]
section
variable {c : Ctx} {s : St} {Q : Exit → Act → World → Prop} {T : List (Nat × AV)} {H : List (Nat × AObj)} {M : List Nat} {ops : Array Oper} {rest : List Oper} {d d2 : Tmp} {ty ty2 : TypeId} {pos pos2 : String} {af af2 : Array Edge}
theorem run_markOwn {P : Program} (w : World) (C : Array Value) (e src : TypeId) (he : P.underlying e = some (.int .u8)) (hs : P.underlying src = some (.slice e)) (n m : Nat) :
    (convert src src (.slice (some ⟨w.heap.size, 0, none⟩) n m)).run P (w.alloc (.cells C e (0, 0))) = .ok (.slice (some ⟨w.heap.size, 0, none⟩) n m) (w.alloc (.cells C e (C.size, C.size + 1))) := by
  have hsh : (w.alloc (.cells C e (0, 0))).shape? w.heap.size = some (e, C.size) := by
    have : (w.alloc (.cells C e (0, 0))).heap[w.heap.size]? = some (.cells C e (0, 0)) := heap_alloc_at _ _
    unfold World.shape?
    rw [this]
  have hfr : (w.alloc (.cells C e (0, 0))).freeze ⟨w.heap.size, C.size, none⟩ 1 = w.alloc (.cells C e (C.size, C.size + 1)) := by
    have hm : ∀ (a : Array Obj) (x : Obj) (f : Obj → Obj), (a.push x).modify a.size f = a.push (f x) := by
      intro a x f
      apply Array.ext
      · simp
      · intro i h1 h2
        rw [Array.getElem_modify, Array.getElem_push, Array.getElem_push]
        simp only [Array.size_push] at h2
        by_cases hi : i < a.size
        · rw [if_neg (by omega), dif_pos hi, dif_pos hi]
        · rw [if_pos (by omega), dif_neg hi, dif_neg hi]
    unfold World.freeze World.alloc
    simp [hm]
  simp [convert, run_underlying hs, run_underlying he, markStringish, shape, freeze, Sem.run, hsh, hfr, Result.andThen]
theorem l_litb (l : Str) {t : TypeId} {n : Nat} {parts : Array (Nat × Operand)} {ti ei : TI} {e : TypeId}
    (hnext : RunL c ops Q rest ⟨(d2, .sl (nm (some d)) 0 l.length) :: (d, .sl (nm (some d)) 0 l.length) :: T, (nm (some d), .row e 1 0 (F cU l)) :: H, M⟩)
    (ht : tget c.U t = some ti := by exact rfl) (htd : ti.desc = .slice e := by exact rfl) (he : tget c.U e = some ei := by exact rfl) (hed : ei.desc = .int .u8 := by exact rfl) (hk : ei.size = 1 := by exact rfl) (hzs : ei.zero.cells.size = 1 := by exact rfl)
    (hparts : seqB 0 parts.toList = true := by exact rfl) (hn : parts.toList.length = n := by exact rfl) (hl : l.length = n := by exact rfl) (hn0 : Nat.blt 0 n = true := by exact rfl) (hx : opvL T (parts.toList.map (·.2)) = some (F cU l) := by exact rfl) (hlim : Nat.ble n (2 ^ 24) = true := by exact rfl)
    (hb : hget H (nm (some d)) = none := by exact rfl) (hdo : dstOk c.N (some d) = true := by exact rfl) (hdo2 : dstOk c.N (some d2) = true := by exact rfl) :
    RunL c ops Q (⟨some d, .buildSlice t n parts, ty, pos, af, none⟩ :: ⟨some d2, .convert t t (.tmp d), ty2, pos2, af2, none⟩ :: rest) ⟨T, H, M⟩ := by
  rintro a w ⟨β, hs⟩
  have hu : c.P.underlying t = some (.slice e) := (ty_under ht).trans (congrArg some htd)
  have hue : c.P.underlying e = some (.int .u8) := (ty_under he).trans (congrArg some hed)
  have hA := opvL_get hs hx
  have hcl : cellsL (F cU l) = F cU l := by
    clear hx hA hnext hl
    induction l with
    | nil => rfl
    | cons x r ih => exact congrArg (cU x ++ ·) ih
  have hfit : fitAll 1 (F cU l) = true := by
    clear hx hA hnext hl hcl
    induction l with
    | nil => rfl
    | cons x r ih => exact ih
  obtain ⟨h1, h2, h3⟩ := cellsL_spec hfit hA
  rw [hcl] at h2 h3
  generalize hxs : parts.toList.map (·.2) = xs at *
  have hxl : xs.length = n := by rw [← hxs]; simpa using hn
  have hlen : (xs.map a.eval).length = n := by simpa using hxl
  have hnp : 0 < n := Nat.le_of_ble_eq_true hn0
  have hrun := run_buildSlice (P := c.P) (w := w) (t := t) (vs := xs.map a.eval) (by rw [ty_desc ht, htd]) (by rw [ty_size he, hk]) (ty_zero he w) hzs (Nat.zero_lt_one) h1 (by rw [hlen, Nat.mul_one]; exact Nat.le_of_ble_eq_true hlim) (by intro h; rw [h] at hlen; simp at hlen; omega)
  rw [hlen] at hrun
  generalize hC : ((xs.map a.eval).flatMap (·.cells.toList)).toArray = C at hrun
  have hCs : C.size = n := by
    rw [← hC]
    have : ∀ vs : List Value, (∀ u ∈ vs, u.cells.size = 1) → (vs.flatMap (·.cells.toList)).length = vs.length := by
      intro vs
      induction vs with
      | nil => intro _; rfl
      | cons v r ih => intro h; rw [List.flatMap_cons, List.length_append, ih (fun u hu => h u (by simp [hu])), Array.length_toList, h v (by simp), List.length_cons]; omega
    simpa [hlen] using this _ h1
  have hlF : (F cU l).length = l.length := by
    clear hx hA hnext hl hcl hfit h2 h3
    induction l with
    | nil => rfl
    | cons x r ih => exact congrArg (· + 1) ih
  let p : Place := ⟨w.heap.size, 0, C.size, 1, false⟩
  have hro : ORel c.F (upd β (nm (some d)) p) (w.alloc (.cells C e (C.size, C.size + 1))) p (.row e 1 0 (F cU l)) := by
    refine ⟨rfl, (fun h => by cases h), fun _ => ⟨C, _, heap_alloc_at _ _, rfl, by rw [hlF, hl, hCs]; show 0 + n ≤ n; omega, fun i y hy => ?_, fun o ho h1 h2 => absurd ho (Nat.not_lt.2 h1)⟩⟩
    obtain ⟨u, hu, hr, h⟩ := h3 i y hy
    have hy' : ∃ b, y = U b := by
      have : ∀ (l : Str) (i : Nat), (F cU l)[i]? = some y → ∃ b, y = U b := by
        intro l
        induction l with
        | nil => intro i h; simp [F] at h
        | cons x r ih =>
          intro i h
          cases i with
          | zero => exact ⟨x, by simpa [F, cU] using h.symm⟩
          | succ i => exact ih i (by simpa [F, cU] using h)
      exact this l i hy
    obtain ⟨b, rfl⟩ := hy'
    refine ⟨u, ?_, ?_, h⟩
    · show C[0 + i]? = some u
      rw [Nat.zero_add, ← hC]; simpa using hu
    · rw [CRel.pl_eq hr]
      exact .pl _
  have hs2 := hs.newobj (w' := w.alloc _) hb p (.inl rfl) (fun _ => ⟨Nat.le_refl _, (by show w.heap.size < (w.heap.push _).size; rw [Array.size_push]; exact Nat.lt_succ_self _)⟩) (But.alloc _ _) hro
  have hvr : ∀ w', VRel c.F (upd β (nm (some d)) p) w' (.sl (nm (some d)) 0 l.length) (.slice (some ⟨w.heap.size, 0, none⟩) n n) := fun w' => by
    rw [hl]
    exact .sl (p := p) (upd_same _ _ _) rfl (Nat.le_refl _) (by show 0 + 0 + n * 1 ≤ C.size; omega)
  have hs3 := (hs2.put hdo (hvr _)).put hdo2 (hvr _)
  have hp : parts.map (fun (i, x) => (i, a.eval x)) = (enumV 0 (xs.map a.eval)).toArray := by
    rw [← enumO_map, ← hxs, ← enumO_of _ _ hparts]
    apply Array.toList_inj.1
    simp
  refine wpList_plain rfl fun K hK => ?_
  unfold Oper.wp
  have hr1 : (execOp a.eval ⟨some d, .buildSlice t n parts, ty, pos, af, none⟩).run c.P w = .ok (.value (.slice (some ⟨w.heap.size, 0, none⟩) n n)) (w.alloc (.cells C e (0, 0))) := by
    simp only [execOp, hp]
    simp [hrun]
  rw [hr1, Oper.upon_value]
  refine hK _ _ (wpList_plain rfl fun K2 hK2 => ?_)
  unfold Oper.wp
  have hev : (a.put (some d) (.slice (some ⟨w.heap.size, 0, none⟩) n n)).eval (.tmp d) = .slice (some ⟨w.heap.size, 0, none⟩) n n := by
    have hlt : d < a.tmps.size := by rw [hs.size]; simpa [dstOk, Nat.blt_eq] using hdo
    simp [Act.eval, Act.put, hlt]
  have hr2 : (execOp (a.put (some d) (.slice (some ⟨w.heap.size, 0, none⟩) n n)).eval ⟨some d2, .convert t t (.tmp d), ty2, pos2, af2, none⟩).run c.P (w.alloc (.cells C e (0, 0))) = .ok (.value (.slice (some ⟨w.heap.size, 0, none⟩) n n)) (w.alloc (.cells C e (C.size, C.size + 1))) := by
    simp only [execOp, hev, Sem.run_bind, run_markOwn w C e t hue hu, Result.andThen_ok, Sem.run_pure]
  rw [hr2, Oper.upon_value]
  exact hK2 _ _ (hnext _ _ ⟨_, hs3⟩)
end
/-! ### Characters, as a text -/
theorem run_convert_runes_string {P : Program} (w : World) (src dst e : TypeId) (a : Option Addr) (l c : Nat)
    (hs : P.underlying src = some (.slice e)) (he : P.underlying e = some (.int .i32)) (hd : P.underlying dst = some .string) :
    (convert src dst (.slice a l c)).run P w = (Conv.runesToString (.slice a l c)).run P w := by
  simp [convert, run_underlying hs, run_underlying hd, run_underlying he]
theorem ba_append (a b : Str) : (⟨a.toArray⟩ : ByteArray) ++ ⟨b.toArray⟩ = ⟨(a ++ b).toArray⟩ := by
  apply ByteArray.ext
  simp
theorem run_forIn_runes {P : Program} {w : World} (f : Value → ByteArray → Sem (ForInStep ByteArray))
    (hf : ∀ (n : Int) (r : ByteArray), (f (.int .i32 n) r).run P w = .ok (.yield (r ++ Utf8.encode n)) w) :
    ∀ (ns : List Int) (s : Str), (forIn (ns.map (Value.int .i32)) (⟨s.toArray⟩ : ByteArray) f).run P w = .ok ⟨(s ++ encs ns).toArray⟩ w := by
  intro ns
  induction ns with
  | nil => intro s; simp [Sem.run_pure, encs]
  | cons n ns ih =>
    intro s
    simp only [List.map_cons, List.forIn_cons, Sem.run_bind, hf, Result.andThen, enc_eq, ba_append]
    rw [ih (s ++ enc n)]
    simp [encs, List.append_assoc]
theorem run_runesToString {P : Program} (w : World) (a : Addr) (len cap : Nat) (ns : List Int)
    (h : (loadCells a len).run P w = .ok (ns.map (Value.int .i32)).toArray w) :
    (Conv.runesToString (.slice (some a) len cap)).run P w = .ok (.string ⟨(encs ns).toArray⟩) w := by
  unfold Conv.runesToString
  simp only [Sem.run_bind, h, Result.andThen, List.forIn_toArray]
  rw [show (ByteArray.empty : ByteArray) = ⟨([] : Str).toArray⟩ from rfl]
  rw [run_forIn_runes _ (by intro n r; simp [Sem.run_pure])]
  simp [Sem.run_pure]
section
variable {c : Ctx} {s : St} {d : Option Tmp} {ty : TypeId} {pos : String} {af : Array Edge} {g : Option (Nat × Bool)}
theorem q_rstr {src dst : TypeId} {x : Operand} {ax : AV} {l : List Int} {n : Nat} {ds : List AV} {t1 t2 ei : TI} {e : TypeId} (h1 : tget c.U src = some t1) (hd1 : t1.desc = .slice e) (he : tget c.U e = some ei) (hek : ei.desc = .int .i32)
    (h2 : tget c.U dst = some t2) (hd2 : t2.desc = .string) (hx : opv s.T x = some ax) (hsrc : srcAt s.H 1 ax = some (n, ds)) (hds : ds = l.map fun r => AV.pl (.int .i32 r)) (hn : l.length = n) :
    QOp c ⟨d, .convert src dst x, ty, pos, af, g⟩ s (.pl (.string ⟨(encs l).toArray⟩)) := by
  intro a w β hs
  subst hds hn
  obtain ⟨A, cap, news, hv, hA, hlen, hcell, hone, hall⟩ := hs.src (hs.op hx) hsrc (by rw [List.length_map, Nat.mul_one])
  have hnews : news = l.map (Value.int .i32) := by
    apply List.ext_getElem?
    intro i
    by_cases hi : i < l.length
    · obtain ⟨u, hu, hr⟩ := hall i (.pl (.int .i32 l[i])) (by simp [hi])
      cases hr
      rw [hu]; simp [hi]
    · rw [List.getElem?_eq_none (by rw [hlen]; omega), List.getElem?_eq_none (by simp; omega)]
  refine ⟨_, .c (.pl _), fun w' hb => ?_⟩
  have hun1 := (c.hU src t1 h1).1.trans (congrArg some hd1)
  have hun2 := (c.hU dst t2 h2).1.trans (congrArg some hd2)
  have hune := (c.hU e ei he).1.trans (congrArg some hek)
  cases A with
  | none =>
    have : l = [] := by
      cases l with
      | nil => rfl
      | cons b r => obtain ⟨ad, h⟩ := hA (by simp); cases h
    subst this
    have hr := run_convert_runes_string (P := c.P) w' src dst e none 0 cap hun1 hune hun2
    simp only [List.length_nil] at hv
    simp only [execOp, hv]
    simp [hr, Conv.runesToString, encs]
    rfl
  | some ad =>
    have hl : (loadCells ad l.length).run c.P w' = .ok (l.map (Value.int .i32)).toArray w' := by
      have := run_loadCells_list (P := c.P) w' ad news (fun j v hj => Below.cell_at hb (hcell ad rfl j v hj))
      rw [hlen, Nat.mul_one, hnews] at this
      exact this
    have hr := run_convert_runes_string (P := c.P) w' src dst e (some ad) l.length cap hun1 hune hun2
    rw [run_runesToString w' ad l.length cap _ hl] at hr
    simp only [execOp, hv]
    simp [hr]
end
theorem F_cR (l : List Int) : F cR l = l.map fun r => AV.pl (.int .i32 r) := by
  induction l with
  | nil => rfl
  | cons a v ih => rw [List.map_cons, ← ih]; rfl
section
variable {c : Ctx} {Q : Exit → Act → World → Prop} {T : List (Nat × AV)} {H : List (Nat × AObj)} {M : List Nat} {ops : Array Oper} {rest : List Oper} {d : Tmp} {ty : TypeId} {pos : String} {af : Array Edge}
theorem l_rstrp {te : TypeId} {ρ : Type} {kk : List Int → Option ρ} {r : ρ} {src dst : TypeId} {x : Operand} {l : List Int} {o n b fz : Nat} {t1 t2 ei : TI} {e : TypeId} (h : (prt l o n).bind kk = some r) (hn : ∀ v, prt l o n = some v → kk v = some r → RunL c ops Q rest ⟨(d, S (encs v)) :: T, H, M⟩) (h1 : tget c.U src = some t1 := by exact rfl) (hd1 : t1.desc = .slice e := by exact rfl) (he : tget c.U e = some ei := by exact rfl) (hek : ei.desc = .int .i32 := by exact rfl) (h2 : tget c.U dst = some t2 := by exact rfl) (hd2 : t2.desc = .string := by exact rfl)
    (hx : opv T x = some (.sl b (o * 1) n) := by exact rfl) (hb : hget H b = some (.row te 1 fz (F cR l)) := by exact rfl) (hdo : dstOk c.N (some d) = true := by exact rfl) : RunL c ops Q (⟨some d, .convert src dst x, ty, pos, af, none⟩ :: rest) ⟨T, H, M⟩ := by
  obtain ⟨v, hv, h⟩ := bind_some h
  obtain ⟨hle, rfl, _⟩ := prt_some hv
  exact RunL_q (s := ⟨T, H, M⟩) (q_rstr h1 hd1 he hek h2 hd2 hx (show srcAt H 1 (.sl b (o * 1) n) = some (n, ((F cR l).drop (o * 1)).take (n * 1)) by simp only [srcAt, hb]) (by rw [F_cR, Nat.mul_one, Nat.mul_one, List.map_take, List.map_drop]) (by simp; omega)) rfl hdo (hn _ hv h)
end
end Go.Abs
