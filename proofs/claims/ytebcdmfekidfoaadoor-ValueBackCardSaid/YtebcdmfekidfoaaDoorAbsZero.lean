/-
  APPEND OF SO MANY ZERO VALUES TO A nil SLICE, as an operation over abstract states. Generic over the program. Conditions: more than none; room for them.
-/
import Derived.Test.YtebcdmfekidfoaaDoorAbsAuto
import Derived.Test.YtebcdmfekidfoaaDoorAbsPureS
set_option linter.unusedVariables false
set_option linter.unusedSimpArgs false
set_option linter.unusedSectionVars false
namespace Go.Abs
open Go Go.RowKit Go.Proofs W
variable [GTab]
theorem below_drew (w : World) : BelowD w w.drew := ⟨⟨rfl, rfl, rfl, Nat.le_refl _, fun _ _ => rfl⟩, Nat.le_succ _⟩
theorem run_append_zero {P : Program} (w : World) (t t2 ty e : TypeId) (i : TypeInfo) (z : Value) (k2 k3 : IntKind) (ht : P.underlying t = some (.slice e)) (ht2 : P.underlying t2 = some (.int k2)) (hi : P.info? e = some i) (hz : i.zero = some z)
    (l : Int) (h0 : 0 < l) (h63 : l ≤ 9223372036854775807) (h48 : l * i.bytes ≤ 281474976710656) (hsz : 0 < i.size) :
    (Builtin.append_ #[t, t2] ty #[.slice none 0 0, .int k3 l]).run P w =
      .ok (.slice (some ⟨w.heap.size, 0, none⟩) l.toNat (grownCap w l.toNat 0 e)) (w.drew.alloc (.cells (Builtin.zeroCells z.cells l.toNat ++ Builtin.zeroCells z.cells (grownCap w l.toNat 0 e - l.toNat)) e)) := by
  obtain ⟨n, rfl⟩ : ∃ n : Nat, l = n := ⟨l.toNat, by omega⟩
  have hn : n ≠ 0 := by omega
  have hw : IntKind.i64.wrap (n : Int) = (n : Int) := wrap_i64 (by omega)
  have h63' : ¬ (9223372036854775807 < (n : Int)) := by omega
  have h48' : ¬ (281474976710656 < Builtin.nextslicecap n 0 * i.bytes) := by rw [nextslicecap_zero (by omega)]; omega
  have h1 : ¬ ((n : Int) < 0) := by omega
  have h2 : ¬ (281474976710656 < (n : Int) * i.bytes) := by omega
  have h3 : n * i.size ≠ 0 := Nat.mul_ne_zero hn (by omega)
  simp [Builtin.append_, run_underlying ht, run_underlying ht2, sizeOf, typeInfo, zeroValue, hi, hz, Builtin.lenOf, hn, h63', h48', h1, h2, h3, hw, asInt, asIntOf, Question.forced, run_firstCells_none, newRow, grownCap]
theorem zeroCells_get {z : Array Value} {n i : Nat} (hi : i < n * z.size) (hz : 0 < z.size) : ∃ u, z[i % z.size]? = some u ∧ (Builtin.zeroCells z n)[i]? = some u := by
  have h := Nat.mod_lt i hz
  refine ⟨z[i % z.size]'h, by simp [h], ?_⟩
  unfold Builtin.zeroCells
  simp [hi, h]
theorem zeroCells_size (z : Array Value) (n : Nat) : (Builtin.zeroCells z n).size = n * z.size := by simp [Builtin.zeroCells]
section
variable {c : Ctx} {s : St} {d : Option Tmp} {ty : TypeId} {pos : String} {af : Array Edge} {g : Option (Nat × Bool)}
theorem e_appZero {t t2 : TypeId} {x y : Operand} {kx k2 : IntKind} {l : Int} {zs : List AV} {ti ti2 ei : TI} {e k : Nat} (ht : tget c.U t = some ti) (htd : ti.desc = .slice e) (ht2 : tget c.U t2 = some ti2) (htd2 : ti2.desc = .int k2) (he : tget c.U e = some ei) (hk : ei.size = k) (hk0 : 0 < k) (hx : opv s.T x = some (.pl (.slice none 0 0))) (hy : opv s.T y = some (.pl (.int kx l)))
    (hcs : cellsA (ofVal ei.zero) = zs) (hf : fit (ofVal ei.zero) = true) (hcl : AV.closedL zs = true) (hzl : zs.length = k) (h0 : 0 < l) (hby : l * ei.bytes ≤ 281474976710656) (h63 : l ≤ 9223372036854775807) (hb : hget s.H (nm d) = none) (hd : dstOk c.N d = true) :
    EOp c ⟨d, .call { callee := .builtin .append, args := #[x, y], argTypes := #[t, t2] }, ty, pos, af, g⟩ s ⟨putT s.T d (.sl (nm d) 0 l.toNat), (nm d, .row k 0 ((List.replicate l.toNat zs).flatMap id)) :: s.H, s.M⟩ := by
  intro a w β hs
  have hu : c.P.underlying t = some (.slice e) := (ty_under ht).trans (congrArg some htd)
  have hu2 : c.P.underlying t2 = some (.int k2) := (ty_under ht2).trans (congrArg some htd2)
  obtain ⟨i, hi, hi1, hi2, hi3⟩ := ty_info he
  have hzsz : ei.zero.cells.size = k := by
    have hz : VRel c.F β w (ofVal ei.zero) ei.zero := .c (CRel.ofVal _ _ _)
    have := (hz.cells hf).1
    rw [hcs, hzl] at this; exact this.symm
  have hrun := run_append_zero (P := c.P) w t t2 ty e i ei.zero k2 kx hu hu2 hi hi3 l h0 h63 (by rw [hi2]; exact hby) (by rw [hi1, hk]; exact hk0)
  have hcap : l.toNat ≤ grownCap w l.toNat 0 e := grownCap_ge _ _ _
  have hlen : ((List.replicate l.toNat zs).flatMap id).length = l.toNat * k := by
    generalize l.toNat = q
    induction q with
    | zero => simp
    | succ n ih => rw [List.replicate_succ, List.flatMap_cons, List.length_append, ih, Nat.add_mul, Nat.one_mul, Nat.add_comm, ← hzl]; rfl
  obtain ⟨β', hs', hr⟩ := hs.newrow2 (below_drew w) hb (Builtin.zeroCells ei.zero.cells l.toNat ++ Builtin.zeroCells ei.zero.cells (grownCap w l.toNat 0 e - l.toNat)) e (k := k) (n := l.toNat) (cap := grownCap w l.toNat 0 e) (cs := (List.replicate l.toNat zs).flatMap id)
    (by rw [Array.size_append, zeroCells_size, hzsz, hlen]; omega) hcap (by rw [Array.size_append, zeroCells_size, zeroCells_size, hzsz, ← Nat.add_mul]; congr 1; omega) (fun j y hy => by
    obtain ⟨u, hu1, hr, h1⟩ := zeros_rel (F := c.F) (β := β) (w := w) hcs hf hcl hzl j y hy
    have hj := (List.getElem?_eq_some_iff.1 hy).1
    rw [hlen] at hj
    obtain ⟨u', hu', hm⟩ := zeroCells_get (z := ei.zero.cells) (n := l.toNat) (i := j) (by rw [hzsz]; exact hj) (by rw [hzsz]; exact hk0)
    rw [hzsz, hu1] at hu'; cases hu'
    exact ⟨u, by rw [Array.getElem?_append_left (by rw [zeroCells_size, hzsz]; exact hj)]; exact hm, hr, h1⟩)
  exact ⟨_, β', .inl ⟨_, by simp [execOp, resolve, invoke, builtin, hs.pl hx, hs.pl hy, hrun], hs'.put hd hr⟩⟩
end
section
variable {c : Ctx} {s : St} {d : Option Tmp} {ty : TypeId} {pos : String} {af : Array Edge} {g : Option (Nat × Bool)}
/-- A nil slice cut up to 0 is nil. -/
theorem q_sliceNil {t : TypeId} {x y : Operand} {k : IntKind} {ti : TI} {et : TypeId} (ht : tget c.U t = some ti) (htd : ti.desc = .slice et) {ei : TI} (he : tget c.U et = some ei) (hx : opv s.T x = some (.pl (.slice none 0 0))) (hy : opv s.T y = some (.pl (.int k 0))) : QOp c ⟨d, .slice t x none (some y) none, ty, pos, af, g⟩ s (.pl (.slice none 0 0)) := by
  intro a w β hs
  have hu : c.P.underlying t = some (.slice et) := (ty_under ht).trans (congrArg some htd)
  obtain ⟨i, hi, hi1, hi2, hi3⟩ := ty_info he
  have hb := fun isS w => run_sliceBounds (P := c.P) (w := w) (isS := isS) (lo := none) (hi := some (a.eval y)) (l := 0) (h := 0) (len := 0) (cap := 0) (.inl ⟨rfl, rfl⟩) (.inr ⟨k, by rw [hs.pl hy]; rfl⟩) (Nat.le_refl _) (Nat.le_refl _)
  refine ⟨_, .c (.pl _), fun w' _ => ?_⟩
  simp [execOp, Instr.sliceAt, Instr.slice, hs.pl hx, run_underlying hu, hb, ty_size he]
end
section
variable {c : Ctx} {Q : Exit → Act → World → Prop} {T : List (Nat × AV)} {H : List (Nat × AObj)} {M : List Nat} {ops : Array Oper} {rest : List Oper} {d : Tmp} {ty : TypeId} {pos : String} {af : Array Edge}
/-- The state said anew. -/
theorem l_to {N : List Nat} (σ : List (Nat × Nat)) (S : St) (hB : ∀ b p, c.β0 b = some p → mem b N = true) (h : RunL c ops Q rest S)
    (hσ : okS σ = true := by exact rfl) (hH : pickS σ σ H = some S.H := by exact rfl) (hT : Sub S.T (mapT (reL σ) T) := by (repeat' first | exact True.intro | exact rfl | exact get_fn rfl (And.left (by assumption)) | apply And.intro)) (hM : okM σ M S.M N = true := by exact rfl) :
    RunL c ops Q rest ⟨T, H, M⟩ := fun a w hs => h a w (hs.to σ hσ hH hT hB hM)
theorem l_sliceNil {t : TypeId} {x y : Operand} {k : IntKind} {ti ei : TI} {et : TypeId} (hn : RunL c ops Q rest ⟨(d, .pl (.slice none 0 0)) :: T, H, M⟩) (ht : tget c.U t = some ti := by exact rfl) (htd : ti.desc = .slice et := by exact rfl) (he : tget c.U et = some ei := by exact rfl) (hx : opv T x = some (.pl (.slice none 0 0)) := by exact rfl) (hy : opv T y = some (.pl (.int k 0)) := by exact rfl) (hdo : dstOk c.N (some d) = true := by exact rfl) :
    RunL c ops Q (⟨some d, .slice t x none (some y) none, ty, pos, af, none⟩ :: rest) ⟨T, H, M⟩ := RunL_q (s := ⟨T, H, M⟩) (q_sliceNil ht htd he hx hy) rfl hdo hn
theorem l_appz {α ρ : Type} {e : α → List AV} {z : α} {kk : List α → Option ρ} {r : ρ} {t t2 : TypeId} {x y : Operand} {kx k2 : IntKind} {l : Int} {sz by_ : Nat} {ti ti2 ei : TI} {et : TypeId} (h : (W.mkp by_ l z).bind kk = some r) (hn : ∀ v, v.length = l.toNat → kk v = some r → RunL c ops Q rest ⟨(d, .sl (nm (some d)) 0 v.length) :: T, (nm (some d), .row sz 0 (F e v)) :: H, M⟩) (ht : tget c.U t = some ti := by exact rfl) (htd : ti.desc = .slice et := by exact rfl) (ht2 : tget c.U t2 = some ti2 := by exact rfl) (htd2 : ti2.desc = .int k2 := by exact rfl) (he : tget c.U et = some ei := by exact rfl) (hk : ei.size = sz := by exact rfl) (hby : ei.bytes = by_ := by exact rfl) (hx : opv T x = some (.pl (.slice none 0 0)) := by exact rfl) (hy : opv T y = some (.pl (.int kx l)) := by exact rfl) (hz : ∀ a, (e a).length = sz := by exact fun _ => rfl) (hcs2 : cellsA (ofVal ei.zero) = e z := by exact rfl) (hf : fit (ofVal ei.zero) = true := by exact rfl) (hcl : AV.closedL (e z) = true := by exact rfl) (hpos : Nat.blt 0 sz = true := by exact rfl) (hb : hget H (nm (some d)) = none := by exact rfl) (hdo : dstOk c.N (some d) = true := by exact rfl) :
    RunL c ops Q (⟨some d, .call { callee := .builtin .append, args := #[x, y], argTypes := #[t, t2] }, ty, pos, af, none⟩ :: rest) ⟨T, H, M⟩ := by
  subst hby
  obtain ⟨v, hv, h⟩ := bind_some h
  obtain ⟨hp, h0, h1, h2, rfl⟩ := W.mkp_some hv
  have hpos : 0 < sz := by simpa [Nat.blt_eq] using hpos
  have h3 := hn _ (by simp) h
  rw [← F_rep, List.length_replicate] at h3
  have hop := e_appZero (s := ⟨T, H, M⟩) (d := some d) (ty := ty) (pos := pos) (af := af) (g := none) ht htd ht2 htd2 he hk hpos hx hy hcs2 hf hcl (hz z) hp h1 h2 hb hdo
  exact RunL_e (s := ⟨T, H, M⟩) hop rfl h3
end
end Go.Abs
