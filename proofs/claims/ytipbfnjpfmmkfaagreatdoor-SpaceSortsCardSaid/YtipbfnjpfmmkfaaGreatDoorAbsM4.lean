/-
  COPYING elements of several cells; what an insertion into a list leaves, in our logic. Generic over the program. Conditions: none.
  PLAIN WORDS: what is reckoned with so many rounds is what is reckoned. No program, no memory. Conditions: none.
  FROM A ROW's READING OF ITS ARGUMENTS TO ABSTRACT VALUES, AND BACK. Generic over the program. Conditions: none.
  A LAW's ROW: its arguments as abstract values; what a call that owns nothing leaves is what the row asks. Generic over the program. Conditions: none.
  THE PACKAGE VARIABLES THAT STAY, out of a row's list and its worlds' shape; a tied claim's wrap with both. Generic over the program. Conditions: none.
-/
import Derived.Test.YtipbfnjpfmmkfaaGreatDoorAbsM3
import Derived.Shelf.Spec.SlicesInsertGrow
import Derived.Test.YtipbfnjpfmmkfaaGreatDoorAbsM2
import Derived.ProofKit
import Derived.OpenShut
import Derived.ChangeStays
import Derived.Lib.LaidU8
import Derived.Shelf.Vars
import Derived.Handed
set_option linter.unusedVariables false
set_option linter.unusedSimpArgs false
set_option linter.unusedSectionVars false
namespace Go.Abs
open Go Go.RowKit Go.Proofs
theorem run_copyK {P : Program} {k : Nat} (w : World) (dT sT ty elem : TypeId) (b o dLen dCap : Nat) (a : Addr) (sLen sCap : Nat) (cs : List Value)
    (hu : P.underlying dT = some (.slice elem)) (hs : (P.info? elem).map (·.size) = some k) (hn : cs.length = Nat.min sLen dLen * k)
    (hsrc : ∀ j v, cs[j]? = some v → w.cell? (a.add j) = some v) (hc : ∀ j, j < cs.length → (w.cell? ⟨b, o + j, none⟩).isSome = true) (hf : ∀ j, j < cs.length → w.frozen? ⟨b, o + j, none⟩ = false) (h1 : ∀ v ∈ cs, v.oneCell' = true) :
    (Builtin.copy_ #[dT, sT] ty #[.slice (some ⟨b, o, none⟩) dLen dCap, .slice (some a) sLen sCap]).run P w = .ok (goInt (Nat.min sLen dLen)) (w.setCells b o cs) := by
  have hl := run_loadCells_list (P := P) w a cs hsrc
  have hst := run_storeCells_cells (P := P) b o cs 0 w (by simpa using hc) (by simpa using hf) h1
  cases hq : P.info? elem with
  | none => simp [hq] at hs
  | some i =>
    have hi : i.size = k := by simpa [hq] using hs
    simp [Builtin.copy_, run_underlying hu, Builtin.lenOf, Builtin.firstCells, sizeOf, typeInfo, hq, hi, ← hn, hl, hst]
variable [GTab]
structure InsW (P : Program) (f : FuncId) (S E : TypeId) (k B : Nat) (Z : Value) : Prop where
  nothing : ∀ (A0 B0 : Option Addr) (n c i vc : Nat) (w : World), i ≤ n → n ≤ c → Calls P f #[.slice A0 n c, .int .i64 i, .slice B0 0 vc] w fun e w' => e = .returned (.slice A0 n c) ∧ w' = w
  last : ∀ (A0 B0 : Option Addr) (n c m vc : Nat) (w w2 : World) (r : Value), 0 < m → n ≤ c → (∀ a, A0 = some a → a.spot = none ∨ c = n) →
    (∀ ty, (Builtin.append_ #[S, S] ty #[.slice A0 n c, .slice B0 m vc]).run P w = .ok r w2) →
    Calls P f #[.slice A0 n c, .int .i64 n, .slice B0 m vc] w fun e w' => e = .returned r ∧ w' = w2
  shift : ∀ (b off n c i vb voff m vc : Nat) (cs vs : List Value) (w : World), i < n → 0 < m → n + m ≤ c → (n + m) * B ≤ 140737488355328 → vb ≠ b → cs.length = n * k → vs.length = m * k →
    (∀ j v, cs[j]? = some v → w.cell? ⟨b, off + j, none⟩ = some v) → (∀ j, j < (n + m) * k → (w.cell? ⟨b, off + j, none⟩).isSome = true) → (∀ j, j < (n + m) * k → w.frozen? ⟨b, off + j, none⟩ = false) →
    (∀ j v, vs[j]? = some v → w.cell? ⟨vb, voff + j, none⟩ = some v) → (∀ v ∈ cs, v.oneCell' = true) → (∀ v ∈ vs, v.oneCell' = true) →
    ∀ (tA tB : TypeId) (kA kB : Nat), w.shape? vb = some (tA, kA) → w.shape? b = some (tB, kB) → kB ≠ 0 → w.frozen? ⟨vb, voff, none⟩ = false → w.frozen? ⟨vb, kA, none⟩ = false →
    Calls P f #[.slice (some ⟨b, off, none⟩) n c, .int .i64 i, .slice (some ⟨vb, voff, none⟩) m vc] w fun e w' =>
      e = .returned (.slice (some ⟨b, off, none⟩) (n + m) c) ∧ w' = (w.drew.setCells b (off + (i + m) * k) (cs.drop (i * k))).setCells b (off + i * k) vs
  grow : ∀ (b off n c i vb voff m vc : Nat) (cs vs : List Value) (w : World), i < n → 0 < m → n ≤ c → c < n + m → (n + m) * B ≤ 140737488355328 → cs.length = n * k → vs.length = m * k →
    (∀ j v, cs[j]? = some v → w.cell? ⟨b, off + j, none⟩ = some v) → (∀ j v, vs[j]? = some v → w.cell? ⟨vb, voff + j, none⟩ = some v) → (∀ v ∈ cs, v.oneCell' = true) → (∀ v ∈ vs, v.oneCell' = true) →
    Calls P f #[.slice (some ⟨b, off, none⟩) n c, .int .i64 i, .slice (some ⟨vb, voff, none⟩) m vc] w fun e w' =>
      e = .returned (.slice (some ⟨w.heap.size, 0, none⟩) (n + m) (grownCap w (n + m) c E)) ∧
      w' = (((w.alloc (.cells ((cs.take (i * k)).toArray ++ Builtin.zeroCells Z.cells (n + m - i) ++ Builtin.zeroCells Z.cells (grownCap w (n + m) c E - (n + m))) E)).drew.setCells w.heap.size (i * k) vs).drew).setCells w.heap.size ((i + m) * k) (cs.drop (i * k))
theorem ins_fin {P : Program} {U : List (Nat × TI)} {hU : TabOk P U} {F0 : Nat → Prop} {β β' : Emb} {w w' : World} {a' : Act} {T : List (Nat × AV)} {M : List Nat} {n : Nat} {o1 o3 : AObj} {r : Value} (h : SatB ⟨P, U, hU, F0, β, w, 4, []⟩ ⟨T, [(101, o1), (103, o3)], M⟩ β' a' w') (ho : o1.kill 103 = o1)
    (hM : subM (103 :: M) [103, 101] = true) (hr : VRel F0 β' w' (.sl 101 0 n) r) : Rpost (fun r' H'' M => r' = .sl 101 0 n ∧ H'' = [(101, o1)] ∧ M = [103, 101]) F0 β w (.returned r) w' := by
  have h1 := h.put (d := some 3) rfl hr
  obtain ⟨β2, h3⟩ := (Sat.drop (⟨β', h1⟩ : Sat _ ⟨putT T (some 3) (.sl 101 0 n), [(101, o1), (103, o3)], M⟩ _ _) 103).less (T' := [(3, .sl 101 0 n)]) (M' := [103, 101]) ⟨rfl, True.intro⟩ hM;obtain ⟨v, hv, hvr⟩ := h3.slot 3 (.sl 101 0 n) rfl
  have : v = r := by
    have hsz : (3 : Nat) < a'.tmps.size := by rw [h.size]; exact Nat.lt_succ_self 3
    simp [Act.put, hsz] at hv
    exact hv.symm
  subst this
  have hH : killH 103 [(101, o1), (103, o3)] = [(101, o1)] := by
    show [(101, o1.kill 103)] = _
    rw [ho]
  exact ⟨.sl 101 0 n, v, [(101, o1)], [103, 101], β2, rfl, ⟨rfl, rfl, rfl⟩, by have := h3.heap; rw [hH] at this; exact this, hvr, h3.keeps, fun b p hp hm => h3.stay b p hp hm⟩
theorem ins_x {P : Program} {U : List (Nat × TI)} (hU : TabOk P U) {f : FuncId} {S E : TypeId} {k B : Nat} {Z : Value} (hW : InsW P f S E k B Z) {ti ei : TI} (ht : tget U S = some ti) (htd : ti.desc = .slice E) (he : tget U E = some ei) (hk : ei.size = k) (k0 : 0 < k) (hzs : ei.zero.cells.size = k) (hzz : ei.zero = Z)
    (hB : ei.bytes = B) (hB0 : 0 < B) (hview : GTab.view E = false) (hf : ∀ (es : Array Value) (w : World), (callFunc f es).run P w = .ok (.enter f es) w) {α : Type} {e : α → List AV} (hel : ∀ a, (e a).length = k) (x v : List α) (i : Nat) (hi : i ≤ x.length) (hbytes : (x.length + v.length) * B ≤ 140737488355328) :
    XSpec P f [.sl 101 0 x.length, .pl (.int .i64 (i : Int)), .sl 103 0 v.length] [(101, .row E k 0 (F e x)), (103, .row E k 0 (F e v))] (.sl 101 0 (x.take i ++ v ++ x.drop i).length) [(101, .row E k 0 (F e (x.take i ++ v ++ x.drop i)))] [103, 101] := by
  have hnl : (x.take i ++ v ++ x.drop i).length = x.length + v.length := by simp; omega
  have hFl : ∀ l : List α, (F e l).length = l.length * k := F_length hel
  refine ⟨hf, fun F0 β w vs hH hA => ?_⟩
  have hs := SatB.enter (P := P) (hU := hU) (N := 4) hH hA rfl
  obtain ⟨hlen, hall⟩ := hA
  match vs, hlen with
  | [v1, v2, v3], _ =>
  have hv1 := hall 0 _ v1 rfl rfl
  have hv2 := hall 1 _ v2 rfl rfl
  have hv3 := hall 2 _ v3 rfl rfl
  obtain rfl := hv2.pl_eq;obtain ⟨p1, hp1, hc1⟩ := hv1.sl_inv2;obtain ⟨p3, hp3, hc3⟩ := hv3.sl_inv2;obtain ⟨p1', hp1', ho1⟩ := hH.obj 101 _ rfl
  rw [hp1] at hp1'; cases hp1'
  obtain ⟨p3', hp3', ho3⟩ := hH.obj 103 _ rfl
  rw [hp3] at hp3'; cases hp3'
  by_cases hm : v.length = 0
  · have hvn : v = [] := List.eq_nil_of_length_eq_zero hm
    subst hvn
    obtain ⟨B0, vc, rfl⟩ : ∃ B0 vc, v3 = .slice B0 0 vc := by
      rcases hc3 with ⟨_, c, h, _⟩ | ⟨_, A, h, _⟩
      · exact ⟨_, _, h⟩
      · exact ⟨_, _, h⟩
    obtain ⟨A0, c, rfl, hnc⟩ : ∃ A0 c, v1 = .slice A0 x.length c ∧ x.length ≤ c := by
      rcases hc1 with ⟨_, c, h, hc, _⟩ | ⟨h0, A, h, _⟩
      · exact ⟨_, _, h, hc⟩
      · exact ⟨A, 0, by rw [h, h0], by omega⟩
    refine (hW.nothing A0 B0 x.length c i vc w hi hnc).mono ?_
    rintro en w' ⟨rfl, rfl⟩
    have e1 : x.take i ++ [] ++ x.drop i = x := by simp
    rw [e1]
    exact ins_fin hs rfl rfl hv1
  · rcases hc3 with ⟨hn3, vc, rfl, hvc, hvl⟩ | ⟨h0, _⟩
    case inr => exact absurd h0 hm
    rw [hnl]
    have hsv : srcAt [(101, AObj.row E k 0 (F e x)), (103, .row E k 0 (F e v))] k (.sl 103 0 v.length) = some (v.length, F e v) := by
      show some (v.length, ((F e v).drop 0).take (v.length * k)) = _
      rw [List.drop_zero, List.take_of_length_le (by rw [hFl]; omega)]
    have hsx : srcAt [(101, AObj.row E k 0 (F e x)), (103, .row E k 0 (F e v))] k (.sl 101 0 x.length) = some (x.length, F e x) := by
      show some (x.length, ((F e x).drop 0).take (x.length * k)) = _
      rw [List.drop_zero, List.take_of_length_le (by rw [hFl]; omega)]
    by_cases hin : i = x.length
    · have e1 : x.take i ++ v ++ x.drop i = x ++ v := by rw [hin]; simp
      rw [e1]
      obtain ⟨r, w', β', hrun, hs', hr⟩ := append_core (ty := S) hs ht htd he hk (by rw [hzs]) (by rw [hB]; exact hB0) hv1 rfl (by rw [hFl]; omega) (Nat.zero_le _) (hs.src hv3 hsv (hFl v)) (hFl v) (by rw [hB]; exact hbytes)
      have hrow : ((F e x).drop 0).take (x.length * k) ++ F e v = F e (x ++ v) := by
        rw [List.drop_zero, List.take_of_length_le (by rw [hFl]; omega), F_append]
      rw [hrow] at hs'
      obtain ⟨A0, c, rfl, hnc, hsp⟩ : ∃ A0 c, v1 = .slice A0 x.length c ∧ x.length ≤ c ∧ ∀ a, A0 = some a → a.spot = none ∨ c = x.length := by
        rcases hc1 with ⟨_, c, h, hc, _⟩ | ⟨h0, A, h, _⟩
        · exact ⟨_, _, h, hc, fun a ha => by cases ha; exact .inl rfl⟩
        · exact ⟨A, 0, by rw [h, h0], by omega, fun a ha => .inr h0.symm⟩
      obtain ⟨A3, cap3, vs, e3, _⟩ := hs.src hv3 hsv (hFl v)
      rw [e3] at hrun ⊢
      rw [hin]
      refine (hW.last A0 A3 x.length c v.length cap3 w w' r (Nat.pos_of_ne_zero hm) hnc hsp (fun ty => hrun)).mono ?_
      rintro en w2 ⟨rfl, rfl⟩
      exact ins_fin hs' rfl rfl hr
    · rcases hc1 with ⟨hn1, c, rfl, hc, hl1⟩ | ⟨h0, _⟩
      case inr => exact absurd h0 (by omega)
      obtain ⟨hpk1, _, hr1⟩ := ho1;obtain ⟨cv, fr, hcv, hlim, h5, h6, h7⟩ := hr1 hn1;obtain ⟨hpk3, _, hr3⟩ := ho3;obtain ⟨cv3, fr3, hcv3, hlim3, g5, g6, g7⟩ := hr3 hn3;obtain ⟨A1, cap1, cs, e1, _, hcl, hcs, hc1, hcr⟩ := hs.src hv1 hsx (hFl x)
      cases e1
      obtain ⟨A3, cap3, vs, e3, _, hvl', hvs, hvo, hvr⟩ := hs.src hv3 hsv (hFl v)
      cases e3
      have hcs' : ∀ (j : Nat) (u : Value), cs[j]? = some u → w.cell? ⟨p1.blk, p1.st + 0 + j, none⟩ = some u := fun j u hj => by
        have := hcs _ rfl j u hj
        rwa [a_add] at this
      have hvs' : ∀ (j : Nat) (u : Value), vs[j]? = some u → w.cell? ⟨p3.blk, p3.st + 0 + j, none⟩ = some u := fun j u hj => by
        have := hvs _ rfl j u hj
        rwa [a_add] at this
      have hm0 : 0 < v.length := Nat.pos_of_ne_zero hm
      have hlt : i < x.length := by omega
      -- products
      have en : (x.length + v.length) * k = x.length * k + v.length * k := Nat.add_mul _ _ _
      have ei' : (i + v.length) * k = i * k + v.length * k := Nat.add_mul _ _ _
      have hik : i * k + k ≤ x.length * k := by
        have := Nat.mul_le_mul_right k hlt
        rwa [Nat.succ_mul] at this
      have hmk : 0 < v.length * k := Nat.mul_pos hm0 k0
      have hck : x.length * k ≤ c * k := Nat.mul_le_mul_right _ hc
      rw [hpk1] at hl1
      rw [hpk3] at hvl
      have hvck : v.length * k ≤ vc * k := Nat.mul_le_mul_right _ hvc
      have hnew : F e (x.take i ++ v ++ x.drop i) = (F e x).take (i * k) ++ F e v ++ (F e x).drop (i * k) := by
        rw [F_append, F_append, F_drop hel, F_takeN hel]
      have hnewl : (F e (x.take i ++ v ++ x.drop i)).length = x.length * k + v.length * k := by rw [hFl, hnl, en]
      -- what the new list's cells are
      have hget : ∀ (j : Nat) (z : AV), (F e (x.take i ++ v ++ x.drop i))[j]? = some z → ∃ u, CRel (off F0 β) w z u ∧ u.oneCell' = true ∧
          ((j < i * k ∧ cs[j]? = some u) ∨ (i * k ≤ j ∧ j < i * k + v.length * k ∧ vs[j - i * k]? = some u) ∨ (i * k + v.length * k ≤ j ∧ (cs.drop (i * k))[j - (i * k + v.length * k)]? = some u)) := by
        intro j z hz
        have hjl := (List.getElem?_eq_some_iff.1 hz).1
        rw [hnewl] at hjl
        rw [hnew] at hz
        have htl : ((F e x).take (i * k)).length = i * k := by rw [List.length_take, hFl]; omega
        by_cases hj1 : j < i * k
        · rw [List.append_assoc, List.getElem?_append_left (by omega), List.getElem?_take_of_lt hj1] at hz
          obtain ⟨u, hu, hc⟩ := hcr j z hz;exact ⟨u, hc, hc1 u (List.mem_of_getElem? hu), .inl ⟨hj1, hu⟩⟩
        · by_cases hj2 : j < i * k + v.length * k
          · rw [List.getElem?_append_left (by rw [List.length_append, htl, hFl]; omega), List.getElem?_append_right (by omega), htl] at hz
            obtain ⟨u, hu, hc⟩ := hvr _ z hz;exact ⟨u, hc, hvo u (List.mem_of_getElem? hu), .inr (.inl ⟨by omega, hj2, hu⟩)⟩
          · rw [List.getElem?_append_right (by rw [List.length_append, htl, hFl]; omega), List.length_append, htl, hFl, List.getElem?_drop] at hz
            obtain ⟨u, hu, hc⟩ := hcr _ z hz;exact ⟨u, hc, hc1 u (List.mem_of_getElem? hu), .inr (.inr ⟨by omega, by rw [List.getElem?_drop]; exact hu⟩)⟩
      have hO : ∀ {p2 : Place}, (p2.nil = false → (p1.nil = false ∧ p2.blk = p1.blk) ∨ w.heap.size ≤ p2.blk) → ∀ k', off F0 (upd β 101 p2) k' → off F0 β k' ∨ w.heap.size ≤ k' := by
        rintro p2 hblk k' (hk' | ⟨j, q, hq, hqn, rfl⟩)
        · exact .inl (.inl hk')
        · rcases upd_some hq with ⟨rfl, rfl⟩ | ⟨_, hq⟩
          · rcases hblk hqn with ⟨h1, h2⟩ | h
            · exact .inl (.inr ⟨101, p1, hp1, h1, h2.symm⟩)
            · exact .inr h
          · exact .inl (.inr ⟨j, q, hq, hqn, rfl⟩)
      have hb1 : p1.blk < w.heap.size := hH.blk_lt hp1 hn1
      have hb3 : p3.blk < w.heap.size := hH.blk_lt hp3 hn3
      have hne : p3.blk ≠ p1.blk := fun h => absurd (hH.inj 103 101 p3 p1 hp3 hp1 hn3 hn1 h) (by decide)
      by_cases hroom : x.length + v.length ≤ c
      · have hrk : (x.length + v.length) * k ≤ c * k := Nat.mul_le_mul_right _ hroom
        rw [en] at hrk
        have hfz : ∀ j, j < cv.size → p1.st + 0 ≤ j → w.frozen? ⟨p1.blk, j, none⟩ = false := fun j hj hst => by
          have := h7 j hj
          obtain ⟨lo, hi⟩ := fr
          simp only [World.frozen?, hcv.1, Bool.and_eq_false_iff, decide_eq_false_iff_not]
          by_cases q : lo ≤ j
          · by_cases q2 : j < hi
            · have := this q q2; omega
            · exact .inr q2
          · exact .inl q
        have hfz3 : w.frozen? ⟨p3.blk, p3.st + 0, none⟩ = false := by
          have := g7 (p3.st + 0) (by rw [hFl] at g5; omega)
          obtain ⟨lo, hi⟩ := fr3
          simp only [World.frozen?, hcv3.1, Bool.and_eq_false_iff, decide_eq_false_iff_not]
          by_cases q : lo ≤ p3.st + 0
          · by_cases q2 : p3.st + 0 < hi
            · have := this q q2; omega
            · exact .inr q2
          · exact .inl q
        have hfe3 : w.frozen? ⟨p3.blk, cv3.size, none⟩ = false := by
          have := hcv3.2 hview
          obtain ⟨lo, hi⟩ := fr3
          simp only [World.frozen?, hcv3.1, Bool.and_eq_false_iff, decide_eq_false_iff_not]
          exact .inr (by show ¬ cv3.size < hi; have : hi ≤ cv3.size := this; omega)
        refine (hW.shift p1.blk (p1.st + 0) x.length c i p3.blk (p3.st + 0) v.length vc cs vs w hlt hm0 hroom hbytes hne hcl hvl' hcs' (fun j hj => ?_) (fun j hj => ?_) hvs' hc1 hvo E E cv3.size cv.size (by simp [World.shape?, hcv3.1]) (by simp [World.shape?, hcv.1]) (by omega) hfz3 hfe3).mono ?_
        · rw [cell_of_cells hcv]
          have : p1.st + 0 + j < cv.size := by omega
          rw [Array.getElem?_eq_getElem this]; rfl
        · exact hfz _ (by omega) (by omega)
        rintro en w' ⟨rfl, rfl⟩
        rw [hnl] at *
        have k1 := But.setCells p1.blk (cs.drop (i * k)) (p1.st + 0 + (i + v.length) * k) w.drew
        have k2 := But.setCells p1.blk vs (p1.st + 0 + i * k) (w.drew.setCells p1.blk (p1.st + 0 + (i + v.length) * k) (cs.drop (i * k)))
        generalize hw' : (w.drew.setCells p1.blk (p1.st + 0 + (i + v.length) * k) (cs.drop (i * k))).setCells p1.blk (p1.st + 0 + i * k) vs = w' at *
        let p2 : Place := ⟨p1.blk, p1.st + 0, p1.lim, k, false⟩
        have hblk : p2.nil = false → (p1.nil = false ∧ p2.blk = p1.blk) ∨ w.heap.size ≤ p2.blk := fun _ => .inl ⟨hn1, rfl⟩
        have hsz : w.heap.size ≤ w'.heap.size := Nat.le_trans k1.size k2.size
        have hbut : But w w' (fun k => p1.nil = false ∧ k = p1.blk) := ⟨k2.os.trans k1.os, ⟨k2.tape.1.trans k1.tape.1, Nat.le_trans (Nat.le_succ w.drawn) (Nat.le_trans k1.tape.2 k2.tape.2)⟩, k2.output.trans k1.output, hsz,
          fun k' hk' hno => (k2.block k' (Nat.lt_of_lt_of_le hk' k1.size) (fun e => hno ⟨hn1, e⟩)).trans (k1.block k' hk' (fun e => hno ⟨hn1, e⟩))⟩
        have hw : ∀ k', k' < w.heap.size → ¬ off F0 β k' → w'.heap[k']? = w.heap[k']? := fun k' hk' hno => hbut.block k' hk' (fun e => hno (.inr ⟨101, p1, hp1, hn1, e.2.symm⟩))
        have hdl : (cs.drop (i * k)).length = x.length * k - i * k := by rw [List.length_drop, hcl]
        have hCv : CellsAt w' p1.blk E (wr (wr cv (p1.st + 0 + (i + v.length) * k) (cs.drop (i * k))) (p1.st + 0 + i * k) vs) fr := by
          rw [← hw']
          exact cells_set _ _ (cells_set _ _ (w := w.drew) hcv)
        have hs' := hs.replace (w' := w') (p' := p2) hp1 hblk hbut (o := .row E k 0 (F e (x.take i ++ v ++ x.drop i))) (by
          refine ⟨rfl, (fun h => by cases h), fun _ => ⟨_, fr, hCv, by rw [wr_size, wr_size]; exact hlim, by rw [hnewl, wr_size, wr_size]; show p1.st + 0 + _ ≤ _; omega, fun j z hz => ?_, fun o' ho' h1 h2 => by rw [wr_size, wr_size] at ho'; exact h7 o' ho' h1 h2⟩⟩;obtain ⟨u, hc, ho, hcase⟩ := hget j z hz;refine ⟨u, ?_, hc.mono hsz (hO hblk) hw, ho⟩
          show (wr (wr cv _ _) _ _)[p1.st + 0 + j]? = some u
          rw [wr_get _ _ _ _ (by rw [wr_size, hvl']; omega), wr_get _ _ _ _ (by rw [hdl, ei']; omega), hvl', hdl, ei']
          rcases hcase with ⟨h, hu⟩ | ⟨h1, h2, hu⟩ | ⟨h1, hu⟩
          · rw [if_neg (by omega), if_neg (by omega)]
            have := hcs' j u hu
            rwa [cell_of_cells hcv] at this
          · rw [if_pos (by omega), show p1.st + 0 + j - (p1.st + 0 + i * k) = j - i * k by omega]
            exact hu
          · have := (List.getElem?_eq_some_iff.1 hu).1
            rw [hdl] at this
            rw [if_neg (by omega), if_pos (by omega), show p1.st + 0 + j - (p1.st + 0 + (i * k + v.length * k)) = j - (i * k + v.length * k) by omega]
            exact hu)
        exact ins_fin hs' rfl rfl (.sl (p := p2) (upd_same _ _ _) rfl hroom (by show p1.st + 0 + 0 + c * k ≤ p1.lim; omega))
      · have hG : x.length + v.length ≤ grownCap w (x.length + v.length) c E := Nat.le_add_right _ _
        refine (hW.grow p1.blk (p1.st + 0) x.length c i p3.blk (p3.st + 0) v.length vc cs vs w hlt hm0 hc (by omega) hbytes hcl hvl' hcs' hvs' hc1 hvo).mono ?_
        rintro en w' ⟨rfl, rfl⟩
        rw [hnl] at *
        generalize grownCap w (x.length + v.length) c E = G at hG
        generalize hROW : (cs.take (i * k)).toArray ++ Builtin.zeroCells Z.cells (x.length + v.length - i) ++ Builtin.zeroCells Z.cells (G - (x.length + v.length)) = ROW
        have hZ : Z.cells.size = k := by rw [← hzz]; exact hzs
        have hGk : (x.length + v.length) * k ≤ G * k := Nat.mul_le_mul_right _ hG
        have hsR : ROW.size = G * k := by
          rw [← hROW]
          simp only [Array.size_append, List.size_toArray, List.length_take, hcl, size_zeroCells, hZ, Nat.sub_mul]
          rw [en] at hGk ⊢
          omega
        rw [en] at hGk
        let w1 := w.alloc (.cells ROW E)
        have k1 := But.setCells w.heap.size vs (i * k) w1.drew
        have k2 := But.setCells w.heap.size (cs.drop (i * k)) ((i + v.length) * k) ((w1.drew.setCells w.heap.size (i * k) vs).drew)
        have hcv1 : CellsAt w1 w.heap.size E ROW (0, 0) := ⟨heap_alloc_at w _, fun _ => Nat.zero_le _⟩
        have hCv : CellsAt (((w1.drew.setCells w.heap.size (i * k) vs).drew).setCells w.heap.size ((i + v.length) * k) (cs.drop (i * k))) w.heap.size E (wr (wr ROW (i * k) vs) ((i + v.length) * k) (cs.drop (i * k))) (0, 0) :=
          cells_set _ _ (w := (w1.drew.setCells w.heap.size (i * k) vs).drew) (cells_set _ _ (w := w1.drew) hcv1)
        have hs1 : w.heap.size ≤ w1.heap.size := by show _ ≤ (w.heap.push _).size; simp
        generalize hw' : ((w1.drew.setCells w.heap.size (i * k) vs).drew).setCells w.heap.size ((i + v.length) * k) (cs.drop (i * k)) = w' at *
        let p2 : Place := ⟨w.heap.size, 0, ROW.size, k, false⟩
        have hblk : p2.nil = false → (p1.nil = false ∧ p2.blk = p1.blk) ∨ w.heap.size ≤ p2.blk := fun _ => .inr (Nat.le_refl _)
        have hsz : w.heap.size ≤ w'.heap.size := Nat.le_trans hs1 (Nat.le_trans k1.size k2.size)
        have hbl : ∀ k', k' < w.heap.size → w'.heap[k']? = w.heap[k']? := fun k' hk' =>
          (k2.block k' (Nat.lt_of_lt_of_le hk' (Nat.le_trans hs1 k1.size)) (Nat.ne_of_lt hk')).trans ((k1.block k' (Nat.lt_of_lt_of_le hk' hs1) (Nat.ne_of_lt hk')).trans (RowKit.Below.heap_alloc _ _ _ hk'))
        have hbut : But w w' (fun k => p1.nil = false ∧ k = p1.blk) := ⟨k2.os.trans k1.os, ⟨k2.tape.1.trans k1.tape.1, Nat.le_trans (Nat.le_succ w.drawn) (Nat.le_trans k1.tape.2 (Nat.le_trans (Nat.le_succ _) k2.tape.2))⟩, k2.output.trans k1.output, hsz, fun k' hk' _ => hbl k' hk'⟩
        have hw : ∀ k', k' < w.heap.size → ¬ off F0 β k' → w'.heap[k']? = w.heap[k']? := fun k' hk' _ => hbl k' hk'
        have hdl : (cs.drop (i * k)).length = x.length * k - i * k := by rw [List.length_drop, hcl]
        have hs' := hs.replace (w' := w') (p' := p2) hp1 hblk hbut (o := .row E k 0 (F e (x.take i ++ v ++ x.drop i))) (by
          refine ⟨rfl, (fun h => by cases h), fun _ => ⟨_, (0, 0), hCv, by rw [wr_size, wr_size], by rw [hnewl, wr_size, wr_size, hsR]; show 0 + _ ≤ _; omega, fun j z hz => ?_, fun o' ho' h1 h2 => absurd h2 (Nat.not_lt_zero _)⟩⟩;obtain ⟨u, hc, ho, hcase⟩ := hget j z hz;refine ⟨u, ?_, hc.mono hsz (hO hblk) hw, ho⟩
          show (wr (wr ROW _ _) _ _)[0 + j]? = some u
          rw [Nat.zero_add, wr_get _ _ _ _ (by rw [wr_size, hdl, hsR, ei']; omega), wr_get _ _ _ _ (by rw [hvl', hsR]; omega), hvl', hdl, ei']
          rcases hcase with ⟨h, hu⟩ | ⟨h1, h2, hu⟩ | ⟨h1, hu⟩
          · rw [if_neg (by omega), if_neg (by omega), ← hROW, Array.getElem?_append_left (by simp only [Array.size_append, List.size_toArray, List.length_take, hcl, size_zeroCells, hZ]; omega), Array.getElem?_append_left (by simp only [List.size_toArray, List.length_take, hcl]; omega)]
            simp only [List.getElem?_toArray]
            rw [List.getElem?_take_of_lt h]
            exact hu
          · rw [if_neg (by omega), if_pos (by omega)]
            exact hu
          · have := (List.getElem?_eq_some_iff.1 hu).1
            rw [hdl] at this
            rw [if_pos (by omega)]
            exact hu)
        exact ins_fin hs' rfl rfl (.sl (p := p2) (upd_same _ _ _) rfl hG (by show 0 + 0 + G * k ≤ ROW.size; omega))
end Go.Abs
set_option linter.unusedVariables false
namespace W
variable {α β σ ρ τ : Type}
def Le (x y : Option α) : Prop := ∀ r, x = some r → y = some r
theorem Le.refl (x : Option α) : Le x x := fun _ h => h
theorem Le.bind {x y : Option α} {k k' : α → Option β} (h : Le x y) (hk : ∀ v, Le (k v) (k' v)) : Le (x.bind k) (y.bind k') := fun r hr => by
  cases x with
  | none => cases hr
  | some v => rw [h v rfl]; exact hk v r hr
theorem Le.bif (c : Bool) {x y x' y' : Option α} (h : Le x x') (h' : Le y y') : Le (bif c then x else y) (bif c then x' else y') := by
  cases c
  · exact h'
  · exact h
theorem Le.sum {f f' : α → Option τ} {g g' : β → Option τ} (h : ∀ a, Le (f a) (f' a)) (h' : ∀ b, Le (g b) (g' b)) : ∀ v, Le (Sum.elim f g v) (Sum.elim f' g' v)
  | .inl a => h a
  | .inr b => h' b
theorem iterN_le {f g : σ → Option (σ ⊕ ρ)} (h : ∀ s, Le (f s) (g s)) : ∀ (n : Nat) (s : σ) (q : ρ), iterN f n s = some q → iterN g n s = some q
  | 0, s, q, hq => by cases hq
  | n + 1, s, q, hq => by
    simp only [iterN] at hq ⊢
    cases hf : f s with
    | none => rw [hf] at hq; cases hq
    | some t =>
      rw [hf] at hq
      rw [h s t hf]
      cases t with
      | inl s' => exact iterN_le h n s' q hq
      | inr q' => exact hq
theorem Le.iter {f g : σ → Option (σ ⊕ ρ)} (h : ∀ s, Le (f s) (g s)) (n : Nat) (s : σ) : Le (iterN f n s) (W.iter g s) := fun q hq => iter_of (iterN_le h n s q hq)
end W
set_option linter.unusedVariables false
set_option linter.unusedSectionVars false
namespace Go.Abs
open Go Go.ChangeShapes Go.WideShapes Go.ChangeAt Go.RowKit
variable [GTab]

def CRows (w : World) (xs : List AV) (cs : List Value) : Prop := xs.length = cs.length ∧ ∀ (i : Nat) (x : AV), xs[i]? = some x → ∃ v, cs[i]? = some v ∧ CRel (fun _ => False) w x v ∧ v.oneCell' = true
theorem CRows.one {w : World} {x : AV} {v : Value} (h : CRel (fun _ => False) w x v) (h1 : v.oneCell' = true) : CRows w [x] [v] :=
  ⟨rfl, fun i y hy => by
    cases i with
    | zero => simp at hy; subst hy; exact ⟨v, rfl, h, h1⟩
    | succ i => simp at hy⟩
theorem CRows.append {w : World} {ys zs : List AV} {cs ds : List Value} (h : CRows w ys cs) (k : CRows w zs ds) : CRows w (ys ++ zs) (cs ++ ds) :=
  ⟨by simp [h.1, k.1], fun i y hy => by
    by_cases hi : i < ys.length
    · rw [List.getElem?_append_left hi] at hy
      rw [List.getElem?_append_left (by rw [← h.1]; exact hi)]
      exact h.2 i y hy
    · rw [List.getElem?_append_right (by omega)] at hy
      rw [List.getElem?_append_right (by rw [← h.1]; omega), ← h.1]
      exact k.2 _ y hy⟩

structure Rd (P : Program) (t : TypeId) {α : Type} (enc : α → List AV) (ok : α → Prop) : Prop where
  size : ∀ a, (enc a).length = P.cellsOf t
  read : ∀ {H : Type} (e : TypeId × Value → H) (w : World) (base : Nat) (sp : Nat → Bool) (held : Bool) (n : Nat) (cs : List Value) (x : DataW H × List MemPlace), DataW.trod e P w base sp held n t cs = some x → ∃ a : α, ok a ∧ CRows w (enc a) cs

theorem Rd.int {P : Program} {t : TypeId} {k : IntKind} (ht : P.underlying t = some (.int k)) (hs : P.cellsOf t = 1) : Rd P t (fun n : Int => [.pl (.int k n)]) (fun n => (Lit.int k n).wf = true) where
  size := fun _ => hs.symm
  read := fun e w base sp held n cs x h => by
    obtain ⟨b, rfl, _, hw⟩ := DataW.trod_int ht h;exact ⟨b, hw, .one (.pl _) rfl⟩
theorem Rd.string {P : Program} {t : TypeId} (ht : P.underlying t = some .string) (hs : P.cellsOf t = 1) : Rd P t (fun s : ByteArray => [.pl (.string s)]) (fun s => s.size ≤ maxLen) where
  size := fun _ => hs.symm
  read := fun e w base sp held n cs x h => by
    obtain ⟨b, rfl, _, hw⟩ := DataW.trod_string ht h;exact ⟨b, hw, .one (.pl _) rfl⟩

theorem flat_get {α : Type} {enc : α → List AV} {k : Nat} (hk : ∀ x, (enc x).length = k) : ∀ (l : List α) (j : Nat) (x : AV), (l.flatMap enc)[j]? = some x → ∃ (i r : Nat) (hi : i < l.length), r < k ∧ j = i * k + r ∧ (enc l[i])[r]? = some x
  | [], j, x, h => by simp at h
  | a :: l, j, x, h => by
    rw [List.flatMap_cons] at h
    by_cases hj : j < k
    · rw [List.getElem?_append_left (by rw [hk]; exact hj)] at h
      exact ⟨0, j, by simp, hj, by simp, h⟩
    · rw [List.getElem?_append_right (by rw [hk]; omega), hk] at h
      obtain ⟨i, r, hi, hr, he, hx⟩ := flat_get hk l _ x h;exact ⟨i + 1, r, by simpa using hi, hr, by rw [Nat.add_mul]; omega, by simpa using hx⟩

theorem Rd.slice {P : Program} {t e : TypeId} {α : Type} {enc : α → List AV} {ok : α → Prop} (hR : Rd P e enc ok) (ht : P.underlying t = some (.slice e)) (hs : P.cellsOf t = 1) (hpos : 0 < P.cellsOf e) :
    Rd P t (fun l : List α => [.vs l.length (l.flatMap enc)]) (fun l => l.length ≤ maxLen ∧ ∀ a ∈ l, ok a) where
  size := fun _ => hs.symm
  read := fun en w base sp held n cs x h => by
    rcases DataW.trod_slice ht h with ⟨rfl, _⟩ | ⟨a, len, cap, elems, rest, m, _, rfl, _, _, hlc, hcm, hel, hall, _, _⟩
    · exact ⟨[], ⟨by simp, by simp⟩, .one .vs0 rfl⟩
    · have hget : ∀ i : _root_.Fin len, ∃ y : α, ok y ∧ ∃ cs', w.cells? base (a.add (i.1 * P.cellsOf e)) (P.cellsOf e) = some cs' ∧ CRows w (enc y) cs' := fun i => by
        have h1 := hall i.1 i.2
        have hlt : i.1 < elems.length := by rw [hel]; exact i.2
        rw [List.getElem?_eq_getElem hlt, Option.bind_eq_some_iff] at h1
        obtain ⟨cs', hc, htr⟩ := h1;obtain ⟨y, hy, hr⟩ := hR.read en w base sp held m cs' _ htr;exact ⟨y, hy, cs', hc, hr⟩
      obtain ⟨l, hl, hli⟩ : ∃ l : List α, l.length = len ∧ ∀ (i : Nat) (hi : i < l.length), ok l[i] ∧ ∃ cs', w.cells? base (a.add (i * P.cellsOf e)) (P.cellsOf e) = some cs' ∧ CRows w (enc l[i]) cs' := by
        refine ⟨List.ofFn fun i : _root_.Fin len => Classical.choose (hget i), by simp, fun i hi => ?_⟩
        have := Classical.choose_spec (hget ⟨i, by simpa using hi⟩)
        simpa using this
      refine ⟨l, ⟨by rw [hl]; omega, fun y hy => by obtain ⟨i, hi, rfl⟩ := List.getElem_of_mem hy; exact (hli i hi).1⟩, ?_⟩
      rw [hl]
      have hcell : ∀ (j : Nat) (x : AV), (l.flatMap enc)[j]? = some x → ∃ u, w.cell? (a.add j) = some u ∧ CRel (fun _ => False) w x u ∧ u.oneCell' = true := fun j x hx => by
        obtain ⟨i, r, hi, hr, rfl, hx2⟩ := flat_get hR.size l j x hx;obtain ⟨_, cs', hc, hrow⟩ := hli i hi;obtain ⟨u, hu, hrel, h1⟩ := hrow.2 r x hx2;obtain ⟨_, _, hcl⟩ := World.cells?_some hc;refine ⟨u, ?_, hrel, h1⟩
        rw [← hu, ← hcl r hr]
        congr 1
        by_cases h0 : i * P.cellsOf e = 0 <;> by_cases h1 : r = 0 <;> simp [Addr.add, h0, h1, Nat.add_assoc]
      by_cases hn : len = 0
      · subst hn
        obtain rfl : l = [] := List.eq_nil_of_length_eq_zero hl;exact .one .vs0 rfl
      · have h0l : 0 < l.length := by omega
        have hne : (enc l[0]).length = P.cellsOf e := hR.size _
        obtain ⟨x0, hx0⟩ : ∃ x, (l.flatMap enc)[0]? = some x := by
          match hl0 : l, h0l with
          | y :: r, _ =>
            match he : enc y, hR.size y with
            | z :: _, _ => exact ⟨z, by simp [he]⟩
            | [], h => simp at h; omega
        obtain ⟨u0, hu0, _⟩ := hcell 0 x0 hx0
        have ha0 : a.add 0 = a := by simp [Addr.add]
        rw [ha0] at hu0
        obtain ⟨b, o, sp'⟩ := a
        have hsp : sp' = none := by
          unfold World.cell? at hu0
          split at hu0
          · cases sp' with
            | none => rfl
            | some k => simp at hu0
          · cases hu0
        subst hsp
        have hb : b < w.heap.size := World.block_lt_of_cell? w _ hu0
        let f : Nat → Value := fun j => (w.cell? ⟨b, o + j, none⟩).getD undef
        have hf : ∀ (j : Nat) (x : AV), (l.flatMap enc)[j]? = some x → w.cell? ⟨b, o + j, none⟩ = some (f j) ∧ CRel (fun _ => False) w x (f j) ∧ (f j).oneCell' = true := fun j x hx => by
          obtain ⟨u, hu, hr, h1⟩ := hcell j x hx
          rw [Addr.add_lit] at hu
          have : f j = u := by simp [f, hu]
          rw [this]; exact ⟨hu, hr, h1⟩
        exact .one (.vs hlc f (fun j x hx => ⟨(hf j x hx).1, (hf j x hx).2.2⟩) (fun h => h) hb (fun j x hx => (hf j x hx).2.1)) rfl

structure RdF (P : Program) (fs : List Field) (off : Nat) {α : Type} (enc : α → List AV) (ok : α → Prop) (k : Nat) : Prop where
  size : ∀ a, (enc a).length = k
  read : ∀ {H : Type} (e : TypeId × Value → H) (w : World) (base : Nat) (sp : Nat → Bool) (held : Bool) (n : Nat) (cs : List Value) (xs : List (DataW H × List MemPlace)), xs.length = fs.length → cs.length = off + k →
    (∀ (i : Nat) (f : Field), fs[i]? = some f → DataW.trod e P w base sp held n f.type ((cs.drop f.offset).take (P.cellsOf f.type)) = xs[i]?) → ∃ a : α, ok a ∧ CRows w (enc a) (cs.drop off)
theorem RdF.nil (P : Program) (off : Nat) : RdF P [] off (fun _ : Unit => []) (fun _ => True) 0 where
  size := fun _ => rfl
  read := fun e w base sp held n cs xs hl hcs h => ⟨(), trivial, by simp [hcs], by simp⟩
theorem RdF.cons {P : Program} {f : Field} {fs : List Field} {off k m : Nat} {α β : Type} {enc : α → List AV} {ok : α → Prop} {enc' : β → List AV} {ok' : β → Prop} (h1 : Rd P f.type enc ok) (ho : f.offset = off) (hk : P.cellsOf f.type = k) (h2 : RdF P fs (off + k) enc' ok' m) :
    RdF P (f :: fs) off (fun a : α × β => enc a.1 ++ enc' a.2) (fun a => ok a.1 ∧ ok' a.2) (k + m) where
  size := fun a => by rw [List.length_append, h1.size, h2.size, hk]
  read := fun e w base sp held n cs xs hl hcs h => by
    match xs, hl with
    | x :: xs, hl =>
      have hx := h 0 f rfl
      rw [ho, hk] at hx
      obtain ⟨a, ha, hra⟩ := h1.read e w base sp held n _ _ hx;obtain ⟨b, hb, hrb⟩ := h2.read e w base sp held n cs xs (by simpa using hl) (by omega) (fun i g hg => by simpa using h (i + 1) g (by simpa using hg));refine ⟨(a, b), ⟨ha, hb⟩, ?_⟩
      have : cs.drop off = (cs.drop off).take k ++ cs.drop (off + k) := by rw [← List.drop_drop, List.take_append_drop]
      rw [this]
      exact hra.append hrb
theorem Rd.struct {P : Program} {t : TypeId} {fs : Array Field} {α : Type} {enc : α → List AV} {ok : α → Prop} {k : Nat} (ht : P.underlying t = some (.struct fs)) (hk : P.cellsOf t = k) (h : RdF P fs.toList 0 enc ok k) : Rd P t enc ok where
  size := fun a => by rw [h.size, hk]
  read := fun e w base sp held n cs x hx => by
    obtain ⟨xs, m, _, _, hl, hxl, hall⟩ := DataW.trod_struct ht hx;obtain ⟨a, ha, hr⟩ := h.read e w base sp held m cs xs (by simpa using hxl) (by rw [hl, hk]; omega) (fun i f hf => hall i f (by simpa using hf));exact ⟨a, ha, by simpa using hr⟩
theorem Rd.map {P : Program} {t : TypeId} {α β : Type} {enc : α → List AV} {ok : α → Prop} {enc' : β → List AV} {ok' : β → Prop} (h : Rd P t enc ok) (g : α → β) (f : β → α) (hg : ∀ a, ok a → enc' (g a) = enc a ∧ ok' (g a)) (hf : ∀ b, enc' b = enc (f b)) : Rd P t enc' ok' where
  size := fun b => by rw [hf, h.size]
  read := fun e w base sp held n cs x hx => by
    obtain ⟨a, ha, hr⟩ := h.read e w base sp held n cs x hx;exact ⟨g a, (hg a ha).2, by rw [(hg a ha).1]; exact hr⟩
end Go.Abs
set_option linter.unusedVariables false
set_option linter.unusedSectionVars false
namespace Go.Abs
open Go Go.ChangeShapes Go.WideShapes Go.ChangeAt Go.RowKit
variable [GTab]

def kidsB (P : Program) (L : List TypeId) : Bool := L.all fun t => match P.underlying t with
  | some (.pointer e) => L.contains e
  | some (.slice e) => L.contains e && Nat.blt 0 (P.cellsOf e)
  | some (.array n e) => L.contains e && Nat.beq (P.cellsOf t) (n * P.cellsOf e)
  | some (.struct fs) => fs.toList.all (fun f => L.contains f.type) && Nat.beq (P.cellsOf t) (fs.toList.map fun f => P.cellsOf f.type).sum &&
      (List.range fs.toList.length).all (fun j => match fs.toList[j]? with | some f => Nat.beq f.offset ((fs.toList.take j).map fun f => P.cellsOf f.type).sum | none => true)
  | some (.map _ e) => L.contains e
  | _ => true
theorem kids_of {P : Program} {L : List TypeId} (h : kidsB P L = true) : Kids P (· ∈ L) where
  pointer := fun {t e} ht hu => by
    have := List.all_eq_true.1 h t ht
    simpa [hu] using this
  slice := fun {t e} ht hu => by
    have := List.all_eq_true.1 h t ht
    simp [hu] at this; exact this.1
  array := fun {t e n} ht hu => by
    have := List.all_eq_true.1 h t ht
    simp only [hu, Bool.and_eq_true] at this
    exact ⟨by simpa using this.1, Nat.eq_of_beq_eq_true this.2⟩
  struct := fun {t fs} ht hu => by
    have := List.all_eq_true.1 h t ht
    simp only [hu, Bool.and_eq_true] at this
    obtain ⟨⟨h1, h2⟩, h3⟩ := this;refine ⟨fun f hf => by simpa using List.all_eq_true.1 h1 f hf, Nat.eq_of_beq_eq_true h2, fun j f hf => ?_⟩
    have hj : j < fs.toList.length := (List.getElem?_eq_some_iff.1 hf).1
    have := List.all_eq_true.1 h3 j (by simpa using hj)
    rw [hf] at this
    exact Nat.eq_of_beq_eq_true this
  map := fun {t k e} ht hu => by
    have := List.all_eq_true.1 h t ht
    simpa [hu] using this
theorem kids_pos {P : Program} {L : List TypeId} (h : kidsB P L = true) {t e : TypeId} (ht : t ∈ L) (hu : P.underlying t = some (.slice e)) : 0 < P.cellsOf e := by
  have := List.all_eq_true.1 h t ht
  simp only [hu, Bool.and_eq_true] at this
  exact Nat.le_of_ble_eq_true this.2

section
variable {H : Type} {enc : TypeId × Value → H} {P : Program}
theorem sameAt_of_below {W W' : World} (hb : Below W.heap.size W W') {p : MemPlace} (hp : p.block < W.heap.size) : W.sameAt W' p := by
  cases p with
  | cell b o => exact cell?_same (hb.block b hp) o
  | map b => exact hb.block b hp
theorem trodAll_below {L : List TypeId} (hk : kidsB P L = true) {W W' : World} (hb : Below W.heap.size W W') {sp : Nat → Bool} : ∀ {ts : List TypeId} {vs : List Value} {ds : List (DataW H)} {ps : List MemPlace}, (∀ t ∈ ts, t ∈ L) → (∀ p ∈ ps, p.block < W.heap.size) →
    (∀ p ∈ ps, sp p.block = true) → DataW.TrodAll enc P W 0 (fun _ => true) true ts vs ds ps → DataW.TrodAll enc P W' 0 sp true ts vs ds ps
  | [], vs, ds, ps, hL, hlt, hsp, h => by
    cases vs <;> cases ds <;> simp [DataW.TrodAll] at h ⊢
    exact h
  | t :: ts, vs, ds, ps, hL, hlt, hsp, h => by
    obtain ⟨v, vs', d, ds', p, q, rfl, rfl, rfl, ⟨n, h1⟩, h2⟩ := trodAll_cons h;refine ⟨p, q, ⟨n, ?_⟩, trodAll_below hk hb (fun t ht => hL t (by simp [ht])) (fun x hx => hlt x (by simp [hx])) (fun x hx => hsp x (by simp [hx])) h2, rfl⟩;exact DataW.trod_stays (kids_of hk) (fun ht hu => kids_pos hk ht hu) (by simp) (hL t (by simp)) h1 (fun x hx => sameAt_of_below hb (hlt x (by simp [hx]))) (fun x hx => hsp x (by simp [hx]))

theorem law_post {f : Func} {s : ChangeSpec} {apart fresh handsOn again : Bool} {W W' : World} {args : Array Value} {ds gs : List (DataW H)} {before : List MemPlace} {L : List TypeId} {tb : TypeId}
    (hW : DataW.Whole enc P f.params.toList s.vars apart W args.toList ds gs before) (hv : s.vars = []) (hk : kidsB P L = true) (hL : f.params.toList.all (L.contains ·) = true) (hb : Below W.heap.size W W') (hr : f.resultTypes = #[tb]) (htb : P.underlying tb = some .bool)
    (hfn : s.fn H (ds ++ gs) = { results := [.lit (.bool true)], args := ds }) : s.post enc P f apart fresh handsOn again W args (.bool true) W' := by
  have hlt := hW.lt
  have hLm : ∀ t ∈ f.params.toList, t ∈ L := fun t ht => by simpa using List.all_eq_true.1 hL t ht
  have hW0 := hW
  obtain ⟨p, q, hA, hV, rfl, hz, hn⟩ := hW
  have hgq : gs = [] ∧ q = [] := by rw [hv] at hV; exact trodVars_none hV
  obtain ⟨rfl, rfl⟩ := hgq
  simp only [List.append_nil] at *
  have hargs : ∀ sp : Nat → Bool, (∀ x ∈ p, sp x.block = true) → DataW.TrodAll enc P W' 0 sp true f.params.toList args.toList ds p := fun sp hsp => trodAll_below hk hb hLm hlt hsp hA
  have hres : ∀ (b : Nat) (sp : Nat → Bool) (hd : Bool), DataW.TrodAll enc P W' b sp hd f.resultTypes.toList ((Value.bool true).resultList f.resultTypes.size) [.lit (.bool true)] [] := fun b sp hd => by
    rw [hr]; exact trodAll_mk1 (shut_bool htb true)
  have hvars : ∀ sp : Nat → Bool, DataW.TrodVars (H := H) enc P W' sp s.vars [] [] := fun sp => by rw [hv]; rfl
  have hold : ∀ x ∈ p, (fun b => decide (b < W.heap.size)) x.block = true := fun x hx => by simpa using hlt x hx
  refine ⟨ds, [], p, [], p, [], hW0, by simp only [List.append_nil]; rw [hfn]; exact hres _ _ _, by simp only [List.append_nil]; rw [hfn]; exact hargs _ hold, by simp only [List.append_nil]; rw [hfn]; exact hvars _, hb.frame _ |> World.keptBut_mono (fun x hx => hx) , fun _ => ?_⟩;refine ⟨ok_one hr rfl (okWide_bool_mk htb true), _, [], ([] ++ p) ++ [], ⟨[] ++ p, [], trodAll_append (hargs _ (fun _ _ => rfl)) (hres _ _ _), hvars _, rfl, ?_, ?_⟩, ?_⟩
  · intro b o hp
    have hp' : MemPlace.cell b o ∈ p := by simpa using hp
    have hlt' := hlt _ hp'
    have : W'.frozen? ⟨b, o, none⟩ = W.frozen? ⟨b, o, none⟩ := by
      unfold World.frozen?
      rw [show W'.heap[b]? = W.heap[b]? from hb.block b hlt']
    rw [this]; exact hz b o hp'
  · intro ha; simpa using hn ha
  · intro x hx _; simpa using hx

theorem not_agg {w : World} {r : Reach} {b : Nat} {t : TypeId} {v : Value} (h : Value.okWide P w r b t v) (hu : (match P.underlying t with | some (.struct _) | some (.array _ _) => true | _ => false) = false) : v.cells = #[v] := by
  cases v with
  | agg xs =>
    exfalso
    unfold Value.okWide at h
    split at h
    · rename_i he; rw [he] at hu; cases hu
    · rename_i he; rw [he] at hu; cases hu
    · unfold Cell.okWide at h
      split at h <;> first | (rename_i heq; cases heq; done) | skip
      unfold Cell.ok at h
      split at h <;> first | exact h | (rename_i heq; cases heq; done)
  | _ => rfl
theorem Rd.one {t : TypeId} {α : Type} {enc' : α → List AV} {ok : α → Prop} (hR : Rd P t enc' ok) {w : World} {r : Reach} {b base : Nat} {sp : Nat → Bool} {held : Bool} {v : Value} {d : DataW H} {ps : List MemPlace} (e1 : α → AV) (he : ∀ a, enc' a = [e1 a])
    (hu : (match P.underlying t with | some (.struct _) | some (.array _ _) => true | _ => false) = false) (hval : Value.okWide P w r b t v) (hd : DataW.Trod enc P w base sp held t v d ps) : ∃ a, ok a ∧ CRel (fun _ => False) w (e1 a) v := by
  obtain ⟨n, h⟩ := hd;obtain ⟨a, ha, hrow⟩ := hR.read enc w base sp held n _ _ h
  rw [not_agg hval hu, he] at hrow
  obtain ⟨u, hu', hr, _⟩ := hrow.2 0 _ rfl
  simp at hu'
  subst hu'
  exact ⟨a, ha, hr⟩
theorem Rd.agg {t : TypeId} {fs : Array Field} {α : Type} {enc' : α → List AV} {ok : α → Prop} (hR : Rd P t enc' ok) {w : World} {r : Reach} {b base : Nat} {sp : Nat → Bool} {held : Bool} {v : Value} {d : DataW H} {ps : List MemPlace}
    (hu : P.underlying t = some (.struct fs)) (hval : Value.okWide P w r b t v) (hd : DataW.Trod enc P w base sp held t v d ps) : ∃ a, ok a ∧ CRel (fun _ => False) w (.agg (enc' a)) v := by
  obtain ⟨n, h⟩ := hd;obtain ⟨a, ha, hrow⟩ := hR.read enc w base sp held n _ _ h;unfold Value.okWide at hval
  rw [hu] at hval
  obtain ⟨cs, rfl, _⟩ := hval;refine ⟨a, ha, .agg (by simpa [Value.cells] using hrow.1) fun i x v hx hv => ?_⟩;obtain ⟨u, hu, hr, _⟩ := hrow.2 i x hx
  simp only [Value.cells, Array.getElem?_toList] at hu
  rw [hv] at hu; cases hu; exact hr
end

theorem law_calls {P : Program} {k : FuncId} {args : List AV} (hs : PSpec P k args (.pl (.bool true))) {W : World} {vs : Array Value} (hl : args.length = vs.size) (ha : ∀ (i : Nat) (x : AV) (v : Value), args[i]? = some x → vs[i]? = some v → CRel (fun _ => False) W x v)
    (hg : GOk (fun _ => False) W := by exact GOk.nil rfl rfl) : Calls P k vs W (fun e W' => e = .returned (.bool true) ∧ Below W.heap.size W W') := by
  have hH : HRel (fun _ => False) noEmb [] W := ⟨(fun b o h => by cases h), (fun b p h => by cases h), (fun b b' p p' h => by cases h), (fun b h => h.elim), (fun b p h => by cases h), hg.mono (Nat.le_refl _) (fun _ hk => .inl (hk.elim id (fun h => (own_noEmb _ h).elim))) (fun _ _ _ => rfl)⟩
  have hA : Args (fun _ => False) noEmb W args vs.toList := ⟨by simpa using hl, fun i x v hx hv => .c ((ha i x v hx (by simpa using hv)).mono (Nat.le_refl _) (fun b hb => .inl (hb.elim id (fun h => (own_noEmb _ h).elim))) (fun _ _ _ => rfl))⟩
  have := hs.2 (fun _ => False) noEmb W vs.toList hH hA
  simp only [Array.toArray_toList] at this
  refine this.mono ?_
  rintro e w' ⟨r, v, H', M, β', rfl, ⟨rfl, rfl⟩, hH', hv, hkp, _⟩
  exact ⟨by rw [hv.pl_eq], hkp.below own_noEmb⟩
end Go.Abs
set_option linter.unusedVariables false
set_option linter.unusedSimpArgs false
set_option linter.unusedSectionVars false
namespace Go.Abs
open Go Go.Proofs Go.Lib
variable [GTab]
theorem gok_of {P : Program} {W : World} (ht : ∀ g cs, (g, cs) ∈ GTab.tab → (∃ name, P.globalNamed name = some g ∧ W.var? P name = some cs.toArray) ∧ ∀ v ∈ cs, v.oneCell' = true)
    (hi : ∀ g, g ∈ GTab.ints → ∃ n t fr, W.heap[g]? = some (.cells #[.int .i64 n] t fr)) : GOk (fun _ => False) W := by
  have key : ∀ g cs, (g, cs) ∈ GTab.tab → ∃ t fr, W.heap[g]? = some (.cells cs.toArray t fr) := fun g cs h => by
    obtain ⟨⟨name, hg, hv⟩, _⟩ := ht g cs h;unfold World.var? at hv
    rw [hg] at hv
    simp only [Option.bind_some] at hv
    cases hw : W.heap[g]? with
    | none => rw [hw] at hv; cases hv
    | some o =>
      rw [hw] at hv
      cases o with
      | cells c t fr => simp only [Option.some.injEq] at hv; subst hv; exact ⟨t, fr, rfl⟩
      | _ => cases hv
  refine ⟨fun g cs h => ⟨fun h => h, ?_⟩, key, fun g cs h => (ht g cs h).2, fun g h => ?_⟩
  · obtain ⟨t, fr, hh⟩ := key g cs h;exact (Array.getElem?_eq_some_iff.1 hh).1
  · obtain ⟨n, t, fr, hh⟩ := hi g h;exact ⟨fun h => h, (Array.getElem?_eq_some_iff.1 hh).1, n, t, fr, hh⟩
theorem var_ints {P : Program} {W : World} {name : String} {k : IntKind} {zs : List Int} {g : Nat} {t e : TypeId} {n : Nat} {d : DataW Unit} (h : VarReads P W name d) (hd : d = tabData k zs)
    (hg : P.globalNamed name = some g) (hty : (P.globals[g]?).map (·.type) = some t) (ht : P.underlying t = some (.array n e)) (he : P.underlying e = some (.int k)) (hce : P.cellsOf e = 1) (hct : P.cellsOf t = n) :
    W.var? P name = some (zs.map fun z => Value.int k z).toArray := by
  subst hd
  obtain ⟨g', t', cs, fuel, p, hg', ht', hvar, hd⟩ := h;obtain rfl := Option.some.inj (hg.symm.trans hg');obtain rfl := Option.some.inj (hty.symm.trans ht')
  rw [hvar, ← cells_of_tab ht he hce hct hd]
theorem var_structs {P : Program} {W : World} {name : String} {k : IntKind} {rows : List (List Int)} {g : Nat} {t e : TypeId} {n m : Nat} {fs : Array Field} {d : DataW Unit} (h : VarReads P W name d)
    (hd : d = .agg (rows.map fun zs => .agg (zs.map fun z => .lit (.int k z))))
    (hg : P.globalNamed name = some g) (hty : (P.globals[g]?).map (·.type) = some t) (ht : P.underlying t = some (.array n e)) (hct : P.cellsOf t = n * m) (he : P.underlying e = some (.struct fs)) (hce : P.cellsOf e = m) (hm : m = fs.size)
    (hf : ∀ (i : Nat) (f : Field), fs[i]? = some f → P.underlying f.type = some (.int k) ∧ f.offset = i ∧ P.cellsOf f.type = 1) (hr : ∀ zs ∈ rows, zs.length = m) (hn : rows.length = n) :
    W.var? P name = some (rows.flatMap fun zs => zs.map fun z => Value.int k z).toArray := by
  subst hd
  obtain ⟨g', t', cs, fuel, p, hg', ht', hvar, hd⟩ := h;obtain rfl := Option.some.inj (hg.symm.trans hg');obtain rfl := Option.some.inj (hty.symm.trans ht')
  have hlen : cs.toList.length = n * m := by
    cases fuel with
    | zero => simp [DataW.trod] at hd
    | succ fuel =>
      simp only [DataW.trod, ht, hce] at hd
      split at hd
      · rename_i hl; rw [← hct]; simpa using hl
      · cases hd
  have hi : ∀ i (hi : i < n), (cs.toList.drop (i * m)).take m = (rows[i]'(by omega)).map fun z => Value.int k z := fun i hi => by
    obtain ⟨fuel', d, q, hdi, hel⟩ := array_elem ht hd i hi
    rw [List.getElem?_map, List.getElem?_eq_getElem (by omega)] at hdi
    simp only [Option.map_some, Option.some.injEq] at hdi
    subst hdi
    rw [hce] at hel
    exact ints_of_struct he hf (by rw [hce, hm]) hel
  have : ∀ (rows : List (List Int)) (cs : List Value), (∀ zs ∈ rows, zs.length = m) → cs.length = rows.length * m → (∀ i (h : i < rows.length), (cs.drop (i * m)).take m = rows[i].map fun z => Value.int k z) → cs = rows.flatMap fun zs => zs.map fun z => Value.int k z := by
    intro rows
    induction rows with
    | nil => intro cs _ h _; simpa using h
    | cons zs r ih =>
      intro cs hr hl h
      have h0 := h 0 (by simp)
      simp only [Nat.zero_mul, List.drop_zero, List.getElem_cons_zero] at h0
      rw [List.flatMap_cons, ← h0, ← ih (cs.drop m) (fun zs hz => hr zs (by simp [hz])) (by rw [List.length_drop, hl, List.length_cons, Nat.add_mul]; omega) (fun i hi => ?_), List.take_append_drop]
      have := h (i + 1) (by simpa using hi)
      rw [List.drop_drop, Nat.add_comm m, ← Nat.succ_mul]
      simpa using this
  rw [hvar, ← this rows cs.toList hr (by rw [hlen, hn]) (fun i h => hi i (by omega))]
theorem int_of_shaped {P : Program} {w : World} {g : Nat} {t : TypeId} {zero : Array Value} (h : w.ShapedOpen P) (hg : Nat.blt g P.globals.size = true)
    (h0 : ((begin P (fun _ _ => 0) default).world.heap[g]?).bind Obj.row? = some (zero, t)) (hz : zero.size = 1)
    (hb : P.buildable t = true) (hc : P.cellTypes P.depth t = some [t]) (hu : P.underlying t = some (.int .i64)) : ∃ n t fr, w.heap[g]? = some (.cells #[.int .i64 n] t fr) := by
  have hg : g < P.globals.size := by simpa [Nat.blt_eq] using hg
  obtain ⟨m, hm⟩ := cell_of_shapedOpen_int h hg h0 hz hb hc hu;obtain ⟨cs, hh, hs, _⟩ := h.1 g zero t hg h0;refine ⟨m, t, (0, 0), ?_⟩
  rw [hh]
  rw [hz] at hs
  simp only [World.cell?, hh] at hm
  have : cs = #[cs[0]'(by omega)] := by
    apply Array.ext
    · simpa using hs
    · intro i h1 h2
      have : i = 0 := by omega
      subst this; rfl
  rw [this]
  congr 3
  simpa [hs] using hm
section
variable {H : Type} {enc : TypeId × Value → H}
theorem lifted {a : Assume} {C : Checked} {os : Os} {f : FuncId} {fn : Func} {s : ChangeSpec} {conds : List PathCond} {apart fresh handsOn again : Bool} {X : World → Array Value → Prop}
    (hX : ∀ (w w' : World) (args : Array Value), w.heap = w'.heap → X w args → X w' args)
    (own : ownKnob C.prog.godebug = none) (started : os.Started) (noInit : C.prog.inits.idxOf? f = none) (hfn : C.prog.funcs[f]? = some fn)
    (witness : ∃ (w : World) (tape : Tape) (i : Input), w.os = os ∧ (w.forCall tape i).Shaped C.prog ∧ i.vars = [] ∧ Input.okWide C.prog (w.forCall tape i) .any w.heap.size f i ∧
      ((s.pre enc C.prog fn conds apart (w.forCall tape i).memory i.args ∧ X (w.forCall tape i).memory i.args) ∧ sizedMet enc C.prog fn (OpenSpec.ofChange s) apart (w.forCall tape i).memory i.args) ∧ a.holds C.prog (lone (Frame.enter C.prog f i.args .normal) [] (w.forCall tape i)))
    (contract : ∀ (W : World) (base : Nat) (args : Array Value) (ds gs : List (DataW H)) (before : List MemPlace),
      (∀ (j : Nat) t v, fn.params[j]? = some t → args[j]? = some v → Value.okWide C.prog W .any base t v) → DataW.Whole enc C.prog fn.params.toList s.vars apart W args.toList ds gs before →
      X W args → W.ShapedOpen C.prog → Calls C.prog f args W fun e W' => ∃ v, e = .returned v ∧ s.post enc C.prog fn apart fresh handsOn again W args v W') :
    ReturnsInHanded a C os f .any (fun w args => (s.pre enc C.prog fn conds apart w args ∧ X w args) ∧ sizedMet enc C.prog fn (OpenSpec.ofChange s) apart w args) (s.post enc C.prog fn apart fresh handsOn again) := by
  refine returnsInHanded_of_calls own started noInit witness fun w tape i _ hsh _ hok hpre hholds => ?_;obtain ⟨_, _, _, fn', hfn', _, _, _, _, hval⟩ := hok
  cases Option.some.inj (hfn'.symm.trans hfn)
  obtain ⟨⟨⟨ds, gs, before, hw, _⟩, hx⟩, _⟩ := hpre
  exact (contract (w.forCall tape i) w.heap.size i.args ds gs before hval (DataW.Whole.of_heap (w' := w.forCall tape i) (by rfl) hw) (hX _ _ _ (by rfl) hx) hsh).mono fun e W' ⟨v, he, hp⟩ => by
    subst he
    exact ChangeSpec.post_blind hp
end
end Go.Abs
