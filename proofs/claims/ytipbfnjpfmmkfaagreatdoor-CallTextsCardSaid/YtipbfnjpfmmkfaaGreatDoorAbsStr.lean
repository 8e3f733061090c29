/-
  TEXTS AND CHARACTERS: a character as a text, a text's characters, characters as a text. Generic over the program. Conditions: texts of at most 2^46 bytes.
-/
import Derived.Test.YtipbfnjpfmmkfaaGreatDoorAbsMap
import Derived.Laws.IdiomStrings
set_option linter.unusedVariables false
set_option linter.unusedSimpArgs false
set_option linter.unusedSectionVars false
namespace Go.Abs
open Go Go.RowKit Go.Proofs W
variable [GTab]
theorem enc_eq (r : Int) : Utf8.encode r = ⟨(enc r).toArray⟩ := by
  have hv : Utf8.valid r = true ↔ (0 ≤ r ∧ W.validRune r.toNat = true) := by
    unfold Utf8.valid W.validRune
    simp only [Bool.and_eq_true, Bool.or_eq_true, decide_eq_true_eq]
    omega
  have hc : (if Utf8.valid r = true then r.toNat else Utf8.runeError) = (if 0 ≤ r ∧ W.validRune r.toNat = true then r.toNat else 0xFFFD) := by
    by_cases h : Utf8.valid r = true
    · rw [if_pos h, if_pos (hv.1 h)]
    · rw [if_neg h, if_neg (fun e => h (hv.2 e))]; rfl
  unfold Utf8.encode enc
  simp only [hc]
  generalize (if 0 ≤ r ∧ W.validRune r.toNat = true then r.toNat else 0xFFFD) = q
  by_cases h1 : q < 128
  · simp [h1]
  · by_cases h2 : q < 2048
    · simp [h1, h2]
    · by_cases h3 : q < 65536
      · simp [h1, h2, h3]
      · simp [h1, h2, h3]
theorem runes_eq (s : Str) : ∀ (b i : Nat) (acc : Array Value), Conv.runesFrom ⟨s.toArray⟩ b i acc = acc ++ ((runesW s b i).map fun r => Value.int .i32 r).toArray
  | 0, i, acc => by simp [Conv.runesFrom, runesW]
  | b + 1, i, acc => by
    unfold Conv.runesFrom runesW
    have hsz : (ByteArray.mk s.toArray).size = s.length := rfl
    rw [hsz]
    by_cases h : i < s.length
    · rw [if_pos h, if_pos h]
      simp only [dec_eq]
      rw [runes_eq s b]
      simp
    · rw [if_neg h, if_neg h]; simp
section
variable {c : Ctx} {s : St} {d : Option Tmp} {ty : TypeId} {pos : String} {af : Array Edge} {g : Option (Nat × Bool)}
theorem q_istr {src dst : TypeId} {x : Operand} {k k' : IntKind} {n : Int} {t1 t2 : TI} (h1 : tget c.U src = some t1) (hd1 : t1.desc = .int k) (h2 : tget c.U dst = some t2) (hd2 : t2.desc = .string) (hx : opv s.T x = some (.pl (.int k' n))) : QOp c ⟨d, .convert src dst x, ty, pos, af, g⟩ s (.pl (.string ⟨(enc n).toArray⟩)) := by
  intro a w β hs
  have hu1 : c.P.underlying src = some (.int k) := (ty_under h1).trans (congrArg some hd1)
  have hu2 : c.P.underlying dst = some .string := (ty_under h2).trans (congrArg some hd2)
  refine ⟨_, .c (.pl _), fun w' _ => ?_⟩
  simp [execOp, convert, hs.pl hx, run_underlying hu1, run_underlying hu2, Conv.intToString, enc_eq, Result.andThen]
theorem e_runes {src dst e : TypeId} {x : Operand} {l : Str} {v : List Int} {t1 t2 ei : TI} (h1 : tget c.U src = some t1) (hd1 : t1.desc = .string) (h2 : tget c.U dst = some t2) (hd2 : t2.desc = .slice e) (he : tget c.U e = some ei) (hek : ei.desc = .int .i32) (hx : opv s.T x = some (.pl (.string ⟨l.toArray⟩))) (hv : runes l = some v)
    (hb : hget s.H (nm d) = none) (hd : dstOk c.N d = true) : EOp c ⟨d, .convert src dst x, ty, pos, af, g⟩ s ⟨putT s.T d (.sl (nm d) 0 v.length), (nm d, .row e 1 0 (v.map fun r => AV.pl (.int .i32 r))) :: s.H, s.M⟩ := by
  intro a w β hs
  have hu1 : c.P.underlying src = some .string := (ty_under h1).trans (congrArg some hd1)
  have hu2 : c.P.underlying dst = some (.slice e) := (ty_under h2).trans (congrArg some hd2)
  have hu3 : c.P.underlying e = some (.int .i32) := (ty_under he).trans (congrArg some hek)
  unfold runes at hv
  cases hl : decide (l.length ≤ 70368744177664) with
  | false => rw [hl] at hv; cases hv
  | true =>
  rw [hl] at hv; cases hv
  have hl := of_decide_eq_true hl
  have hsz : (ByteArray.mk l.toArray).size = l.length := rfl
  have hrf := runes_eq l l.length 0 #[]
  simp only [Array.empty_append] at hrf
  have hlen : (Conv.runesFrom ⟨l.toArray⟩ l.length 0 #[]).size = (runesW l l.length 0).length := by rw [hrf]; simp
  have hle := size_runesFrom ⟨l.toArray⟩ l.length 0 #[]
  have hrun := run_runes_of_string (P := c.P) w src dst e ⟨l.toArray⟩ hu1 hu2 hu3 (by rw [hsz]; simp at hle; omega)
  rw [hsz, hlen, hrf] at hrun
  have hge := Go.Abs.grownCap_ge w (runesW l l.length 0).length e
  obtain ⟨β', hs', hr⟩ := hs.newrow2 (below_drew w) hb (((runesW l l.length 0).map fun r => Value.int .i32 r).toArray ++ Array.replicate (grownCap w (runesW l l.length 0).length 0 e - (runesW l l.length 0).length) (.int .i32 0)) e (k := 1) (n := (runesW l l.length 0).length) (cap := grownCap w (runesW l l.length 0).length 0 e) (cs := (runesW l l.length 0).map fun r => AV.pl (.int .i32 r))
    (by simp) hge (by simp; omega) (fun j y hy => by
      rw [List.getElem?_map, Option.map_eq_some_iff] at hy
      obtain ⟨r, hr, rfl⟩ := hy
      have hj := (List.getElem?_eq_some_iff.1 hr).1
      exact ⟨.int .i32 r, by rw [Array.getElem?_append_left (by simpa using hj)]; simp [hr], .pl _, rfl⟩)
  exact ⟨_, β', .inl ⟨_, by simp [execOp, hs.pl hx, hrun, Result.andThen], hs'.put hd hr⟩⟩
end
section
variable {c : Ctx} {Q : Exit → Act → World → Prop} {T : List (Nat × AV)} {H : List (Nat × AObj)} {M : List Nat} {ops : Array Oper} {rest : List Oper} {d : Tmp} {ty : TypeId} {pos : String} {af : Array Edge}
theorem l_istr {src dst : TypeId} {x : Operand} {k k' : IntKind} {n : Int} {t1 t2 : TI} (hn : RunL c ops Q rest ⟨(d, S (enc n)) :: T, H, M⟩) (h1 : tget c.U src = some t1 := by exact rfl) (hd1 : t1.desc = .int k := by exact rfl) (h2 : tget c.U dst = some t2 := by exact rfl) (hd2 : t2.desc = .string := by exact rfl) (hx : opv T x = some (.pl (.int k' n)) := by exact rfl) (hdo : dstOk c.N (some d) = true := by exact rfl) :
    RunL c ops Q (⟨some d, .convert src dst x, ty, pos, af, none⟩ :: rest) ⟨T, H, M⟩ := RunL_q (s := ⟨T, H, M⟩) (q_istr h1 hd1 h2 hd2 hx) rfl hdo hn
theorem l_runes {ρ : Type} {kk : List Int → Option ρ} {r : ρ} {src dst e : TypeId} {x : Operand} {l : Str} {t1 t2 ei : TI} (h : (runes l).bind kk = some r) (hn : ∀ v, runes l = some v → kk v = some r → RunL c ops Q rest ⟨(d, .sl (nm (some d)) 0 v.length) :: T, (nm (some d), .row e 1 0 (F (fun n : Int => [AV.pl (.int .i32 n)]) v)) :: H, M⟩)
    (h1 : tget c.U src = some t1 := by exact rfl) (hd1 : t1.desc = .string := by exact rfl) (h2 : tget c.U dst = some t2 := by exact rfl) (hd2 : t2.desc = .slice e := by exact rfl) (he : tget c.U e = some ei := by exact rfl) (hek : ei.desc = .int .i32 := by exact rfl) (hx : opv T x = some (S l) := by exact rfl) (hb : hget H (nm (some d)) = none := by exact rfl) (hdo : dstOk c.N (some d) = true := by exact rfl) :
    RunL c ops Q (⟨some d, .convert src dst x, ty, pos, af, none⟩ :: rest) ⟨T, H, M⟩ := by
  obtain ⟨v, hv, h⟩ := bind_some h
  have hF : ∀ v : List Int, F (fun n : Int => [AV.pl (.int .i32 n)]) v = v.map fun r => AV.pl (.int .i32 r) := fun v => by
    induction v with
    | nil => rfl
    | cons a v ih => rw [List.map_cons, ← ih]; rfl
  have h3 := hn v hv h
  rw [hF] at h3
  exact RunL_e (s := ⟨T, H, M⟩) (e_runes h1 hd1 h2 hd2 he hek hx hv hb hdo) rfl h3
end
end Go.Abs
