/-
  THE READERS OF POINTS: what the arguments of the laws of layer 11 are. Conditions: none.
-/
import Derived.Test.YtebcdmfekidfoaaRows
import Derived.Test.YtebcdmfekidfoaaGWalk
import Derived.Test.YtebcdmfekidfoaaPNodes5
import Derived.Test.YtebcdmfekidfoaaAbsLaw
namespace Go.Proofs.Ytebcdmfekidfoaa
open Go Go.Abs W G
theorem rdPoint : Rd Try.prog 62 c_TPoint (fun _ => True) :=
  Rd.map (Rd.struct (k := 3) (fs := #[{ name := "N", type := 3, offset := 0, embedded := false, tag := "", pkgPath := "", byteOffset := 0 }, { name := "Part", type := 3, offset := 1, embedded := false, tag := "", pkgPath := "", byteOffset := 8 }, { name := "I", type := 3, offset := 2, embedded := false, tag := "", pkgPath := "", byteOffset := 16 }]) (by kernel_rfl) (by kernel_rfl)
    (RdF.cons (k := 1) (Rd.int (k := .i64) (by kernel_rfl) (by kernel_rfl)) rfl (by kernel_rfl) (RdF.cons (k := 1) (Rd.int (k := .i64) (by kernel_rfl) (by kernel_rfl)) rfl (by kernel_rfl) (RdF.cons (k := 1) (Rd.int (k := .i64) (by kernel_rfl) (by kernel_rfl)) rfl (by kernel_rfl) (RdF.nil _ _)))))
    (fun a => (⟨a.1, a.2.1, a.2.2.1⟩ : TPoint)) (fun k => (k.N, k.Part, k.I, ())) (fun a _ => ⟨rfl, trivial⟩) (fun b => rfl)
theorem rdPoints : Rd Try.prog 60 (fun l : List TPoint => [.vs l.length (F c_TPoint l)]) (fun _ => True) :=
  Rd.map (Rd.slice rdPoint (by kernel_rfl) (by kernel_rfl) (by rw [show Try.prog.cellsOf 62 = 3 by kernel_rfl]; decide)) id id (fun l _ => ⟨rfl, trivial⟩) (fun l => rfl)
theorem lawOwn : ownKnob Try.prog.godebug = none := by kernel_rfl
end Go.Proofs.Ytebcdmfekidfoaa
