/-
  PLAIN FUNCTIONS, printed by aw.py: what the functions compute. No program, no memory. Conditions: none.
-/
import Derived.Test.YtebcdmfekidfoaaAbsPureS
set_option linter.unusedVariables false
namespace G
open W
structure TPoint where
  N : Int
  Part : Int
  I : Int
def TPoint.ints (x : TPoint) : List Int := [x.N, x.Part, x.I]
def TPoint.eqb (x y : TPoint) : Bool := x.ints == y.ints
noncomputable def slices_Clone_Point (s : (List TPoint)) : Option (List TPoint) :=
  (app 24 [] s).bind fun v2 => some v2
noncomputable def slices_SortFunc_Point (x : (List TPoint)) (cmp : (TPoint → TPoint → Option Int)) : Option (List TPoint) :=
  srt x cmp
noncomputable def cmp_isNaN_int (x : Int) : Option Bool :=
  some (x != x)
noncomputable def cmp_Compare_int (x : Int) (y_ : Int) : Option Int :=
  (cmp_isNaN_int x).bind fun v1 => (cmp_isNaN_int y_).bind fun v2 => (bif v1 then (bif v2 then some 0 else some (-1)) else (bif v2 then some 1 else (bif (decide (x < y_)) then some (-1) else (bif (decide (x > y_)) then some 1 else some 0))))
noncomputable def cmp_Or_int_b1 (vals : (List Int)) (y1 : Int) : Option (Int ⊕ (Int ⊕ Unit)) :=
  (bif (decide (y1 < (vals.length : Int))) then (at' vals y1).bind fun v2 => (bif (v2 != 0) then some (.inr (Sum.inl v2)) else some (.inl (w64 (y1 + 1)))) else some (.inr (Sum.inr ())))
noncomputable def cmp_Or_int (vals : (List Int)) : Option Int :=
  (iter (cmp_Or_int_b1 vals) 0).bind (Sum.elim (fun (q3 : Int) => some q3) (fun (q4 : Unit) => some 0))
noncomputable def point_Compare (a : TPoint) (b : TPoint) : Option Int :=
  (cmp_Compare_int a.N b.N).bind fun v1 => (cmp_Compare_int a.Part b.Part).bind fun v2 => (cmp_Compare_int a.I b.I).bind fun v3 => (cmp_Or_int [v1, v2, v3]).bind fun v4 => some v4
noncomputable def slices_Compact_Point_b2 (s : (List TPoint)) (y1 : Int) (y4 : Int × Int × (List TPoint)) : Option ((Int × Int × (List TPoint)) ⊕ (Int × (List TPoint))) :=
  (bif (decide (y4.2.1 < ((((s.length : Int).toNat - y1.toNat) : Nat) : Int))) then (atp y4.2.2 y1.toNat ((s.length : Int).toNat - y1.toNat) y4.2.1).bind fun v5 => (atp y4.2.2 y1.toNat ((s.length : Int).toNat - y1.toNat) (w64 (y4.2.1 - 1))).bind fun v6 => (bif (!(TPoint.eqb v5 v6)) then (atp y4.2.2 y1.toNat ((s.length : Int).toNat - y1.toNat) y4.2.1).bind fun v7 => (at' y4.2.2 y4.1).bind fun v8 => (put y4.2.2 y4.1 v7).bind fun v9 => some (.inl ((w64 (y4.1 + 1)), (w64 (y4.2.1 + 1)), v9)) else some (.inl (y4.1, (w64 (y4.2.1 + 1)), y4.2.2))) else some (.inr (y4.1, y4.2.2)))
noncomputable def slices_Compact_Point_b1 (s : (List TPoint)) (y1 : Int) : Option (Int ⊕ ((List TPoint) ⊕ Unit)) :=
  (bif (decide (y1 < (s.length : Int))) then (at' s y1).bind fun v2 => (at' s (w64 (y1 - 1))).bind fun v3 => (bif (TPoint.eqb v2 v3) then (rng (s.length : Int) y1 (s.length : Int)).bind fun _ => (iter (slices_Compact_Point_b2 s y1) (y1, 1, s)).bind (fun (q10 : Int × (List TPoint)) => (rng (q10.2.length : Int) q10.1 (q10.2.length : Int)).bind fun _ => (clr q10.2 q10.1.toNat ((q10.2.length : Int).toNat - q10.1.toNat) (TPoint.mk 0 0 0)).bind fun v11 => (rng (q10.2.length : Int) 0 q10.1).bind fun _ => (prt v11 0 q10.1.toNat).bind fun v12 => some (.inr (Sum.inl v12))) else some (.inl (w64 (y1 + 1)))) else some (.inr (Sum.inr ())))
noncomputable def slices_Compact_Point (s : (List TPoint)) : Option (List TPoint) :=
  (bif (decide ((s.length : Int) < 2)) then some s else (iter (slices_Compact_Point_b1 s) 1).bind (Sum.elim (fun (q13 : (List TPoint)) => some q13) (fun (q14 : Unit) => some s)))
noncomputable def nodes_Of (l : (List TPoint)) : Option (List TPoint) :=
  (slices_Clone_Point l).bind fun v1 => (slices_SortFunc_Point v1 (fun x0 x1 => point_Compare x0 x1)).bind fun v2 => (eqn v2.length v1.length).bind fun _ => (slices_Compact_Point v2).bind fun v3 => some v3
noncomputable def nodes_Is_b1 (l : (List TPoint)) (y1 : Int) : Option (Int ⊕ (Unit ⊕ Unit)) :=
  (bif (decide (y1 < (l.length : Int))) then (at' l (w64 (y1 - 1))).bind fun v2 => (at' l y1).bind fun v3 => (point_Compare v2 v3).bind fun v4 => (bif (decide (v4 ≥ 0)) then some (.inr (Sum.inl ())) else some (.inl (w64 (y1 + 1)))) else some (.inr (Sum.inr ())))
noncomputable def nodes_Is (l : (List TPoint)) : Option Bool :=
  (iter (nodes_Is_b1 l) 1).bind (Sum.elim (fun (q5 : Unit) => some false) (fun (q6 : Unit) => some true))
noncomputable def slices_Index_Point_b1 (s : (List TPoint)) (v_ : TPoint) (y1 : Int) : Option (Int ⊕ (Int ⊕ Unit)) :=
  (bif (decide (y1 < (s.length : Int))) then (at' s y1).bind fun v2 => (bif (TPoint.eqb v_ v2) then some (.inr (Sum.inl y1)) else some (.inl (w64 (y1 + 1)))) else some (.inr (Sum.inr ())))
noncomputable def slices_Index_Point (s : (List TPoint)) (v_ : TPoint) : Option Int :=
  (iter (slices_Index_Point_b1 s v_) 0).bind (Sum.elim (fun (q3 : Int) => some q3) (fun (q4 : Unit) => some (-1)))
noncomputable def slices_Contains_Point (s : (List TPoint)) (v_ : TPoint) : Option Bool :=
  (slices_Index_Point s v_).bind fun v1 => some (decide (v1 ≥ 0))
noncomputable def nodes_Has (l : (List TPoint)) (p : TPoint) : Option Bool :=
  (slices_Contains_Point l p).bind fun v1 => some v1
noncomputable def apostillelaw11_awake : Option Bool :=
  (nodes_Of [(TPoint.mk 2 0 0), (TPoint.mk 1 0 0), (TPoint.mk 1 0 0)]).bind fun v1 => (bif ((v1.length : Int) == 2) then (at' v1 0).bind fun v2 => (bif (v2.N == 1) then (nodes_Is v1).bind fun v3 => (bif v3 then (nodes_Has v1 (TPoint.mk 2 0 0)).bind fun v4 => some v4 else some false) else some false) else some false)
noncomputable def apostilleref10_Less (a : TPoint) (b : TPoint) : Option Bool :=
  (bif (a.N != b.N) then some (decide (a.N < b.N)) else (bif (a.Part != b.Part) then some (decide (a.Part < b.Part)) else some (decide (a.I < b.I))))
noncomputable def apostilleref11_Of_b2 (l : (List TPoint)) (y1 : Int × (List TPoint)) (y2 : Int) : Option (Int ⊕ Int) :=
  (bif (decide (y2 < (y1.2.length : Int))) then (at' y1.2 y2).bind fun v3 => (at' l y1.1).bind fun v4 => (apostilleref10_Less v3 v4).bind fun v5 => (bif v5 then some (.inl (w64 (y2 + 1))) else some (.inr y2)) else some (.inr y2))
noncomputable def apostilleref11_Of_b1 (l : (List TPoint)) (y1 : Int × (List TPoint)) : Option ((Int × (List TPoint)) ⊕ (List TPoint)) :=
  (bif (decide (y1.1 < (l.length : Int))) then (iter (apostilleref11_Of_b2 l y1) 0).bind (fun (q6 : Int) => (bif (decide (q6 < (y1.2.length : Int))) then (at' y1.2 q6).bind fun v7 => (at' l y1.1).bind fun v8 => (bif (TPoint.eqb v7 v8) then some (.inl ((w64 (y1.1 + 1)), y1.2)) else (rng (y1.2.length : Int) 0 q6).bind fun _ => (at' l y1.1).bind fun v9 => (rng (y1.2.length : Int) q6 (y1.2.length : Int)).bind fun _ => (appp 24 [] y1.2 0 q6.toNat).bind fun v10 => (app 24 v10 [v9]).bind fun v11 => (appp 24 v11 y1.2 q6.toNat ((y1.2.length : Int).toNat - q6.toNat)).bind fun v12 => some (.inl ((w64 (y1.1 + 1)), v12))) else (rng (y1.2.length : Int) 0 q6).bind fun _ => (at' l y1.1).bind fun v13 => (rng (y1.2.length : Int) q6 (y1.2.length : Int)).bind fun _ => (appp 24 [] y1.2 0 q6.toNat).bind fun v14 => (app 24 v14 [v13]).bind fun v15 => (appp 24 v15 y1.2 q6.toNat ((y1.2.length : Int).toNat - q6.toNat)).bind fun v16 => some (.inl ((w64 (y1.1 + 1)), v16)))) else some (.inr y1.2))
noncomputable def apostilleref11_Of (l : (List TPoint)) : Option (List TPoint) :=
  (iter (apostilleref11_Of_b1 l) (0, [])).bind (fun (q17 : (List TPoint)) => some q17)
noncomputable def apostilleref10_Same_b1 (a : (List TPoint)) (b : (List TPoint)) (y1 : Int) : Option (Int ⊕ (Unit ⊕ Unit)) :=
  (bif (decide (y1 < (a.length : Int))) then (at' a y1).bind fun v2 => (at' b y1).bind fun v3 => (bif (!(TPoint.eqb v2 v3)) then some (.inr (Sum.inl ())) else some (.inl (w64 (y1 + 1)))) else some (.inr (Sum.inr ())))
noncomputable def apostilleref10_Same (a : (List TPoint)) (b : (List TPoint)) : Option Bool :=
  (bif ((a.length : Int) != (b.length : Int)) then some false else (iter (apostilleref10_Same_b1 a b) 0).bind (Sum.elim (fun (q4 : Unit) => some false) (fun (q5 : Unit) => some true)))
noncomputable def apostilleref10_In_b1 (l : (List TPoint)) (p : TPoint) (y1 : Int) : Option (Int ⊕ (Unit ⊕ Unit)) :=
  (bif (decide (y1 < (l.length : Int))) then (at' l y1).bind fun v2 => (bif (TPoint.eqb v2 p) then some (.inr (Sum.inl ())) else some (.inl (w64 (y1 + 1)))) else some (.inr (Sum.inr ())))
noncomputable def apostilleref10_In (l : (List TPoint)) (p : TPoint) : Option Bool :=
  (iter (apostilleref10_In_b1 l p) 0).bind (Sum.elim (fun (q3 : Unit) => some true) (fun (q4 : Unit) => some false))
noncomputable def apostillelaw11_NodesSets (l : (List TPoint)) (p : TPoint) : Option Bool :=
  ((apostillelaw11_awake).bind fun v1 => (bif (!v1) then some true else some (decide ((l.length : Int) > 60))) : Option (Bool)).bind (fun (q2 : Bool) => (bif q2 then (apostillelaw11_awake).bind fun v3 => some v3 else (app 24 [] l).bind fun v4 => (nodes_Of l).bind fun v5 => (apostilleref11_Of l).bind fun v6 => (apostilleref10_Same v5 v6).bind fun v7 => (bif v7 then (apostilleref10_Same l v4).bind fun v8 => (bif v8 then (nodes_Is v5).bind fun v9 => (bif v9 then (nodes_Is l).bind fun v10 => (apostilleref10_Same l v6).bind fun v11 => (bif (v10 == v11) then (nodes_Has l p).bind fun v12 => (apostilleref10_In l p).bind fun v13 => some (v12 == v13) else some false) else some false) else some false) else some false)))
noncomputable def slices_Grow_Point_nil (n : Int) : Option (List TPoint) :=
  (bif (decide (n < 0)) then none else (bif (decide ((w64 (n - (w64 (0 - 0)))) > 0)) then (mkp 24 (w64 (n - (w64 (0 - 0)))) (TPoint.mk 0 0 0)).bind fun v1 => (rng (v1.length : Int) 0 0).bind fun _ => (prt v1 0 0).bind fun v2 => some v2 else some []))
noncomputable def slices_Concat_Point_b1 (slices : (List (List TPoint))) (y1 : Int × Int) : Option ((Int × Int) ⊕ Int) :=
  (bif (decide (y1.2 < (slices.length : Int))) then (at' slices y1.2).bind fun v2 => (bif (decide ((w64 (y1.1 + (v2.length : Int))) < 0)) then none else some (.inl ((w64 (y1.1 + (v2.length : Int))), (w64 (y1.2 + 1))))) else some (.inr y1.1))
noncomputable def slices_Concat_Point_b2 (slices : (List (List TPoint))) (y5 : Int × (List TPoint)) : Option ((Int × (List TPoint)) ⊕ (List TPoint)) :=
  (bif (decide (y5.1 < (slices.length : Int))) then (at' slices y5.1).bind fun v6 => (app 24 y5.2 v6).bind fun v7 => some (.inl ((w64 (y5.1 + 1)), v7)) else some (.inr y5.2))
noncomputable def slices_Concat_Point (slices : (List (List TPoint))) : Option (List TPoint) :=
  (iter (slices_Concat_Point_b1 slices) (0, 0)).bind (fun (q3 : Int) => (slices_Grow_Point_nil q3).bind fun v4 => (iter (slices_Concat_Point_b2 slices) (0, v4)).bind (fun (q8 : (List TPoint)) => some q8))
noncomputable def nodes_Union (a : (List TPoint)) (b : (List TPoint)) : Option (List TPoint) :=
  (slices_Concat_Point [a, b]).bind fun v1 => (nodes_Of v1).bind fun v2 => some v2
noncomputable def slices_BinarySearchFunc_Point_b1 (x : (List TPoint)) (target : TPoint) (cmp : (TPoint → TPoint → Option Int)) (y1 : Int × Int) : Option ((Int × Int) ⊕ Int) :=
  (bif (decide (y1.1 < y1.2)) then (at' x (w64 ((v64 (w64 (y1.1 + y1.2))).fdiv (2 ^ 1)))).bind fun v2 => (cmp v2 target).bind fun v3 => (bif (decide (v3 < 0)) then some (.inl ((w64 ((w64 ((v64 (w64 (y1.1 + y1.2))).fdiv (2 ^ 1))) + 1)), y1.2)) else some (.inl (y1.1, (w64 ((v64 (w64 (y1.1 + y1.2))).fdiv (2 ^ 1)))))) else some (.inr y1.1))
noncomputable def slices_BinarySearchFunc_Point (x : (List TPoint)) (target : TPoint) (cmp : (TPoint → TPoint → Option Int)) : Option (Int × Bool) :=
  (iter (slices_BinarySearchFunc_Point_b1 x target cmp) (0, (x.length : Int))).bind (fun (q4 : Int) => (bif (decide (q4 < (x.length : Int))) then (at' x q4).bind fun v5 => (cmp v5 target).bind fun v6 => some (q4, (v6 == 0)) else some (q4, false)))
noncomputable def nodes_kept_c1 (p : TPoint) (p1 : (List TPoint)) (p2 : Bool) : Option Bool :=
  (slices_BinarySearchFunc_Point p1 p (fun x0 x1 => point_Compare x0 x1)).bind fun v1 => some (!(v1.2 == p2))
noncomputable def slices_IndexFunc_Point_b1 (s : (List TPoint)) (f : (TPoint → Option Bool)) (y1 : Int) : Option (Int ⊕ (Int ⊕ Unit)) :=
  (bif (decide (y1 < (s.length : Int))) then (at' s y1).bind fun v2 => (f v2).bind fun v3 => (bif v3 then some (.inr (Sum.inl y1)) else some (.inl (w64 (y1 + 1)))) else some (.inr (Sum.inr ())))
noncomputable def slices_IndexFunc_Point (s : (List TPoint)) (f : (TPoint → Option Bool)) : Option Int :=
  (iter (slices_IndexFunc_Point_b1 s f) 0).bind (Sum.elim (fun (q4 : Int) => some q4) (fun (q5 : Unit) => some (-1)))
noncomputable def slices_DeleteFunc_Point_b1 (del : (TPoint → Option Bool)) (y2 : Int × Int × (List TPoint)) : Option ((Int × Int × (List TPoint)) ⊕ (Int × (List TPoint))) :=
  (bif (decide (y2.2.1 < (y2.2.2.length : Int))) then (at' y2.2.2 y2.2.1).bind fun v3 => (del v3).bind fun v4 => (bif (!v4) then (at' y2.2.2 y2.1).bind fun v5 => (put y2.2.2 y2.1 v3).bind fun v6 => some (.inl ((w64 (y2.1 + 1)), (w64 (y2.2.1 + 1)), v6)) else some (.inl (y2.1, (w64 (y2.2.1 + 1)), y2.2.2))) else some (.inr (y2.1, y2.2.2)))
noncomputable def slices_DeleteFunc_Point (s : (List TPoint)) (del : (TPoint → Option Bool)) : Option (List TPoint) :=
  (slices_IndexFunc_Point s del).bind fun v1 => (bif (v1 == (-1)) then some s else (iter (slices_DeleteFunc_Point_b1 del) (v1, (w64 (v1 + 1)), s)).bind (fun (q7 : Int × (List TPoint)) => (rng (q7.2.length : Int) q7.1 (q7.2.length : Int)).bind fun _ => (clr q7.2 q7.1.toNat ((q7.2.length : Int).toNat - q7.1.toNat) (TPoint.mk 0 0 0)).bind fun v8 => (rng (q7.2.length : Int) 0 q7.1).bind fun _ => (prt v8 0 q7.1.toNat).bind fun v9 => some v9))
noncomputable def nodes_kept (a : (List TPoint)) (b : (List TPoint)) (in_ : Bool) : Option (List TPoint) :=
  (nodes_Of b).bind fun v1 => (nodes_Of a).bind fun v2 => (slices_DeleteFunc_Point v2 (fun x0 => nodes_kept_c1 x0 v1 in_)).bind fun v3 => some v3
noncomputable def nodes_Meet (a : (List TPoint)) (b : (List TPoint)) : Option (List TPoint) :=
  (nodes_kept a b true).bind fun v1 => some v1
noncomputable def nodes_Without (a : (List TPoint)) (b : (List TPoint)) : Option (List TPoint) :=
  (nodes_kept a b false).bind fun v1 => some v1
noncomputable def apostilleref11_Kept_b1 (a : (List TPoint)) (b : (List TPoint)) (in_ : Bool) (y1 : Int × (List TPoint)) : Option ((Int × (List TPoint)) ⊕ (List TPoint)) :=
  (bif (decide (y1.1 < (a.length : Int))) then (at' a y1.1).bind fun v2 => (apostilleref10_In b v2).bind fun v3 => (bif (v3 == in_) then (at' a y1.1).bind fun v4 => (app 24 y1.2 [v4]).bind fun v5 => some (.inl ((w64 (y1.1 + 1)), v5)) else some (.inl ((w64 (y1.1 + 1)), y1.2))) else some (.inr y1.2))
noncomputable def apostilleref11_Kept (a : (List TPoint)) (b : (List TPoint)) (in_ : Bool) : Option (List TPoint) :=
  (iter (apostilleref11_Kept_b1 a b in_) (0, [])).bind (fun (q6 : (List TPoint)) => (apostilleref11_Of q6).bind fun v7 => some v7)
noncomputable def apostillelaw11_NodesMeets (a : (List TPoint)) (b : (List TPoint)) : Option Bool :=
  ((apostillelaw11_awake).bind fun v1 => (bif (!v1) then some true else (bif (decide ((a.length : Int) > 40)) then some true else some (decide ((b.length : Int) > 40)))) : Option (Bool)).bind (fun (q2 : Bool) => (bif q2 then (apostillelaw11_awake).bind fun v3 => some v3 else (nodes_Union a b).bind fun v4 => (nodes_Meet a b).bind fun v5 => (nodes_Without a b).bind fun v6 => (nodes_Without b a).bind fun v7 => ((app 24 [] a).bind fun v8 => (app 24 v8 b).bind fun v9 => (apostilleref11_Of v9).bind fun v10 => (apostilleref10_Same v4 v10).bind fun v11 => (bif (!v11) then some true else (apostilleref11_Kept a b true).bind fun v12 => (apostilleref10_Same v5 v12).bind fun v13 => (bif (!v13) then some true else (apostilleref11_Kept a b false).bind fun v14 => (apostilleref10_Same v6 v14).bind fun v15 => some (!v15))) : Option (Bool)).bind (fun (q16 : Bool) => (bif q16 then some false else (nodes_Union v6 v5).bind fun v17 => (nodes_Union v17 v7).bind fun v18 => (apostilleref10_Same v18 v4).bind fun v19 => (bif v19 then (bif ((w64 ((w64 ((v6.length : Int) + (v5.length : Int))) + (v7.length : Int))) == (v4.length : Int)) then (nodes_Meet b a).bind fun v20 => (apostilleref10_Same v5 v20).bind fun v21 => some v21 else some false) else some false)))))
noncomputable def apostillelaw11_NodesLaws (a : (List TPoint)) (b : (List TPoint)) (c : (List TPoint)) : Option Bool :=
  ((apostillelaw11_awake).bind fun v1 => (bif (!v1) then some true else (bif (decide ((a.length : Int) > 25)) then some true else (bif (decide ((b.length : Int) > 25)) then some true else some (decide ((c.length : Int) > 25))))) : Option (Bool)).bind (fun (q2 : Bool) => (bif q2 then (apostillelaw11_awake).bind fun v3 => some v3 else ((nodes_Union a b).bind fun v4 => (nodes_Union v4 c).bind fun v5 => (nodes_Union b c).bind fun v6 => (nodes_Union a v6).bind fun v7 => (apostilleref10_Same v5 v7).bind fun v8 => (bif v8 then (nodes_Meet a b).bind fun v9 => (nodes_Meet v9 c).bind fun v10 => (nodes_Meet b c).bind fun v11 => (nodes_Meet a v11).bind fun v12 => (apostilleref10_Same v10 v12).bind fun v13 => some v13 else some false) : Option (Bool)).bind (fun (q14 : Bool) => (bif q14 then (nodes_Union b c).bind fun v15 => (nodes_Meet a v15).bind fun v16 => (nodes_Meet a b).bind fun v17 => (nodes_Meet a c).bind fun v18 => (nodes_Union v17 v18).bind fun v19 => (apostilleref10_Same v16 v19).bind fun v20 => (bif v20 then (nodes_Union b c).bind fun v21 => (nodes_Without a v21).bind fun v22 => (nodes_Without a b).bind fun v23 => (nodes_Without a c).bind fun v24 => (nodes_Meet v23 v24).bind fun v25 => (apostilleref10_Same v22 v25).bind fun v26 => some v26 else some false) else some false))))
end G
