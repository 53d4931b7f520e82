/- Part of a proof: an interpreter of the program over trees, and what it says of calls. -/
import Derived.Test.YtimgjiiglokdeaaDoorPart4
/- How many statements there are. -/
open Go Go.Bv Go.Proofs
namespace Go.Bv.P31

theorem wrap_eq (x : Int) : IntKind.wrap .i64 x = if x % 18446744073709551616 ≥ 9223372036854775808 then x % 18446744073709551616 - 18446744073709551616 else x % 18446744073709551616 := by
  show (if (true && decide (x % 18446744073709551616 ≥ 9223372036854775808)) = true then x % 18446744073709551616 - 18446744073709551616 else x % 18446744073709551616) = _
  simp only [Bool.true_and, decide_eq_true_eq]
theorem wrap_eq' (x : Int) : IntKind.wrap .i64 x = (x + 9223372036854775808) % 18446744073709551616 - 9223372036854775808 := by
  rw [wrap_eq]
  split <;> omega
theorem wrap_l (x y : Int) : IntKind.wrap .i64 (IntKind.wrap .i64 x + y) = IntKind.wrap .i64 (x + y) := by
  simp only [wrap_eq']; omega
theorem wrap_r (x y : Int) : IntKind.wrap .i64 (x + IntKind.wrap .i64 y) = IntKind.wrap .i64 (x + y) := by
  simp only [wrap_eq']; omega
theorem wrap9 (s b e : Int) : IntKind.wrap .i64 (IntKind.wrap .i64 s + IntKind.wrap .i64 (IntKind.wrap .i64 (Int.ofNat 1 + IntKind.wrap .i64 b) + IntKind.wrap .i64 e)) = IntKind.wrap .i64 (s + (1 + b + e)) := by
  rw [show Int.ofNat 1 = 1 from rfl]
  simp only [wrap_eq']; omega
theorem wrap10 (s b e : Int) : IntKind.wrap .i64 (IntKind.wrap .i64 s + IntKind.wrap .i64 (IntKind.wrap .i64 b + IntKind.wrap .i64 e)) = IntKind.wrap .i64 (s + (b + e)) := by
  simp only [wrap_eq']; omega

def bo : List V → Rows | [_, _, _, _, _, _, _, _, .ro b, _, _, _] => b | _ => []
def el : List V → Rows | [_, _, _, _, _, _, _, _, _, .ro b, _, _] => b | _ => []
def cl : List V → Rows | [_, _, _, _, _, _, _, _, _, _, _, .ro b] => b | _ => []
def cb : List V → Rows | [_, _, .ro b] => b | _ => []

/-- Both ways of counting come to a number. -/
def Cnts (l : Rows) (c : Int) : Prop := Runs E0 9 [.ro l] ⟨.int .i64 (IntKind.wrap .i64 c), [.any], []⟩ ∧ Runs E0 10 [.ro l] ⟨.int .i64 (IntKind.wrap .i64 c), [.any], []⟩

open Classical in
noncomputable def cnt (l : Rows) : Int := if h : ∃ c, Cnts l c then h.choose else 0

theorem cnt_of {l : Rows} {c : Int} (h : Cnts l c) : Cnts l (cnt l) := by
  unfold cnt
  rw [dif_pos ⟨c, h⟩]
  exact (⟨c, h⟩ : ∃ c, Cnts l c).choose_spec

noncomputable def cSum (f : List V → Int) : Rows → Int
  | [] => 0
  | x :: l => f x + cSum f l
theorem cSum_snoc (f : List V → Int) : ∀ (l : Rows) (x : List V), cSum f (l ++ [x]) = cSum f l + f x
  | [], x => by simp [cSum]
  | y :: l, x => by simp only [List.cons_append, cSum, cSum_snoc f l x]; omega
theorem cSum_take (f : List V → Int) {l : Rows} {i : Nat} {x : List V} (h : l[i]? = some x) : cSum f (l.take (i + 1)) = cSum f (l.take i) + f x := by
  rw [List.take_add_one, h, Option.toList_some, cSum_snoc]

noncomputable def cC (c : List V) : Int := cnt (cb c)
noncomputable def cS (x : List V) : Int := 1 + cnt (bo x) + cnt (el x) + cSum cC (cl x)
noncomputable def cT (x : List V) : Int := cnt (bo x) + cnt (el x) + cSum cC (cl x)

theorem cSum_one (f : List V → Int) : ∀ l : Rows, cSum (fun x => 1 + f x) l = l.length + cSum f l
  | [] => by simp [cSum]
  | x :: l => by simp only [cSum, cSum_one f l, List.length_cons]; omega

section
variable {l : Rows} (ll : l.length ≤ cap20) (gl : ∀ x, x ∈ l → ∃ r : R40, x = r.row ∧ Cnts r.Body (cnt r.Body) ∧ Cnts r.Else (cnt r.Else) ∧ r.Clauses.length ≤ cap20 ∧ ∀ c, c ∈ r.Clauses → ∃ q : R50, c = q.row ∧ Cnts q.Body (cnt q.Body))
include ll gl

theorem count9 : Runs E0 9 [.ro l] ⟨.int .i64 (IntKind.wrap .i64 (cSum cS l)), [.any], []⟩ := by
  let Q : Out → Prop := fun o => o = ⟨.int .i64 (IntKind.wrap .i64 (cSum cS l)), [.any], []⟩
  have outer : ∀ k i : Nat, l.length - i = k → i ≤ l.length → Head E0 A9 9 [0, 1, 0, 1, 1] (st9_11010 l (IntKind.wrap .i64 (cSum cS (l.take i))) i) Q := by
    intro k
    induction k with
    | zero =>
      intro i hk hi
      obtain rfl : i = l.length := by omega
      refine h9_11010 l _ _ (br_iff.2 ⟨fun h => by simp at h, fun _ => ?_⟩)
      rw [List.take_length]
    | succ k ih =>
      intro i hk hi
      have h1 : l[i]? = some (l[i]'(by omega)) := List.getElem?_eq_getElem (by omega)
      obtain ⟨r, er, hB, hE, hcl, hC⟩ := gl _ (List.mem_of_getElem? h1)
      have inner : ∀ k j : Nat, r.Clauses.length - j = k → j ≤ r.Clauses.length →
          Head E0 A9 9 [0, 1, 1, 1, 0, 0, 1, 1, 0, 0, 1, 0, 1, 1] (st9_11010011001110 l (IntKind.wrap .i64 (cSum cS (l.take i) + (1 + cnt r.Body + cnt r.Else + cSum cC (r.Clauses.take j)))) i r.Clauses j) Q := by
        intro k
        induction k with
        | zero =>
          intro j hk hj
          obtain rfl : j = r.Clauses.length := by omega
          refine h9_11010011001110 l _ _ _ _ (br_iff.2 ⟨fun h => by simp at h, fun _ => ?_⟩)
          rw [wrap_succ (by omega) ll, List.take_length]
          have := ih (i + 1) (by omega) (by omega)
          rw [cSum_take cS h1, er] at this
          exact this
        | succ k ihj =>
          intro j hk hj
          have h2 : r.Clauses[j]? = some (r.Clauses[j]'(by omega)) := List.getElem?_eq_getElem (by omega)
          obtain ⟨q, eq, hq⟩ := hC _ (List.mem_of_getElem? h2)
          refine h9_11010011001110 l _ _ _ _ (br_iff.2 ⟨fun _ => ⟨q, by simp, by rw [Int.toNat_natCast, h2, eq]; rfl, _, hq.1, ?_⟩, fun h => by simp at h; omega⟩)
          rw [wrap_succ (by omega) hcl, wrap_l, wrap_r]
          have := ihj (j + 1) (by omega) (by omega)
          rw [cSum_take cC h2, eq] at this
          have e2 : cC q.row = cnt q.Body := rfl
          rw [e2] at this
          rw [show cSum cS (l.take i) + (1 + cnt r.Body + cnt r.Else + cSum cC (r.Clauses.take j)) + cnt q.Body = cSum cS (l.take i) + (1 + cnt r.Body + cnt r.Else + (cSum cC (r.Clauses.take j) + cnt q.Body)) by omega]
          exact this
      refine h9_11010 l _ _ (br_iff.2 ⟨fun _ => ⟨r, by simp, by rw [Int.toNat_natCast, h1, er]; rfl, _, hB.1, _, hE.1, ?_⟩, fun h => by simp at h; omega⟩)
      have := inner _ 0 rfl (by omega)
      simp only [List.take_zero, cSum, Int.add_zero] at this
      rw [wrap9]
      exact this
  have h0 := outer _ 0 rfl (by omega)
  rw [List.take_zero, show cSum cS [] = 0 from rfl, wrap64 (by omega) (by omega)] at h0
  obtain ⟨o, ho, hq⟩ := f9 l (Q := Q) h0
  have hq : o = _ := hq
  subst hq
  exact ho
theorem count10 : Runs E0 10 [.ro l] ⟨.int .i64 (IntKind.wrap .i64 (cSum (fun x => 1 + cT x) l)), [.any], []⟩ := by
  let Q : Out → Prop := fun o => o = ⟨.int .i64 (IntKind.wrap .i64 (cSum (fun x => 1 + cT x) l)), [.any], []⟩
  have outer : ∀ k i : Nat, l.length - i = k → i ≤ l.length → Head E0 A10 10 [0, 1, 0, 1, 1] (st10_11010 l (IntKind.wrap .i64 (l.length + cSum cT (l.take i))) i) Q := by
    intro k
    induction k with
    | zero =>
      intro i hk hi
      obtain rfl : i = l.length := by omega
      refine h10_11010 l _ _ (br_iff.2 ⟨fun h => by simp at h, fun _ => ?_⟩)
      rw [List.take_length, ← cSum_one]
    | succ k ih =>
      intro i hk hi
      have h1 : l[i]? = some (l[i]'(by omega)) := List.getElem?_eq_getElem (by omega)
      obtain ⟨r, er, hB, hE, hcl, hC⟩ := gl _ (List.mem_of_getElem? h1)
      have inner : ∀ k j : Nat, r.Clauses.length - j = k → j ≤ r.Clauses.length →
          Head E0 A10 10 [0, 1, 1, 1, 0, 0, 1, 1, 0, 0, 1, 0, 1, 1] (st10_11010011001110 l (IntKind.wrap .i64 (l.length + cSum cT (l.take i) + (cnt r.Body + cnt r.Else + cSum cC (r.Clauses.take j)))) i r.Clauses j) Q := by
        intro k
        induction k with
        | zero =>
          intro j hk hj
          obtain rfl : j = r.Clauses.length := by omega
          refine h10_11010011001110 l _ _ _ _ (br_iff.2 ⟨fun h => by simp at h, fun _ => ?_⟩)
          rw [wrap_succ (by omega) ll, List.take_length]
          have := ih (i + 1) (by omega) (by omega)
          rw [cSum_take cT h1, er, ← Int.add_assoc] at this
          exact this
        | succ k ihj =>
          intro j hk hj
          have h2 : r.Clauses[j]? = some (r.Clauses[j]'(by omega)) := List.getElem?_eq_getElem (by omega)
          obtain ⟨q, eq, hq⟩ := hC _ (List.mem_of_getElem? h2)
          refine h10_11010011001110 l _ _ _ _ (br_iff.2 ⟨fun _ => ⟨q, by simp, by rw [Int.toNat_natCast, h2, eq]; rfl, _, hq.2, ?_⟩, fun h => by simp at h; omega⟩)
          rw [wrap_succ (by omega) hcl, wrap_l, wrap_r]
          have := ihj (j + 1) (by omega) (by omega)
          rw [cSum_take cC h2, eq] at this
          have e2 : cC q.row = cnt q.Body := rfl
          rw [e2] at this
          rw [show (l.length : Int) + cSum cT (l.take i) + (cnt r.Body + cnt r.Else + cSum cC (r.Clauses.take j)) + cnt q.Body = l.length + cSum cT (l.take i) + (cnt r.Body + cnt r.Else + (cSum cC (r.Clauses.take j) + cnt q.Body)) by omega]
          exact this
      refine h10_11010 l _ _ (br_iff.2 ⟨fun _ => ⟨r, by simp, by rw [Int.toNat_natCast, h1, er]; rfl, _, hB.2, _, hE.2, ?_⟩, fun h => by simp at h; omega⟩)
      have := inner _ 0 rfl (by omega)
      simp only [List.take_zero, cSum, Int.add_zero] at this
      rw [wrap10]
      exact this
  have h0 := outer _ 0 rfl (by omega)
  rw [List.take_zero, show cSum cT [] = 0 from rfl, Int.add_zero, wrap64 (by omega) (by simp [cap20] at ll; omega)] at h0
  obtain ⟨o, ho, hq⟩ := f10 l (Q := Q) h0
  have hq : o = _ := hq
  subst hq
  exact ho
end

theorem cS_eq : (fun x => 1 + cT x) = cS := by
  funext x
  simp only [cS, cT]; omega

theorem cnts : ∀ {n : Nat} {l : Rows}, GSs n l → Cnts l (cnt l)
  | 0, _, h => h.elim
  | n + 1, l, ⟨ll, gl⟩ => by
    have g : ∀ x, x ∈ l → ∃ r : R40, x = r.row ∧ Cnts r.Body (cnt r.Body) ∧ Cnts r.Else (cnt r.Else) ∧ r.Clauses.length ≤ cap20 ∧ ∀ c, c ∈ r.Clauses → ∃ q : R50, c = q.row ∧ Cnts q.Body (cnt q.Body) := by
      intro x hx
      obtain ⟨r, e, _, _, _, b, el, c1, c2⟩ := gl x hx
      refine ⟨r, e, cnts b, cnts el, c1, fun c hc => ?_⟩
      obtain ⟨q, e, _, b⟩ := c2 c hc
      exact ⟨q, e, cnts b⟩
    have h9 := count9 ll g
    have h10 := count10 ll g
    rw [cS_eq] at h10
    exact cnt_of ⟨h9, h10⟩
end Go.Bv.P31
open Go Go.Bv Go.Proofs
namespace Go.Bv
set_option maxRecDepth 100000
def mask13_11010 : List Bool := [false, false, false, true, false, false, false, true, true, true, false, false, false, false, false, false, false, false, false]
def st13_11010 (es : List (List V)) (v9 : Int) : St := ⟨sets [(3, V.als 6 [] 0 0 0 0), (7, V.ro es), (8, V.int IntKind.i64 (↑(List.length es) : Int)), (9, V.int IntKind.i64 v9)] (anys 19), sets [(6, V.own [] (some 0))] (anys 21), []⟩
def st13_11010b (es : List (List V)) (v9 : Int) (a16 : List (List V)) : St := ⟨sets [(3, V.als 16 [] 0 0 (List.length a16) 0), (7, V.ro es), (8, V.int IntKind.i64 (↑(List.length es) : Int)), (9, V.int IntKind.i64 v9)] (anys 19), sets [(16, V.own a16 none)] (anys 21), []⟩
noncomputable def A13 : Ask := mkAsk SG [(11, sh61)] [] [] [([0, 1, 0, 1, 1], mask13_11010)]
abbrev r_f13 (es : List (List V)) (Q : Out → Prop) : Prop := Head E0 A13 13 ([0, 1, 0, 1, 1]) (st13_11010 es (Int.ofNat 0)) Q
theorem e_f13 (es : List (List V)) (Q : Out → Prop) : wpF E0 A13 1000 13 [.ro es] Q (fun p s => Head E0 A13 13 p s Q) (fun p l s => LabAt E0 A13 13 p l s Q) = r_f13 es Q := by kernel_rfl
theorem f13 (es : List (List V)) {Q : Out → Prop} (h : r_f13 es Q) : ∃ o, Runs E0 13 [.ro es] o ∧ Q o := wpF_of (e_f13 es Q) h
abbrev r_h13_11010 (es : List (List V)) (v9 : Int) (Q : Out → Prop) : Prop := br (decide (v9 < (↑(List.length es) : Int))) (∃ b : R61, (Int.ofNat 0 ≤ v9) ∧ (es[Int.toNat v9]? = some [V.str b.Var, V.str b.Lit]) ∧ (true = true) ∧ (0 + List.length [[V.str b.Var, V.str b.Lit]] ≤ 16777216) ∧ (wide 2 [[V.str b.Var, V.str b.Lit]] = true) ∧ ((List.all [[V.str b.Var, V.str b.Lit]] fun x => List.all x V.one) = true) ∧ (List.length [[V.str b.Var, V.str b.Lit]] = List.length [[V.str b.Var, V.str b.Lit]]) ∧ (0 = 0) ∧ Head E0 A13 13 ([0, 1, 0, 1, 1]) (st13_11010b es (IntKind.wrap IntKind.i64 (v9 + Int.ofNat 1)) ([] ++ [[V.str b.Var, V.str b.Lit]])) Q) ((0 = 0) ∧ (false = false) ∧ Q ({ res := V.ro [], outs := [V.any], dy := [] }))
theorem e_h13_11010 (es : List (List V)) (v9 : Int) (Q : Out → Prop) : wpH E0 A13 1000 13 [0, 1, 0, 1, 1] (st13_11010 es v9) Q (fun p s => Head E0 A13 13 p s Q) (fun p l s => LabAt E0 A13 13 p l s Q) = r_h13_11010 es v9 Q := by kernel_rfl
theorem h13_11010 (es : List (List V)) (v9 : Int) {Q : Out → Prop} (h : r_h13_11010 es v9 Q) : Head E0 A13 13 [0, 1, 0, 1, 1] (st13_11010 es v9) Q := head_of (show codeR E0 13 [0, 1, 0, 1, 1] = .loop (codeR E0 13 (0 :: [0, 1, 0, 1, 1])) by kernel_rfl) (e_h13_11010 es v9 Q) h
abbrev r_h13_11010b (es : List (List V)) (v9 : Int) (a16 : List (List V)) (Q : Out → Prop) : Prop := br (decide (v9 < (↑(List.length es) : Int))) (∃ b : R61, (Int.ofNat 0 ≤ v9) ∧ (es[Int.toNat v9]? = some [V.str b.Var, V.str b.Lit]) ∧ ((if List.isEmpty a16 = true then false else wide 2 a16) = true) ∧ (List.length a16 + List.length [[V.str b.Var, V.str b.Lit]] ≤ 16777216) ∧ (wide 2 [[V.str b.Var, V.str b.Lit]] = true) ∧ ((List.all [[V.str b.Var, V.str b.Lit]] fun x => List.all x V.one) = true) ∧ (List.length [[V.str b.Var, V.str b.Lit]] = List.length [[V.str b.Var, V.str b.Lit]]) ∧ (List.length a16 = List.length a16) ∧ Head E0 A13 13 ([0, 1, 0, 1, 1]) (st13_11010b es (IntKind.wrap IntKind.i64 (v9 + Int.ofNat 1)) (a16 ++ [[V.str b.Var, V.str b.Lit]])) Q) ((List.length a16 = List.length a16) ∧ ((List.any a16 fun x => List.any x fun x => V.owner x) = false) ∧ Q ({ res := V.ro a16, outs := [V.any], dy := [] }))
theorem e_h13_11010b (es : List (List V)) (v9 : Int) (a16 : List (List V)) (Q : Out → Prop) : wpH E0 A13 1000 13 [0, 1, 0, 1, 1] (st13_11010b es v9 a16) Q (fun p s => Head E0 A13 13 p s Q) (fun p l s => LabAt E0 A13 13 p l s Q) = r_h13_11010b es v9 a16 Q := by kernel_rfl
theorem h13_11010b (es : List (List V)) (v9 : Int) (a16 : List (List V)) {Q : Out → Prop} (h : r_h13_11010b es v9 a16 Q) : Head E0 A13 13 [0, 1, 0, 1, 1] (st13_11010b es v9 a16) Q := head_of (show codeR E0 13 [0, 1, 0, 1, 1] = .loop (codeR E0 13 (0 :: [0, 1, 0, 1, 1])) by kernel_rfl) (e_h13_11010b es v9 a16 Q) h
noncomputable def A16 : Ask := mkAsk SG [] [] [] []
abbrev r_f16 (a b : List (List V)) (Q : Out → Prop) : Prop := ∃ b1 : Bool, (Runs E0 23 [V.agg [V.int IntKind.i64 (Int.ofNat 0), V.str [], V.int IntKind.i64 (Int.ofNat 0), V.ro a, V.int IntKind.i64 (Int.ofNat 0)], V.agg [V.int IntKind.i64 (Int.ofNat 0), V.str [], V.int IntKind.i64 (Int.ofNat 0), V.ro b, V.int IntKind.i64 (Int.ofNat 0)]] ({ res := V.bool b1, outs := [V.any, V.any], dy := [] })) ∧ Q ({ res := V.bool b1, outs := [V.any, V.any], dy := [] })
theorem e_f16 (a b : List (List V)) (Q : Out → Prop) : wpF E0 A16 1000 16 [.ro a, .ro b] Q (fun p s => Head E0 A16 16 p s Q) (fun p l s => LabAt E0 A16 16 p l s Q) = r_f16 a b Q := by kernel_rfl
theorem f16 (a b : List (List V)) {Q : Out → Prop} (h : r_f16 a b Q) : ∃ o, Runs E0 16 [.ro a, .ro b] o ∧ Q o := wpF_of (e_f16 a b Q) h
def mask12_11010 : List Bool := [false, true, true, false, false, false, false, false, false, false, false, false, false, true, true, true, false, false, false, false, false, false, false, false, false, false, false, false, false, false, false, false, false, false, false, false, false, false, false, false, false, false, false, false, false, false, false, false, false, false, false, false, false, false, false, false, false, false, false, false, false, false, false, false, false, false, false, false, false, false, false, false, false, false, false, false, false, false, false, false, false, false, false, false, false, false, false, false, false, false, false, false]
def st12_11010 (l : List (List V)) (d : Int) (v1 : Int) (v15 : Int) : St := ⟨sets [(1, V.int IntKind.i64 v1), (2, V.int IntKind.i64 d), (13, V.ro l), (14, V.int IntKind.i64 (↑(List.length l) : Int)), (15, V.int IntKind.i64 v15)] (anys 92), sets [] (anys 96), []⟩
def mask12_110100110011110 : List Bool := [false, true, true, false, false, false, false, false, false, false, false, false, false, true, true, true, false, false, false, false, false, false, false, false, false, false, false, false, false, false, false, false, false, false, false, false, false, false, false, false, false, false, false, false, false, false, false, false, false, false, false, false, false, false, false, false, false, false, false, false, false, false, false, false, false, false, false, false, false, true, true, true, false, false, false, false, false, false, false, false, false, false, false, false, false, false, false, false, false, false, false, false]
def st12_110100110011110 (l : List (List V)) (d : Int) (v1 : Int) (v15 : Int) (bClauses : List (List V)) (v71 : Int) : St := ⟨sets [(1, V.int IntKind.i64 v1), (2, V.int IntKind.i64 d), (13, V.ro l), (14, V.int IntKind.i64 (↑(List.length l) : Int)), (15, V.int IntKind.i64 v15), (69, V.ro bClauses), (70, V.int IntKind.i64 (↑(List.length bClauses) : Int)), (71, V.int IntKind.i64 v71)] (anys 92), sets [] (anys 96), []⟩
noncomputable def A12 : Ask := mkAsk SG [(17, sh40), (73, sh50)] [] [] [([0, 1, 0, 1, 1], mask12_11010), ([0, 1, 1, 1, 1, 0, 0, 1, 1, 0, 0, 1, 0, 1, 1], mask12_110100110011110)]
abbrev r_f12 (l : List (List V)) (n d : Int) (Q : Out → Prop) : Prop := br (d == Int.ofNat 0) (Q ({ res := V.int IntKind.i64 (Int.negSucc 0), outs := [V.any, V.any, V.any], dy := [] })) (Head E0 A12 12 ([0, 1, 0, 1, 1]) (st12_11010 l d n (Int.ofNat 0)) Q)
theorem e_f12 (l : List (List V)) (n d : Int) (Q : Out → Prop) : wpF E0 A12 1000 12 [.ro l, .int .i64 n, .int .i64 d] Q (fun p s => Head E0 A12 12 p s Q) (fun p l s => LabAt E0 A12 12 p l s Q) = r_f12 l n d Q := by kernel_rfl
theorem f12 (l : List (List V)) (n d : Int) {Q : Out → Prop} (h : r_f12 l n d Q) : ∃ o, Runs E0 12 [.ro l, .int .i64 n, .int .i64 d] o ∧ Q o := wpF_of (e_f12 l n d Q) h
abbrev r_h12_11010 (l : List (List V)) (d : Int) (v1 : Int) (v15 : Int) (Q : Out → Prop) : Prop := br (decide (v15 < (↑(List.length l) : Int))) (∃ b : R40, (Int.ofNat 0 ≤ v15) ∧ (l[Int.toNat v15]? = some [V.int IntKind.i64 b.Kind, V.int IntKind.i64 b.N, V.str b.Name, V.str b.Verb, V.ro b.Value, V.ro b.Question_Left, V.ro b.Question_Right, V.str b.Question_Sign, V.ro b.Body, V.ro b.Else, V.bool b.Elsed, V.ro b.Clauses]) ∧ br (decide (v1 ≤ Int.ofNat 0)) (Q ({ res := V.int IntKind.i64 (Int.negSucc 0), outs := [V.any, V.any, V.any], dy := [] })) (br (decide (IntKind.wrap IntKind.i64 (IntKind.wrap IntKind.i64 ((↑(List.length b.Name) : Int) + (↑(List.length b.Verb) : Int)) + (↑(List.length b.Question_Sign) : Int)) > Int.ofNat 200)) (Q ({ res := V.int IntKind.i64 (Int.negSucc 0), outs := [V.any, V.any, V.any], dy := [] })) (br (decide (IntKind.wrap IntKind.i64 (IntKind.wrap IntKind.i64 (IntKind.wrap IntKind.i64 ((↑(List.length b.Value) : Int) + (↑(List.length b.Question_Left) : Int)) + (↑(List.length b.Question_Right) : Int)) + (↑(List.length b.Clauses) : Int)) > Int.ofNat 60)) (Q ({ res := V.int IntKind.i64 (Int.negSucc 0), outs := [V.any, V.any, V.any], dy := [] })) (∃ b1 : Int, (Runs E0 12 [V.ro b.Body, V.int IntKind.i64 (IntKind.wrap IntKind.i64 (v1 - Int.ofNat 1)), V.int IntKind.i64 (IntKind.wrap IntKind.i64 (d - Int.ofNat 1))] ({ res := V.int IntKind.i64 b1, outs := [V.any, V.any, V.any], dy := [] })) ∧ ∃ b2 : Int, (Runs E0 12 [V.ro b.Else, V.int IntKind.i64 b1, V.int IntKind.i64 (IntKind.wrap IntKind.i64 (d - Int.ofNat 1))] ({ res := V.int IntKind.i64 b2, outs := [V.any, V.any, V.any], dy := [] })) ∧ Head E0 A12 12 ([0, 1, 1, 1, 1, 0, 0, 1, 1, 0, 0, 1, 0, 1, 1]) (st12_110100110011110 l d b2 v15 b.Clauses (Int.ofNat 0)) Q)))) (Q ({ res := V.int IntKind.i64 v1, outs := [V.any, V.any, V.any], dy := [] }))
theorem e_h12_11010 (l : List (List V)) (d : Int) (v1 : Int) (v15 : Int) (Q : Out → Prop) : wpH E0 A12 1000 12 [0, 1, 0, 1, 1] (st12_11010 l d v1 v15) Q (fun p s => Head E0 A12 12 p s Q) (fun p l s => LabAt E0 A12 12 p l s Q) = r_h12_11010 l d v1 v15 Q := by kernel_rfl
theorem h12_11010 (l : List (List V)) (d : Int) (v1 : Int) (v15 : Int) {Q : Out → Prop} (h : r_h12_11010 l d v1 v15 Q) : Head E0 A12 12 [0, 1, 0, 1, 1] (st12_11010 l d v1 v15) Q := head_of (show codeR E0 12 [0, 1, 0, 1, 1] = .loop (codeR E0 12 (0 :: [0, 1, 0, 1, 1])) by kernel_rfl) (e_h12_11010 l d v1 v15 Q) h
abbrev r_h12_110100110011110 (l : List (List V)) (d : Int) (v1 : Int) (v15 : Int) (bClauses : List (List V)) (v71 : Int) (Q : Out → Prop) : Prop := br (decide (v71 < (↑(List.length bClauses) : Int))) (∃ b : R50, (Int.ofNat 0 ≤ v71) ∧ (bClauses[Int.toNat v71]? = some [V.int IntKind.i64 b.Kind, V.ro b.Pattern, V.ro b.Body]) ∧ br (decide (v1 < Int.ofNat 0)) (Q ({ res := V.int IntKind.i64 (Int.negSucc 0), outs := [V.any, V.any, V.any], dy := [] })) (br (decide ((↑(List.length b.Pattern) : Int) > Int.ofNat 40)) (Q ({ res := V.int IntKind.i64 (Int.negSucc 0), outs := [V.any, V.any, V.any], dy := [] })) (∃ b1 : Int, (Runs E0 12 [V.ro b.Body, V.int IntKind.i64 v1, V.int IntKind.i64 (IntKind.wrap IntKind.i64 (d - Int.ofNat 1))] ({ res := V.int IntKind.i64 b1, outs := [V.any, V.any, V.any], dy := [] })) ∧ Head E0 A12 12 ([0, 1, 1, 1, 1, 0, 0, 1, 1, 0, 0, 1, 0, 1, 1]) (st12_110100110011110 l d b1 v15 bClauses (IntKind.wrap IntKind.i64 (v71 + Int.ofNat 1))) Q))) (Head E0 A12 12 ([0, 1, 0, 1, 1]) (st12_11010 l d v1 (IntKind.wrap IntKind.i64 (v15 + Int.ofNat 1))) Q)
theorem e_h12_110100110011110 (l : List (List V)) (d : Int) (v1 : Int) (v15 : Int) (bClauses : List (List V)) (v71 : Int) (Q : Out → Prop) : wpH E0 A12 1000 12 [0, 1, 1, 1, 1, 0, 0, 1, 1, 0, 0, 1, 0, 1, 1] (st12_110100110011110 l d v1 v15 bClauses v71) Q (fun p s => Head E0 A12 12 p s Q) (fun p l s => LabAt E0 A12 12 p l s Q) = r_h12_110100110011110 l d v1 v15 bClauses v71 Q := by kernel_rfl
theorem h12_110100110011110 (l : List (List V)) (d : Int) (v1 : Int) (v15 : Int) (bClauses : List (List V)) (v71 : Int) {Q : Out → Prop} (h : r_h12_110100110011110 l d v1 v15 bClauses v71 Q) : Head E0 A12 12 [0, 1, 1, 1, 1, 0, 0, 1, 1, 0, 0, 1, 0, 1, 1] (st12_110100110011110 l d v1 v15 bClauses v71) Q := head_of (show codeR E0 12 [0, 1, 1, 1, 1, 0, 0, 1, 1, 0, 0, 1, 0, 1, 1] = .loop (codeR E0 12 (0 :: [0, 1, 1, 1, 1, 0, 0, 1, 1, 0, 0, 1, 0, 1, 1])) by kernel_rfl) (e_h12_110100110011110 l d v1 v15 bClauses v71 Q) h
def mask23_11010 : List Bool := [false, false, false, true, false, false, false, false, false, false, false, false, false, false, false, false, false, false, false, false, false, false, false, false, false, false, false, false, false, false, false, false, false, false, false, false, true, true, true, false, false, false, false, false, false, false, false, false, false, false, false]
def st23_11010 (a : List (List V)) (v38 : Int) (b3_0 : Int) (b3_1 : List UInt8) (b3_2 : Int) (b3_3 : List (List V)) (b3_4 : Int) : St := ⟨sets [(3, V.al 3 [] 0 0), (36, V.ro a), (37, V.int IntKind.i64 (↑(List.length a) : Int)), (38, V.int IntKind.i64 v38)] (anys 51), sets [(3, V.box [V.int IntKind.i64 b3_0, V.str b3_1, V.int IntKind.i64 b3_2, V.ro b3_3, V.int IntKind.i64 b3_4])] (anys 54), []⟩
noncomputable def A23 : Ask := mkAsk SG [(41, sh62), (47, sh62)] [] [] [([0, 1, 0, 1, 1], mask23_11010)]
abbrev r_f23 (a b : List (List V)) (Q : Out → Prop) : Prop := br ((↑(List.length a) : Int) != (↑(List.length b) : Int)) (Q ({ res := V.bool false, outs := [V.any, V.any], dy := [] })) (Head E0 A23 23 ([0, 1, 0, 1, 1]) (st23_11010 a (Int.ofNat 0) (Int.ofNat 0) [] (Int.ofNat 0) b (Int.ofNat 0)) Q)
theorem e_f23 (a b : List (List V)) (Q : Out → Prop) : wpF E0 A23 1000 23 [.agg [.int .i64 0, .str [], .int .i64 0, .ro a, .int .i64 0], .agg [.int .i64 0, .str [], .int .i64 0, .ro b, .int .i64 0]] Q (fun p s => Head E0 A23 23 p s Q) (fun p l s => LabAt E0 A23 23 p l s Q) = r_f23 a b Q := by kernel_rfl
theorem f23 (a b : List (List V)) {Q : Out → Prop} (h : r_f23 a b Q) : ∃ o, Runs E0 23 [.agg [.int .i64 0, .str [], .int .i64 0, .ro a, .int .i64 0], .agg [.int .i64 0, .str [], .int .i64 0, .ro b, .int .i64 0]] o ∧ Q o := wpF_of (e_f23 a b Q) h
abbrev r_h23_11010 (a : List (List V)) (v38 : Int) (b3_0 : Int) (b3_1 : List UInt8) (b3_2 : Int) (b3_3 : List (List V)) (b3_4 : Int) (Q : Out → Prop) : Prop := br (decide (v38 < (↑(List.length a) : Int))) (∃ b : R61, (Int.ofNat 0 ≤ v38) ∧ (a[Int.toNat v38]? = some [V.str b.Var, V.str b.Lit]) ∧ ∃ b1 : R61, (Int.ofNat 0 ≤ v38) ∧ (b3_3[Int.toNat v38]? = some [V.str b1.Var, V.str b1.Lit]) ∧ br (!(bytesEq b.Var b1.Var && (bytesEq b.Lit b1.Lit && true))) (Q ({ res := V.bool false, outs := [V.any, V.any], dy := [] })) (Head E0 A23 23 ([0, 1, 0, 1, 1]) (st23_11010 a (IntKind.wrap IntKind.i64 (v38 + Int.ofNat 1)) b3_0 b3_1 b3_2 b3_3 b3_4) Q)) (Q ({ res := V.bool true, outs := [V.any, V.any], dy := [] }))
theorem e_h23_11010 (a : List (List V)) (v38 : Int) (b3_0 : Int) (b3_1 : List UInt8) (b3_2 : Int) (b3_3 : List (List V)) (b3_4 : Int) (Q : Out → Prop) : wpH E0 A23 1000 23 [0, 1, 0, 1, 1] (st23_11010 a v38 b3_0 b3_1 b3_2 b3_3 b3_4) Q (fun p s => Head E0 A23 23 p s Q) (fun p l s => LabAt E0 A23 23 p l s Q) = r_h23_11010 a v38 b3_0 b3_1 b3_2 b3_3 b3_4 Q := by kernel_rfl
theorem h23_11010 (a : List (List V)) (v38 : Int) (b3_0 : Int) (b3_1 : List UInt8) (b3_2 : Int) (b3_3 : List (List V)) (b3_4 : Int) {Q : Out → Prop} (h : r_h23_11010 a v38 b3_0 b3_1 b3_2 b3_3 b3_4 Q) : Head E0 A23 23 [0, 1, 0, 1, 1] (st23_11010 a v38 b3_0 b3_1 b3_2 b3_3 b3_4) Q := head_of (show codeR E0 23 [0, 1, 0, 1, 1] = .loop (codeR E0 23 (0 :: [0, 1, 0, 1, 1])) by kernel_rfl) (e_h23_11010 a v38 b3_0 b3_1 b3_2 b3_3 b3_4 Q) h
end Go.Bv
/- How great statements are: where the answer isn't below 0, they are small. -/
open Go Go.Bv Go.Proofs
namespace Go.Bv.P31

def SmRow (S : Rows → Prop) (r : R40) : Prop := r.Value.length ≤ 60 ∧ r.Question_Left.length ≤ 60 ∧ r.Question_Right.length ≤ 60 ∧ r.Clauses.length ≤ 60 ∧ S r.Body ∧ S r.Else ∧ ∀ c, c ∈ r.Clauses → ∃ q : R50, c = q.row ∧ q.Pattern.length ≤ 60 ∧ S q.Body
def Sm : Nat → Rows → Prop
  | 0, _ => False
  | k + 1, l => l.length ≤ 60 ∧ ∀ x, x ∈ l → ∃ r : R40, x = r.row ∧ SmRow (Sm k) r

def Gr (S : Rows → Prop) (l : Rows) : Prop := ∀ n d : Int, n ≤ 60 → ∃ r : Int, Runs E0 12 [.ro l, .int .i64 n, .int .i64 d] ⟨.int .i64 r, [.any, .any, .any], []⟩ ∧ (0 ≤ r → r + l.length ≤ n ∧ S l)

theorem wrap_id {x : Int} (h : -100 ≤ x) (h2 : x ≤ 1000000000000000000) : IntKind.wrap .i64 x = x := wrap64 (by omega) (by omega)

theorem great12 {S : Rows → Prop} {l : Rows} (ll : l.length ≤ cap20) (gl : ∀ x, x ∈ l → ∃ r : R40, x = r.row ∧ r.Value.length ≤ cap20 ∧ r.Question_Left.length ≤ cap20 ∧ r.Question_Right.length ≤ cap20 ∧ Gr S r.Body ∧ Gr S r.Else ∧ r.Clauses.length ≤ cap20 ∧
    ∀ c, c ∈ r.Clauses → ∃ q : R50, c = q.row ∧ q.Pattern.length ≤ cap20 ∧ Gr S q.Body) : Gr (fun l => l.length ≤ 60 ∧ ∀ x, x ∈ l → ∃ r : R40, x = r.row ∧ SmRow S r) l := by
  intro n d hn
  simp only [cap20] at ll gl
  let Q : Out → Prop := fun o => ∃ r : Int, o = ⟨.int .i64 r, [.any, .any, .any], []⟩ ∧ (0 ≤ r → r + l.length ≤ n ∧ l.length ≤ 60 ∧ ∀ x, x ∈ l → ∃ r : R40, x = r.row ∧ SmRow S r)
  have neg : Q ⟨.int .i64 (Int.negSucc 0), [.any, .any, .any], []⟩ := ⟨_, rfl, fun h => by simp at h⟩
  have outer : ∀ (k i : Nat) (v : Int), l.length - i = k → i ≤ l.length → (0 ≤ v → v + i ≤ n ∧ ∀ x, x ∈ l.take i → ∃ r : R40, x = r.row ∧ SmRow S r) → Head E0 A12 12 [0, 1, 0, 1, 1] (st12_11010 l d v i) Q := by
    intro k
    induction k with
    | zero =>
      intro i v hk hi hv
      obtain rfl : i = l.length := by omega
      refine h12_11010 l d _ _ (br_iff.2 ⟨fun h => by simp at h, fun _ => ⟨_, rfl, fun h => ?_⟩⟩)
      obtain ⟨h1, h2⟩ := hv h
      rw [List.take_length] at h2
      exact ⟨h1, by omega, h2⟩
    | succ k ih =>
      intro i v hk hi hv
      have h1 : l[i]? = some (l[i]'(by omega)) := List.getElem?_eq_getElem (by omega)
      obtain ⟨r, er, q1, q2, q3, hB, hE, hcl, hC⟩ := gl _ (List.mem_of_getElem? h1)
      have inner : ∀ (k j : Nat) (u : Int), r.Clauses.length - j = k → j ≤ r.Clauses.length → 0 < v →
          (0 ≤ u → u ≤ v - 1 ∧ r.Value.length ≤ 60 ∧ r.Question_Left.length ≤ 60 ∧ r.Question_Right.length ≤ 60 ∧ r.Clauses.length ≤ 60 ∧ S r.Body ∧ S r.Else ∧ ∀ c, c ∈ r.Clauses.take j → ∃ q : R50, c = q.row ∧ q.Pattern.length ≤ 60 ∧ S q.Body) →
          Head E0 A12 12 [0, 1, 1, 1, 1, 0, 0, 1, 1, 0, 0, 1, 0, 1, 1] (st12_110100110011110 l d u i r.Clauses j) Q := by
        intro k
        induction k with
        | zero =>
          intro j u hk hj h0 hu
          obtain rfl : j = r.Clauses.length := by omega
          refine h12_110100110011110 l d _ _ _ _ (br_iff.2 ⟨fun h => by simp at h, fun _ => ?_⟩)
          rw [wrap_succ (by omega : i < l.length) ll]
          refine ih (i + 1) u (by omega) (by omega) fun hu0 => ?_
          obtain ⟨a1, a2, a3, a4, a5, a6, a7, a8⟩ := hu hu0
          obtain ⟨b1, b2⟩ := hv (by omega)
          rw [List.take_length] at a8
          refine ⟨by omega, fun x hx => ?_⟩
          rw [List.take_add_one, h1, er, Option.toList_some, List.mem_append, List.mem_singleton] at hx
          rcases hx with hx | rfl
          · exact b2 x hx
          · exact ⟨r, rfl, a2, a3, a4, a5, a6, a7, a8⟩
        | succ k ihj =>
          intro j u hk hj h0 hu
          have h2 : r.Clauses[j]? = some (r.Clauses[j]'(by omega)) := List.getElem?_eq_getElem (by omega)
          obtain ⟨q, eq, hp, hq⟩ := hC _ (List.mem_of_getElem? h2)
          refine h12_110100110011110 l d _ _ _ _ (br_iff.2 ⟨fun _ => ⟨q, by simp, by rw [Int.toNat_natCast, h2, eq]; rfl, br_iff.2 ⟨fun _ => neg, fun c1 => br_iff.2 ⟨fun _ => neg, fun c2 => ?_⟩⟩⟩, fun h => by simp at h; omega⟩)
          simp at c1 c2
          obtain ⟨a1, a2, a3, a4, a5, a6, a7, a8⟩ := hu (by omega)
          obtain ⟨n1, n2⟩ := hv (by omega)
          obtain ⟨b, hb, hb2⟩ := hq u (IntKind.wrap .i64 (d - Int.ofNat 1)) (by omega)
          refine ⟨b, hb, ?_⟩
          rw [wrap_succ (by omega : j < r.Clauses.length) hcl]
          refine ihj (j + 1) b (by omega) (by omega) h0 fun hb0 => ?_
          obtain ⟨d1, d2⟩ := hb2 hb0
          refine ⟨by omega, a2, a3, a4, a5, a6, a7, fun x hx => ?_⟩
          rw [List.take_add_one, h2, eq, Option.toList_some, List.mem_append, List.mem_singleton] at hx
          rcases hx with hx | rfl
          · exact a8 x hx
          · exact ⟨q, rfl, by omega, d2⟩
      refine h12_11010 l d _ _ (br_iff.2 ⟨fun _ => ⟨r, by simp, by rw [Int.toNat_natCast, h1, er]; rfl, br_iff.2 ⟨fun _ => neg, fun c1 => br_iff.2 ⟨fun _ => neg, fun c2 => br_iff.2 ⟨fun _ => neg, fun c3 => ?_⟩⟩⟩⟩, fun h => by simp at h; omega⟩)
      simp only [decide_eq_false_iff_not, Int.not_le, Int.not_lt, gt_iff_lt, Int.ofNat_eq_natCast] at c1 c3
      obtain ⟨n1, n2⟩ := hv (by omega)
      rw [wrap_id (x := (r.Value.length : Int) + r.Question_Left.length) (by omega) (by omega), wrap_id (x := (r.Value.length : Int) + r.Question_Left.length + r.Question_Right.length) (by omega) (by omega), wrap_id (by omega) (by omega)] at c3
      rw [wrap_id (x := v - Int.ofNat 1) (by simp; omega) (by simp; omega)]
      obtain ⟨b1, hb1, g1⟩ := hB (v - Int.ofNat 1) (IntKind.wrap .i64 (d - Int.ofNat 1)) (by simp; omega)
      obtain ⟨b2, hb2, g2⟩ := hE b1 (IntKind.wrap .i64 (d - Int.ofNat 1)) (by
        by_cases h : 0 ≤ b1
        · have := (g1 h).1; simp at this; omega
        · omega)
      refine ⟨b1, hb1, b2, hb2, inner _ 0 b2 rfl (by omega) (by omega) fun h2 => ?_⟩
      obtain ⟨k1, k2⟩ := g2 h2
      obtain ⟨k3, k4⟩ := g1 (by omega)
      simp at k3
      refine ⟨by omega, by omega, by omega, by omega, by omega, k4, k2, fun c hc => by simp at hc⟩
  obtain ⟨o, ho, r, rfl, hr⟩ := f12 l n d (Q := Q) (br_iff.2 ⟨fun _ => neg, fun _ => outer _ 0 n rfl (by omega) fun _ => ⟨by simp, fun x hx => by simp at hx⟩⟩)
  exact ⟨r, ho, hr⟩

theorem great : ∀ {n : Nat} {l : Rows}, GSs n l → Gr (Sm n) l
  | 0, _, h => h.elim
  | n + 1, l, ⟨ll, gl⟩ => great12 ll fun x hx => by
      obtain ⟨r, e, v, l1, r1, b, el, c1, c2⟩ := gl x hx
      refine ⟨r, e, v.1, l1.1, r1.1, great b, great el, c1, fun c hc => ?_⟩
      obtain ⟨q, e, p, b⟩ := c2 c hc
      exact ⟨q, e, p.1, great b⟩

theorem great5 {n : Nat} {l : Rows} (h : GSs n l) : ∃ r : Bool, Runs E0 5 [.ro l] ⟨.bool r, [.any], []⟩ ∧ (r = false → Sm n l) := by
  obtain ⟨r, hr, hs⟩ := great h (Int.ofNat 60) (Int.ofNat 14) (by simp)
  obtain ⟨o, ho, hq⟩ := f5 l (Q := fun o => ∃ r : Bool, o = ⟨.bool r, [.any], []⟩ ∧ (r = false → Sm n l)) ⟨r, hr, _, rfl, fun h => (hs (by simpa using h)).2⟩
  obtain ⟨r, rfl, hq⟩ := hq
  exact ⟨r, ho, hq⟩
end Go.Bv.P31
/- The document's words for what is the same. -/
open Go Go.Bv Go.Proofs
namespace Go.Bv.P31

theorem eq23 {a b : Rows} (ha : GP a) (hb : GP b) : RB 23 [.agg [.int .i64 (Int.ofNat 0), .str [], .int .i64 (Int.ofNat 0), .ro a, .int .i64 (Int.ofNat 0)], .agg [.int .i64 (Int.ofNat 0), .str [], .int .i64 (Int.ofNat 0), .ro b, .int .i64 (Int.ofNat 0)]] (a = b) := by
  obtain ⟨la, ga⟩ := ha
  obtain ⟨lb, gb⟩ := hb
  let Q : Out → Prop := fun o => ∃ r : Bool, o = ⟨.bool r, List.replicate 2 .any, []⟩ ∧ (r = true ↔ a = b)
  have loop : ∀ k i : Nat, a.length - i = k → i ≤ a.length → a.length = b.length → a.take i = b.take i → Head E0 A23 23 [0, 1, 0, 1, 1] (st23_11010 a i (Int.ofNat 0) [] (Int.ofNat 0) b (Int.ofNat 0)) Q := by
    intro k
    induction k with
    | zero =>
      intro i hk hi hl ht
      obtain rfl : i = a.length := by omega
      refine h23_11010 a _ _ _ _ _ _ (br_iff.2 ⟨fun h => by simp at h, fun _ => ⟨true, rfl, ?_⟩⟩)
      simp [same_len hl, ht]
    | succ k ih =>
      intro i hk hi hl ht
      refine h23_11010 a _ _ _ _ _ _ (br_iff.2 ⟨fun _ => ?_, fun h => by simp at h; omega⟩)
      have h1 : a[i]? = some (a[i]'(by omega)) := List.getElem?_eq_getElem (by omega)
      have h2 : b[i]? = some (b[i]'(by omega)) := List.getElem?_eq_getElem (by omega)
      obtain ⟨x, ex⟩ := ga _ (List.mem_of_getElem? h1)
      obtain ⟨y, ey⟩ := gb _ (List.mem_of_getElem? h2)
      refine ⟨x, by simp, by rw [Int.toNat_natCast, h1, ex]; rfl, y, by simp, by rw [Int.toNat_natCast, h2, ey]; rfl, br_iff.2 ⟨fun h => ⟨false, rfl, ?_⟩, fun h => ?_⟩⟩
      · refine ⟨fun h => by simp at h, fun e => ?_⟩
        exfalso
        subst e
        rw [ex] at ey
        obtain ⟨e1, e2⟩ := row61.1 ey
        rw [e1, e2] at h
        simp [bytesEq_iff.2] at h
      · simp only [Bool.not_eq_false', Bool.and_true, Bool.and_eq_true, bytesEq_iff] at h
        rw [wrap_succ (by omega) la]
        refine ih (i + 1) (by omega) (by omega) hl ((take_step h1 h2).2 ⟨ht, ?_⟩)
        rw [ex, ey]
        exact row61.2 h
  obtain ⟨o, ho, r, rfl, hr⟩ := f23 a b (Q := Q) (br_iff.2 ⟨fun h => ⟨false, rfl, ⟨fun h => by simp at h, fun e => by subst e; simp at h⟩⟩, fun h => loop _ 0 rfl (by omega) (by simp at h; omega) (by simp)⟩)
  exact ⟨r, ho, hr⟩

theorem eq16 {a b : Rows} (ha : GP a) (hb : GP b) : RB 16 [.ro a, .ro b] (a = b) := by
  obtain ⟨r, e, i⟩ := eq23 ha hb
  obtain ⟨o, ho, hq⟩ := f16 a b (Q := fun o => o = ⟨.bool r, List.replicate 2 .any, []⟩) ⟨r, e, rfl⟩
  subst hq
  exact ⟨r, ho, i⟩
end Go.Bv.P31
open Go Go.Bv Go.Proofs
namespace Go.Bv
set_option maxRecDepth 100000
def mask8_11010 : List Bool := [false, true, false, false, false, false, false, false, false, false, false, false, false, false, false, true, true, true, false, false, false, false, false, false, false, false, false, false, false, false, false, false, false, false, false, false, false, false, false, false, false, false, false, false, false, false, false, false, false, false, false, false, false, false, false, false, false, false, false, false, false, false, false, false, false, false, false, false, false, false, false, false, false, false, false, false, false, false, false, false, false, false, false, false, false, false, false, false, false, false, false, false, false, false, false, false, false, false, false, false, false, false, false, false, false, false, false, false, false, false, false, false, false, false, false, false, false, false, false, false, false, false, false, false, false, false, false, false, false, false, false, false, false, false, false, false, false, false, false, false, false, false, false, false, false, false, false, false, false, false, false, false, false, false, false, false, false, false, false, false, false, false]
def st8_11010 (a : List (List V)) (b : List (List V)) (v17 : Int) : St := ⟨sets [(1, V.ro b), (15, V.ro a), (16, V.int IntKind.i64 (↑(List.length a) : Int)), (17, V.int IntKind.i64 v17)] (anys 162), sets [] (anys 165), []⟩
def mask8_1101001100111110 : List Bool := [false, true, false, false, false, false, false, true, false, false, false, false, false, false, false, true, true, true, false, false, false, false, false, false, false, false, false, false, false, false, false, false, false, false, false, false, false, false, false, false, false, false, false, false, false, false, false, false, false, false, false, false, false, false, false, false, false, false, false, false, false, false, false, false, false, false, false, false, false, false, false, false, false, false, false, false, false, false, false, false, false, false, false, false, false, false, false, false, false, false, false, false, false, false, false, false, false, false, false, false, false, false, false, false, false, false, false, false, false, false, false, false, false, false, false, false, false, false, false, false, true, true, true, false, false, false, false, false, false, false, false, false, false, false, false, false, false, false, false, false, false, false, false, false, false, false, false, false, false, false, false, false, false, false, false, false, false, false, false, false, false, false]
def st8_1101001100111110 (a : List (List V)) (b : List (List V)) (v17 : Int) (b1Clauses : List (List V)) (v122 : Int) (b7_0 : Int) (b7_1 : Int) (b7_2 : List UInt8) (b7_3 : List UInt8) (b7_4 : List (List V)) (b7_5 : List (List V)) (b7_6 : List (List V)) (b7_7 : List UInt8) (b7_8 : List (List V)) (b7_9 : List (List V)) (b7_10 : Bool) (b7_11 : List (List V)) : St := ⟨sets [(1, V.ro b), (7, V.al 7 [] 0 0), (15, V.ro a), (16, V.int IntKind.i64 (↑(List.length a) : Int)), (17, V.int IntKind.i64 v17), (120, V.ro b1Clauses), (121, V.int IntKind.i64 (↑(List.length b1Clauses) : Int)), (122, V.int IntKind.i64 v122)] (anys 162), sets [(7, V.box [V.int IntKind.i64 b7_0, V.int IntKind.i64 b7_1, V.str b7_2, V.str b7_3, V.ro b7_4, V.ro b7_5, V.ro b7_6, V.str b7_7, V.ro b7_8, V.ro b7_9, V.bool b7_10, V.ro b7_11])] (anys 165), []⟩
noncomputable def A8 : Ask := mkAsk SG [(20, sh48), (24, sh48), (125, sh52), (132, sh52), (142, sh52), (154, sh52)] [] [] [([0, 1, 0, 1, 1], mask8_11010), ([0, 1, 1, 1, 1, 1, 0, 0, 1, 1, 0, 0, 1, 0, 1, 1], mask8_1101001100111110)]
abbrev r_f8 (a b : List (List V)) (Q : Out → Prop) : Prop := br ((↑(List.length a) : Int) != (↑(List.length b) : Int)) (Q ({ res := V.bool false, outs := [V.any, V.any], dy := [] })) (Head E0 A8 8 ([0, 1, 0, 1, 1]) (st8_11010 a b (Int.ofNat 0)) Q)
theorem e_f8 (a b : List (List V)) (Q : Out → Prop) : wpF E0 A8 1000 8 [.ro a, .ro b] Q (fun p s => Head E0 A8 8 p s Q) (fun p l s => LabAt E0 A8 8 p l s Q) = r_f8 a b Q := by kernel_rfl
theorem f8 (a b : List (List V)) {Q : Out → Prop} (h : r_f8 a b Q) : ∃ o, Runs E0 8 [.ro a, .ro b] o ∧ Q o := wpF_of (e_f8 a b Q) h
abbrev r_h8_11010 (a : List (List V)) (b : List (List V)) (v17 : Int) (Q : Out → Prop) : Prop := br (decide (v17 < (↑(List.length a) : Int))) (∃ b1 : R40, (Int.ofNat 0 ≤ v17) ∧ (a[Int.toNat v17]? = some [V.int IntKind.i64 b1.Kind, V.int IntKind.i64 b1.N, V.str b1.Name, V.str b1.Verb, V.ro b1.Value, V.ro b1.Question_Left, V.ro b1.Question_Right, V.str b1.Question_Sign, V.ro b1.Body, V.ro b1.Else, V.bool b1.Elsed, V.ro b1.Clauses]) ∧ ∃ b2 : R40, (Int.ofNat 0 ≤ v17) ∧ (b[Int.toNat v17]? = some [V.int IntKind.i64 b2.Kind, V.int IntKind.i64 b2.N, V.str b2.Name, V.str b2.Verb, V.ro b2.Value, V.ro b2.Question_Left, V.ro b2.Question_Right, V.str b2.Question_Sign, V.ro b2.Body, V.ro b2.Else, V.bool b2.Elsed, V.ro b2.Clauses]) ∧ br (b1.Kind != b2.Kind) (Q ({ res := V.bool false, outs := [V.any, V.any], dy := [] })) (br (b1.N != b2.N) (Q ({ res := V.bool false, outs := [V.any, V.any], dy := [] })) (br (!bytesEq b1.Name b2.Name) (Q ({ res := V.bool false, outs := [V.any, V.any], dy := [] })) (br (!bytesEq b1.Verb b2.Verb) (Q ({ res := V.bool false, outs := [V.any, V.any], dy := [] })) (br (!b1.Elsed == b2.Elsed) (Q ({ res := V.bool false, outs := [V.any, V.any], dy := [] })) (br (!bytesEq b1.Question_Sign b2.Question_Sign) (Q ({ res := V.bool false, outs := [V.any, V.any], dy := [] })) (br ((↑(List.length b1.Clauses) : Int) != (↑(List.length b2.Clauses) : Int)) (Q ({ res := V.bool false, outs := [V.any, V.any], dy := [] })) (∃ b3 : Bool, (Runs E0 16 [V.ro b1.Value, V.ro b2.Value] ({ res := V.bool b3, outs := [V.any, V.any], dy := [] })) ∧ br (!b3) (Q ({ res := V.bool false, outs := [V.any, V.any], dy := [] })) (∃ b4 : Bool, (Runs E0 16 [V.ro b1.Question_Left, V.ro b2.Question_Left] ({ res := V.bool b4, outs := [V.any, V.any], dy := [] })) ∧ br (!b4) (Q ({ res := V.bool false, outs := [V.any, V.any], dy := [] })) (∃ b5 : Bool, (Runs E0 16 [V.ro b1.Question_Right, V.ro b2.Question_Right] ({ res := V.bool b5, outs := [V.any, V.any], dy := [] })) ∧ br (!b5) (Q ({ res := V.bool false, outs := [V.any, V.any], dy := [] })) (∃ b6 : Bool, (Runs E0 8 [V.ro b1.Body, V.ro b2.Body] ({ res := V.bool b6, outs := [V.any, V.any], dy := [] })) ∧ br (!b6) (Q ({ res := V.bool false, outs := [V.any, V.any], dy := [] })) (∃ b7 : Bool, (Runs E0 8 [V.ro b1.Else, V.ro b2.Else] ({ res := V.bool b7, outs := [V.any, V.any], dy := [] })) ∧ br (!b7) (Q ({ res := V.bool false, outs := [V.any, V.any], dy := [] })) (Head E0 A8 8 ([0, 1, 1, 1, 1, 1, 0, 0, 1, 1, 0, 0, 1, 0, 1, 1]) (st8_1101001100111110 a b v17 b1.Clauses (Int.ofNat 0) b2.Kind b2.N b2.Name b2.Verb b2.Value b2.Question_Left   b2.Question_Right b2.Question_Sign b2.Body b2.Else b2.Elsed b2.Clauses) Q))))))))))))) (Q ({ res := V.bool true, outs := [V.any, V.any], dy := [] }))
theorem e_h8_11010 (a : List (List V)) (b : List (List V)) (v17 : Int) (Q : Out → Prop) : wpH E0 A8 1000 8 [0, 1, 0, 1, 1] (st8_11010 a b v17) Q (fun p s => Head E0 A8 8 p s Q) (fun p l s => LabAt E0 A8 8 p l s Q) = r_h8_11010 a b v17 Q := by kernel_rfl
theorem h8_11010 (a : List (List V)) (b : List (List V)) (v17 : Int) {Q : Out → Prop} (h : r_h8_11010 a b v17 Q) : Head E0 A8 8 [0, 1, 0, 1, 1] (st8_11010 a b v17) Q := head_of (show codeR E0 8 [0, 1, 0, 1, 1] = .loop (codeR E0 8 (0 :: [0, 1, 0, 1, 1])) by kernel_rfl) (e_h8_11010 a b v17 Q) h
abbrev r_h8_1101001100111110 (a : List (List V)) (b : List (List V)) (v17 : Int) (b1Clauses : List (List V)) (v122 : Int) (b7_0 : Int) (b7_1 : Int) (b7_2 : List UInt8) (b7_3 : List UInt8) (b7_4 : List (List V)) (b7_5 : List (List V)) (b7_6 : List (List V)) (b7_7 : List UInt8) (b7_8 : List (List V)) (b7_9 : List (List V)) (b7_10 : Bool) (b7_11 : List (List V)) (Q : Out → Prop) : Prop := br (decide (v122 < (↑(List.length b1Clauses) : Int))) (∃ b1 : R50, (Int.ofNat 0 ≤ v122) ∧ (b1Clauses[Int.toNat v122]? = some [V.int IntKind.i64 b1.Kind, V.ro b1.Pattern, V.ro b1.Body]) ∧ ∃ b2 : R50, (Int.ofNat 0 ≤ v122) ∧ (b7_11[Int.toNat v122]? = some [V.int IntKind.i64 b2.Kind, V.ro b2.Pattern, V.ro b2.Body]) ∧ br (b1.Kind != b2.Kind) (Q ({ res := V.bool false, outs := [V.any, V.any], dy := [] })) (∃ b3 : R50, (Int.ofNat 0 ≤ v122) ∧ (b7_11[Int.toNat v122]? = some [V.int IntKind.i64 b3.Kind, V.ro b3.Pattern, V.ro b3.Body]) ∧ ∃ b4 : Bool, (Runs E0 16 [V.ro b1.Pattern, V.ro b3.Pattern] ({ res := V.bool b4, outs := [V.any, V.any], dy := [] })) ∧ br (!b4) (Q ({ res := V.bool false, outs := [V.any, V.any], dy := [] })) (∃ b5 : R50, (Int.ofNat 0 ≤ v122) ∧ (b7_11[Int.toNat v122]? = some [V.int IntKind.i64 b5.Kind, V.ro b5.Pattern, V.ro b5.Body]) ∧ ∃ b6 : Bool, (Runs E0 8 [V.ro b1.Body, V.ro b5.Body] ({ res := V.bool b6, outs := [V.any, V.any], dy := [] })) ∧ br (!b6) (Q ({ res := V.bool false, outs := [V.any, V.any], dy := [] })) (Head E0 A8 8 ([0, 1, 1, 1, 1, 1, 0, 0, 1, 1, 0, 0, 1, 0, 1, 1]) (st8_1101001100111110 a b v17 b1Clauses (IntKind.wrap IntKind.i64 (v122 + Int.ofNat 1)) b7_0 b7_1 b7_2 b7_3   b7_4 b7_5 b7_6 b7_7 b7_8 b7_9 b7_10 b7_11) Q)))) (Head E0 A8 8 ([0, 1, 0, 1, 1]) (st8_11010 a b (IntKind.wrap IntKind.i64 (v17 + Int.ofNat 1))) Q)
theorem e_h8_1101001100111110 (a : List (List V)) (b : List (List V)) (v17 : Int) (b1Clauses : List (List V)) (v122 : Int) (b7_0 : Int) (b7_1 : Int) (b7_2 : List UInt8) (b7_3 : List UInt8) (b7_4 : List (List V)) (b7_5 : List (List V)) (b7_6 : List (List V)) (b7_7 : List UInt8) (b7_8 : List (List V)) (b7_9 : List (List V)) (b7_10 : Bool) (b7_11 : List (List V)) (Q : Out → Prop) : wpH E0 A8 1000 8 [0, 1, 1, 1, 1, 1, 0, 0, 1, 1, 0, 0, 1, 0, 1, 1] (st8_1101001100111110 a b v17 b1Clauses v122 b7_0 b7_1 b7_2 b7_3 b7_4 b7_5 b7_6 b7_7 b7_8 b7_9 b7_10 b7_11) Q (fun p s => Head E0 A8 8 p s Q) (fun p l s => LabAt E0 A8 8 p l s Q) = r_h8_1101001100111110 a b v17 b1Clauses v122 b7_0 b7_1 b7_2 b7_3 b7_4 b7_5 b7_6 b7_7 b7_8 b7_9 b7_10 b7_11 Q := by kernel_rfl
theorem h8_1101001100111110 (a : List (List V)) (b : List (List V)) (v17 : Int) (b1Clauses : List (List V)) (v122 : Int) (b7_0 : Int) (b7_1 : Int) (b7_2 : List UInt8) (b7_3 : List UInt8) (b7_4 : List (List V)) (b7_5 : List (List V)) (b7_6 : List (List V)) (b7_7 : List UInt8) (b7_8 : List (List V)) (b7_9 : List (List V)) (b7_10 : Bool) (b7_11 : List (List V)) {Q : Out → Prop} (h : r_h8_1101001100111110 a b v17 b1Clauses v122 b7_0 b7_1 b7_2 b7_3 b7_4 b7_5 b7_6 b7_7 b7_8 b7_9 b7_10 b7_11 Q) : Head E0 A8 8 [0, 1, 1, 1, 1, 1, 0, 0, 1, 1, 0, 0, 1, 0, 1, 1] (st8_1101001100111110 a b v17 b1Clauses v122 b7_0 b7_1 b7_2 b7_3 b7_4 b7_5 b7_6 b7_7 b7_8 b7_9 b7_10 b7_11) Q := head_of (show codeR E0 8 [0, 1, 1, 1, 1, 1, 0, 0, 1, 1, 0, 0, 1, 0, 1, 1] = .loop (codeR E0 8 (0 :: [0, 1, 1, 1, 1, 1, 0, 0, 1, 1, 0, 0, 1, 0, 1, 1])) by kernel_rfl) (e_h8_1101001100111110 a b v17 b1Clauses v122 b7_0 b7_1 b7_2 b7_3 b7_4 b7_5 b7_6 b7_7 b7_8 b7_9 b7_10 b7_11 Q) h
end Go.Bv
/- The document's words for what statements are the same. -/
open Go Go.Bv Go.Proofs
namespace Go.Bv.P31

def Eq8 (a b : Rows) : Prop := RB 8 [.ro a, .ro b] (a = b)

theorem eq8a {a b : Rows} (la : a.length ≤ cap20)
    (ga : ∀ x y, x ∈ a → y ∈ b → ∃ r q : R40, x = r.row ∧ y = q.row ∧ GP r.Value ∧ GP q.Value ∧ GP r.Question_Left ∧ GP q.Question_Left ∧ GP r.Question_Right ∧ GP q.Question_Right ∧ Eq8 r.Body q.Body ∧ Eq8 r.Else q.Else ∧ r.Clauses.length ≤ cap20 ∧
      ∀ c d, c ∈ r.Clauses → d ∈ q.Clauses → ∃ s t : R50, c = s.row ∧ d = t.row ∧ GP s.Pattern ∧ GP t.Pattern ∧ Eq8 s.Body t.Body) : Eq8 a b := by
  let Q : Out → Prop := fun o => ∃ r : Bool, o = ⟨.bool r, List.replicate 2 .any, []⟩ ∧ (r = true ↔ a = b)
  have no : a ≠ b → Q ⟨.bool false, [.any, .any], []⟩ := fun h => ⟨false, rfl, ⟨fun e => (by cases e), fun e => (h e).elim⟩⟩
  have loop : ∀ k i : Nat, a.length - i = k → i ≤ a.length → a.length = b.length → a.take i = b.take i → Head E0 A8 8 [0, 1, 0, 1, 1] (st8_11010 a b i) Q := by
    intro k
    induction k with
    | zero =>
      intro i hk hi hl ht
      obtain rfl : i = a.length := by omega
      refine h8_11010 a b _ (br_iff.2 ⟨fun h => by simp at h, fun _ => ⟨true, rfl, ?_⟩⟩)
      simp [same_len hl, ht]
    | succ k ih =>
      intro i hk hi hl ht
      have h1 : a[i]? = some (a[i]'(by omega)) := List.getElem?_eq_getElem (by omega)
      have h2 : b[i]? = some (b[i]'(by omega)) := List.getElem?_eq_getElem (by omega)
      obtain ⟨x, y, ex, ey, v1, v2, l1, l2, r1, r2, ⟨t1, e1, i1⟩, ⟨t2, e2, i2⟩, lc, gc⟩ := ga _ _ (List.mem_of_getElem? h1) (List.mem_of_getElem? h2)
      obtain ⟨t3, e3, i3⟩ := eq16 v1 v2
      obtain ⟨t4, e4, i4⟩ := eq16 l1 l2
      obtain ⟨t5, e5, i5⟩ := eq16 r1 r2
      -- where they are not the same
      have nq : x.row ≠ y.row → Q ⟨.bool false, [.any, .any], []⟩ := fun h => no fun e => h (by
        subst e
        rw [← ex, ← ey])
      refine h8_11010 a b _ (br_iff.2 ⟨fun _ => ⟨x, by simp, by rw [Int.toNat_natCast, h1, ex]; rfl, y, by simp, by rw [Int.toNat_natCast, h2, ey]; rfl, ?_⟩, fun h => by simp at h; omega⟩)
      refine br_iff.2 ⟨fun n => nq fun e => ?_, fun c1 => br_iff.2 ⟨fun n => nq fun e => ?_, fun c2 => br_iff.2 ⟨fun n => nq fun e => ?_, fun c3 => br_iff.2 ⟨fun n => nq fun e => ?_, fun c4 => br_iff.2 ⟨fun n => nq fun e => ?_, fun c5 => br_iff.2 ⟨fun n => nq fun e => ?_,
        fun c6 => br_iff.2 ⟨fun n => nq fun e => ?_, fun c7 => ⟨t3, e3, br_iff.2 ⟨fun n => nq fun e => ?_, fun c8 => ⟨t4, e4, br_iff.2 ⟨fun n => nq fun e => ?_, fun c9 => ⟨t5, e5, br_iff.2 ⟨fun n => nq fun e => ?_, fun c10 => ⟨t1, e1, br_iff.2 ⟨fun n => nq fun e => ?_,
        fun c11 => ⟨t2, e2, br_iff.2 ⟨fun n => nq fun e => ?_, fun c12 => ?_⟩⟩⟩⟩⟩⟩⟩⟩⟩⟩⟩⟩⟩⟩⟩⟩⟩
      all_goals try (
        obtain ⟨k1, k2, k3, k4, k5, k6, k7, k8, k9, k10, k11, k12⟩ := row40.1 e
        first
          | (rw [i1.2 k9] at n; cases n; done)
          | (rw [i2.2 k10] at n; cases n; done)
          | (rw [i3.2 k5] at n; cases n; done)
          | (rw [i4.2 k6] at n; cases n; done)
          | (rw [i5.2 k7] at n; cases n; done)
          | (rw [bytesEq_iff.2 k3] at n; cases n; done)
          | (rw [bytesEq_iff.2 k4] at n; cases n; done)
          | (rw [bytesEq_iff.2 k8] at n; cases n; done)
          | (simp [k1] at n; done)
          | (simp [k2] at n; done)
          | (simp [k11] at n; done)
          | (simp [k12] at n; done))
      simp only [Bool.not_eq_false', bytesEq_iff, bne_eq_false_iff_eq, beq_iff_eq] at c1 c2 c3 c4 c5 c6 c7 c8 c9 c10 c11 c12
      have hcl : x.Clauses.length = y.Clauses.length := by omega
      have inner : ∀ k j : Nat, x.Clauses.length - j = k → j ≤ x.Clauses.length → x.Clauses.take j = y.Clauses.take j →
          Head E0 A8 8 [0, 1, 1, 1, 1, 1, 0, 0, 1, 1, 0, 0, 1, 0, 1, 1] (st8_1101001100111110 a b i x.Clauses j y.Kind y.N y.Name y.Verb y.Value y.Question_Left y.Question_Right y.Question_Sign y.Body y.Else y.Elsed y.Clauses) Q := by
        intro k
        induction k with
        | zero =>
          intro j hk hj htj
          obtain rfl : j = x.Clauses.length := by omega
          refine h8_1101001100111110 a b _ _ _ _ _ _ _ _ _ _ _ _ _ _ _ (br_iff.2 ⟨fun h => by simp at h, fun _ => ?_⟩)
          rw [wrap_succ (by omega) la]
          refine ih (i + 1) (by omega) (by omega) hl ((take_step h1 h2).2 ⟨ht, ?_⟩)
          rw [ex, ey, row40]
          exact ⟨c1, c2, c3, c4, i3.1 c8, i4.1 c9, i5.1 c10, c6, i1.1 c11, i2.1 c12, c5, (same_len hcl).2 htj⟩
        | succ k ihj =>
          intro j hk hj htj
          have h3 : x.Clauses[j]? = some (x.Clauses[j]'(by omega)) := List.getElem?_eq_getElem (by omega)
          have h4 : y.Clauses[j]? = some (y.Clauses[j]'(by omega)) := List.getElem?_eq_getElem (by omega)
          obtain ⟨s, t, es, et, p1, p2, ⟨t6, e6, i6⟩⟩ := gc _ _ (List.mem_of_getElem? h3) (List.mem_of_getElem? h4)
          obtain ⟨t7, e7, i7⟩ := eq16 p1 p2
          have nc : s.row ≠ t.row → Q ⟨.bool false, [.any, .any], []⟩ := fun h => nq fun e => h (by
            have := (row40.1 e).2.2.2.2.2.2.2.2.2.2.2
            have h5 : x.Clauses[j]? = y.Clauses[j]? := by rw [this]
            rw [h3, h4, es, et] at h5
            exact Option.some.inj h5)
          have hy : y.Clauses[Int.toNat (j : Int)]? = some [V.int IntKind.i64 t.Kind, V.ro t.Pattern, V.ro t.Body] := by rw [Int.toNat_natCast, h4, et]; rfl
          refine h8_1101001100111110 a b _ _ _ _ _ _ _ _ _ _ _ _ _ _ _ (br_iff.2 ⟨fun _ => ⟨s, by simp, by rw [Int.toNat_natCast, h3, es]; rfl, t, by simp, hy, br_iff.2 ⟨fun n => nc fun e => ?_, fun d1 => ⟨t, by simp, hy, t7, e7, br_iff.2 ⟨fun n => nc fun e => ?_, fun d2 =>
            ⟨t, by simp, hy, t6, e6, br_iff.2 ⟨fun n => nc fun e => ?_, fun d3 => ?_⟩⟩⟩⟩⟩⟩, fun h => by simp at h; omega⟩)
          all_goals try (
            obtain ⟨k1, k2, k3⟩ := row50.1 e
            first
              | (rw [i7.2 k2] at n; cases n; done)
              | (rw [i6.2 k3] at n; cases n; done)
              | (simp [k1] at n; done))
          simp only [Bool.not_eq_false', bne_eq_false_iff_eq] at d1 d2 d3
          rw [wrap_succ (by omega) lc]
          refine ihj (j + 1) (by omega) (by omega) ((take_step h3 h4).2 ⟨htj, ?_⟩)
          rw [es, et, row50]
          exact ⟨d1, i7.1 d2, i6.1 d3⟩
      exact inner _ 0 rfl (by omega) (by simp)
  obtain ⟨o, ho, r, rfl, hr⟩ := f8 a b (Q := Q) (br_iff.2 ⟨fun h => no fun e => by subst e; simp at h, fun h => loop _ 0 rfl (by omega) (by simp at h; omega) (by simp)⟩)
  exact ⟨r, ho, hr⟩

theorem eq8 : ∀ {n m : Nat} {a b : Rows}, GSs n a → GSs m b → Eq8 a b
  | 0, _, _, _, h, _ => h.elim
  | _ + 1, 0, _, _, _, h => h.elim
  | n + 1, m + 1, a, b, ⟨la, ga⟩, ⟨lb, gb⟩ => eq8a la fun x y hx hy => by
      obtain ⟨r, rfl, v1, l1, r1, b1, e1, c1, g1⟩ := ga x hx
      obtain ⟨q, rfl, v2, l2, r2, b2, e2, c2, g2⟩ := gb y hy
      refine ⟨r, q, rfl, rfl, v1, v2, l1, l2, r1, r2, eq8 b1 b2, eq8 e1 e2, c1, fun c d hc hd => ?_⟩
      obtain ⟨p, rfl, p1, p2⟩ := g1 c hc
      obtain ⟨q, rfl, q1, q2⟩ := g2 d hd
      exact ⟨p, q, rfl, rfl, p1, q1, eq8 p2 q2⟩
end Go.Bv.P31
/- Pieces as the document has them: the same ones. -/
open Go Go.Bv Go.Proofs
namespace Go.Bv.P31

theorem wide_of {z : Nat} {es : Rows} (h : ∀ x, x ∈ es → x.length = z) : wide z es = true := by
  cases es with
  | nil => rfl
  | cons e l => simp only [wide, beq_iff_eq]; exact h e (by simp)

theorem id13 {es : Rows} (ha : GP es) (hs : es.length ≤ 60) : Runs E0 13 [.ro es] ⟨.ro es, [.any], []⟩ := by
  obtain ⟨la, ga⟩ := ha
  simp only [cap20] at la
  let Q : Out → Prop := fun o => o = ⟨.ro es, [.any], []⟩
  have hlen : ∀ i x, x ∈ es.take i → x.length = 2 := fun i x hx => by
    obtain ⟨r, rfl⟩ := ga x (List.mem_of_mem_take hx)
    rfl
  have hown : (es.any fun x => x.any fun x => V.owner x) = false := by
    rw [List.any_eq_false]
    intro x hx
    obtain ⟨r, rfl⟩ := ga x hx
    simp [R61.row, V.owner]
  have loop : ∀ k i : Nat, es.length - i = k → 0 < i → i ≤ es.length → Head E0 A13 13 [0, 1, 0, 1, 1] (st13_11010b es i (es.take i)) Q := by
    intro k
    induction k with
    | zero =>
      intro i hk h0 hi
      obtain rfl : i = es.length := by omega
      refine h13_11010b es _ _ (br_iff.2 ⟨fun h => by simp at h, fun _ => ?_⟩)
      rw [List.take_length]
      exact ⟨rfl, hown, rfl⟩
    | succ k ih =>
      intro i hk h0 hi
      have h1 : es[i]? = some (es[i]'(by omega)) := List.getElem?_eq_getElem (by omega)
      obtain ⟨x, ex⟩ := ga _ (List.mem_of_getElem? h1)
      have he : (es.take i).isEmpty = false := by
        cases hh : es.take i with
        | nil => have := congrArg List.length hh; rw [List.length_take, List.length_nil] at this; omega
        | cons _ _ => rfl
      refine h13_11010b es _ _ (br_iff.2 ⟨fun _ => ⟨x, by simp, by rw [Int.toNat_natCast, h1, ex]; rfl, ?_, ?_, rfl, rfl, rfl, rfl, ?_⟩, fun h => by simp at h; omega⟩)
      · rw [he]
        exact wide_of (hlen i)
      · simp; omega
      · rw [wrap_succ (by omega : i < es.length) la]
        have := ih (i + 1) (by omega) (by omega) (by omega)
        rw [List.take_add_one, h1, ex] at this
        exact this
  have first : Head E0 A13 13 [0, 1, 0, 1, 1] (st13_11010 es (Int.ofNat 0)) Q := by
    by_cases h0 : es.length = 0
    · obtain rfl := List.eq_nil_of_length_eq_zero h0
      exact h13_11010 [] _ (br_iff.2 ⟨fun h => by simp at h, fun _ => ⟨rfl, rfl, rfl⟩⟩)
    · have h1 : es[0]? = some (es[0]'(by omega)) := List.getElem?_eq_getElem (by omega)
      obtain ⟨x, ex⟩ := ga _ (List.mem_of_getElem? h1)
      refine h13_11010 es _ (br_iff.2 ⟨fun _ => ⟨x, by simp, by rw [show Int.toNat (Int.ofNat 0) = 0 from rfl, h1, ex]; rfl, rfl, ?_, rfl, rfl, rfl, rfl, ?_⟩, fun h => ?_⟩)
      · simp
      · have := loop _ 1 rfl (by omega) (by omega)
        rw [List.take_add_one, h1, ex] at this
        have hw := wrap_succ (i := 0) (n := es.length) (by omega) la
        rw [show Int.ofNat 0 = ((0 : Nat) : Int) from rfl, hw]
        exact this
      · exfalso
        simp only [decide_eq_false_iff_not] at h
        exact h (by show (0 : Int) < _; omega)
  obtain ⟨o, ho, hq⟩ := f13 es (Q := Q) first
  have hq : o = _ := hq
  subst hq
  exact ho
end Go.Bv.P31
open Go Go.Bv Go.Proofs
namespace Go.Bv
set_option maxRecDepth 100000
def mask6_11010 : List Bool := [false, false, false, true, false, false, false, false, false, false, true, true, true, false, false, false, false, false, false, false, false, false, false, false, false, false, false, false, false, false, false, false, false, false, false, false, false, false, false, false, false, false, false, false, false, false, false, false, false, false, false, false, false, false, false, false, false, false, false, false, false, false, false, false, false, false, false, false, false, false, false, false, false, false, false, false, false]
def st6_11010 (l : List (List V)) (v12 : Int) : St := ⟨sets [(3, V.als 9 [] 0 0 0 0), (10, V.ro l), (11, V.int IntKind.i64 (↑(List.length l) : Int)), (12, V.int IntKind.i64 v12)] (anys 77), sets [(9, V.own [] (some 0))] (anys 79), []⟩
def mask6_1101001100111010 : List Bool := [false, false, false, true, false, false, true, false, false, false, true, true, true, false, false, false, false, false, false, false, false, false, false, false, false, false, false, false, false, false, false, false, false, false, false, false, false, false, false, false, false, false, false, false, false, false, false, false, false, false, true, true, true, false, false, false, false, false, false, false, false, false, false, false, false, false, false, false, false, false, false, false, false, false, false, false, false]
def st6_1101001100111010 (l : List (List V)) (v12 : Int) (bClauses : List (List V)) (v52 : Int) (b6_0 : Int) (b6_1 : Int) (b6_2 : List UInt8) (b6_3 : List UInt8) (b6_4 : List (List V)) (b6_5 : List (List V)) (b6_6 : List (List V)) (b6_7 : List UInt8) (b6_8 : List (List V)) (b6_9 : List (List V)) (b6_10 : Bool) : St := ⟨sets [(3, V.als 9 [] 0 0 0 0), (6, V.al 6 [] 0 0), (10, V.ro l), (11, V.int IntKind.i64 (↑(List.length l) : Int)), (12, V.int IntKind.i64 v12), (50, V.ro bClauses), (51, V.int IntKind.i64 (↑(List.length bClauses) : Int)), (52, V.int IntKind.i64 v52)] (anys 77), sets [(6, V.box [V.int IntKind.i64 b6_0, V.int IntKind.i64 b6_1, V.str b6_2, V.str b6_3, V.ro b6_4, V.ro b6_5, V.ro b6_6, V.str b6_7, V.ro b6_8, V.ro b6_9, V.bool b6_10, V.sc (Value.slice none 0 0)]), (9, V.own [] (some 0))] (anys 79), []⟩
def st6_1101001100111010b (l : List (List V)) (v12 : Int) (bClauses : List (List V)) (v52 : Int) (b6_0 : Int) (b6_1 : Int) (b6_2 : List UInt8) (b6_3 : List UInt8) (b6_4 : List (List V)) (b6_5 : List (List V)) (b6_6 : List (List V)) (b6_7 : List UInt8) (b6_8 : List (List V)) (b6_9 : List (List V)) (b6_10 : Bool) (b6_11 : List (List V)) : St := ⟨sets [(3, V.als 9 [] 0 0 0 0), (6, V.al 6 [] 0 0), (10, V.ro l), (11, V.int IntKind.i64 (↑(List.length l) : Int)), (12, V.int IntKind.i64 v12), (50, V.ro bClauses), (51, V.int IntKind.i64 (↑(List.length bClauses) : Int)), (52, V.int IntKind.i64 v52)] (anys 77), sets [(6, V.box [V.int IntKind.i64 b6_0, V.int IntKind.i64 b6_1, V.str b6_2, V.str b6_3, V.ro b6_4, V.ro b6_5, V.ro b6_6, V.str b6_7, V.ro b6_8, V.ro b6_9, V.bool b6_10, V.own b6_11 none]), (9, V.own [] (some 0))] (anys 79), []⟩
def st6_11010b (l : List (List V)) (v12 : Int) (a74 : List (List V)) : St := ⟨sets [(3, V.als 74 [] 0 0 (List.length a74) 0), (10, V.ro l), (11, V.int IntKind.i64 (↑(List.length l) : Int)), (12, V.int IntKind.i64 v12)] (anys 77), sets [(74, V.own a74 none)] (anys 79), []⟩
def st6_1101001100111010c (l : List (List V)) (v12 : Int) (a74 : List (List V)) (bClauses : List (List V)) (v52 : Int) (b6_0 : Int) (b6_1 : Int) (b6_2 : List UInt8) (b6_3 : List UInt8) (b6_4 : List (List V)) (b6_5 : List (List V)) (b6_6 : List (List V)) (b6_7 : List UInt8) (b6_8 : List (List V)) (b6_9 : List (List V)) (b6_10 : Bool) : St := ⟨sets [(3, V.als 74 [] 0 0 (List.length a74) 0), (6, V.al 6 [] 0 0), (10, V.ro l), (11, V.int IntKind.i64 (↑(List.length l) : Int)), (12, V.int IntKind.i64 v12), (50, V.ro bClauses), (51, V.int IntKind.i64 (↑(List.length bClauses) : Int)), (52, V.int IntKind.i64 v52)] (anys 77), sets [(6, V.box [V.int IntKind.i64 b6_0, V.int IntKind.i64 b6_1, V.str b6_2, V.str b6_3, V.ro b6_4, V.ro b6_5, V.ro b6_6, V.str b6_7, V.ro b6_8, V.ro b6_9, V.bool b6_10, V.sc (Value.slice none 0 0)]), (74, V.own a74 none)] (anys 79), []⟩
def st6_1101001100111010d (l : List (List V)) (v12 : Int) (a74 : List (List V)) (bClauses : List (List V)) (v52 : Int) (b6_0 : Int) (b6_1 : Int) (b6_2 : List UInt8) (b6_3 : List UInt8) (b6_4 : List (List V)) (b6_5 : List (List V)) (b6_6 : List (List V)) (b6_7 : List UInt8) (b6_8 : List (List V)) (b6_9 : List (List V)) (b6_10 : Bool) (b6_11 : List (List V)) : St := ⟨sets [(3, V.als 74 [] 0 0 (List.length a74) 0), (6, V.al 6 [] 0 0), (10, V.ro l), (11, V.int IntKind.i64 (↑(List.length l) : Int)), (12, V.int IntKind.i64 v12), (50, V.ro bClauses), (51, V.int IntKind.i64 (↑(List.length bClauses) : Int)), (52, V.int IntKind.i64 v52)] (anys 77), sets [(6, V.box [V.int IntKind.i64 b6_0, V.int IntKind.i64 b6_1, V.str b6_2, V.str b6_3, V.ro b6_4, V.ro b6_5, V.ro b6_6, V.str b6_7, V.ro b6_8, V.ro b6_9, V.bool b6_10, V.own b6_11 none]), (74, V.own a74 none)] (anys 79), []⟩
noncomputable def A6 : Ask := mkAsk SG [(14, sh40), (54, sh50)] [] [] [([0, 1, 0, 1, 1], mask6_11010), ([0, 1, 0, 1, 1, 1, 0, 0, 1, 1, 0, 0, 1, 0, 1, 1], mask6_1101001100111010)]
abbrev r_f6 (l : List (List V)) (Q : Out → Prop) : Prop := Head E0 A6 6 ([0, 1, 0, 1, 1]) (st6_11010 l (Int.ofNat 0)) Q
theorem e_f6 (l : List (List V)) (Q : Out → Prop) : wpF E0 A6 1000 6 [.ro l] Q (fun p s => Head E0 A6 6 p s Q) (fun p l s => LabAt E0 A6 6 p l s Q) = r_f6 l Q := by kernel_rfl
theorem f6 (l : List (List V)) {Q : Out → Prop} (h : r_f6 l Q) : ∃ o, Runs E0 6 [.ro l] o ∧ Q o := wpF_of (e_f6 l Q) h
abbrev r_h6_11010 (l : List (List V)) (v12 : Int) (Q : Out → Prop) : Prop := br (decide (v12 < (↑(List.length l) : Int))) (∃ b : R40, (Int.ofNat 0 ≤ v12) ∧ (l[Int.toNat v12]? = some [V.int IntKind.i64 b.Kind, V.int IntKind.i64 b.N, V.str b.Name, V.str b.Verb, V.ro b.Value, V.ro b.Question_Left, V.ro b.Question_Right, V.str b.Question_Sign, V.ro b.Body, V.ro b.Else, V.bool b.Elsed, V.ro b.Clauses]) ∧ ∃ b1 : List (List V), (Runs E0 13 [V.ro b.Value] ({ res := V.ro b1, outs := [V.any], dy := [] })) ∧ ∃ b2 : List (List V), (Runs E0 6 [V.ro b.Body] ({ res := V.ro b2, outs := [V.any], dy := [] })) ∧ ∃ b3 : List (List V), (Runs E0 6 [V.ro b.Else] ({ res := V.ro b3, outs := [V.any], dy := [] })) ∧ ∃ b4 : List (List V), (Runs E0 13 [V.ro b.Question_Left] ({ res := V.ro b4, outs := [V.any], dy := [] })) ∧ ∃ b5 : List (List V), (Runs E0 13 [V.ro b.Question_Right] ({ res := V.ro b5, outs := [V.any], dy := [] })) ∧ Head E0 A6 6 ([0, 1, 0, 1, 1, 1, 0, 0, 1, 1, 0, 0, 1, 0, 1, 1]) (st6_1101001100111010 l v12 b.Clauses (Int.ofNat 0) b.Kind b.N b.Name b.Verb b1 b4 b5 b.Question_Sign b2 b3   b.Elsed) Q) ((0 = 0) ∧ (false = false) ∧ Q ({ res := V.ro [], outs := [V.any], dy := [] }))
theorem e_h6_11010 (l : List (List V)) (v12 : Int) (Q : Out → Prop) : wpH E0 A6 1000 6 [0, 1, 0, 1, 1] (st6_11010 l v12) Q (fun p s => Head E0 A6 6 p s Q) (fun p l s => LabAt E0 A6 6 p l s Q) = r_h6_11010 l v12 Q := by kernel_rfl
theorem h6_11010 (l : List (List V)) (v12 : Int) {Q : Out → Prop} (h : r_h6_11010 l v12 Q) : Head E0 A6 6 [0, 1, 0, 1, 1] (st6_11010 l v12) Q := head_of (show codeR E0 6 [0, 1, 0, 1, 1] = .loop (codeR E0 6 (0 :: [0, 1, 0, 1, 1])) by kernel_rfl) (e_h6_11010 l v12 Q) h
abbrev r_h6_1101001100111010 (l : List (List V)) (v12 : Int) (bClauses : List (List V)) (v52 : Int) (b6_0 : Int) (b6_1 : Int) (b6_2 : List UInt8) (b6_3 : List UInt8) (b6_4 : List (List V)) (b6_5 : List (List V)) (b6_6 : List (List V)) (b6_7 : List UInt8) (b6_8 : List (List V)) (b6_9 : List (List V)) (b6_10 : Bool) (Q : Out → Prop) : Prop := br (decide (v52 < (↑(List.length bClauses) : Int))) (∃ b : R50, (Int.ofNat 0 ≤ v52) ∧ (bClauses[Int.toNat v52]? = some [V.int IntKind.i64 b.Kind, V.ro b.Pattern, V.ro b.Body]) ∧ ∃ b1 : List (List V), (Runs E0 13 [V.ro b.Pattern] ({ res := V.ro b1, outs := [V.any], dy := [] })) ∧ ∃ b2 : List (List V), (Runs E0 6 [V.ro b.Body] ({ res := V.ro b2, outs := [V.any], dy := [] })) ∧ (List.length [[V.int IntKind.i64 b.Kind, V.ro b1, V.ro b2]] ≤ 16777216) ∧ (wide 3 [[V.int IntKind.i64 b.Kind, V.ro b1, V.ro b2]] = true) ∧ ((List.all [[V.int IntKind.i64 b.Kind, V.ro b1, V.ro b2]] fun x => List.all x V.one) = true) ∧ (List.length [[V.int IntKind.i64 b.Kind, V.ro b1, V.ro b2]] = List.length [[V.int IntKind.i64 b.Kind, V.ro b1, V.ro b2]]) ∧ (List.length [[V.int IntKind.i64 b.Kind, V.ro b1, V.ro b2]] = List.length [[V.int IntKind.i64 b.Kind, V.ro b1, V.ro b2]]) ∧ Head E0 A6 6 ([0, 1, 0, 1, 1, 1, 0, 0, 1, 1, 0, 0, 1, 0, 1, 1]) (st6_1101001100111010b l v12 bClauses (IntKind.wrap IntKind.i64 (v52 + Int.ofNat 1)) b6_0 b6_1 b6_2 b6_3 b6_4   b6_5 b6_6 b6_7 b6_8 b6_9 b6_10 [[V.int IntKind.i64 b.Kind, V.ro b1, V.ro b2]]) Q) ((true = true) ∧ (0 + List.length [[V.int IntKind.i64 b6_0, V.int IntKind.i64 b6_1, V.str b6_2, V.str b6_3, V.ro b6_4, V.ro b6_5, V.ro b6_6, V.str b6_7, V.ro b6_8, V.ro b6_9, V.bool b6_10, V.ro []]] ≤ 16777216) ∧ (wide 12 [[V.int IntKind.i64 b6_0, V.int IntKind.i64 b6_1, V.str b6_2, V.str b6_3, V.ro b6_4, V.ro b6_5, V.ro b6_6, V.str b6_7, V.ro b6_8, V.ro b6_9, V.bool b6_10, V.ro []]] = true) ∧ ((List.all [[V.int IntKind.i64 b6_0, V.int IntKind.i64 b6_1, V.str b6_2, V.str b6_3, V.ro b6_4, V.ro b6_5, V.ro b6_6, V.str b6_7, V.ro b6_8, V.ro b6_9, V.bool b6_10, V.ro []]] fun x => List.all x V.one) = true) ∧ (List.length [[V.int IntKind.i64 b6_0, V.int IntKind.i64 b6_1, V.str b6_2, V.str b6_3, V.ro b6_4, V.ro b6_5, V.ro b6_6, V.str b6_7, V.ro b6_8, V.ro b6_9, V.bool b6_10, V.ro []]] = List.length [[V.int IntKind.i64 b6_0, V.int IntKind.i64 b6_1, V.str b6_2, V.str b6_3, V.ro b6_4, V.ro b6_5, V.ro b6_6, V.str b6_7, V.ro b6_8, V.ro b6_9, V.bool b6_10, V.ro []]]) ∧ (0 = 0) ∧ Head E0 A6 6 ([0, 1, 0, 1, 1]) (st6_11010b l (IntKind.wrap IntKind.i64 (v12 + Int.ofNat 1))   ([] ++     [[V.int IntKind.i64 b6_0, V.int IntKind.i64 b6_1, V.str b6_2, V.str b6_3, V.ro b6_4, V.ro b6_5, V.ro b6_6,         V.str b6_7, V.ro b6_8, V.ro b6_9, V.bool b6_10, V.ro []]])) Q)
theorem e_h6_1101001100111010 (l : List (List V)) (v12 : Int) (bClauses : List (List V)) (v52 : Int) (b6_0 : Int) (b6_1 : Int) (b6_2 : List UInt8) (b6_3 : List UInt8) (b6_4 : List (List V)) (b6_5 : List (List V)) (b6_6 : List (List V)) (b6_7 : List UInt8) (b6_8 : List (List V)) (b6_9 : List (List V)) (b6_10 : Bool) (Q : Out → Prop) : wpH E0 A6 1000 6 [0, 1, 0, 1, 1, 1, 0, 0, 1, 1, 0, 0, 1, 0, 1, 1] (st6_1101001100111010 l v12 bClauses v52 b6_0 b6_1 b6_2 b6_3 b6_4 b6_5 b6_6 b6_7 b6_8 b6_9 b6_10) Q (fun p s => Head E0 A6 6 p s Q) (fun p l s => LabAt E0 A6 6 p l s Q) = r_h6_1101001100111010 l v12 bClauses v52 b6_0 b6_1 b6_2 b6_3 b6_4 b6_5 b6_6 b6_7 b6_8 b6_9 b6_10 Q := by kernel_rfl
theorem h6_1101001100111010 (l : List (List V)) (v12 : Int) (bClauses : List (List V)) (v52 : Int) (b6_0 : Int) (b6_1 : Int) (b6_2 : List UInt8) (b6_3 : List UInt8) (b6_4 : List (List V)) (b6_5 : List (List V)) (b6_6 : List (List V)) (b6_7 : List UInt8) (b6_8 : List (List V)) (b6_9 : List (List V)) (b6_10 : Bool) {Q : Out → Prop} (h : r_h6_1101001100111010 l v12 bClauses v52 b6_0 b6_1 b6_2 b6_3 b6_4 b6_5 b6_6 b6_7 b6_8 b6_9 b6_10 Q) : Head E0 A6 6 [0, 1, 0, 1, 1, 1, 0, 0, 1, 1, 0, 0, 1, 0, 1, 1] (st6_1101001100111010 l v12 bClauses v52 b6_0 b6_1 b6_2 b6_3 b6_4 b6_5 b6_6 b6_7 b6_8 b6_9 b6_10) Q := head_of (show codeR E0 6 [0, 1, 0, 1, 1, 1, 0, 0, 1, 1, 0, 0, 1, 0, 1, 1] = .loop (codeR E0 6 (0 :: [0, 1, 0, 1, 1, 1, 0, 0, 1, 1, 0, 0, 1, 0, 1, 1])) by kernel_rfl) (e_h6_1101001100111010 l v12 bClauses v52 b6_0 b6_1 b6_2 b6_3 b6_4 b6_5 b6_6 b6_7 b6_8 b6_9 b6_10 Q) h
abbrev r_h6_1101001100111010b (l : List (List V)) (v12 : Int) (bClauses : List (List V)) (v52 : Int) (b6_0 : Int) (b6_1 : Int) (b6_2 : List UInt8) (b6_3 : List UInt8) (b6_4 : List (List V)) (b6_5 : List (List V)) (b6_6 : List (List V)) (b6_7 : List UInt8) (b6_8 : List (List V)) (b6_9 : List (List V)) (b6_10 : Bool) (b6_11 : List (List V)) (Q : Out → Prop) : Prop := br (decide (v52 < (↑(List.length bClauses) : Int))) (∃ b : R50, (Int.ofNat 0 ≤ v52) ∧ (bClauses[Int.toNat v52]? = some [V.int IntKind.i64 b.Kind, V.ro b.Pattern, V.ro b.Body]) ∧ ∃ b1 : List (List V), (Runs E0 13 [V.ro b.Pattern] ({ res := V.ro b1, outs := [V.any], dy := [] })) ∧ ∃ b2 : List (List V), (Runs E0 6 [V.ro b.Body] ({ res := V.ro b2, outs := [V.any], dy := [] })) ∧ ((if List.isEmpty b6_11 = true then false else wide 3 b6_11) = true) ∧ (List.length b6_11 + List.length [[V.int IntKind.i64 b.Kind, V.ro b1, V.ro b2]] ≤ 16777216) ∧ (wide 3 [[V.int IntKind.i64 b.Kind, V.ro b1, V.ro b2]] = true) ∧ ((List.all [[V.int IntKind.i64 b.Kind, V.ro b1, V.ro b2]] fun x => List.all x V.one) = true) ∧ (List.length [[V.int IntKind.i64 b.Kind, V.ro b1, V.ro b2]] = List.length [[V.int IntKind.i64 b.Kind, V.ro b1, V.ro b2]]) ∧ (List.length b6_11 = List.length b6_11) ∧ (List.length (b6_11 ++ [[V.int IntKind.i64 b.Kind, V.ro b1, V.ro b2]]) = List.length (b6_11 ++ [[V.int IntKind.i64 b.Kind, V.ro b1, V.ro b2]])) ∧ Head E0 A6 6 ([0, 1, 0, 1, 1, 1, 0, 0, 1, 1, 0, 0, 1, 0, 1, 1]) (st6_1101001100111010b l v12 bClauses (IntKind.wrap IntKind.i64 (v52 + Int.ofNat 1)) b6_0 b6_1 b6_2 b6_3 b6_4   b6_5 b6_6 b6_7 b6_8 b6_9 b6_10 (b6_11 ++ [[V.int IntKind.i64 b.Kind, V.ro b1, V.ro b2]])) Q) ((List.length b6_11 = List.length b6_11) ∧ ((List.any b6_11 fun x => List.any x fun x => V.owner x) = false) ∧ (true = true) ∧ (0 + List.length [[V.int IntKind.i64 b6_0, V.int IntKind.i64 b6_1, V.str b6_2, V.str b6_3, V.ro b6_4, V.ro b6_5, V.ro b6_6, V.str b6_7, V.ro b6_8, V.ro b6_9, V.bool b6_10, V.ro b6_11]] ≤ 16777216) ∧ (wide 12 [[V.int IntKind.i64 b6_0, V.int IntKind.i64 b6_1, V.str b6_2, V.str b6_3, V.ro b6_4, V.ro b6_5, V.ro b6_6, V.str b6_7, V.ro b6_8, V.ro b6_9, V.bool b6_10, V.ro b6_11]] = true) ∧ ((List.all [[V.int IntKind.i64 b6_0, V.int IntKind.i64 b6_1, V.str b6_2, V.str b6_3, V.ro b6_4, V.ro b6_5, V.ro b6_6, V.str b6_7, V.ro b6_8, V.ro b6_9, V.bool b6_10, V.ro b6_11]] fun x => List.all x V.one) = true) ∧ (List.length [[V.int IntKind.i64 b6_0, V.int IntKind.i64 b6_1, V.str b6_2, V.str b6_3, V.ro b6_4, V.ro b6_5, V.ro b6_6, V.str b6_7, V.ro b6_8, V.ro b6_9, V.bool b6_10, V.ro b6_11]] = List.length [[V.int IntKind.i64 b6_0, V.int IntKind.i64 b6_1, V.str b6_2, V.str b6_3, V.ro b6_4, V.ro b6_5, V.ro b6_6, V.str b6_7, V.ro b6_8, V.ro b6_9, V.bool b6_10, V.ro b6_11]]) ∧ (0 = 0) ∧ Head E0 A6 6 ([0, 1, 0, 1, 1]) (st6_11010b l (IntKind.wrap IntKind.i64 (v12 + Int.ofNat 1))   ([] ++     [[V.int IntKind.i64 b6_0, V.int IntKind.i64 b6_1, V.str b6_2, V.str b6_3, V.ro b6_4, V.ro b6_5, V.ro b6_6,         V.str b6_7, V.ro b6_8, V.ro b6_9, V.bool b6_10, V.ro b6_11]])) Q)
theorem e_h6_1101001100111010b (l : List (List V)) (v12 : Int) (bClauses : List (List V)) (v52 : Int) (b6_0 : Int) (b6_1 : Int) (b6_2 : List UInt8) (b6_3 : List UInt8) (b6_4 : List (List V)) (b6_5 : List (List V)) (b6_6 : List (List V)) (b6_7 : List UInt8) (b6_8 : List (List V)) (b6_9 : List (List V)) (b6_10 : Bool) (b6_11 : List (List V)) (Q : Out → Prop) : wpH E0 A6 1000 6 [0, 1, 0, 1, 1, 1, 0, 0, 1, 1, 0, 0, 1, 0, 1, 1] (st6_1101001100111010b l v12 bClauses v52 b6_0 b6_1 b6_2 b6_3 b6_4 b6_5 b6_6 b6_7 b6_8 b6_9 b6_10 b6_11) Q (fun p s => Head E0 A6 6 p s Q) (fun p l s => LabAt E0 A6 6 p l s Q) = r_h6_1101001100111010b l v12 bClauses v52 b6_0 b6_1 b6_2 b6_3 b6_4 b6_5 b6_6 b6_7 b6_8 b6_9 b6_10 b6_11 Q := by kernel_rfl
theorem h6_1101001100111010b (l : List (List V)) (v12 : Int) (bClauses : List (List V)) (v52 : Int) (b6_0 : Int) (b6_1 : Int) (b6_2 : List UInt8) (b6_3 : List UInt8) (b6_4 : List (List V)) (b6_5 : List (List V)) (b6_6 : List (List V)) (b6_7 : List UInt8) (b6_8 : List (List V)) (b6_9 : List (List V)) (b6_10 : Bool) (b6_11 : List (List V)) {Q : Out → Prop} (h : r_h6_1101001100111010b l v12 bClauses v52 b6_0 b6_1 b6_2 b6_3 b6_4 b6_5 b6_6 b6_7 b6_8 b6_9 b6_10 b6_11 Q) : Head E0 A6 6 [0, 1, 0, 1, 1, 1, 0, 0, 1, 1, 0, 0, 1, 0, 1, 1] (st6_1101001100111010b l v12 bClauses v52 b6_0 b6_1 b6_2 b6_3 b6_4 b6_5 b6_6 b6_7 b6_8 b6_9 b6_10 b6_11) Q := head_of (show codeR E0 6 [0, 1, 0, 1, 1, 1, 0, 0, 1, 1, 0, 0, 1, 0, 1, 1] = .loop (codeR E0 6 (0 :: [0, 1, 0, 1, 1, 1, 0, 0, 1, 1, 0, 0, 1, 0, 1, 1])) by kernel_rfl) (e_h6_1101001100111010b l v12 bClauses v52 b6_0 b6_1 b6_2 b6_3 b6_4 b6_5 b6_6 b6_7 b6_8 b6_9 b6_10 b6_11 Q) h
abbrev r_h6_11010b (l : List (List V)) (v12 : Int) (a74 : List (List V)) (Q : Out → Prop) : Prop := br (decide (v12 < (↑(List.length l) : Int))) (∃ b : R40, (Int.ofNat 0 ≤ v12) ∧ (l[Int.toNat v12]? = some [V.int IntKind.i64 b.Kind, V.int IntKind.i64 b.N, V.str b.Name, V.str b.Verb, V.ro b.Value, V.ro b.Question_Left, V.ro b.Question_Right, V.str b.Question_Sign, V.ro b.Body, V.ro b.Else, V.bool b.Elsed, V.ro b.Clauses]) ∧ ∃ b1 : List (List V), (Runs E0 13 [V.ro b.Value] ({ res := V.ro b1, outs := [V.any], dy := [] })) ∧ ∃ b2 : List (List V), (Runs E0 6 [V.ro b.Body] ({ res := V.ro b2, outs := [V.any], dy := [] })) ∧ ∃ b3 : List (List V), (Runs E0 6 [V.ro b.Else] ({ res := V.ro b3, outs := [V.any], dy := [] })) ∧ ∃ b4 : List (List V), (Runs E0 13 [V.ro b.Question_Left] ({ res := V.ro b4, outs := [V.any], dy := [] })) ∧ ∃ b5 : List (List V), (Runs E0 13 [V.ro b.Question_Right] ({ res := V.ro b5, outs := [V.any], dy := [] })) ∧ Head E0 A6 6 ([0, 1, 0, 1, 1, 1, 0, 0, 1, 1, 0, 0, 1, 0, 1, 1]) (st6_1101001100111010c l v12 a74 b.Clauses (Int.ofNat 0) b.Kind b.N b.Name b.Verb b1 b4 b5 b.Question_Sign b2   b3 b.Elsed) Q) ((List.length a74 = List.length a74) ∧ ((List.any a74 fun x => List.any x fun x => V.owner x) = false) ∧ Q ({ res := V.ro a74, outs := [V.any], dy := [] }))
theorem e_h6_11010b (l : List (List V)) (v12 : Int) (a74 : List (List V)) (Q : Out → Prop) : wpH E0 A6 1000 6 [0, 1, 0, 1, 1] (st6_11010b l v12 a74) Q (fun p s => Head E0 A6 6 p s Q) (fun p l s => LabAt E0 A6 6 p l s Q) = r_h6_11010b l v12 a74 Q := by kernel_rfl
theorem h6_11010b (l : List (List V)) (v12 : Int) (a74 : List (List V)) {Q : Out → Prop} (h : r_h6_11010b l v12 a74 Q) : Head E0 A6 6 [0, 1, 0, 1, 1] (st6_11010b l v12 a74) Q := head_of (show codeR E0 6 [0, 1, 0, 1, 1] = .loop (codeR E0 6 (0 :: [0, 1, 0, 1, 1])) by kernel_rfl) (e_h6_11010b l v12 a74 Q) h
abbrev r_h6_1101001100111010c (l : List (List V)) (v12 : Int) (a74 : List (List V)) (bClauses : List (List V)) (v52 : Int) (b6_0 : Int) (b6_1 : Int) (b6_2 : List UInt8) (b6_3 : List UInt8) (b6_4 : List (List V)) (b6_5 : List (List V)) (b6_6 : List (List V)) (b6_7 : List UInt8) (b6_8 : List (List V)) (b6_9 : List (List V)) (b6_10 : Bool) (Q : Out → Prop) : Prop := br (decide (v52 < (↑(List.length bClauses) : Int))) (∃ b : R50, (Int.ofNat 0 ≤ v52) ∧ (bClauses[Int.toNat v52]? = some [V.int IntKind.i64 b.Kind, V.ro b.Pattern, V.ro b.Body]) ∧ ∃ b1 : List (List V), (Runs E0 13 [V.ro b.Pattern] ({ res := V.ro b1, outs := [V.any], dy := [] })) ∧ ∃ b2 : List (List V), (Runs E0 6 [V.ro b.Body] ({ res := V.ro b2, outs := [V.any], dy := [] })) ∧ (List.length [[V.int IntKind.i64 b.Kind, V.ro b1, V.ro b2]] ≤ 16777216) ∧ (wide 3 [[V.int IntKind.i64 b.Kind, V.ro b1, V.ro b2]] = true) ∧ ((List.all [[V.int IntKind.i64 b.Kind, V.ro b1, V.ro b2]] fun x => List.all x V.one) = true) ∧ (List.length [[V.int IntKind.i64 b.Kind, V.ro b1, V.ro b2]] = List.length [[V.int IntKind.i64 b.Kind, V.ro b1, V.ro b2]]) ∧ (List.length [[V.int IntKind.i64 b.Kind, V.ro b1, V.ro b2]] = List.length [[V.int IntKind.i64 b.Kind, V.ro b1, V.ro b2]]) ∧ Head E0 A6 6 ([0, 1, 0, 1, 1, 1, 0, 0, 1, 1, 0, 0, 1, 0, 1, 1]) (st6_1101001100111010d l v12 a74 bClauses (IntKind.wrap IntKind.i64 (v52 + Int.ofNat 1)) b6_0 b6_1 b6_2 b6_3   b6_4 b6_5 b6_6 b6_7 b6_8 b6_9 b6_10 [[V.int IntKind.i64 b.Kind, V.ro b1, V.ro b2]]) Q) (((if List.isEmpty a74 = true then false else wide 12 a74) = true) ∧ (List.length a74 + List.length [[V.int IntKind.i64 b6_0, V.int IntKind.i64 b6_1, V.str b6_2, V.str b6_3, V.ro b6_4, V.ro b6_5, V.ro b6_6, V.str b6_7, V.ro b6_8, V.ro b6_9, V.bool b6_10, V.ro []]] ≤ 16777216) ∧ (wide 12 [[V.int IntKind.i64 b6_0, V.int IntKind.i64 b6_1, V.str b6_2, V.str b6_3, V.ro b6_4, V.ro b6_5, V.ro b6_6, V.str b6_7, V.ro b6_8, V.ro b6_9, V.bool b6_10, V.ro []]] = true) ∧ ((List.all [[V.int IntKind.i64 b6_0, V.int IntKind.i64 b6_1, V.str b6_2, V.str b6_3, V.ro b6_4, V.ro b6_5, V.ro b6_6, V.str b6_7, V.ro b6_8, V.ro b6_9, V.bool b6_10, V.ro []]] fun x => List.all x V.one) = true) ∧ (List.length [[V.int IntKind.i64 b6_0, V.int IntKind.i64 b6_1, V.str b6_2, V.str b6_3, V.ro b6_4, V.ro b6_5, V.ro b6_6, V.str b6_7, V.ro b6_8, V.ro b6_9, V.bool b6_10, V.ro []]] = List.length [[V.int IntKind.i64 b6_0, V.int IntKind.i64 b6_1, V.str b6_2, V.str b6_3, V.ro b6_4, V.ro b6_5, V.ro b6_6, V.str b6_7, V.ro b6_8, V.ro b6_9, V.bool b6_10, V.ro []]]) ∧ (List.length a74 = List.length a74) ∧ Head E0 A6 6 ([0, 1, 0, 1, 1]) (st6_11010b l (IntKind.wrap IntKind.i64 (v12 + Int.ofNat 1))   (a74 ++     [[V.int IntKind.i64 b6_0, V.int IntKind.i64 b6_1, V.str b6_2, V.str b6_3, V.ro b6_4, V.ro b6_5, V.ro b6_6,         V.str b6_7, V.ro b6_8, V.ro b6_9, V.bool b6_10, V.ro []]])) Q)
theorem e_h6_1101001100111010c (l : List (List V)) (v12 : Int) (a74 : List (List V)) (bClauses : List (List V)) (v52 : Int) (b6_0 : Int) (b6_1 : Int) (b6_2 : List UInt8) (b6_3 : List UInt8) (b6_4 : List (List V)) (b6_5 : List (List V)) (b6_6 : List (List V)) (b6_7 : List UInt8) (b6_8 : List (List V)) (b6_9 : List (List V)) (b6_10 : Bool) (Q : Out → Prop) : wpH E0 A6 1000 6 [0, 1, 0, 1, 1, 1, 0, 0, 1, 1, 0, 0, 1, 0, 1, 1] (st6_1101001100111010c l v12 a74 bClauses v52 b6_0 b6_1 b6_2 b6_3 b6_4 b6_5 b6_6 b6_7 b6_8 b6_9 b6_10) Q (fun p s => Head E0 A6 6 p s Q) (fun p l s => LabAt E0 A6 6 p l s Q) = r_h6_1101001100111010c l v12 a74 bClauses v52 b6_0 b6_1 b6_2 b6_3 b6_4 b6_5 b6_6 b6_7 b6_8 b6_9 b6_10 Q := by kernel_rfl
theorem h6_1101001100111010c (l : List (List V)) (v12 : Int) (a74 : List (List V)) (bClauses : List (List V)) (v52 : Int) (b6_0 : Int) (b6_1 : Int) (b6_2 : List UInt8) (b6_3 : List UInt8) (b6_4 : List (List V)) (b6_5 : List (List V)) (b6_6 : List (List V)) (b6_7 : List UInt8) (b6_8 : List (List V)) (b6_9 : List (List V)) (b6_10 : Bool) {Q : Out → Prop} (h : r_h6_1101001100111010c l v12 a74 bClauses v52 b6_0 b6_1 b6_2 b6_3 b6_4 b6_5 b6_6 b6_7 b6_8 b6_9 b6_10 Q) : Head E0 A6 6 [0, 1, 0, 1, 1, 1, 0, 0, 1, 1, 0, 0, 1, 0, 1, 1] (st6_1101001100111010c l v12 a74 bClauses v52 b6_0 b6_1 b6_2 b6_3 b6_4 b6_5 b6_6 b6_7 b6_8 b6_9 b6_10) Q := head_of (show codeR E0 6 [0, 1, 0, 1, 1, 1, 0, 0, 1, 1, 0, 0, 1, 0, 1, 1] = .loop (codeR E0 6 (0 :: [0, 1, 0, 1, 1, 1, 0, 0, 1, 1, 0, 0, 1, 0, 1, 1])) by kernel_rfl) (e_h6_1101001100111010c l v12 a74 bClauses v52 b6_0 b6_1 b6_2 b6_3 b6_4 b6_5 b6_6 b6_7 b6_8 b6_9 b6_10 Q) h
abbrev r_h6_1101001100111010d (l : List (List V)) (v12 : Int) (a74 : List (List V)) (bClauses : List (List V)) (v52 : Int) (b6_0 : Int) (b6_1 : Int) (b6_2 : List UInt8) (b6_3 : List UInt8) (b6_4 : List (List V)) (b6_5 : List (List V)) (b6_6 : List (List V)) (b6_7 : List UInt8) (b6_8 : List (List V)) (b6_9 : List (List V)) (b6_10 : Bool) (b6_11 : List (List V)) (Q : Out → Prop) : Prop := br (decide (v52 < (↑(List.length bClauses) : Int))) (∃ b : R50, (Int.ofNat 0 ≤ v52) ∧ (bClauses[Int.toNat v52]? = some [V.int IntKind.i64 b.Kind, V.ro b.Pattern, V.ro b.Body]) ∧ ∃ b1 : List (List V), (Runs E0 13 [V.ro b.Pattern] ({ res := V.ro b1, outs := [V.any], dy := [] })) ∧ ∃ b2 : List (List V), (Runs E0 6 [V.ro b.Body] ({ res := V.ro b2, outs := [V.any], dy := [] })) ∧ ((if List.isEmpty b6_11 = true then false else wide 3 b6_11) = true) ∧ (List.length b6_11 + List.length [[V.int IntKind.i64 b.Kind, V.ro b1, V.ro b2]] ≤ 16777216) ∧ (wide 3 [[V.int IntKind.i64 b.Kind, V.ro b1, V.ro b2]] = true) ∧ ((List.all [[V.int IntKind.i64 b.Kind, V.ro b1, V.ro b2]] fun x => List.all x V.one) = true) ∧ (List.length [[V.int IntKind.i64 b.Kind, V.ro b1, V.ro b2]] = List.length [[V.int IntKind.i64 b.Kind, V.ro b1, V.ro b2]]) ∧ (List.length b6_11 = List.length b6_11) ∧ (List.length (b6_11 ++ [[V.int IntKind.i64 b.Kind, V.ro b1, V.ro b2]]) = List.length (b6_11 ++ [[V.int IntKind.i64 b.Kind, V.ro b1, V.ro b2]])) ∧ Head E0 A6 6 ([0, 1, 0, 1, 1, 1, 0, 0, 1, 1, 0, 0, 1, 0, 1, 1]) (st6_1101001100111010d l v12 a74 bClauses (IntKind.wrap IntKind.i64 (v52 + Int.ofNat 1)) b6_0 b6_1 b6_2 b6_3   b6_4 b6_5 b6_6 b6_7 b6_8 b6_9 b6_10 (b6_11 ++ [[V.int IntKind.i64 b.Kind, V.ro b1, V.ro b2]])) Q) ((List.length b6_11 = List.length b6_11) ∧ ((List.any b6_11 fun x => List.any x fun x => V.owner x) = false) ∧ ((if List.isEmpty a74 = true then false else wide 12 a74) = true) ∧ (List.length a74 + List.length [[V.int IntKind.i64 b6_0, V.int IntKind.i64 b6_1, V.str b6_2, V.str b6_3, V.ro b6_4, V.ro b6_5, V.ro b6_6, V.str b6_7, V.ro b6_8, V.ro b6_9, V.bool b6_10, V.ro b6_11]] ≤ 16777216) ∧ (wide 12 [[V.int IntKind.i64 b6_0, V.int IntKind.i64 b6_1, V.str b6_2, V.str b6_3, V.ro b6_4, V.ro b6_5, V.ro b6_6, V.str b6_7, V.ro b6_8, V.ro b6_9, V.bool b6_10, V.ro b6_11]] = true) ∧ ((List.all [[V.int IntKind.i64 b6_0, V.int IntKind.i64 b6_1, V.str b6_2, V.str b6_3, V.ro b6_4, V.ro b6_5, V.ro b6_6, V.str b6_7, V.ro b6_8, V.ro b6_9, V.bool b6_10, V.ro b6_11]] fun x => List.all x V.one) = true) ∧ (List.length [[V.int IntKind.i64 b6_0, V.int IntKind.i64 b6_1, V.str b6_2, V.str b6_3, V.ro b6_4, V.ro b6_5, V.ro b6_6, V.str b6_7, V.ro b6_8, V.ro b6_9, V.bool b6_10, V.ro b6_11]] = List.length [[V.int IntKind.i64 b6_0, V.int IntKind.i64 b6_1, V.str b6_2, V.str b6_3, V.ro b6_4, V.ro b6_5, V.ro b6_6, V.str b6_7, V.ro b6_8, V.ro b6_9, V.bool b6_10, V.ro b6_11]]) ∧ (List.length a74 = List.length a74) ∧ Head E0 A6 6 ([0, 1, 0, 1, 1]) (st6_11010b l (IntKind.wrap IntKind.i64 (v12 + Int.ofNat 1))   (a74 ++     [[V.int IntKind.i64 b6_0, V.int IntKind.i64 b6_1, V.str b6_2, V.str b6_3, V.ro b6_4, V.ro b6_5, V.ro b6_6,         V.str b6_7, V.ro b6_8, V.ro b6_9, V.bool b6_10, V.ro b6_11]])) Q)
theorem e_h6_1101001100111010d (l : List (List V)) (v12 : Int) (a74 : List (List V)) (bClauses : List (List V)) (v52 : Int) (b6_0 : Int) (b6_1 : Int) (b6_2 : List UInt8) (b6_3 : List UInt8) (b6_4 : List (List V)) (b6_5 : List (List V)) (b6_6 : List (List V)) (b6_7 : List UInt8) (b6_8 : List (List V)) (b6_9 : List (List V)) (b6_10 : Bool) (b6_11 : List (List V)) (Q : Out → Prop) : wpH E0 A6 1000 6 [0, 1, 0, 1, 1, 1, 0, 0, 1, 1, 0, 0, 1, 0, 1, 1] (st6_1101001100111010d l v12 a74 bClauses v52 b6_0 b6_1 b6_2 b6_3 b6_4 b6_5 b6_6 b6_7 b6_8 b6_9 b6_10 b6_11) Q (fun p s => Head E0 A6 6 p s Q) (fun p l s => LabAt E0 A6 6 p l s Q) = r_h6_1101001100111010d l v12 a74 bClauses v52 b6_0 b6_1 b6_2 b6_3 b6_4 b6_5 b6_6 b6_7 b6_8 b6_9 b6_10 b6_11 Q := by kernel_rfl
theorem h6_1101001100111010d (l : List (List V)) (v12 : Int) (a74 : List (List V)) (bClauses : List (List V)) (v52 : Int) (b6_0 : Int) (b6_1 : Int) (b6_2 : List UInt8) (b6_3 : List UInt8) (b6_4 : List (List V)) (b6_5 : List (List V)) (b6_6 : List (List V)) (b6_7 : List UInt8) (b6_8 : List (List V)) (b6_9 : List (List V)) (b6_10 : Bool) (b6_11 : List (List V)) {Q : Out → Prop} (h : r_h6_1101001100111010d l v12 a74 bClauses v52 b6_0 b6_1 b6_2 b6_3 b6_4 b6_5 b6_6 b6_7 b6_8 b6_9 b6_10 b6_11 Q) : Head E0 A6 6 [0, 1, 0, 1, 1, 1, 0, 0, 1, 1, 0, 0, 1, 0, 1, 1] (st6_1101001100111010d l v12 a74 bClauses v52 b6_0 b6_1 b6_2 b6_3 b6_4 b6_5 b6_6 b6_7 b6_8 b6_9 b6_10 b6_11) Q := head_of (show codeR E0 6 [0, 1, 0, 1, 1, 1, 0, 0, 1, 1, 0, 0, 1, 0, 1, 1] = .loop (codeR E0 6 (0 :: [0, 1, 0, 1, 1, 1, 0, 0, 1, 1, 0, 0, 1, 0, 1, 1])) by kernel_rfl) (e_h6_1101001100111010d l v12 a74 bClauses v52 b6_0 b6_1 b6_2 b6_3 b6_4 b6_5 b6_6 b6_7 b6_8 b6_9 b6_10 b6_11 Q) h
end Go.Bv
/- Statements as the document has them: the same ones. -/
open Go Go.Bv Go.Proofs
namespace Go.Bv.P31

def Id13 (l : Rows) : Prop := Runs E0 13 [.ro l] ⟨.ro l, [.any], []⟩
def Id6 (l : Rows) : Prop := Runs E0 6 [.ro l] ⟨.ro l, [.any], []⟩

theorem take_ne {l : Rows} {i : Nat} (h0 : 0 < i) (hi : i ≤ l.length) : (l.take i).isEmpty = false := by
  cases hh : l.take i with
  | nil => have := congrArg List.length hh; rw [List.length_take, List.length_nil] at this; omega
  | cons _ _ => rfl

theorem wide_take {l : Rows} {i z : Nat} (h0 : 0 < i) (hi : i ≤ l.length) (h : ∀ x, x ∈ l → x.length = z) : (if (l.take i).isEmpty = true then false else wide z (l.take i)) = true := by
  rw [take_ne h0 hi]
  exact wide_of fun x hx => h x (List.mem_of_mem_take hx)

theorem take_snoc {l : Rows} {i : Nat} {x : List V} (h : l[i]? = some x) : l.take (i + 1) = l.take i ++ [x] := by
  rw [List.take_add_one, h]; rfl

theorem id6a {l : Rows} (hl : l.length ≤ 60) (gl : ∀ x, x ∈ l → ∃ r : R40, x = r.row ∧ Id13 r.Value ∧ Id6 r.Body ∧ Id6 r.Else ∧ Id13 r.Question_Left ∧ Id13 r.Question_Right ∧ r.Clauses.length ≤ 60 ∧ ∀ c, c ∈ r.Clauses → ∃ q : R50, c = q.row ∧ Id13 q.Pattern ∧ Id6 q.Body) : Id6 l := by
  let Q : Out → Prop := fun o => o = ⟨.ro l, [.any], []⟩
  have l12 : ∀ x, x ∈ l → x.length = 12 := fun x hx => by
    obtain ⟨r, rfl, _⟩ := gl x hx
    rfl
  have own12 : (l.any fun x => x.any fun x => V.owner x) = false := by
    rw [List.any_eq_false]
    intro x hx
    obtain ⟨r, rfl, _⟩ := gl x hx
    simp [R40.row, V.owner]
  have lM : l.length ≤ cap20 := by simp [cap20]; omega
  have inB : ∀ (i : Nat) (r : R40), i < l.length → l[i]? = some r.row → 0 < i → r.Clauses.length ≤ 60 → (∀ c, c ∈ r.Clauses → ∃ q : R50, c = q.row ∧ Id13 q.Pattern ∧ Id6 q.Body) →
      Head E0 A6 6 [0, 1, 0, 1, 1] (st6_11010b l ((i + 1 : Nat) : Int) (l.take (i + 1))) Q →
      Head E0 A6 6 [0, 1, 0, 1, 1, 1, 0, 0, 1, 1, 0, 0, 1, 0, 1, 1] (st6_1101001100111010c l i (l.take i) r.Clauses (Int.ofNat 0) r.Kind r.N r.Name r.Verb r.Value r.Question_Left r.Question_Right r.Question_Sign r.Body r.Else r.Elsed) Q := by
    intro i r hi h1 h0 hc gc hn
    have c3 : ∀ x, x ∈ r.Clauses → x.length = 3 := fun x hx => by
      obtain ⟨q, rfl, _⟩ := gc x hx
      rfl
    have cown : (r.Clauses.any fun x => x.any fun x => V.owner x) = false := by
      rw [List.any_eq_false]
      intro x hx
      obtain ⟨q, rfl, _⟩ := gc x hx
      simp [R50.row, V.owner]
    have cM : r.Clauses.length ≤ cap20 := by simp [cap20]; omega
    rw [take_snoc h1] at hn
    have loop : ∀ k j : Nat, r.Clauses.length - j = k → 0 < j → j ≤ r.Clauses.length →
        Head E0 A6 6 [0, 1, 0, 1, 1, 1, 0, 0, 1, 1, 0, 0, 1, 0, 1, 1] (st6_1101001100111010d l i (l.take i) r.Clauses j r.Kind r.N r.Name r.Verb r.Value r.Question_Left r.Question_Right r.Question_Sign r.Body r.Else r.Elsed (r.Clauses.take j)) Q := by
      intro k
      induction k with
      | zero =>
        intro j hk hj0 hj
        obtain rfl : j = r.Clauses.length := by omega
        refine h6_1101001100111010d l _ _ _ _ _ _ _ _ _ _ _ _ _ _ _ _ (br_iff.2 ⟨fun h => by simp at h, fun _ => ?_⟩)
        rw [List.take_length, wrap_succ hi lM]
        exact ⟨rfl, cown, wide_take h0 (by omega) l12, by simp; omega, rfl, rfl, rfl, rfl, hn⟩
      | succ k ihj =>
        intro j hk hj0 hj
        have h2 : r.Clauses[j]? = some (r.Clauses[j]'(by omega)) := List.getElem?_eq_getElem (by omega)
        obtain ⟨q, eq, hp, hq⟩ := gc _ (List.mem_of_getElem? h2)
        refine h6_1101001100111010d l _ _ _ _ _ _ _ _ _ _ _ _ _ _ _ _ (br_iff.2 ⟨fun _ => ⟨q, by simp, by rw [Int.toNat_natCast, h2, eq]; rfl, _, hp, _, hq, wide_take hj0 (by omega) c3, by simp; omega, rfl, rfl, rfl, rfl, rfl, ?_⟩, fun h => by simp at h; omega⟩)
        rw [wrap_succ (by omega : j < r.Clauses.length) cM]
        have := ihj (j + 1) (by omega) (by omega) (by omega)
        rw [take_snoc h2, eq] at this
        exact this
    by_cases h00 : r.Clauses.length = 0
    · have e0 := List.eq_nil_of_length_eq_zero h00
      refine h6_1101001100111010c l _ _ _ _ _ _ _ _ _ _ _ _ _ _ _ (br_iff.2 ⟨fun h => by rw [e0] at h; simp at h, fun _ => ?_⟩)
      rw [wrap_succ hi lM]
      have er : r.row = [V.int IntKind.i64 r.Kind, V.int IntKind.i64 r.N, V.str r.Name, V.str r.Verb, V.ro r.Value, V.ro r.Question_Left, V.ro r.Question_Right, V.str r.Question_Sign, V.ro r.Body, V.ro r.Else, V.bool r.Elsed, V.ro []] := by
        rw [← e0]; rfl
      rw [er] at hn
      exact ⟨wide_take h0 (by omega) l12, by simp; omega, rfl, rfl, rfl, rfl, hn⟩
    · have h2 : r.Clauses[0]? = some (r.Clauses[0]'(by omega)) := List.getElem?_eq_getElem (by omega)
      obtain ⟨q, eq, hp, hq⟩ := gc _ (List.mem_of_getElem? h2)
      refine h6_1101001100111010c l _ _ _ _ _ _ _ _ _ _ _ _ _ _ _ (br_iff.2 ⟨fun _ => ⟨q, by simp, by rw [show Int.toNat (Int.ofNat 0) = 0 from rfl, h2, eq]; rfl, _, hp, _, hq, by simp, rfl, rfl, rfl, rfl, ?_⟩, fun h => ?_⟩)
      · have := loop _ 1 rfl (by omega) (by omega)
        rw [take_snoc h2, eq] at this
        rw [show Int.ofNat 0 = ((0 : Nat) : Int) from rfl, wrap_succ (by omega : 0 < r.Clauses.length) cM]
        exact this
      · exfalso
        simp only [decide_eq_false_iff_not] at h
        exact h (by show (0 : Int) < _; omega)
  have inA : ∀ (i : Nat) (r : R40), i < l.length → l[i]? = some r.row → i = 0 → r.Clauses.length ≤ 60 → (∀ c, c ∈ r.Clauses → ∃ q : R50, c = q.row ∧ Id13 q.Pattern ∧ Id6 q.Body) →
      Head E0 A6 6 [0, 1, 0, 1, 1] (st6_11010b l ((i + 1 : Nat) : Int) (l.take (i + 1))) Q →
      Head E0 A6 6 [0, 1, 0, 1, 1, 1, 0, 0, 1, 1, 0, 0, 1, 0, 1, 1] (st6_1101001100111010 l i r.Clauses (Int.ofNat 0) r.Kind r.N r.Name r.Verb r.Value r.Question_Left r.Question_Right r.Question_Sign r.Body r.Else r.Elsed) Q := by
    intro i r hi h1 h0 hc gc hn
    have c3 : ∀ x, x ∈ r.Clauses → x.length = 3 := fun x hx => by
      obtain ⟨q, rfl, _⟩ := gc x hx
      rfl
    have cown : (r.Clauses.any fun x => x.any fun x => V.owner x) = false := by
      rw [List.any_eq_false]
      intro x hx
      obtain ⟨q, rfl, _⟩ := gc x hx
      simp [R50.row, V.owner]
    have cM : r.Clauses.length ≤ cap20 := by simp [cap20]; omega
    have e0i : l.take i = [] := by rw [h0]; rfl
    rw [take_snoc h1, e0i] at hn
    have loop : ∀ k j : Nat, r.Clauses.length - j = k → 0 < j → j ≤ r.Clauses.length →
        Head E0 A6 6 [0, 1, 0, 1, 1, 1, 0, 0, 1, 1, 0, 0, 1, 0, 1, 1] (st6_1101001100111010b l i r.Clauses j r.Kind r.N r.Name r.Verb r.Value r.Question_Left r.Question_Right r.Question_Sign r.Body r.Else r.Elsed (r.Clauses.take j)) Q := by
      intro k
      induction k with
      | zero =>
        intro j hk hj0 hj
        obtain rfl : j = r.Clauses.length := by omega
        refine h6_1101001100111010b l _ _ _ _ _ _ _ _ _ _ _ _ _ _ _ (br_iff.2 ⟨fun h => by simp at h, fun _ => ?_⟩)
        rw [List.take_length, wrap_succ hi lM]
        exact ⟨rfl, cown, rfl, by simp, rfl, rfl, rfl, rfl, hn⟩
      | succ k ihj =>
        intro j hk hj0 hj
        have h2 : r.Clauses[j]? = some (r.Clauses[j]'(by omega)) := List.getElem?_eq_getElem (by omega)
        obtain ⟨q, eq, hp, hq⟩ := gc _ (List.mem_of_getElem? h2)
        refine h6_1101001100111010b l _ _ _ _ _ _ _ _ _ _ _ _ _ _ _ (br_iff.2 ⟨fun _ => ⟨q, by simp, by rw [Int.toNat_natCast, h2, eq]; rfl, _, hp, _, hq, wide_take hj0 (by omega) c3, by simp; omega, rfl, rfl, rfl, rfl, rfl, ?_⟩, fun h => by simp at h; omega⟩)
        rw [wrap_succ (by omega : j < r.Clauses.length) cM]
        have := ihj (j + 1) (by omega) (by omega) (by omega)
        rw [take_snoc h2, eq] at this
        exact this
    by_cases h00 : r.Clauses.length = 0
    · have e0 := List.eq_nil_of_length_eq_zero h00
      refine h6_1101001100111010 l _ _ _ _ _ _ _ _ _ _ _ _ _ _ (br_iff.2 ⟨fun h => by rw [e0] at h; simp at h, fun _ => ?_⟩)
      rw [wrap_succ hi lM]
      have er : r.row = [V.int IntKind.i64 r.Kind, V.int IntKind.i64 r.N, V.str r.Name, V.str r.Verb, V.ro r.Value, V.ro r.Question_Left, V.ro r.Question_Right, V.str r.Question_Sign, V.ro r.Body, V.ro r.Else, V.bool r.Elsed, V.ro []] := by
        rw [← e0]; rfl
      rw [er] at hn
      exact ⟨rfl, by simp, rfl, rfl, rfl, rfl, hn⟩
    · have h2 : r.Clauses[0]? = some (r.Clauses[0]'(by omega)) := List.getElem?_eq_getElem (by omega)
      obtain ⟨q, eq, hp, hq⟩ := gc _ (List.mem_of_getElem? h2)
      refine h6_1101001100111010 l _ _ _ _ _ _ _ _ _ _ _ _ _ _ (br_iff.2 ⟨fun _ => ⟨q, by simp, by rw [show Int.toNat (Int.ofNat 0) = 0 from rfl, h2, eq]; rfl, _, hp, _, hq, by simp, rfl, rfl, rfl, rfl, ?_⟩, fun h => ?_⟩)
      · have := loop _ 1 rfl (by omega) (by omega)
        rw [take_snoc h2, eq] at this
        rw [show Int.ofNat 0 = ((0 : Nat) : Int) from rfl, wrap_succ (by omega : 0 < r.Clauses.length) cM]
        exact this
      · exfalso
        simp only [decide_eq_false_iff_not] at h
        exact h (by show (0 : Int) < _; omega)
  have outer : ∀ k i : Nat, l.length - i = k → 0 < i → i ≤ l.length → Head E0 A6 6 [0, 1, 0, 1, 1] (st6_11010b l i (l.take i)) Q := by
    intro k
    induction k with
    | zero =>
      intro i hk h0 hi
      obtain rfl : i = l.length := by omega
      refine h6_11010b l _ _ (br_iff.2 ⟨fun h => by simp at h, fun _ => ?_⟩)
      rw [List.take_length]
      exact ⟨rfl, own12, rfl⟩
    | succ k ih =>
      intro i hk h0 hi
      have h1 : l[i]? = some (l[i]'(by omega)) := List.getElem?_eq_getElem (by omega)
      obtain ⟨r, er, a1, a2, a3, a4, a5, a6, a7⟩ := gl _ (List.mem_of_getElem? h1)
      rw [er] at h1
      exact h6_11010b l _ _ (br_iff.2 ⟨fun _ => ⟨r, by simp, by rw [Int.toNat_natCast, h1]; rfl, _, a1, _, a2, _, a3, _, a4, _, a5, inB i r (by omega) h1 h0 a6 a7 (ih (i + 1) (by omega) (by omega) (by omega))⟩, fun h => by simp at h; omega⟩)
  have first : Head E0 A6 6 [0, 1, 0, 1, 1] (st6_11010 l (Int.ofNat 0)) Q := by
    by_cases h00 : l.length = 0
    · obtain rfl := List.eq_nil_of_length_eq_zero h00
      exact h6_11010 [] _ (br_iff.2 ⟨fun h => by simp at h, fun _ => ⟨rfl, rfl, rfl⟩⟩)
    · have h1 : l[0]? = some (l[0]'(by omega)) := List.getElem?_eq_getElem (by omega)
      obtain ⟨r, er, a1, a2, a3, a4, a5, a6, a7⟩ := gl _ (List.mem_of_getElem? h1)
      rw [er] at h1
      refine h6_11010 l _ (br_iff.2 ⟨fun _ => ⟨r, by simp, by rw [show Int.toNat (Int.ofNat 0) = 0 from rfl, h1]; rfl, _, a1, _, a2, _, a3, _, a4, _, a5, inA 0 r (by omega) h1 rfl a6 a7 (outer _ 1 rfl (by omega) (by omega))⟩, fun h => ?_⟩)
      exfalso
      simp only [decide_eq_false_iff_not] at h
      exact h (by show (0 : Int) < _; omega)
  obtain ⟨o, ho, hq⟩ := f6 l (Q := Q) first
  have hq : o = _ := hq
  subst hq
  exact ho

theorem id6 : ∀ {n m : Nat} {l : Rows}, GSs n l → Sm m l → Id6 l
  | 0, _, _, h, _ => h.elim
  | _ + 1, 0, _, _, h => h.elim
  | n + 1, m + 1, l, ⟨_, gl⟩, ⟨ll, sl⟩ => id6a ll fun x hx => by
      obtain ⟨r, rfl, v, l1, r1, b, el, c1, c2⟩ := gl x hx
      obtain ⟨r', e, s1, s2, s3, s4, s5, s6, s7⟩ := sl _ hx
      obtain ⟨_, _, _, _, e1, e2, e3, _, e4, e5, _, e6⟩ := row40.1 e
      rw [← e1] at s1; rw [← e2] at s2; rw [← e3] at s3; rw [← e6] at s4 s7; rw [← e4] at s5; rw [← e5] at s6
      refine ⟨r, rfl, id13 v s1, id6 b s5, id6 el s6, id13 l1 s2, id13 r1 s3, s4, fun c hc => ?_⟩
      obtain ⟨q, rfl, p, b⟩ := c2 c hc
      obtain ⟨q', e, t1, t2⟩ := s7 _ hc
      obtain ⟨_, e7, e8⟩ := row50.1 e
      rw [← e7] at t1; rw [← e8] at t2
      exact ⟨q, rfl, id13 p t1, id6 b t2⟩
end Go.Bv.P31
/- The chapter's example: it is so. -/
open Go Go.Bv Go.Proofs
namespace Go.Bv.P31
set_option maxRecDepth 100000
theorem alive_run : run E0 2000 4 [] = some ⟨.bool true, [], []⟩ := by kernel_rfl
theorem alive : Runs E0 4 [] ⟨.bool true, [], []⟩ := Runs.of_run alive_run
end Go.Bv.P31
/- What ParseSame's arguments are as rows. -/
open Go Go.Bv Go.Proofs
namespace Go.Bv.P31

theorem is3 {n : Nat} {a : List V} (h : Is Tryd.prog n 3 a) : ∃ i, a = [.int .i64 i] := by
  cases n with
  | zero => exact h.elim
  | succ n => simp only [Is, Tryd.underlying3] at h; obtain ⟨i, e, _⟩ := h; exact ⟨i, e⟩
theorem is4 {n : Nat} {a : List V} (h : Is Tryd.prog n 4 a) : ∃ i, a = [.bool i] := by
  cases n with
  | zero => exact h.elim
  | succ n => simp only [Is, Tryd.underlying4] at h; exact h
theorem is9 {n : Nat} {a : List V} (h : Is Tryd.prog n 9 a) : ∃ i, a = [.str i] := by
  cases n with
  | zero => exact h.elim
  | succ n => simp only [Is, Tryd.underlying9] at h; obtain ⟨i, e, _⟩ := h; exact ⟨i, e⟩
theorem is61 {n : Nat} {a : List V} (h : Is Tryd.prog n 61 a) : ∃ r : R61, a = r.row := by
  cases n with
  | zero => exact h.elim
  | succ n =>
    simp only [Is, Tryd.underlying61] at h
    obtain ⟨a1, b1, rfl, _, i1, a2, b2, rfl, _, i2, e⟩ := h
    obtain ⟨x1, rfl⟩ := is9 i1
    obtain ⟨x2, rfl⟩ := is9 i2
    cases e
    exact ⟨⟨x1, x2⟩, rfl⟩
theorem is35 {n : Nat} {a : List V} (h : Is Tryd.prog n 35 a) : ∃ es, a = [.ro es] ∧ GP es := by
  cases n with
  | zero => exact h.elim
  | succ n =>
    simp only [Is, Tryd.underlying35] at h
    obtain ⟨es, rfl, h1, h2⟩ := h
    exact ⟨es, rfl, by simp only [reachBytes] at h1; simp only [cap20]; omega, fun x hx => is61 (h2 x hx)⟩
theorem is37 {n : Nat} {a : List V} (h : Is Tryd.prog n 37 a) : ∃ l r s, a = [.ro l, .ro r, .str s] ∧ GP l ∧ GP r := by
  cases n with
  | zero => exact h.elim
  | succ n =>
    simp only [Is, Tryd.underlying37] at h
    obtain ⟨a1, b1, rfl, _, i1, a2, b2, rfl, _, i2, a3, b3, rfl, _, i3, e⟩ := h
    obtain ⟨x1, rfl, g1⟩ := is35 i1
    obtain ⟨x2, rfl, g2⟩ := is35 i2
    obtain ⟨x3, rfl⟩ := is9 i3
    cases e
    exact ⟨x1, x2, x3, rfl, g1, g2⟩

/-- Fuel that is too great does no harm. -/
theorem GSs.mono : ∀ {n m : Nat} {l : Rows}, n ≤ m → GSs n l → GSs m l
  | 0, _, _, _, h => h.elim
  | n + 1, 0, _, h, _ => by omega
  | n + 1, m + 1, l, h, ⟨h1, h2⟩ => ⟨h1, fun x hx => by
      obtain ⟨r, e, v, l1, r1, b, el, c1, c2⟩ := h2 x hx
      refine ⟨r, e, v, l1, r1, GSs.mono (by omega) b, GSs.mono (by omega) el, c1, fun c hc => ?_⟩
      obtain ⟨q, e, p, b⟩ := c2 c hc
      exact ⟨q, e, p, GSs.mono (by omega) b⟩⟩

theorem is22 : ∀ {n : Nat} {a : List V}, Is Tryd.prog n 22 a → ∃ es, a = [.ro es] ∧ GSs n es := by
  intro n
  induction n using Nat.strongRecOn with
  | _ n ih =>
    intro a h
    cases n with
    | zero => exact h.elim
    | succ n =>
      simp only [Is, Tryd.underlying22] at h
      obtain ⟨es, rfl, h1, h2⟩ := h
      refine ⟨es, rfl, by simp only [reachBytes] at h1; simp only [cap20]; omega, fun x hx => ?_⟩
      have h3 := h2 x hx
      cases n with
      | zero => exact h3.elim
      | succ n =>
        simp only [Is, Tryd.underlying40] at h3
        obtain ⟨a1, b1, rfl, _, i1, a2, b2, rfl, _, i2, a3, b3, rfl, _, i3, a4, b4, rfl, _, i4, a5, b5, rfl, _, i5, a6, b6, rfl, _, i6, a7, b7, rfl, _, i7, a8, b8, rfl, _, i8, a9, b9, rfl, _, i9, a10, b10, rfl, _, i10, e⟩ := h3
        obtain ⟨x1, rfl⟩ := is3 i1
        obtain ⟨x2, rfl⟩ := is3 i2
        obtain ⟨x3, rfl⟩ := is9 i3
        obtain ⟨x4, rfl⟩ := is9 i4
        obtain ⟨x5, rfl, g5⟩ := is35 i5
        obtain ⟨xl, xr, xs, rfl, gl, gr⟩ := is37 i6
        obtain ⟨x7, rfl, g7⟩ := ih n (by omega) i7
        obtain ⟨x8, rfl, g8⟩ := ih n (by omega) i8
        obtain ⟨x9, rfl⟩ := is4 i9
        cases e
        cases n with
        | zero => exact i10.elim
        | succ n =>
          simp only [Is, Tryd.underlying38] at i10
          obtain ⟨cs, rfl, c1, c2⟩ := i10
          refine ⟨⟨x1, x2, x3, x4, x5, xl, xr, xs, x7, x8, x9, cs⟩, rfl, g5, gl, gr, GSs.mono (by omega) g7, GSs.mono (by omega) g8, by simp only [reachBytes] at c1; simp only [cap20]; omega, fun c hc => ?_⟩
          have h5 := c2 c hc
          cases n with
          | zero => exact h5.elim
          | succ n =>
            simp only [Is, Tryd.underlying50] at h5
            obtain ⟨a1, b1, rfl, _, i1, a2, b2, rfl, _, i2, a3, b3, rfl, _, i3, e⟩ := h5
            obtain ⟨y1, rfl⟩ := is3 i1
            obtain ⟨y2, rfl, h2⟩ := is35 i2
            obtain ⟨y3, rfl, h3⟩ := ih n (by omega) i3
            cases e
            exact ⟨⟨y1, y2, y3⟩, rfl, h2, GSs.mono (by omega) h3⟩
end Go.Bv.P31
/- ParseSame answers true. -/
open Go Go.Bv Go.Proofs
namespace Go.Bv.P31
theorem same3 {n m : Nat} {a b : Rows} (ha : GSs n a) (hb : GSs m b) : Runs E0 3 [.ro a, .ro b] ⟨.bool true, [.any, .any], []⟩ := by
  obtain ⟨g1, h1, s1⟩ := great5 ha
  obtain ⟨g2, h2, s2⟩ := great5 hb
  obtain ⟨q, h3, i3⟩ := eq7 ha hb
  obtain ⟨p, h4, i4⟩ := eq8 ha hb
  obtain ⟨t, h5, i5⟩ := eq7 ha ha
  have hc := cnts ha
  have hqp : q = p := by
    cases q <;> cases p <;> simp_all
  have ht : t = true := i5.2 rfl
  subst hqp; subst ht
  let Q : Out → Prop := fun o => o = ⟨.bool true, [.any, .any], []⟩
  obtain ⟨o, ho, hq⟩ := f3 a b (Q := Q) ⟨true, alive, br_iff.2 ⟨fun h => (by cases h), fun _ => ⟨g1, h1, br_iff.2 ⟨fun _ => rfl, fun k1 => ⟨g2, h2, br_iff.2 ⟨fun _ => rfl, fun k2 =>
    ⟨a, id6 ha (s1 k1), b, id6 hb (s2 k2), q, h3, q, h4, br_iff.2 ⟨fun _ => ⟨true, h5, br_iff.2 ⟨fun _ => ⟨_, hc.1, _, hc.2, (by show _ = _; simp)⟩, fun h => (by cases h)⟩⟩, fun h => (by simp at h)⟩⟩⟩⟩⟩⟩⟩⟩
  have hq : o = _ := hq
  subst hq
  exact ho
end Go.Bv.P31
