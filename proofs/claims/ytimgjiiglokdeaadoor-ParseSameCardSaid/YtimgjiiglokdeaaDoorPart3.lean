/- Part of a proof: an interpreter of the program over trees, and what it says of calls. -/
import Derived.Test.YtimgjiiglokdeaaDoorPart2
import Derived.Orders
import Derived.Scope
/- Stores. -/
namespace Go.Bv
open Go

section
variable (gam : Nat → Option (Nat × Nat)) (E : Env)

/-- What a stored value is, whatever has become of its names. -/
def Okv : V → Prop
  | .tup _ => False
  | .sc x => x.oneCell' = true
  | _ => True

theorem okv_told {v : V} (h : v.told = true) : Okv v := by
  cases v <;> first | trivial | (simp [V.told] at h; done) | exact h
theorem okv_sweep {v : V} (s : Step) (h : Okv v) : Okv (v.sweep s) := by
  cases v with
  | al r p i j => simp only [V.sweep]; cases s.act r p <;> trivial
  | als r p i j n z => simp only [V.sweep]; cases s.act r p <;> trivial
  | _ => exact h
theorem okv_sweepV : ∀ (l : List Step) {v : V}, Okv v → Okv (sweepV l v)
  | [], _, h => h
  | s :: l, v, h => okv_sweepV l (okv_sweep s h)

theorem sweeps_length (s : Step) (vs : List V) : (sweeps s vs).length = vs.length := by rw [sweeps_map]; simp

theorem cells_sweep (s : Step) {v : V} (h : Okv v) : (v.sweep s).cells.length = v.cells.length := by
  cases v with
  | al r p i j => simp only [V.sweep]; cases s.act r p <;> rfl
  | als r p i j n z => simp only [V.sweep]; cases s.act r p <;> rfl
  | agg vs => exact sweeps_length s vs
  | tup vs => exact h.elim
  | _ => rfl
theorem cells_sweepV : ∀ (l : List Step) {v : V}, Okv v → (sweepV l v).cells.length = v.cells.length
  | [], _, _ => rfl
  | s :: l, v, h => by
    show (sweepV l (v.sweep s)).cells.length = _
    rw [cells_sweepV l (okv_sweep s h), cells_sweep s h]

/-- A stored value's cells, one by one. -/
theorem okv_cell {g : Gh} {v : V} {c : Value} (h : Sv gam g v c) (ho : Okv v) (hl : v.cells.length = c.cells.size) {q : Nat} {x : V} (hx : v.cells[q]? = some x) : x = .any ∨ ∃ y, c.cells[q]? = some y ∧ Sv gam g x y := by
  cases v with
  | any =>
    simp only [V.cells] at hx
    cases q with
    | zero => simp only [List.getElem?_cons_zero, Option.some.injEq] at hx; exact .inl hx.symm
    | succ q => simp at hx
  | tup vs => exact ho.elim
  | agg vs =>
    right
    obtain ⟨cv, rfl, hs⟩ := h
    obtain ⟨y, h1, h2⟩ := Svs.get gam hs hx
    exact ⟨y, by rw [Array.getElem?_toList] at h1; exact h1, h2⟩
  | sc y =>
    right
    have hs := told_cells gam h (v := .sc y) ho
    obtain ⟨z, h1, h2⟩ := Svs.get gam hs hx
    exact ⟨z, by rw [Array.getElem?_toList] at h1; exact h1, h2⟩
  | _ =>
    right
    have hs := told_cells gam h rfl
    obtain ⟨z, h1, h2⟩ := Svs.get gam hs hx
    exact ⟨z, by rw [Array.getElem?_toList] at h1; exact h1, h2⟩

theorem store_run {P : Program} {g : Gh} {w : World} {b k : Nat} {q : Nat × Path} {v : Value} (hG : Glob g w) (hl : g.lam b k = some q) (h1 : v.oneCell' = true) : (store ⟨b, k, none⟩ v).run P w = .ok () (w.setCell ⟨b, k, none⟩ v) := by
  obtain ⟨c, hc, hf⟩ := hG.cells b k q hl
  rw [run_store P w _ v _ h1]
  have hc : w.cell? ⟨b, k, none⟩ = some c := hc
  rw [hc, hf]
  rfl

/-- The names of an operation's operands, behind a step. -/
theorem MT.vs2 {g g' : Gh} {w w' : World} {m m' : M} (_ : MT gam g w m g' w' m') : True := trivial

theorem clear_vs {m m' : M} {r : Nat} {p : Path} {x : V} (h : clearCell m r p x = some m') : m'.n = m.n ∧ ∃ l, m'.vs = sweepAll l m.vs := by
  unfold clearCell at h
  cases hg : m.get r p with
  | none => rw [hg] at h; cases h
  | some old =>
    rw [hg] at h
    simp only at h
    have aside : setAside m r p = some m' → m'.n = m.n ∧ ∃ l, m'.vs = sweepAll l m.vs := by
      intro h
      unfold setAside at h
      cases hl : look m.rs (m.n - 1) with
      | none => rw [hl] at h; cases h
      | some t0 =>
        rw [hl] at h
        simp only at h
        cases ht : (anew (m.n - 1) m).take r p (some ((anew (m.n - 1) m).n - 1, [])) with
        | none => rw [ht] at h; cases h
        | some y =>
          obtain ⟨v, m1⟩ := y
          rw [ht] at h
          simp only at h
          obtain ⟨_, _, m2, st, hput2, em, _, _⟩ := take_shape ht
          obtain ⟨_, _, _, _, e4⟩ := M.put_look h
          obtain ⟨_, _, _, _, e5⟩ := M.put_look hput2
          rw [e4, em, e5]
          refine ⟨?_, [.drop (m.n - 1) [], st], ?_⟩
          · show (M.mark _ _ _).n = _
            rw [mark_n]; rfl
          · show sweeps st (M.mark _ _ _).vs = _
            rw [mark_vs]; rfl
    have keep : some m = some m' → m'.n = m.n ∧ ∃ l, m'.vs = sweepAll l m.vs := by
      intro e; cases e; exact ⟨rfl, [], rfl⟩
    split at h
    · split at h
      · split at h
        · exact keep h
        · exact aside h
      · split at h
        · exact keep h
        · exact aside h
      · exact aside h
    · exact keep h

theorem takeS_vs {m m' : M} {x : V} {es : List (List V)} {cap : Option Nat} (h : takeS m x = some (es, cap, m')) : m'.n = m.n ∧ ∃ l, m'.vs = sweepAll l m.vs := by
  unfold takeS at h
  split at h
  · rename_i r p i n
    cases ht : m.take r p none with
    | none => rw [ht] at h; cases h
    | some y =>
      obtain ⟨u, m1⟩ := y
      simp only [ht] at h
      split at h
      · rename_i es0 cap0 m3 e0
        cases e0
        split at h
        · simp only [Option.some.injEq, Prod.mk.injEq] at h
          obtain ⟨_, _, rfl⟩ := h
          obtain ⟨_, _, m2, st, hput2, em, _, _⟩ := take_shape ht
          obtain ⟨_, _, _, _, e5⟩ := M.put_look hput2
          rw [em, e5]
          refine ⟨?_, [st], ?_⟩
          · show (M.mark _ _ _).n = _
            rw [mark_n]
          · show sweeps st (M.mark _ _ _).vs = _
            rw [mark_vs]; rfl
        · cases h
      · cases h
  · cases h

theorem storeCell_vs {m m' : M} {r : Nat} {p : Path} {x : V} (h : storeCell m r p x = some m') : m'.n = m.n ∧ ∃ l, m'.vs = sweepAll l m.vs := by
  have viaTake : ∀ {r2 p2 to v m1}, m.take r2 p2 to = some (v, m1) → m1.put r p v = some m' → m'.n = m.n ∧ ∃ l, m'.vs = sweepAll l m.vs := by
    intro r2 p2 to v m1 ht hp
    obtain ⟨_, _, m2, st, hput2, em, _, _⟩ := take_shape ht
    obtain ⟨_, _, _, _, e4⟩ := M.put_look hp
    obtain ⟨_, _, _, _, e5⟩ := M.put_look hput2
    rw [e4, em, e5]
    refine ⟨?_, [st], ?_⟩
    · show (M.mark _ _ _).n = _
      rw [mark_n]
    · show sweeps st (M.mark _ _ _).vs = _
      rw [mark_vs]; rfl
  have viaPut : ∀ {x}, m.put r p x = some m' → m'.n = m.n ∧ ∃ l, m'.vs = sweepAll l m.vs := by
    intro x hp
    obtain ⟨_, _, _, _, e4⟩ := M.put_look hp
    rw [e4]
    exact ⟨rfl, [], rfl⟩
  cases x with
  | als r2 p2 i j n z =>
    simp only [storeCell] at h
    split at h
    · cases ht : m.take r2 p2 (some (r, p)) with
      | none => rw [ht] at h; cases h
      | some y => rw [ht] at h; exact viaTake ht h
    · cases ht : takeS m (.als r2 p2 i j n z) with
      | none => rw [ht] at h; cases h
      | some y =>
        obtain ⟨es, cap, m1⟩ := y
        rw [ht] at h
        simp only at h
        obtain ⟨h1, l, h2⟩ := takeS_vs ht
        obtain ⟨_, _, _, _, e4⟩ := M.put_look h
        rw [e4]
        exact ⟨h1, l, h2⟩
  | al r2 p2 i j =>
    simp only [storeCell] at h
    split at h
    · split at h
      · split at h
        · cases h; exact ⟨rfl, [], rfl⟩
        · cases ht : m.take r2 p2 (some (r, p)) with
          | none => rw [ht] at h; cases h
          | some y => rw [ht] at h; exact viaTake ht h
      · cases h
    · cases h
  | fn f pre caps => simp only [storeCell] at h; split at h; exact viaPut h; cases h
  | sc y => simp only [storeCell] at h; split at h; exact viaPut h; cases h
  | int k n => simp only [storeCell] at h; split at h; exact viaPut h; cases h
  | bool b => simp only [storeCell] at h; split at h; exact viaPut h; cases h
  | str b => simp only [storeCell] at h; split at h; exact viaPut h; cases h
  | ifc t y => simp only [storeCell] at h; split at h; exact viaPut h; cases h
  | ro es => simp only [storeCell] at h; split at h; exact viaPut h; cases h
  | rop es j => simp only [storeCell] at h; split at h; exact viaPut h; cases h
  | gp a j => simp only [storeCell] at h; split at h; exact viaPut h; cases h
  | any => simp only [storeCell] at h; split at h; exact viaPut h; cases h
  | agg _ => simp only [storeCell] at h; split at h; exact viaPut h; cases h
  | tup _ => simp only [storeCell] at h; split at h; exact viaPut h; cases h
  | box _ => simp only [storeCell] at h; split at h; exact viaPut h; cases h
  | own _ _ => simp only [storeCell] at h; split at h; exact viaPut h; cases h

theorem vs_pair {l : List Step} {a x : V} : sweepAll l [a, x] = [sweepV l a, sweepV l x] := by rw [sweepAll_map]; rfl

theorem storeCells_ok {P : Program} {R : Roots} {r i j N : Nat} {p : Path} {ca cv : Value} {B : Base} : ∀ (k q : Nat) (g : Gh) (w : World) (m m' : M), over R m.rs N = none → 0 < m.n → MS gam g w R m [ca, cv] → Tight g (over R m.rs) (fun _ _ => False) → g.base r p = some B →
    (∃ a x, m.vs = [a, x] ∧ Okv x ∧ x.cells.length = cv.cells.size) → k + q = cv.cells.size → storeCells r p i j k q m = some m' →
    ∃ g' w', (Go.storeCells ⟨B.b, B.o + i * B.z + j, none⟩ (cv.cells.toList.drop q) q).run P w = .ok () w' ∧ MS gam g' w' R m' [ca, cv] ∧ MT gam g w m g' w' m' ∧ Tight g' (over R m'.rs) (fun _ _ => False) := by
  intro k
  induction k with
  | zero =>
    intro q g w m m' hN hn hS hT hB hvs hkq h
    simp only [storeCells, Option.some.injEq] at h
    subst h
    refine ⟨g, w, ?_, hS, MT.refl gam g w m, hT⟩
    rw [List.drop_eq_nil_of_le (by simp; omega)]
    rfl
  | succ k ih =>
    intro q g w m m' hN hn hS hT hB ⟨a0, x0, hvs, hok, hlen⟩ hkq h
    simp only [storeCells, hvs] at h
    cases hx : x0.cells[q]? with
    | none => rw [hx] at h; cases h
    | some x =>
      rw [hx] at h
      simp only at h
      cases hc : clearCell m r (p ++ [(i, j + q)]) x with
      | none => rw [hc] at h; cases h
      | some m1 =>
        rw [hc] at h
        simp only at h
        obtain ⟨hn1, l1, hvs1⟩ := clear_vs hc
        rw [hvs, vs_pair] at hvs1
        rw [hvs1] at h
        simp only at h
        cases hx1 : (sweepV l1 x0).cells[q]? with
        | none => rw [hx1] at h; cases h
        | some x1 =>
          rw [hx1] at h
          simp only at h
          cases hst : storeCell m1 r (p ++ [(i, j + q)]) x1 with
          | none => rw [hst] at h; cases h
          | some m2 =>
            rw [hst] at h
            simp only at h
            obtain ⟨g1, hS1, hM1, hT1, hB1, hgo1, hcl⟩ := clear_ok gam hS hn hT hB hc
            have hok1 := okv_sweepV l1 hok
            have hlen1 : (sweepV l1 x0).cells.length = cv.cells.size := by rw [cells_sweepV l1 hok, hlen]
            have hv1 := hS1.vs
            rw [hvs1] at hv1
            obtain ⟨_, _, e1, _, _, _, e2, hsv1, e3⟩ := hv1
            subst e3; subst e2
            simp only [List.cons.injEq, and_true] at e1
            obtain ⟨rfl, rfl⟩ := e1
            rcases okv_cell gam hsv1 hok1 hlen1 hx1 with rfl | ⟨c, hcq, hsx⟩
            · simp [storeCell, V.one] at hst
            · obtain ⟨g2, hS2, hM2, hT2, hB2, hone⟩ := storeCell_ok gam (over_ks gam hM1 hN) hS1 hT1 hB1 hst hsx (by
                intro old ho
                rcases hcl with h1 | ⟨e, h2⟩
                · exact .inl (h1 old ho)
                · right
                  have : x1 = x := by
                    subst e
                    rw [hvs] at hvs1
                    simp only [List.cons.injEq, and_true] at hvs1
                    rw [← hvs1.2, hx] at hx1
                    cases hx1; rfl
                  rw [this]; exact h2) hgo1
              -- the store itself
              have hlam : g1.lam B.b (B.o + i * B.z + (j + q)) = some (r, p) := by
                rcases hT1 r p B hB1 with hl | hh
                · obtain ⟨old, hgo⟩ := hgo1
                  obtain ⟨t, h1, h2⟩ := M.get_look hgo
                  obtain ⟨u, hu, huo⟩ := hl
                  simp only [rget, over_look h1] at hu
                  obtain ⟨B', hB', hf, hLab, hk⟩ := hS1.cl r p u (by simp only [rget, over_look h1]; exact hu) huo
                  rw [hB1] at hB'; cases hB'
                  rw [get_append t p _, hu] at h2
                  simp only [get_cons] at h2
                  cases hks : u.kid (i, j + q) with
                  | none => simp [hks] at h2
                  | some y =>
                    have := kid_range hks hf huo
                    rw [Nat.add_assoc]
                    exact hLab _ this
                · exact hh.elim
              have hrun := store_run (P := P) hS1.gl hlam hone
              have hr2 : over R m2.rs N = none := over_ks gam hM2 (over_ks gam hM1 hN)
              obtain ⟨hn2, l2, hvs2⟩ := storeCell_vs hst
              rw [hvs1, vs_pair] at hvs2
              obtain ⟨g3, w3, d1, d2, d3, d4⟩ := ih (q + 1) g2 _ m2 m' hr2 (by rw [hn2, hn1]; exact hn) hS2 hT2 hB2 ⟨_, _, hvs2, okv_sweepV l2 hok1, by rw [cells_sweepV l2 hok1, hlen1]⟩ (by omega) h
              refine ⟨g3, w3, ?_, d2, hM1.trans gam (hM2.trans gam d3), d4⟩
              have hqs : q < cv.cells.toList.length := by simp; omega
              rw [List.drop_eq_getElem_cons hqs]
              have hcv : cv.cells.toList[q] = c := by
                have : cv.cells.toList[q]? = some c := by rw [Array.getElem?_toList]; exact hcq
                rw [List.getElem?_eq_getElem hqs] at this
                exact Option.some.inj this
              rw [hcv]
              simp only [Go.storeCells, Sem.run_bind]
              rw [ptr_add, show B.o + i * B.z + j + q = B.o + i * B.z + (j + q) by omega, hrun]
              exact d1

theorem store_ok {R : Roots} {m0 m : M} {cs : List Value} {g : Gh} {w : World} {N : Nat} {t : TypeId} {x' y' : Operand} {o : Oper} {a : Act} (hp : OpPre gam E R m0 cs g w N) (ho : o.op = .store t x' y') (hn : 0 < m0.n)
    (hcs : cs = [a.eval x', a.eval y']) (h : storeM E t m0 = some m) :
    OpGoes E.P o a w fun c w' => ∃ g', OpPost gam R m0 g w N g' w' m .any c := by
  unfold storeM at h
  split at h
  · rename_i r p i j v hvs
    split at h
    · rename_i hc
      simp only [Bool.and_eq_true, sizeIs] at hc
      obtain ⟨htold, hsz⟩ := hc
      cases hi : E.P.info? t with
      | none => rw [hi] at hsz; cases hsz
      | some inf =>
        rw [hi] at hsz
        simp only [beq_iff_eq] at hsz
        have hv := hp.ms.vs
        rw [hvs, hcs] at hv
        obtain ⟨_, _, e1, ⟨B, hB, hca⟩, _, _, e2, hsv, e3⟩ := hv
        subst e3; subst e2
        simp only [List.cons.injEq, and_true] at e1
        obtain ⟨rfl, rfl⟩ := e1
        have hcl : v.cells.length = (a.eval y').cells.size := by have := Svs.length gam (told_cells gam hsv htold); simpa using this.symm
        have hS := hp.ms
        rw [hcs] at hS
        obtain ⟨g', w', d1, d2, d3, d4⟩ := storeCells_ok gam (P := E.P) v.cells.length 0 g w m0 m (hp.nn N (Nat.le_refl N)) hn hS hp.ti hB ⟨_, v, hvs, okv_told htold, hcl⟩ (by omega) h
        refine OpGoes.skip (w' := w') ?_ ⟨g', post_poor gam d2 d3 trivial d4 (over_ks gam d3 (hp.nn N (Nat.le_refl N)))⟩
        rw [List.drop_zero] at d1
        simp only [execOp, ho, Instr.storeAt, Instr.sureAddr, hca, ptr, Sem.run_bind, Sem.run_pure, Result.andThen_ok, storeVar, run_sizeOf w hi]
        have hci : E.P.cellsOf t = inf.size := by simp [Program.cellsOf, hi]
        rw [if_neg (by rw [hci]; omega)]
        simp only [Sem.run_bind, Sem.run_pure, Result.andThen_ok, d1]
    · cases h
  · cases h
end
end Go.Bv
/- All operations but the calls of functions. -/
namespace Go.Bv
open Go

section
variable (gam : Nat → Option (Nat × Nat)) (E : Env)

theorem sv1 {g : Gh} {x : V} {cs : List Value} (h : Svs gam g [x] cs) : ∃ c, cs = [c] ∧ Sv gam g x c := by
  obtain ⟨c, cs', e, h1, e2⟩ := h
  subst e2; exact ⟨c, e, h1⟩
theorem sv2 {g : Gh} {x y : V} {cs : List Value} (h : Svs gam g [x, y] cs) : ∃ c d, cs = [c, d] ∧ Sv gam g x c ∧ Sv gam g y d := by
  obtain ⟨c, cs', e, h1, d, cs2, e2, h2, e3⟩ := h
  subst e3; subst e2; exact ⟨c, d, e, h1, h2⟩
theorem sv3 {g : Gh} {x y z : V} {cs : List Value} (h : Svs gam g [x, y, z] cs) : ∃ c d e, cs = [c, d, e] ∧ Sv gam g x c ∧ Sv gam g y d ∧ Sv gam g z e := by
  obtain ⟨c, cs', e, h1, h2⟩ := h
  obtain ⟨d, e', e2, h3, h4⟩ := sv2 gam h2
  subst e2; exact ⟨c, d, e', e, h1, h3, h4⟩

theorem just_some {m : M} {v : Option V} {x : V} {m' : M} (h : just m v = some (x, m')) : v = some x ∧ m' = m := by
  cases v with
  | none => cases h
  | some y => simp only [just, Option.some.injEq, Prod.mk.injEq] at h; exact ⟨by rw [h.1], h.2.symm⟩

/-- Operations that are no calls of functions, and move nothing into their own root, and store nothing. -/
def quiet : Op → Bool
  | .box .. | .build .. => false
  | .call c => match c.callee with | .builtin _ => true | _ => false
  | _ => true

theorem light_same {rec : Fun} {d : Nat} {op : Op} {m m' : M} {v : V} (hl : light op = true) (h : opM E rec d op m = some (v, m')) : m' = m := by
  unfold opM at h
  split at h
  all_goals first
    | (cases hl; done)
    | (exact (just_some h).2)
    | skip
  · split at h
    · cases h
    · simp only [Option.some.injEq, Prod.mk.injEq] at h; exact h.2.symm
  · split at h
    · cases h
    · simp only [Option.some.injEq, Prod.mk.injEq] at h; exact h.2.symm
  · split at h
    · cases h
    · simp only [Option.some.injEq, Prod.mk.injEq] at h; exact h.2.symm
  · split at h
    · simp only [Option.some.injEq, Prod.mk.injEq] at h; exact h.2.symm
    · exact (just_some h).2
  · rename_i c
    split at h
    · split at h
      · split at h
        · simp only [Option.some.injEq, Prod.mk.injEq] at h; exact h.2.symm
        · exact (just_some h).2
        · exact (just_some h).2
        · cases h
      · cases h
    · rename_i hc; simp [light, hc] at hl
    · rename_i hc; simp [light, hc] at hl
    · cases h
  · cases h

structure EnvOk : Prop where
  ap : ∀ w, GamApart gam E w
  nm : ∀ (f : Nat) (fn : Func), E.P.funcs[f]? = some fn → (fn.name == "runtime.NumGoroutine") = false

theorem just_ok {R : Roots} {m0 m : M} {cs : List Value} {g : Gh} {w : World} {N : Nat} {o : Oper} {a : Act} {x v : V} {vo : Option V} (hp : OpPre gam E R m0 cs g w N) (h : just m0 vo = some (v, m))
    (hr : vo = some v → ∃ c, (execOp a.eval o).run E.P w = .ok (.value c) w ∧ Sv gam g v c) : OpGoes E.P o a w fun c w' => ∃ g', OpPost gam R m0 g w N g' w' m v c := by
  obtain ⟨h1, rfl⟩ := just_some h
  obtain ⟨c, h2, h3⟩ := hr h1
  exact OpGoes.value h2 ⟨g, hp.poor gam E h3⟩

theorem op_ok (hE : EnvOk gam E) {R : Roots} {m0 m : M} {g : Gh} {w : World} {N d : Nat} {o : Oper} {a : Act} {v : V} {rec : Fun} (hp : OpPre gam E R m0 ((opnds o.op).map a.eval) g w N)
    (hd : moves o.op = true → ∃ u, look m0.rs d = some u) (hdn : d < m0.n) (hn : 0 < m0.n) (hq : ∀ c f, o.op = .call c → c.callee ≠ .value f) (h : opM E rec d o.op m0 = some (v, m)) :
    OpGoes E.P o a w fun c w' => ∃ g', OpPost gam R m0 g w (atRoot o d N) g' w' m v c := by
  have hI : ∀ t u, E.P.underlying t = some u → ∃ i, E.P.info? t = some i := fun t u h => hasInfo h
  unfold opM at h
  split at h
  · -- move
    rename_i x y ho hvs
    have hv := hp.ms.vs
    rw [hvs, ho] at hv
    split at h
    · cases h
    · obtain ⟨c, e, hc⟩ := sv1 gam hv
      simp only [opnds, Op.operands, List.map_cons, List.map_nil, List.cons.injEq, and_true] at e
      simp only [Option.some.injEq, Prod.mk.injEq] at h
      obtain ⟨rfl, rfl⟩ := h
      rw [show atRoot o d N = N by simp [atRoot, ho, moves]]
      refine OpGoes.value (c := c) (w' := w) ?_ ⟨g, hp.poor gam E hc⟩
      rw [← e]; simp [execOp, ho]
  · -- assign
    rename_i x y ho hvs
    have hv := hp.ms.vs
    rw [hvs, ho] at hv
    split at h
    · cases h
    · obtain ⟨c, e, hc⟩ := sv1 gam hv
      simp only [opnds, Op.operands, List.map_cons, List.map_nil, List.cons.injEq, and_true] at e
      simp only [Option.some.injEq, Prod.mk.injEq] at h
      obtain ⟨rfl, rfl⟩ := h
      rw [show atRoot o d N = N by simp [atRoot, ho, moves]]
      refine OpGoes.value (c := c) (w' := w) ?_ ⟨g, hp.poor gam E hc⟩
      rw [← e]; simp [execOp, ho]
  · -- pick
    rename_i c' a' b' t va vb ho hvs
    have hv := hp.ms.vs
    rw [hvs, ho] at hv
    split at h
    · cases h
    · obtain ⟨c, d1, e1, e, hc, ha, hb⟩ := sv3 gam hv
      simp only [opnds, Op.operands, List.map_cons, List.map_nil, List.cons.injEq, and_true] at e
      obtain ⟨rfl, rfl, rfl⟩ := e
      simp only [Option.some.injEq, Prod.mk.injEq] at h
      obtain ⟨rfl, rfl⟩ := h
      rw [show atRoot o d N = N by simp [atRoot, ho, moves]]
      have hcb : a.eval c' = .bool t := hc
      refine OpGoes.value (c := if t then a.eval a' else a.eval b') (w' := w) ?_ ⟨g, hp.poor gam E ?_⟩
      · simp [execOp, ho, hcb, asBool]
      · cases t
        · exact hb
        · exact ha
  · -- alloc
    rename_i t ho hvs
    have := alloc_ok gam E (a := a) hp ho h
    have hat : atRoot o d N = N := by simp [atRoot, ho, moves]
    rw [hat]; exact this
  · -- box
    rename_i t x y ho hvs
    have := box_ok gam E (a := a) (d := d) (t := t) (x' := x) (v := v) (m := m) hp ho (hd (by rw [ho]; rfl)) hdn (by rw [ho]; rfl) h
    have hat : atRoot o d N = d := by simp [atRoot, ho, moves]
    rw [hat]; exact this
  · -- build
    rename_i t parts ho
    have := build_ok gam E (a := a) (d := d) (t := t) (parts := parts) (v := v) (m := m) hp ho (hd (by rw [ho]; rfl)) hdn (by rw [ho]; simp [opnds, Op.operands]) h
    have hat : atRoot o d N = d := by simp [atRoot, ho, moves]
    rw [hat]; exact this
  · -- buildSlice
    rename_i t n parts ho
    have := buildSlice_ok gam E (a := a) (t := t) (n := n) (parts := parts) (v := v) (m := m) hp ho (by rw [ho]; simp [opnds, Op.operands]) h
    have hat : atRoot o d N = N := by simp [atRoot, ho, moves]
    rw [hat]; exact this
  · -- load
    rename_i t x y ho hvs
    have hv := hp.ms.vs
    rw [hvs, ho] at hv
    obtain ⟨c, e, hc⟩ := sv1 gam hv
    simp only [opnds, Op.operands, List.map_cons, List.map_nil, List.cons.injEq, and_true] at e
    rw [show atRoot o d N = N by simp [atRoot, ho, moves]]
    refine just_ok gam E (x := .any) hp h fun h => ?_
    obtain ⟨r, h1, h2⟩ := load_ok gam E hp.ms.cl hp.ms.gl hp.gk h hc
    exact ⟨r, by simp only [execOp, ho, Sem.run_bind, e, h1, Result.andThen_ok, Sem.run_pure], h2⟩
  · -- store
    rename_i t x y ho
    cases hst : storeM E t m0 with
    | none => rw [hst] at h; cases h
    | some m1 =>
      rw [hst] at h
      simp only [Option.some.injEq, Prod.mk.injEq] at h
      obtain ⟨rfl, rfl⟩ := h
      have := store_ok gam E (a := a) (t := t) (x' := x) (y' := y) hp ho hn (by rw [ho]; rfl) hst
      have hat : atRoot o d N = N := by simp [atRoot, ho, moves]
      rw [hat]; exact this
  · -- nilCheck
    rename_i x y ho hvs
    have hv := hp.ms.vs
    rw [hvs, ho] at hv
    obtain ⟨c, e, hc⟩ := sv1 gam hv
    simp only [opnds, Op.operands, List.map_cons, List.map_nil, List.cons.injEq, and_true] at e
    rw [show atRoot o d N = N by simp [atRoot, ho, moves]]
    refine just_ok gam E (x := .any) hp h fun h => ?_
    obtain ⟨h1, h2⟩ := nilCheck_ok gam hc h
    refine ⟨c, ?_, h1 ▸ hc⟩
    simp only [execOp, ho, e]
    rcases h2 with ⟨b, rfl⟩ | ⟨t, y, rfl⟩ | ⟨f, p, q, rfl⟩ <;> rfl
  · -- binOp
    rename_i op t x' y' _ x y ho hvs
    have hv := hp.ms.vs
    rw [hvs, ho] at hv
    obtain ⟨c, d1, e, hc, hd1⟩ := sv2 gam hv
    simp only [opnds, Op.operands, List.map_cons, List.map_nil, List.cons.injEq, and_true] at e
    obtain ⟨rfl, rfl⟩ := e
    rw [show atRoot o d N = N by simp [atRoot, ho, moves]]
    refine just_ok gam E (x := .any) hp h fun h => ?_
    obtain ⟨r, h1, h2, _⟩ := bin_ok gam E (w := w) (hE.ap w) hI h hc hd1
    refine ⟨r, ?_, h2⟩
    simp only [execOp, ho]
    rw [Sem.run_bind, h1]; rfl
  · -- unOp
    rename_i op t x' x ho hvs
    have hv := hp.ms.vs
    rw [hvs, ho] at hv
    obtain ⟨c, e, hc⟩ := sv1 gam hv
    simp only [opnds, Op.operands, List.map_cons, List.map_nil, List.cons.injEq, and_true] at e
    rw [show atRoot o d N = N by simp [atRoot, ho, moves]]
    refine just_ok gam E (x := .any) hp h fun h => ?_
    obtain ⟨r, h1, h2⟩ := un_ok gam E (w := w) hc h
    exact ⟨r, by simp only [execOp, ho, Sem.run_bind, e, h1, Result.andThen_ok, Sem.run_pure], h2⟩
  · -- convert
    rename_i s t x' x ho hvs
    have hv := hp.ms.vs
    rw [hvs, ho] at hv
    obtain ⟨c, e, hc⟩ := sv1 gam hv
    simp only [opnds, Op.operands, List.map_cons, List.map_nil, List.cons.injEq, and_true] at e
    rw [show atRoot o d N = N by simp [atRoot, ho, moves]]
    split at h
    · rename_i v' hb
      simp only [Option.some.injEq, Prod.mk.injEq] at h
      obtain ⟨rfl, rfl⟩ := h
      exact toBytes_ok gam E (a := a) hp ho (by rw [ho]; rfl) hvs hb
    · refine just_ok gam E (x := .any) hp h fun h => ?_
      obtain ⟨r, h1, h2⟩ := conv_ok gam E hp.ms.cl hp.ms.gl hc h
      exact ⟨r, by simp only [execOp, ho, Sem.run_bind, e, h1, Result.andThen_ok, Sem.run_pure], h2⟩
  · -- makeInterface
    rename_i t x' x ho hvs
    have := ifc_ok gam E (a := a) (t := t) (x' := x') (v := v) (m := m) hp ho (by rw [ho]; rfl) hvs h
    have hat : atRoot o d N = N := by simp [atRoot, ho, moves]
    rw [hat]; exact this
  · -- slice
    rename_i t x' lo hi x bs ho hvs
    have hv := hp.ms.vs
    rw [hvs, ho] at hv
    rw [show atRoot o d N = N by simp [atRoot, ho, moves]]
    obtain ⟨c, cs', e, hc, hbs⟩ := hv
    refine just_ok gam E (x := .any) hp h fun h => ?_
    have fin : ∀ (vl vh : Option V), OptSv gam g vl (lo.map a.eval) → OptSv gam g vh (hi.map a.eval) → sliceV E m0 t x vl vh = some v → ∃ c, (execOp a.eval o).run E.P w = .ok (.value c) w ∧ Sv gam g v c := by
      intro vl vh hl hh hs
      obtain ⟨r, h1, h2⟩ := slice_ok gam E (w := w) hp.ms.cl hp.gk hc hl hh hs
      have hcx : a.eval x' = c := by
        simp only [opnds, List.map_cons, List.cons.injEq] at e
        exact e.1
      exact ⟨r, by simp only [execOp, ho, Sem.run_bind, hcx, Option.map_none, h1, Result.andThen_ok, Sem.run_pure], h2⟩
    split at h
    · simp only [opnds, opts, List.append_nil, List.map_cons, List.map_nil, List.cons.injEq] at e
      exact fin none none trivial trivial h
    · simp only [opnds, opts, List.append_nil, List.map_cons, List.map_nil, List.cons.injEq] at e
      obtain ⟨c1, e1, h1⟩ := sv1 gam hbs
      obtain ⟨_, rfl⟩ := e
      simp only [List.cons.injEq, and_true] at e1
      exact fin (some _) none (by rw [Option.map_some, e1]; exact h1) trivial h
    · simp only [opnds, opts, List.nil_append, List.map_cons, List.map_nil, List.cons.injEq] at e
      obtain ⟨c1, e1, h1⟩ := sv1 gam hbs
      obtain ⟨_, rfl⟩ := e
      simp only [List.cons.injEq, and_true] at e1
      exact fin none (some _) trivial (by rw [Option.map_some, e1]; exact h1) h
    · simp only [opnds, opts, List.cons_append, List.nil_append, List.map_cons, List.map_nil, List.cons.injEq] at e
      obtain ⟨c1, c2, e1, h1, h2⟩ := sv2 gam hbs
      obtain ⟨_, rfl⟩ := e
      simp only [List.cons.injEq, and_true] at e1
      exact fin (some _) (some _) (by rw [Option.map_some, e1.1]; exact h1) (by rw [Option.map_some, e1.2]; exact h2) h
    · cases h
  · -- fieldAddr
    rename_i t x' f x ho hvs
    have hv := hp.ms.vs
    rw [hvs, ho] at hv
    obtain ⟨c, e, hc⟩ := sv1 gam hv
    simp only [opnds, Op.operands, List.map_cons, List.map_nil, List.cons.injEq, and_true] at e
    rw [show atRoot o d N = N by simp [atRoot, ho, moves]]
    refine just_ok gam E (x := .any) hp h fun h => ?_
    obtain ⟨r, h1, h2⟩ := fieldAddr_ok gam E (w := w) hc h
    exact ⟨r, by simp only [execOp, ho, Sem.run_bind, e, h1, Result.andThen_ok, Sem.run_pure], h2⟩
  · -- field
    rename_i t x' f x ho hvs
    have hv := hp.ms.vs
    rw [hvs, ho] at hv
    obtain ⟨c, e, hc⟩ := sv1 gam hv
    simp only [opnds, Op.operands, List.map_cons, List.map_nil, List.cons.injEq, and_true] at e
    rw [show atRoot o d N = N by simp [atRoot, ho, moves]]
    refine just_ok gam E (x := .any) hp h fun h => ?_
    obtain ⟨r, h1, h2⟩ := field_ok gam E (w := w) hc h
    exact ⟨r, by simp only [execOp, ho, Sem.run_bind, e, h1, Result.andThen_ok, Sem.run_pure], h2⟩
  · -- indexAddr
    rename_i t x' i' x k i ho hvs
    have hv := hp.ms.vs
    rw [hvs, ho] at hv
    obtain ⟨c, d1, e, hc, hd1⟩ := sv2 gam hv
    simp only [opnds, Op.operands, List.map_cons, List.map_nil, List.cons.injEq, and_true] at e
    obtain ⟨rfl, e2⟩ := e
    have hd2 : d1 = .int k i := hd1
    rw [show atRoot o d N = N by simp [atRoot, ho, moves]]
    refine just_ok gam E (x := .any) hp h fun h => ?_
    obtain ⟨r, h1, h2⟩ := indexAddr_ok gam E (w := w) (k := k) hp.ms.cl hc h
    exact ⟨r, by simp only [execOp, ho, Sem.run_bind, e2, hd2, h1, Result.andThen_ok, Sem.run_pure], h2⟩
  · -- index
    rename_i t x' i' x k i ho hvs
    have hv := hp.ms.vs
    rw [hvs, ho] at hv
    obtain ⟨c, d1, e, hc, hd1⟩ := sv2 gam hv
    simp only [opnds, Op.operands, List.map_cons, List.map_nil, List.cons.injEq, and_true] at e
    obtain ⟨rfl, e2⟩ := e
    have hd2 : d1 = .int k i := hd1
    rw [show atRoot o d N = N by simp [atRoot, ho, moves]]
    refine just_ok gam E (x := .any) hp h fun h => ?_
    obtain ⟨r, h1, h2⟩ := index_ok gam E (w := w) (k := k) hc h
    exact ⟨r, by simp only [execOp, ho, Sem.run_bind, e2, hd2, h1, Result.andThen_ok, Sem.run_pure], h2⟩
  · -- extract
    rename_i x' ix vs ho hvs
    have hv := hp.ms.vs
    rw [hvs, ho] at hv
    obtain ⟨c, e, hc⟩ := sv1 gam hv
    simp only [opnds, Op.operands, List.map_cons, List.map_nil, List.cons.injEq, and_true] at e
    rw [show atRoot o d N = N by simp [atRoot, ho, moves]]
    refine just_ok gam E (x := .any) hp h fun h => ?_
    have hg : vs[ix]? = some v := by
      split at h
      · cases h
      · exact h
    obtain ⟨r, h1, h2⟩ := extract_ok gam E (w := w) hc hg
    exact ⟨r, by simp only [execOp, ho, Sem.run_bind, e, h1, Result.andThen_ok, Sem.run_pure], h2⟩
  · -- call
    rename_i c ho
    split at h
    · rename_i hcal
      have hv := hp.ms.vs
      split at h
      · rename_i x t hvs ht
        rw [hvs, ho] at hv
        obtain ⟨cx, e, hc⟩ := sv1 gam hv
        have e2 : c.args.toList.map a.eval = [cx] := by simpa [opnds, hcal] using e
        have e3 : c.args.map a.eval = #[cx] := by rw [← Array.toList_inj, Array.toList_map]; exact e2
        rw [show atRoot o d N = N by simp [atRoot, ho, moves]]
        have hm : m = m0 := by
          split at h
          · simp only [Option.some.injEq, Prod.mk.injEq] at h; exact h.2.symm
          · exact (just_some h).2
          · exact (just_some h).2
          · cases h
        subst hm
        obtain ⟨r, h1, h2⟩ := len_ok gam E (w := w) (T := o.type) hc ht h
        refine OpGoes.value (c := r) (w' := w) ?_ ⟨g, hp.poor gam E h2⟩
        simp only [execOp, ho, resolve, hcal, Sem.run_bind, Sem.run_pure, Result.andThen_ok, invoke, builtin, e3, h1]
      · cases h
    · rename_i hcal
      split at h
      · rename_i t tx hat
        have := append_ok gam E (a := a) (t := t) (tx := tx) (v := v) (m := m) hp ho hcal hat (by rw [ho]; simp [opnds, hcal]) h
        have hat : atRoot o d N = N := by simp [atRoot, ho, moves]
        rw [hat]; exact this
      · cases h
    · rename_i f hcal
      exact (hq c f ho hcal).elim
    · cases h
  · cases h
end
end Go.Bv
/- A callee's places among its caller's. -/
namespace Go.Bv
open Go

abbrev View := Nat → Option (Nat × Path)

open Classical in
noncomputable def View.inv (φ : View) (r : Nat) (q : Path) : Option (Nat × Path) :=
  if h : ∃ y : Nat × Path, ∃ p, φ y.1 = some (r, p) ∧ q = p ++ y.2 then some h.choose else none

def View.Ok (φ : View) : Prop := ∀ i j a b, φ i = some a → φ j = some b → i ≠ j → Far a.1 a.2 b.1 b.2

theorem inv_some {φ : View} {r : Nat} {q : Path} {j : Nat} {t : Path} (h : φ.inv r q = some (j, t)) : ∃ p, φ j = some (r, p) ∧ q = p ++ t := by
  unfold View.inv at h
  split at h
  · rename_i hh
    have := hh.choose_spec
    simp only [Option.some.injEq] at h
    rw [h] at this
    exact this
  · cases h

theorem inv_at {φ : View} (hφ : φ.Ok) {j r : Nat} {p : Path} (hj : φ j = some (r, p)) (t : Path) : φ.inv r (p ++ t) = some (j, t) := by
  have hex : ∃ y : Nat × Path, ∃ p', φ y.1 = some (r, p') ∧ p ++ t = p' ++ y.2 := ⟨(j, t), p, hj, rfl⟩
  cases hi : φ.inv r (p ++ t) with
  | none => unfold View.inv at hi; rw [dif_pos hex] at hi; cases hi
  | some y =>
    obtain ⟨j', t'⟩ := y
    obtain ⟨p', h1, h2⟩ := inv_some hi
    by_cases e : j = j'
    · subst e
      rw [hj] at h1; cases h1
      have := List.append_cancel_left h2
      rw [this]
    · exfalso
      rcases hφ j j' _ _ hj h1 e with h | ⟨h3, h4⟩
      · exact h rfl
      · simp only at h3 h4
        rcases List.append_eq_append_iff.1 h2 with ⟨a, e1, _⟩ | ⟨a, e1, _⟩
        · exact h3 a e1
        · exact h4 a e1

theorem inv_none {φ : View} {r : Nat} {q : Path} (h : φ.inv r q = none) {j : Nat} {p : Path} (hj : φ j = some (r, p)) (t : Path) : q ≠ p ++ t := by
  intro e
  unfold View.inv at h
  rw [dif_pos ⟨(j, t), p, hj, e⟩] at h
  cases h

/-- A callee's ghost: what it is lent. -/
noncomputable def Gh.restrict (g : Gh) (φ : View) : Gh where
  rho := g.rho
  base j q := match φ j with | some (r, p) => g.base r (p ++ q) | none => none
  lam b k := match g.lam b k with | some (r, q) => φ.inv r q | none => none

/-- The caller's ghost behind a call. What lies beyond the root N is let go. -/
noncomputable def Gh.merge (g g1 : Gh) (φ : View) (N : Nat) : Gh where
  rho := g1.rho
  base r q := if N < r then none else match φ.inv r q with | some (j, t) => g1.base j t | none => g.base r q
  lam b k := match g1.lam b k with
    | some (j, t) => (match φ j with | some (r, p) => some (r, p ++ t) | none => none)
    | none => (match g.lam b k with | some (r, q) => (match φ.inv r q with | some _ => none | none => some (r, q)) | none => none)

theorem restrict_base {g : Gh} {φ : View} {j r : Nat} {p : Path} (hj : φ j = some (r, p)) (q : Path) : (g.restrict φ).base j q = g.base r (p ++ q) := by
  simp only [Gh.restrict, hj]
theorem restrict_lam {g : Gh} {φ : View} (hφ : φ.Ok) {j r : Nat} {p : Path} (hj : φ j = some (r, p)) {b k : Nat} {q : Path} (h : g.lam b k = some (r, p ++ q)) : (g.restrict φ).lam b k = some (j, q) := by
  simp only [Gh.restrict, h]; exact inv_at hφ hj q
theorem restrict_lam_some {g : Gh} {φ : View} {b k : Nat} {j : Nat} {t : Path} (h : (g.restrict φ).lam b k = some (j, t)) : ∃ r p, φ j = some (r, p) ∧ g.lam b k = some (r, p ++ t) := by
  simp only [Gh.restrict] at h
  cases hl : g.lam b k with
  | none => rw [hl] at h; cases h
  | some y =>
    obtain ⟨r, q⟩ := y
    rw [hl] at h
    obtain ⟨p, h1, h2⟩ := inv_some h
    exact ⟨r, p, h1, by rw [h2]⟩
theorem restrict_lam_none {g : Gh} {φ : View} {b k : Nat} (h : (g.restrict φ).lam b k = none) : g.lam b k = none ∨ ∃ r q, g.lam b k = some (r, q) ∧ φ.inv r q = none := by
  simp only [Gh.restrict] at h
  cases hl : g.lam b k with
  | none => exact .inl rfl
  | some y => obtain ⟨r, q⟩ := y; rw [hl] at h; exact .inr ⟨r, q, rfl, h⟩

theorem merge_base_at {g g1 : Gh} {φ : View} {N : Nat} (hφ : φ.Ok) {j r : Nat} {p : Path} (hj : φ j = some (r, p)) (hr : r ≤ N) (q : Path) : (g.merge g1 φ N).base r (p ++ q) = g1.base j q := by
  simp only [Gh.merge, if_neg (Nat.not_lt.2 hr), inv_at hφ hj]
theorem merge_base_other {g g1 : Gh} {φ : View} {N r : Nat} {q : Path} (hr : r ≤ N) (h : φ.inv r q = none) : (g.merge g1 φ N).base r q = g.base r q := by
  simp only [Gh.merge, if_neg (Nat.not_lt.2 hr), h]

section
variable (gam : Nat → Option (Nat × Nat))

theorem Glob.restrict {g : Gh} {w : World} (h : Glob g w) (φ : View) : Glob (g.restrict φ) w where
  cells b k q hq := by
    obtain ⟨j, t⟩ := q
    obtain ⟨r, p, _, h2⟩ := restrict_lam_some hq
    exact h.cells b k _ h2
  sep b k q hq := by
    obtain ⟨j, t⟩ := q
    obtain ⟨r, p, _, h2⟩ := restrict_lam_some hq
    exact h.sep b k _ h2
  ro := h.ro

theorem Ck.label {g g' : Gh} (hr : Grows g.rho g'.rho) {r r2 : Nat} {p p2 : Path} (hb : ∀ B, g.base r p = some B → g'.base r2 p2 = some B) {x : V} {c : Value} (h : Ck gam g r p x c) : Ck gam g' r2 p2 x c := by
  cases x with
  | box cs => obtain ⟨B, h1, h2⟩ := h; exact ⟨B, hb B h1, h2⟩
  | own es cap => obtain ⟨B, h1, h2⟩ := h; exact ⟨B, hb B h1, h2⟩
  | _ => exact ⟨Pv.mono gam hr _ _ h.1, h.2⟩

/-- What floats, told by other words. -/
theorem Float.label {g g' : Gh} {w w' : World} {r r2 : Nat} {p p2 : Path} {v : V} (hg : Grows g.rho g'.rho) (hb : ∀ q B, g.base r (p ++ q) = some B → g'.base r2 (p2 ++ q) = some B) (hl : ∀ b k q, g.lam b k = some (r, p ++ q) → g'.lam b k = some (r2, p2 ++ q))
    (hc : ∀ b k q c, g.lam b k = some (r, p ++ q) → cellAt w b k = some c → cellAt w' b k = some c) (h : Float gam g w r p v) : Float gam g' w' r2 p2 v := by
  intro q u hu ho
  obtain ⟨B, hB, hf, hLab, hk⟩ := h q u hu ho
  refine ⟨B, hb q B hB, hf, fun k hk' => hl _ _ q (hLab k hk'), fun s x hx => ?_⟩
  obtain ⟨c, h1, h2⟩ := hk s x hx
  have hrange := kid_range hx hf ho
  refine ⟨c, ?_, ?_⟩
  · refine hc _ _ q c ?_ h1
    have := hLab _ hrange
    rwa [← Nat.add_assoc] at this
  · refine Ck.label gam hg (fun B' hB' => ?_) h2
    rw [List.append_assoc] at hB' ⊢
    exact hb _ B' hB'

theorem PartOk.label {g g' : Gh} {w w' : World} {r r2 : Nat} {p p2 : Path} {v : V} {c : Value} (hg : Grows g.rho g'.rho) (hb : ∀ q B, g.base r (p ++ q) = some B ↔ g'.base r2 (p2 ++ q) = some B) (hl : ∀ b k q, g.lam b k = some (r, p ++ q) → g'.lam b k = some (r2, p2 ++ q))
    (hc : ∀ b k q c, g.lam b k = some (r, p ++ q) → cellAt w b k = some c → cellAt w' b k = some c) (h : PartOk gam g w r p v c) : PartOk gam g' w' r2 p2 v c :=
  ⟨h.fl.label gam hg (fun q B => (hb q B).1) hl hc, Ck.label gam hg (fun B hB => by have := (hb [] B).1; simp only [List.append_nil] at this; exact this hB) h.ck, h.wf, h.ol, fun t B hB => h.ex t B ((hb t B).2 hB)⟩

theorem PartOk.restrict {g : Gh} {w : World} {φ : View} (hφ : φ.Ok) {j r : Nat} {p : Path} (hj : φ j = some (r, p)) {v : V} {c : Value} (h : PartOk gam g w r p v c) : PartOk gam (g.restrict φ) w j [] v c := by
  refine PartOk.label gam (g := g) (g' := g.restrict φ) (Grows.refl _) (fun q B => ?_) (fun b k q hq => by rw [List.nil_append]; exact restrict_lam hφ hj hq) (fun _ _ _ _ _ h => h) h
  rw [List.nil_append, restrict_base hj]

/-- What a call changes, in the caller's words. -/
theorem Fr.merge {g g1 : Gh} {w w1 : World} {φ : View} (hG : Glob g w) (h : Fr (g.restrict φ) g1 w w1) (N : Nat) : Fr g (g.merge g1 φ N) w w1 where
  grow := h.grow
  os := h.os
  tape := h.tape
  output := h.output
  size := h.size
  lam b k q hb hq := by
    simp only [Gh.merge] at hq
    cases hl : g1.lam b k with
    | some y =>
      obtain ⟨y0, hy⟩ := h.lam b k y hb hl
      obtain ⟨j, t⟩ := y0
      obtain ⟨r, p, _, h2⟩ := restrict_lam_some hy
      exact ⟨_, h2⟩
    | none =>
      rw [hl] at hq
      simp only at hq
      cases hg : g.lam b k with
      | none => rw [hg] at hq; cases hq
      | some y => exact ⟨y, rfl⟩
  rho b k c hb hc := by
    rcases h.rho b k c hb hc with h1 | ⟨q, hq⟩
    · exact .inl h1
    · obtain ⟨j, t⟩ := q
      obtain ⟨r, p, _, h2⟩ := restrict_lam_some hq
      exact .inr ⟨_, h2⟩
  kept b hb := by
    rcases h.kept b hb with h1 | ⟨c, t, f, c', h1, h2, h3, h4⟩
    · exact .inl h1
    · refine .inr ⟨c, t, f, c', h1, h2, h3, fun k hk => h4 k ?_⟩
      simp only [Gh.restrict, hk]

theorem Glob.merge {g g1 : Gh} {w w1 : World} {φ : View} (hG : Glob g w) (hG1 : Glob g1 w1) (h : Fr (g.restrict φ) g1 w w1) (N : Nat) : Glob (g.merge g1 φ N) w1 where
  cells b k q hq := by
    simp only [Gh.merge] at hq
    cases hl : g1.lam b k with
    | some y => exact hG1.cells b k y hl
    | none =>
      rw [hl] at hq
      simp only at hq
      cases hg : g.lam b k with
      | none => rw [hg] at hq; cases hq
      | some y =>
        obtain ⟨r, q0⟩ := y
        rw [hg] at hq
        simp only at hq
        cases hi : φ.inv r q0 with
        | some y => rw [hi] at hq; cases hq
        | none =>
          obtain ⟨c, h1, h2⟩ := hG.cells b k _ hg
          have hb := cell_lt h1
          have hn : (g.restrict φ).lam b k = none := by simp only [Gh.restrict, hg, hi]
          exact ⟨c, by rw [h.cell hb hn]; exact h1, by rw [h.frozen hb]; exact h2⟩
  sep b k q hq := by
    show g1.rho b k = none
    simp only [Gh.merge] at hq
    cases hl : g1.lam b k with
    | some y => exact hG1.sep b k y hl
    | none =>
      rw [hl] at hq
      simp only at hq
      cases hg : g.lam b k with
      | none => rw [hg] at hq; cases hq
      | some y =>
        obtain ⟨r, q0⟩ := y
        rw [hg] at hq
        simp only at hq
        cases hi : φ.inv r q0 with
        | some y => rw [hi] at hq; cases hq
        | none =>
          cases hr : g1.rho b k with
          | none => rfl
          | some c =>
            obtain ⟨c0, h1, _⟩ := hG.cells b k _ hg
            rcases h.rho b k c (cell_lt h1) hr with h2 | ⟨q1, h2⟩
            · have : g.rho b k = some c := h2
              rw [hG.sep b k _ hg] at this; cases this
            · simp only [Gh.restrict, hg, hi] at h2; cases h2
  ro := hG1.ro

theorem merge_lam_at {g g1 : Gh} {φ : View} {N : Nat} {j r : Nat} {p : Path} (hj : φ j = some (r, p)) {b k : Nat} {q : Path} (h : g1.lam b k = some (j, q)) : (g.merge g1 φ N).lam b k = some (r, p ++ q) := by
  simp only [Gh.merge, h, hj]

theorem PartOk.merge {g g1 : Gh} {w1 : World} {φ : View} (hφ : φ.Ok) {N j r : Nat} {p : Path} (hj : φ j = some (r, p)) (hr : r ≤ N) {v : V} {c : Value} {q : Path} (h : PartOk gam g1 w1 j q v c) : PartOk gam (g.merge g1 φ N) w1 r (p ++ q) v c := by
  refine PartOk.label gam (g := g1) (g' := g.merge g1 φ N) (Grows.refl _) (fun t B => ?_) (fun b k t hq => ?_) (fun _ _ _ _ _ h => h) h
  · rw [List.append_assoc, merge_base_at hφ hj hr]
  · rw [List.append_assoc]; exact merge_lam_at hj hq

theorem Float.merge {g g1 : Gh} {w1 : World} {φ : View} (hφ : φ.Ok) {N j r : Nat} {p : Path} (hj : φ j = some (r, p)) (hr : r ≤ N) {v : V} {q : Path} (h : Float gam g1 w1 j q v) : Float gam (g.merge g1 φ N) w1 r (p ++ q) v := by
  refine Float.label gam (g := g1) (g' := g.merge g1 φ N) (Grows.refl _) (fun t B hB => ?_) (fun b k t hq => ?_) (fun _ _ _ _ _ h => h) h
  · rw [List.append_assoc, merge_base_at hφ hj hr]; exact hB
  · rw [List.append_assoc]; exact merge_lam_at hj hq

/-- What the caller keeps while a call goes on. -/
theorem Claims.merge {g g1 : Gh} {w w1 : World} {φ : View} {R : Roots} {N : Nat} (hG : Glob g w) (h : Fr (g.restrict φ) g1 w w1) (hN : ∀ r p, Live R (r, p) → r ≤ N) (hl : ∀ r p, Live R (r, p) → φ.inv r p = none) (hC : Claims gam g w R) : Claims gam (g.merge g1 φ N) w1 R := by
  refine Claims.keep gam (g := g) (g' := g.merge g1 φ N) h.grow (fun r p B hlv hB => by rw [merge_base_other (hN r p hlv) (hl r p hlv)]; exact hB) (fun b k q hlv hq => ?_) (fun b k q c hlv hq hc => ?_) hC
  · obtain ⟨r, p⟩ := q
    simp only [Gh.merge]
    cases hl1 : g1.lam b k with
    | none => simp only [hq, hl r p hlv]
    | some y =>
      obtain ⟨c0, h1, _⟩ := hG.cells b k _ hq
      obtain ⟨y0, hy⟩ := h.lam b k y (cell_lt h1) hl1
      simp only [Gh.restrict, hq, hl r p hlv] at hy; cases hy
  · obtain ⟨r, p⟩ := q
    have hn : (g.restrict φ).lam b k = none := by simp only [Gh.restrict, hq, hl r p hlv]
    rw [h.cell (cell_lt hc) hn]; exact hc

/-- Names that are struck out. -/
def Hit (l : List Step) (r : Nat) (q : Path) : Prop := ∃ p t, Step.drop r p ∈ l ∧ q = p ++ t

open Classical in
noncomputable def Gh.hide (g : Gh) (l : List Step) : Gh where
  rho := g.rho
  base r q := if Hit l r q then none else g.base r q
  lam := g.lam

theorem Sv.drops : ∀ (l : List Step) {g : Gh} {v : V} {c : Value}, (∀ s, s ∈ l → ∃ r p, s = .drop r p) → Sv gam g v c → Sv gam (g.hide l) (sweepV l v) c
  | [], g, v, c, _, h => by
    refine Sv.keep gam (g := g) (g' := g.hide []) (Grows.refl _) (fun r p B hB => ?_) h
    simp only [Gh.hide]
    rw [if_neg]
    · exact hB
    · rintro ⟨_, _, hm, _⟩; cases hm
  | s :: l, g, v, c, hs, h => by
    obtain ⟨r0, p0, rfl⟩ := hs s (by simp)
    have ht : Turns g (g.hide [.drop r0 p0]) (Step.drop r0 p0).act := by
      intro r p r' p' B ha hB
      simp only [Step.act, beq_iff_eq] at ha
      simp only [Gh.hide]
      by_cases hr : r = r0
      · rw [if_pos hr] at ha
        cases hb : behind p0 p with
        | some t => rw [hb] at ha; cases ha
        | none =>
          rw [hb] at ha
          simp only [Option.some.injEq, Prod.mk.injEq] at ha
          obtain ⟨rfl, rfl⟩ := ha
          rw [if_neg]
          · exact hB
          · rintro ⟨p1, t, hm, e⟩
            simp only [List.mem_singleton, Step.drop.injEq] at hm
            rw [hm.2] at e
            exact behind_none hb t e
      · rw [if_neg hr] at ha
        simp only [Option.some.injEq, Prod.mk.injEq] at ha
        obtain ⟨rfl, rfl⟩ := ha
        rw [if_neg]
        · exact hB
        · rintro ⟨p1, t, hm, e⟩
          simp only [List.mem_singleton, Step.drop.injEq] at hm
          exact hr hm.1
    have h1 := Sv.sweep gam ht (Grows.refl _) v c h
    have h2 := Sv.drops l (fun s hs' => hs s (by simp [hs'])) h1
    refine Sv.keep gam (g := (g.hide [.drop r0 p0]).hide l) (g' := g.hide (.drop r0 p0 :: l)) (Grows.refl _) (fun r p B hB => ?_) h2
    simp only [Gh.hide] at hB ⊢
    split at hB
    · cases hB
    · rename_i hn1
      split at hB
      · cases hB
      · rename_i hn2
        rw [if_neg]
        · exact hB
        · rintro ⟨p1, t, hm, e⟩
          rcases List.mem_cons.1 hm with h3 | h3
          · exact hn2 ⟨p1, t, by rw [h3]; simp, e⟩
          · exact hn1 ⟨p1, t, h3, e⟩

mutual
theorem Sv.rootless {g g' : Gh} (hg : Grows g.rho g'.rho) : ∀ (v : V) (c : Value), v.roots = [] → Sv gam g v c → Sv gam g' v c
  | .al r p i j, c, h, _ => by cases h
  | .als r p i j n z, c, h, _ => by cases h
  | .tup vs, c, hn, ⟨cv, e, k⟩ => ⟨cv, e, Svs.rootless hg vs _ hn k⟩
  | .agg vs, c, hn, ⟨cv, e, k⟩ => ⟨cv, e, Svs.rootless hg vs _ hn k⟩
  | .fn f pre caps, c, hn, ⟨p, q, e, k, l⟩ => by
    simp only [V.roots, List.append_eq_nil_iff] at hn
    exact ⟨p, q, e, Svs.rootless hg pre _ hn.1 k, Svs.rootless hg caps _ hn.2 l⟩
  | .any, _, _, e => e
  | .int _ _, _, _, e => e
  | .bool _, _, _, e => e
  | .str _, _, _, e => e
  | .sc _, _, _, e => e
  | .ifc _ _, _, _, e => Pv.mono gam hg _ _ e
  | .ro _, _, _, e => Pv.mono gam hg _ _ e
  | .rop _ _, _, _, e => Pv.mono gam hg _ _ e
  | .gp _ _, _, _, e => e
  | .box _, _, _, e => e
  | .own _ _, _, _, e => e
theorem Svs.rootless {g g' : Gh} (hg : Grows g.rho g'.rho) : ∀ (v : List V) (c : List Value), rootsOf v = [] → Svs gam g v c → Svs gam g' v c
  | [], _, _, e => e
  | x :: xs, _, hn, ⟨c, cs, e, k, l⟩ => by
    simp only [rootsOf, List.append_eq_nil_iff] at hn
    exact ⟨c, cs, e, Sv.rootless hg x _ hn.1 k, Svs.rootless hg xs _ hn.2 l⟩
end
end
end Go.Bv
/- What is passed to a call: slices that are frozen or given away, boxes that are lent. -/
namespace Go.Bv
open Go

section
variable (gam : Nat → Option (Nat × Nat)) (E : Env)

theorem freezesA_ok {R : Roots} {k : Nat} {w : World} {cs : List Value} : ∀ (vs : List V) (cv : List Value) (g : Gh) (m m' : M) (xs : List V), MS gam g w R m cs → onAll frz1 k m vs = some (xs, m') →
    vs.length = cv.length → (∀ (q : Nat) v c, vs[q]? = some v → cv[q]? = some c → Sv gam g (sweepV (m.lg.drop k) v) c) → k ≤ m.lg.length →
    ∃ g', MS gam g' w R m' cs ∧ MT gam g w m g' w m' ∧ xs.length = vs.length ∧ (∀ (q : Nat) x c, xs[q]? = some x → cv[q]? = some c → Pv gam g'.rho x c ∧ plainV x = true) ∧
      (∀ d, Still (over R m.rs) d → Keeps g w g' w d (fun _ => True) ∧ Still (over R m'.rs) d) ∧ (∀ X, Tight g (over R m.rs) X → Tight g' (over R m'.rs) X) ∧ k ≤ m'.lg.length := by
  intro vs
  induction vs with
  | nil =>
    intro cv g m m' xs hS h hl hv hk
    simp only [onAll, Option.some.injEq, Prod.mk.injEq] at h
    obtain ⟨rfl, rfl⟩ := h
    exact ⟨g, hS, MT.refl gam g w m, rfl, fun q x c hx => by simp at hx, fun d hd => ⟨Keeps.refl g w d _, hd⟩, fun _ h => h, hk⟩
  | cons v vs ih =>
    intro cv g m m' xs hS h hl hv hk
    cases cv with
    | nil => simp at hl
    | cons c cv =>
      simp only [onAll] at h
      cases hg : frz1 m (sweepV (m.lg.drop k) v) with
      | none => simp [hg] at h
      | some y =>
        obtain ⟨x, m1⟩ := y
        simp only [hg] at h
        cases hr : onAll frz1 k m1 vs with
        | none => simp [hr] at h
        | some y =>
          obtain ⟨xs1, m2⟩ := y
          simp only [hr, Option.some.injEq, Prod.mk.injEq] at h
          obtain ⟨rfl, rfl⟩ := h
          obtain ⟨g1, hS1, hM1, hP1, hpl1, hK1, hn1, hT1⟩ := keepsA_frz1 gam (g' := g) hS hg (hv 0 v c rfl rfl)
          obtain ⟨l, hlg, hnm⟩ := hM1.nm
          have hk1 : k ≤ m1.lg.length := by rw [hlg, List.length_append]; omega
          have hv1 : ∀ (q : Nat) v c, vs[q]? = some v → cv[q]? = some c → Sv gam g1 (sweepV (m1.lg.drop k) v) c := by
            intro q v c h1 h2
            have := hv (q + 1) v c (by simpa using h1) (by simpa using h2)
            rw [hlg, List.drop_append_of_le_length hk, sweepV_append]
            exact hnm _ _ this
          obtain ⟨g2, hS2, hM2, hlen, hP2, hK2, hT2, hk2⟩ := ih cv g1 m1 m2 xs1 hS1 hr (by simpa using hl) hv1 hk1
          refine ⟨g2, hS2, hM1.trans gam hM2, by simp [hlen], ?_, fun d hd => ?_, fun X hX => hT2 X (hT1 X hX), hk2⟩
          · intro q x' c' hx hc
            cases q with
            | zero =>
              simp only [List.getElem?_cons_zero, Option.some.injEq] at hx hc
              subst hx; subst hc
              exact ⟨Pv.mono gam hM2.fr.grow _ _ hP1, hpl1⟩
            | succ q => exact hP2 q x' c' (by simpa using hx) (by simpa using hc)
          · obtain ⟨k1, s1⟩ := hK1 d hd
            obtain ⟨k2, s2⟩ := hK2 d s1
            exact ⟨(k1.trans k2).weaken (fun _ _ => ⟨trivial, trivial⟩), s2⟩

theorem freezeVA_ok {R : Roots} {m m' : M} {cs : List Value} {g : Gh} {w : World} {v x : V} {c : Value} (hS : MS gam g w R m cs) (h : freezeV frz1 m v = some (x, m')) (hv : Sv gam g v c) :
    ∃ g', MS gam g' w R m' cs ∧ MT gam g w m g' w m' ∧ Pv gam g'.rho x c ∧ x.owner = false ∧ (∀ d, Still (over R m.rs) d → Keeps g w g' w d (fun _ => True) ∧ Still (over R m'.rs) d) ∧ (∀ X, Tight g (over R m.rs) X → Tight g' (over R m'.rs) X) := by
  unfold freezeV at h
  split at h
  · rename_i vs
    cases ha : onAll frz1 m.lg.length m vs with
    | none => simp [ha] at h
    | some y =>
      obtain ⟨xs, m1⟩ := y
      simp only [ha, Option.some.injEq, Prod.mk.injEq] at h
      obtain ⟨rfl, rfl⟩ := h
      obtain ⟨cv, rfl, hvs⟩ := hv
      have hl := Svs.length gam hvs
      obtain ⟨g1, a1, a2, a3, a4, a5, a8, _⟩ := freezesA_ok gam vs cv.toList g m m1 xs hS ha hl.symm
        (by intro q v c h1 h2
            obtain ⟨y', h3, h4⟩ := Svs.get gam hvs h1
            rw [h2] at h3; cases h3
            rw [List.drop_length]; exact h4) (Nat.le_refl _)
      exact ⟨g1, a1, a2, ⟨cv, rfl, Pvs.intro gam (by rw [a3, hl]) fun k x y hx hy => (a4 k x y hx hy).1⟩, rfl, a5, a8⟩
  · obtain ⟨g1, a1, a2, a3, a4, a5, _, a8⟩ := keepsA_frz1 gam (g' := g) hS h hv
    exact ⟨g1, a1, a2, a3, plain_owner a4, a5, a8⟩

/-- Arguments that have been passed: what is given away floats beyond the frame. -/
def Passed (g : Gh) (w : World) (N : Nat) (acc : List V) (cs : List Value) : Prop := ∀ (i : Nat) x c, acc[i]? = some x → cs[i]? = some c →
  (x.owner = true → PartOk gam g w (N + 1 + i) [] x c) ∧ (x.owner = false → Pv gam g.rho x c ∧ ∀ q, g.base (N + 1 + i) q = none)

theorem Passed.keeps {g g' : Gh} {w : World} {N : Nat} {acc : List V} {cs : List Value} (h : Passed gam g w N acc cs) (hg : Grows g.rho g'.rho) (hk : ∀ i, i < acc.length → Keeps g w g' w (N + 1 + i) (fun _ => True)) : Passed gam g' w N acc cs := by
  intro i x c hx hc
  obtain ⟨h1, h2⟩ := h i x c hx hc
  have hi := (List.getElem?_eq_some_iff.1 hx).1
  exact ⟨fun ho => (hk i hi).part gam (fun _ => trivial) (h1 ho), fun ho => ⟨Pv.mono gam hg _ _ (h2 ho).1, fun q => (hk i hi).none q trivial ((h2 ho).2 q)⟩⟩

theorem Passed.snoc {g : Gh} {w : World} {N : Nat} {acc : List V} {cs : List Value} (h : Passed gam g w N acc cs) {x : V} (hx : ∀ c, cs[acc.length]? = some c → (x.owner = true → PartOk gam g w (N + 1 + acc.length) [] x c) ∧ (x.owner = false → Pv gam g.rho x c ∧ ∀ q, g.base (N + 1 + acc.length) q = none)) :
    Passed gam g w N (acc ++ [x]) cs := by
  intro i y c hy hc
  rw [List.getElem?_append] at hy
  split at hy
  · exact h i y c hy hc
  · rename_i hi
    have hi2 : i = acc.length := by
      have := (List.getElem?_eq_some_iff.1 hy).1
      simp at this; omega
    subst hi2
    simp at hy
    subst hy
    exact hx c hc

theorem passSlices_ok {R : Roots} {w : World} {cs : List Value} {N : Nat} {f : FuncId} : ∀ (k : Nat) (acc : List V) (g : Gh) (m : M) (xs : List V) (m' : M), MS gam g w R m cs → (∀ r, N ≤ r → over R m.rs r = none) →
    Tight g (over R m.rs) (fun y _ => N < y ∧ y ≤ N + acc.length) → Passed gam g w N acc cs → passSlices E f k acc.length acc m = some (xs, m') →
    ∃ g', MS gam g' w R m' cs ∧ MT gam g w m g' w m' ∧ xs.length = k + acc.length ∧ Passed gam g' w N xs cs ∧ Tight g' (over R m'.rs) (fun y _ => N < y ∧ y ≤ N + xs.length) := by
  intro k
  induction k with
  | zero =>
    intro acc g m xs m' hS hN hT hP h
    simp only [passSlices, Option.some.injEq, Prod.mk.injEq] at h
    obtain ⟨rfl, rfl⟩ := h
    exact ⟨g, hS, MT.refl gam g w m, by simp, hP, hT⟩
  | succ k ih =>
    intro acc g m xs m' hS hN hT hP h
    simp only [passSlices] at h
    cases hv : m.vs[acc.length]? with
    | none => simp [hv] at h
    | some v =>
      simp only [hv] at h
      obtain ⟨c, hc, hsv⟩ := Svs.get gam hS.vs hv
      have hStill : ∀ i, Still (over R m.rs) (N + 1 + i) := fun i => still_none (hN _ (by omega))
      have hbn : ∀ q, g.base (N + 1 + acc.length) q = none := by
        intro q
        cases hB : g.base (N + 1 + acc.length) q with
        | none => rfl
        | some B =>
          rcases hT _ q B hB with ⟨u, hu, _⟩ | h
          · simp only [rget, hN _ (by omega : N ≤ N + 1 + acc.length)] at hu; cases hu
          · omega
      -- one more, whatever it is
      have go : ∀ (g1 : Gh) (m1 : M) (x : V), MS gam g1 w R m1 cs → MT gam g w m g1 w m1 → Passed gam g1 w N (acc ++ [x]) cs → Tight g1 (over R m1.rs) (fun y _ => N < y ∧ y ≤ N + (acc ++ [x]).length) →
          passSlices E f k (acc ++ [x]).length (acc ++ [x]) m1 = some (xs, m') → ∃ g', MS gam g' w R m' cs ∧ MT gam g w m g' w m' ∧ xs.length = k + 1 + acc.length ∧ Passed gam g' w N xs cs ∧ Tight g' (over R m'.rs) (fun y _ => N < y ∧ y ≤ N + xs.length) := by
        intro g1 m1 x hS1 hM1 hP1 hT1 h1
        obtain ⟨g', a1, a2, a3, a4, a5⟩ := ih (acc ++ [x]) g1 m1 xs m' hS1 (fun r hr => over_ks gam hM1 (hN r hr)) hT1 hP1 h1
        exact ⟨g', a1, hM1.trans gam a2, by rw [a3, List.length_append]; simp; omega, a4, a5⟩
      have wk : ∀ {g1 : Gh} {m1 : M} (x : V), Tight g1 (over R m1.rs) (fun y _ => N < y ∧ y ≤ N + acc.length) → Tight g1 (over R m1.rs) (fun y _ => N < y ∧ y ≤ N + (acc ++ [x]).length) := by
        intro g1 m1 x h
        refine h.weaken fun y _ hy => ⟨hy.1, ?_⟩
        rw [List.length_append]; simp; omega
      have hal : ∀ x, (acc ++ [x]).length = acc.length + 1 := fun x => by simp
      -- what is frozen
      have frozen : ∀ (x : V) (m1 : M), freezeV frz1 m v = some (x, m1) → passSlices E f k (acc.length + 1) (acc ++ [x]) m1 = some (xs, m') →
          ∃ g', MS gam g' w R m' cs ∧ MT gam g w m g' w m' ∧ xs.length = k + 1 + acc.length ∧ Passed gam g' w N xs cs ∧ Tight g' (over R m'.rs) (fun y _ => N < y ∧ y ≤ N + xs.length) := by
        intro x m1 hf h1
        obtain ⟨g1, b1, b2, b3, b4, b5, b6⟩ := freezeVA_ok gam hS hf hsv
        refine go g1 m1 x b1 b2 ?_ (wk x (b6 _ hT)) (by rw [hal]; exact h1)
        refine (hP.keeps gam b2.fr.grow fun i _ => (b5 _ (hStill i)).1).snoc gam fun c' hc' => ⟨fun ho => (by rw [b4] at ho; cases ho), fun _ => ?_⟩
        rw [hc] at hc'; cases hc'
        exact ⟨b3, fun q => (b5 _ (hStill acc.length)).1.none q trivial (hbn q)⟩
      cases v with
      | al r p i j =>
        simp only at h
        refine go g m .any hS (MT.refl gam g w m) ?_ (wk .any hT) (by rw [hal]; exact h)
        exact hP.snoc gam fun c' _ => ⟨fun ho => (by cases ho), fun _ => ⟨trivial, hbn⟩⟩
      | als r p i j n z =>
        simp only at h
        by_cases hgv : E.give f acc.length = true
        · rw [if_pos hgv] at h
          cases ht : takeS m (.als r p i j n z) with
          | none => simp [ht] at h
          | some y =>
            obtain ⟨es, cap, m1⟩ := y
            simp only [ht] at h
            have hNj := hN (N + 1 + acc.length) (by omega)
            have hlkN : ∀ k u, look m.rs (N + 1 + k) ≠ some u := fun k u hu => by
              have := hN (N + 1 + k) (by omega)
              simp only [over, hu] at this; cases this
            have hrN : ∀ k r p, (∃ u, m.get r p = some u) → r ≠ N + 1 + k := by
              rintro k r p ⟨u, hu⟩ rfl
              obtain ⟨t, ht, _⟩ := M.get_look hu
              exact hlkN k t ht
            obtain ⟨g1, hS1, hM1, hFl, hCk, hWf, hEx, r', p', i', n', es0, cap0, m2, hv', hget, hput, hrs, hlg, hvs, hbo, hlam, hrho, _⟩ :=
              takeS_ok gam hS ht hsv (N + 1 + acc.length) [] ⟨fun q => by simpa using hbn q, fun q hq ⟨e1, _⟩ => by
                obtain ⟨y, q⟩ := q
                simp only at e1
                subst e1
                exact hStill _ q hq⟩ (fun r p hu => .inl (hrN _ r p hu))
            cases hv'
            have hrk : ∀ k, r ≠ N + 1 + k := fun k => hrN k r p ⟨_, hget⟩
            have hpart : PartOk gam g1 w (N + 1 + acc.length) [] (.own es cap) c := ⟨hFl, hCk, hWf, .inl rfl, hEx⟩
            have hbs : ∀ k q, k ≠ acc.length → g1.base (N + 1 + k) q = g.base (N + 1 + k) q := by
              intro k q hk
              rw [hbo _ q (fun h => by have := h.1; simp only at this; omega), move_base_other]
              · exact fun h => by have := h.1; simp only at this; omega
              · exact fun h => hrk k h.1.symm
            refine go g1 m1 (.own es cap) hS1 hM1 ?_ ?_ (by rw [hal]; exact h)
            · refine Passed.snoc gam (fun i x c' hx hc' => ?_) fun c' hc' => ⟨fun _ => ?_, fun ho => (by cases ho)⟩
              · have hi : i ≠ acc.length := by have := (List.getElem?_eq_some_iff.1 hx).1; omega
                obtain ⟨p1, p2⟩ := hP i x c' hx hc'
                refine ⟨fun ho => ?_, fun ho => ⟨by rw [hrho]; exact (p2 ho).1, fun q => by rw [hbs i q hi]; exact (p2 ho).2 q⟩⟩
                refine PartOk.label gam (g := g) (g' := g1) hM1.fr.grow (fun q B => by rw [List.nil_append, hbs i q hi]) (fun b k q hq => ?_) (fun _ _ _ _ _ h => h) (p1 ho)
                rw [hlam]
                exact move_lam_other g hq (fun h => hrk i h.1.symm)
              · rw [hc] at hc'; cases hc'
                exact hpart
            · intro x q B' hB'
              by_cases hx : x = N + 1 + acc.length
              · right; rw [hal]; omega
              · rw [hbo x q (fun h => hx h.1)] at hB'
                rw [show over R m1.rs = over R m2.rs by rw [hrs]]
                rcases hT.move (r2 := N + 1 + acc.length) (p2 := []) hput x q B' hB' with h | h | h
                · exact .inl h
                · right; rw [hal]; omega
                · exact (hx h.1).elim
        · rw [if_neg hgv] at h
          cases hf : frz1 m (.als r p i j n z) with
          | none => simp [hf] at h
          | some y =>
            obtain ⟨x, m1⟩ := y
            simp only [hf] at h
            exact frozen x m1 hf h
      | any => cases h
      | sc x0 =>
        simp only at h
        by_cases hgv : E.give f acc.length = true
        · rw [if_pos hgv] at h
          simp only [freeze1] at h
          refine go g m (.sc x0) hS (MT.refl gam g w m) ?_ (wk (.sc x0) hT) (by rw [hal]; exact h)
          refine hP.snoc gam fun c' hc' => ⟨fun ho => (by cases ho), fun _ => ⟨?_, hbn⟩⟩
          rw [hc] at hc'; cases hc'
          exact hsv
        · rw [if_neg hgv] at h
          cases hf : frz1 m (.sc x0) with
          | none => simp [hf] at h
          | some y =>
            obtain ⟨x, m1⟩ := y
            simp only [hf] at h
            exact frozen x m1 hf h
      | _ =>
        all_goals
          simp only at h
          split at h
          · rename_i x m1 hf
            exact frozen x m1 hf h
          · cases h
end
end Go.Bv
/- Boxes that are lent, and that come back. -/
namespace Go.Bv
open Go

theorem far_of {a b : Back} (h : farB a b = true) : Far a.r a.p b.r b.p := by
  simp only [farB, Bool.not_eq_true', Bool.and_eq_false_iff, beq_eq_false_iff_ne, ne_eq, Bool.or_eq_false_iff] at h
  rcases h with h | ⟨h1, h2⟩
  · exact .inl h
  · right
    constructor
    · intro t e; rw [e, behind_append] at h1; cases h1
    · intro t e; rw [e, behind_append] at h2; cases h2

theorem far_symm {r r2 : Nat} {p p2 : Path} (h : Far r p r2 p2) : Far r2 p2 r p := by
  rcases h with h | ⟨h1, h2⟩
  · exact .inl (fun e => h e.symm)
  · exact .inr ⟨h2, h1⟩

theorem allFar_cons {b : Back} {bs : List Back} (h : allFar (b :: bs) = true) : (∀ c, c ∈ bs → Far b.r b.p c.r c.p) ∧ allFar bs = true := by
  simp only [allFar, Bool.and_eq_true, List.all_eq_true] at h
  exact ⟨fun c hc => far_of (h.1 c hc), h.2⟩

/-- What lies far from a change is as it was. -/
theorem put_far {m m' : M} {r : Nat} {p : Path} {x : V} (h : m.put r p x = some m') {r2 : Nat} {p2 : Path} (hf : Far r p r2 p2) : m'.get r2 p2 = m.get r2 p2 := by
  obtain ⟨t, t', h1, h2, e⟩ := M.put_look h
  simp only [M.get, e]
  rw [look_lay h1]
  by_cases hr : r2 = r
  · subst hr
    rw [if_pos rfl, h1]
    simp only
    rcases hf with hf | ⟨hf1, hf2⟩
    · exact (hf rfl).elim
    · rcases lie p p2 with ⟨q, e⟩ | ⟨s, q, e⟩ | ⟨c, s, t0, a, b, e1, e2, hne⟩
      · exact (hf1 q e).elim
      · exact (hf2 _ e).elim
      · subst e1; subst e2
        exact put_get_apart h2 hne
  · rw [if_neg hr]

theorem farAt {r r2 r3 : Nat} {p p2 p3 : Path} (h : Far r p r2 p2) (h3 : At r2 p2 (r3, p3)) (hn : ¬ At r3 p3 (r, p) ∨ True) : ¬ At r p (r3, p3) ∨ ∃ t, r3 = r ∧ p3 = p ++ t := by
  by_cases hat : At r p (r3, p3)
  · obtain ⟨e, t, e2⟩ := hat
    exact .inr ⟨t, e, e2⟩
  · exact .inl hat

/-- No place lies at two places that are far from each other. -/
theorem far_not_both {r r2 y : Nat} {p p2 q : Path} (h : Far r p r2 p2) (h1 : At r p (y, q)) (h2 : At r2 p2 (y, q)) : False := by
  obtain ⟨e1, t1, f1⟩ := h1
  obtain ⟨e2, t2, f2⟩ := h2
  simp only at e1 e2 f1 f2
  rcases h with h | ⟨h3, h4⟩
  · exact h (e1.symm.trans e2)
  · rw [f1] at f2
    rcases List.append_eq_append_iff.1 f2 with ⟨a, e, _⟩ | ⟨a, e, _⟩
    · exact h3 a e
    · exact h4 a e

section
variable (gam : Nat → Option (Nat × Nat))

/-- A hole claims nothing. -/
theorem hole_ok {g : Gh} {w : World} {R : Roots} {m m' : M} {r : Nat} {p : Path} (hC : Claims gam g w (over R m.rs)) (hW : WFR (over R m.rs)) (h : m.put r p .any = some m') :
    Claims gam g w (over R m'.rs) ∧ WFR (over R m'.rs) ∧ m'.n = m.n ∧ m'.vs = m.vs ∧ m'.lg = m.lg ∧ m'.dy = m.dy ∧ (∀ y, (look m'.rs y).isSome = (look m.rs y).isSome) := by
  obtain ⟨t, t', h1, h2, e⟩ := M.put_look h
  have hR' : ∀ y, over R m'.rs y = if y = r then some t' else over R m.rs y := by intro y; rw [e]; exact over_lay h1 y
  refine ⟨?_, hW.over_put h (.inr (.inr any_leaf)) (WFV.leaf any_leaf), by rw [e], by rw [e], by rw [e], by rw [e], ?_⟩
  · refine Claims.put gam hC (over_look h1) h2 hR' (fun q u hu => ?_) (fun q u hu ho s x' hk t0 hp => (hW r t (over_look h1)).mid hu ho hk) (fun q s u B hp hu ho hB => ?_) (Grows.refl _) (fun _ _ _ _ => rfl) (fun _ _ _ h _ _ => h) (fun _ _ _ _ _ _ _ => rfl)
    · cases q with
      | nil => rw [get_nil] at hu; cases hu; intro ho; cases ho
      | cons s q => rw [get_cons, any_leaf] at hu; cases hu
    · obtain ⟨B', hB', hf, hl, hk⟩ := hC r q u (by simp only [rget, over_look h1]; exact hu) ho
      rw [hB] at hB'; cases hB'
      obtain ⟨u0, k, k', h3, h4, _⟩ := put_get_above (q := q) (s := s) (r := []) (by rw [← hp]; exact h2)
      rw [hu] at h3; cases h3
      obtain ⟨c, h5, _⟩ := hk s k h4
      exact ⟨c, h5, trivial, any_leaf⟩
  · intro y
    rw [e]
    show (look (lay t' m.rs r) y).isSome = _
    rw [look_lay h1]
    split
    · rename_i e; rw [e, h1]; rfl
    · rfl

theorem hole_dead {R : Roots} {m m' : M} {r : Nat} {p : Path} (h : m.put r p .any = some m') (y : Nat) (q : Path) (hat : At r p (y, q)) : ¬ Live (over R m'.rs) (y, q) := by
  obtain ⟨e, t, e2⟩ := hat
  simp only at e e2
  subst e; subst e2
  rintro ⟨u, hu, ho⟩
  obtain ⟨t0, h1, h2⟩ := M.get_look (get_any h)
  simp only [rget, over_look h1, get_append, h2] at hu
  cases t with
  | nil => rw [get_nil] at hu; cases hu; cases ho
  | cons s t => rw [get_cons, any_leaf] at hu; cases hu

/-- Which arguments are lent. -/
def lentAt (bs : List Back) (j : Nat) : Option Back := bs.find? fun b => b.j == j

theorem lend_ok {g : Gh} {w : World} {R : Roots} : ∀ (as xs : List V) (j : Nat) (m m' : M) (vs : List V) (bs : List Back), Claims gam g w (over R m.rs) → WFR (over R m.rs) → lendBoxes j as xs m = some (vs, bs, m') → as.length = xs.length →
    Claims gam g w (over R m'.rs) ∧ WFR (over R m'.rs) ∧ m'.n = m.n ∧ m'.vs = m.vs ∧ m'.lg = m.lg ∧ m'.dy = m.dy ∧ (∀ y, (look m'.rs y).isSome = (look m.rs y).isSome) ∧ vs.length = as.length ∧
    (∀ b, b ∈ bs → j ≤ b.j ∧ b.j < j + as.length) ∧
    (∀ y q, Live (over R m'.rs) (y, q) → Live (over R m.rs) (y, q) ∧ ∀ b, b ∈ bs → ¬ At b.r b.p (y, q)) ∧
    (∀ y q, Live (over R m.rs) (y, q) → (∀ b, b ∈ bs → ¬ At b.r b.p (y, q)) → Live (over R m'.rs) (y, q)) ∧
    (∀ i x, vs[i]? = some x → (∃ b, b ∈ bs ∧ b.j = j + i ∧ as[i]? = some (.al b.r b.p 0 0) ∧ (∃ cs, x = .box cs)) ∨ ((∀ b, b ∈ bs → b.j ≠ j + i) ∧ xs[i]? = some x)) ∧
    (∀ b c, b ∈ bs → c ∈ bs → b.j = c.j → b = c) ∧
    (allFar bs = true → ∀ b, b ∈ bs → ∃ x, vs[b.j - j]? = some x ∧ m.get b.r b.p = some x) := by
  intro as
  induction as with
  | nil =>
    intro xs j m m' vs bs hC hW h hl
    simp only [lendBoxes, Option.some.injEq, Prod.mk.injEq] at h
    obtain ⟨rfl, rfl, rfl⟩ := h
    exact ⟨hC, hW, rfl, rfl, rfl, rfl, fun _ => rfl, rfl, fun b hb => (by cases hb), fun y q h => ⟨h, fun b hb => (by cases hb)⟩, fun y q h _ => h, fun i x hx => (by simp at hx), fun b c hb => (by cases hb), fun _ b hb => (by cases hb)⟩
  | cons a as ih =>
    intro xs j m m' vs bs hC hW h hl
    cases xs with
    | nil => simp at hl
    | cons x xs =>
      have skip : (match lendBoxes (j + 1) as xs m with | some (vs, bs, m) => some (x :: vs, bs, m) | none => none) = some (vs, bs, m') →
          Claims gam g w (over R m'.rs) ∧ WFR (over R m'.rs) ∧ m'.n = m.n ∧ m'.vs = m.vs ∧ m'.lg = m.lg ∧ m'.dy = m.dy ∧ (∀ y, (look m'.rs y).isSome = (look m.rs y).isSome) ∧ vs.length = (a :: as).length ∧
          (∀ b, b ∈ bs → j ≤ b.j ∧ b.j < j + (a :: as).length) ∧
          (∀ y q, Live (over R m'.rs) (y, q) → Live (over R m.rs) (y, q) ∧ ∀ b, b ∈ bs → ¬ At b.r b.p (y, q)) ∧
          (∀ y q, Live (over R m.rs) (y, q) → (∀ b, b ∈ bs → ¬ At b.r b.p (y, q)) → Live (over R m'.rs) (y, q)) ∧
          (∀ i y, vs[i]? = some y → (∃ b, b ∈ bs ∧ b.j = j + i ∧ (a :: as)[i]? = some (.al b.r b.p 0 0) ∧ (∃ cs, y = .box cs)) ∨ ((∀ b, b ∈ bs → b.j ≠ j + i) ∧ (x :: xs)[i]? = some y)) ∧
          (∀ b c, b ∈ bs → c ∈ bs → b.j = c.j → b = c) ∧
          (allFar bs = true → ∀ b, b ∈ bs → ∃ x, vs[b.j - j]? = some x ∧ m.get b.r b.p = some x) := by
        intro h
        cases hr : lendBoxes (j + 1) as xs m with
        | none => rw [hr] at h; cases h
        | some y =>
          obtain ⟨vs1, bs1, m1⟩ := y
          rw [hr] at h
          simp only [Option.some.injEq, Prod.mk.injEq] at h
          obtain ⟨rfl, rfl, rfl⟩ := h
          obtain ⟨a1, a2, a3, a4, a5, a6, a7, a8, a9, a10, a11, a12, a14, a13⟩ := ih xs (j + 1) m m1 vs1 bs1 hC hW hr (by simpa using hl)
          refine ⟨a1, a2, a3, a4, a5, a6, a7, by simp [a8], fun b hb => ?_, a10, a11, fun i y hy => ?_, a14, fun hf b hb => ?_⟩
          · have := a9 b hb; simp only [List.length_cons]; omega
          · cases i with
            | zero =>
              right
              simp only [List.getElem?_cons_zero, Option.some.injEq] at hy ⊢
              exact ⟨fun b hb => by have := a9 b hb; omega, hy⟩
            | succ i =>
              simp only [List.getElem?_cons_succ] at hy ⊢
              rcases a12 i y hy with ⟨b, h1, h2, h3, h4⟩ | ⟨h1, h2⟩
              · exact .inl ⟨b, h1, by omega, h3, h4⟩
              · exact .inr ⟨fun b hb => by have := h1 b hb; omega, h2⟩
          · obtain ⟨x', h1, h2⟩ := a13 hf b hb
            have := a9 b hb
            refine ⟨x', ?_, h2⟩
            rw [show b.j - j = (b.j - (j + 1)) + 1 by omega, List.getElem?_cons_succ]
            exact h1
      unfold lendBoxes at h
      split at h
      · rename_i r p
        cases hg : m.get r p with
        | none => rw [hg] at h; cases h
        | some u =>
          rw [hg] at h
          cases u with
          | box cs =>
            simp only at h
            cases hput : m.put r p .any with
            | none => rw [hput] at h; cases h
            | some m1 =>
              rw [hput] at h
              simp only at h
              obtain ⟨b1, b2, b3, b4, b5, b6, b7⟩ := hole_ok gam hC hW hput
              cases hr : lendBoxes (j + 1) as xs m1 with
              | none => rw [hr] at h; cases h
              | some y =>
                obtain ⟨vs1, bs1, m2⟩ := y
                rw [hr] at h
                simp only [Option.some.injEq, Prod.mk.injEq] at h
                obtain ⟨rfl, rfl, rfl⟩ := h
                obtain ⟨a1, a2, a3, a4, a5, a6, a7, a8, a9, a10, a11, a12, a14, a13⟩ := ih xs (j + 1) m1 m2 vs1 bs1 b1 b2 hr (by simpa using hl)
                refine ⟨a1, a2, a3.trans b3, a4.trans b4, a5.trans b5, a6.trans b6, fun y => (a7 y).trans (b7 y), by simp [a8], fun b hb => ?_, fun y q hy => ?_, fun y q hy hn => ?_, fun i y hy => ?_, fun b c hb hc e => ?_, fun hf b hb => ?_⟩
                · simp only [List.length_cons]
                  rcases List.mem_cons.1 hb with e | e
                  · subst e; simp
                  · have := a9 b e; omega
                · obtain ⟨h1, h2⟩ := a10 y q hy
                  refine ⟨live_over hput (by rfl) any_leaf h1, fun b hb => ?_⟩
                  rcases List.mem_cons.1 hb with e | e
                  · subst e
                    exact fun hat => hole_dead hput y q hat h1
                  · exact h2 b e
                · exact a11 y q (live_put hput hy (hn ⟨j, r, p⟩ (by simp))) fun b hb => hn b (by simp [hb])
                · cases i with
                  | zero =>
                    left
                    simp only [List.getElem?_cons_zero, Option.some.injEq] at hy ⊢
                    exact ⟨⟨j, r, p⟩, by simp, rfl, rfl, cs, hy.symm⟩
                  | succ i =>
                    simp only [List.getElem?_cons_succ] at hy ⊢
                    rcases a12 i y hy with ⟨b, h1, h2, h3, h4⟩ | ⟨h1, h2⟩
                    · exact .inl ⟨b, by simp [h1], by omega, h3, h4⟩
                    · refine .inr ⟨fun b hb => ?_, h2⟩
                      rcases List.mem_cons.1 hb with e | e
                      · subst e; simp
                      · have := h1 b e; omega
                · rcases List.mem_cons.1 hb with e1 | e1 <;> rcases List.mem_cons.1 hc with e2 | e2
                  · rw [e1, e2]
                  · have := a9 c e2; rw [e1] at e; simp only at e; omega
                  · have := a9 b e1; rw [e2] at e; simp only at e; omega
                  · exact a14 b c e1 e2 e
                · obtain ⟨hf1, hf2⟩ := allFar_cons hf
                  rcases List.mem_cons.1 hb with e | e
                  · subst e
                    exact ⟨.box cs, by simp, hg⟩
                  · obtain ⟨x', h1, h2⟩ := a13 hf2 b e
                    have := a9 b e
                    refine ⟨x', ?_, ?_⟩
                    · rw [show b.j - j = (b.j - (j + 1)) + 1 by omega, List.getElem?_cons_succ]
                      exact h1
                    · rw [put_far hput (hf1 b e)] at h2
                      exact h2
          | _ => cases h
      · cases h
      · exact skip h

/-- What comes back is laid into the holes. -/
theorem putBack_ok {g : Gh} {w : World} {R : Roots} {outs : List V} : ∀ (bs : List Back) (m m' : M), putBack outs bs m = some m' → Claims gam g w (over R m.rs) → WFR (over R m.rs) → allFar bs = true →
    (∀ b new, b ∈ bs → outs[b.j]? = some (.box new) → Float gam g w b.r b.p (.box new) ∧ WFV (.box new)) →
    (∀ b q s B, b ∈ bs → b.p = q ++ [s] → g.base b.r q = some B → ∃ c, cellAt w B.b (B.o + s.1 * B.z + s.2) = some c ∧ ∀ new, Ck gam g b.r b.p (.box new) c) →
    Claims gam g w (over R m'.rs) ∧ WFR (over R m'.rs) ∧ m'.n = m.n ∧ m'.vs = m.vs ∧ m'.lg = m.lg ∧ m'.dy = m.dy ∧ (∀ y, (look m'.rs y).isSome = (look m.rs y).isSome) ∧
    (∀ y q, Live (over R m.rs) (y, q) → (∀ b, b ∈ bs → ¬ At b.r b.p (y, q)) → Live (over R m'.rs) (y, q)) ∧
    (∀ b new q u, b ∈ bs → outs[b.j]? = some (.box new) → (V.box new).get q = some u → u.owner = true → Live (over R m'.rs) (b.r, b.p ++ q)) ∧ (∀ b, b ∈ bs → ∃ new, outs[b.j]? = some (.box new)) := by
  intro bs
  induction bs with
  | nil =>
    intro m m' h hC hW _ _ _
    simp only [putBack, Option.some.injEq] at h
    subst h
    exact ⟨hC, hW, rfl, rfl, rfl, rfl, fun _ => rfl, fun y q h _ => h, fun b new q u hb => (by cases hb), fun b hb => (by cases hb)⟩
  | cons b bs ih =>
    intro m m' h hC hW hf hfl hpar
    simp only [putBack] at h
    obtain ⟨hf1, hf2⟩ := allFar_cons hf
    split at h
    · rename_i new hout
      cases hput : m.put b.r b.p (.box new) with
      | none => rw [hput] at h; cases h
      | some m1 =>
        rw [hput] at h
        simp only at h
        obtain ⟨hfb, hwb⟩ := hfl b new (by simp) hout
        obtain ⟨t, t', h1, h2, e⟩ := M.put_look hput
        have hR' : ∀ y, over R m1.rs y = if y = b.r then some t' else over R m.rs y := by intro y; rw [e]; exact over_lay h1 y
        have hC1 : Claims gam g w (over R m1.rs) := by
          refine Claims.put gam hC (over_look h1) h2 hR' (fun q u hu => hfb q u hu) (fun q u hu ho s x' hk t0 hp => (hW b.r t (over_look h1)).mid hu ho hk) (fun q s u B hp hu ho hB => ?_) (Grows.refl _) (fun _ _ _ _ => rfl) (fun _ _ _ h _ _ => h) (fun _ _ _ _ _ _ _ => rfl)
          obtain ⟨c, h3, h4⟩ := hpar b q s B (by simp) hp hB
          exact ⟨c, h3, h4 new⟩
        have hW1 : WFR (over R m1.rs) := hW.over_put hput (.inr (.inl rfl)) hwb
        obtain ⟨a1, a2, a3, a4, a5, a6, a7, a8, a9, a10⟩ := ih m1 m' h hC1 hW1 hf2 (fun c new hc => hfl c new (by simp [hc])) (fun c q s B hc => hpar c q s B (by simp [hc]))
        have hks : ∀ y, (look m1.rs y).isSome = (look m.rs y).isSome := by
          intro y
          rw [e]
          show (look (lay t' m.rs b.r) y).isSome = _
          rw [look_lay h1]
          split
          · rename_i e; rw [e, h1]; rfl
          · rfl
        refine ⟨a1, a2, a3.trans (by rw [e]), a4.trans (by rw [e]), a5.trans (by rw [e]), a6.trans (by rw [e]), fun y => (a7 y).trans (hks y), fun y q hy hn => ?_, fun c new' q u hc ho hu huo => ?_, fun c hc => ?_⟩
        · exact a8 y q (live_put hput hy (hn b (by simp))) fun c hc => hn c (by simp [hc])
        · rcases List.mem_cons.1 hc with ec | ec
          · subst ec
            rw [hout] at ho; cases ho
            refine a8 c.r (c.p ++ q) ?_ fun d hd hat => far_not_both (hf1 d hd) ⟨rfl, q, rfl⟩ hat
            refine ⟨u, ?_, huo⟩
            simp only [rget, hR', if_pos]
            rw [put_get_below h2]; exact hu
          · exact a9 c new' q u ec ho hu huo
        · rcases List.mem_cons.1 hc with ec | ec
          · subst ec; exact ⟨new, hout⟩
          · exact a10 c ec
    · cases h
end
end Go.Bv
/- Calls. -/
namespace Go.Bv
open Go

/-- What comes of a call of a function. -/
def CallOk (P : Program) (f : FuncId) (cv : Array Value) (w : World) (Φ : Value → World → Prop) : Prop :=
  ∀ (o : Oper) (a : Act) (next : Act → World → Prop) (Q : Exit → Act → World → Prop), (∀ c w', Φ c w' → next (a.put o.dst c) w') → o.upon P a next Q ((callFunc f cv).run P w)

section
variable (gam : Nat → Option (Nat × Nat)) (E : Env)

structure ArgsOk (g : Gh) (w : World) (vs : List V) (cv : List Value) : Prop where
  len : vs.length = cv.length
  arg : ∀ (j : Nat) v c, vs[j]? = some v → cv[j]? = some c → (v.owner = true → PartOk gam g w j [] v c) ∧ (v.owner = false → Pv gam g.rho v c)
  ti : ∀ j q B, g.base j q = some B → ∃ v u, vs[j]? = some v ∧ v.owner = true ∧ v.get q = some u ∧ u.owner = true
  gl : Glob g w
  gk : GlobOk gam E g

structure OutOk (g : Gh) (w : World) (vs : List V) (g1 : Gh) (w1 : World) (o : Out) (c : Value) : Prop where
  fr : Fr g g1 w w1
  gl : Glob g1 w1
  box : ∀ (j : Nat) cs new, vs[j]? = some (.box cs) → o.outs[j]? = some (.box new) → Float gam g1 w1 j [] (.box new) ∧ WFV (.box new)
  ti : ∀ j q B, g1.base j q = some B → j = vs.length ∨ ∃ out u, o.outs[j]? = some out ∧ out.get q = some u ∧ u.owner = true
  kb : ∀ j q B, g.base j q = some B → Under o.dy j q ∨ g1.base j q = some B
  rs : ResAt gam g1 w1 vs.length o.res c

def FunOk (rec : Fun) : Prop := ∀ (f : FuncId) (vs : List V) (o : Out), rec f vs = some o → ∀ (g : Gh) (w : World) (cv : List Value), ArgsOk gam E g w vs cv →
  CallOk E.P f cv.toArray w fun c w1 => ∃ g1, OutOk gam g w vs g1 w1 o c

mutual
theorem Sv.keepS {g g' : Gh} {S : Nat → Prop} (hg : Grows g.rho g'.rho) (hb : ∀ r p B, S r → g.base r p = some B → g'.base r p = some B) : ∀ (v : V) (c : Value), (∀ r, r ∈ v.roots → S r) → Sv gam g v c → Sv gam g' v c
  | .al r p i j, c, hn, ⟨B, hB, e⟩ => ⟨B, hb _ _ _ (hn r (by simp [V.roots])) hB, e⟩
  | .als r p i j n z, c, hn, ⟨B, k, hB, e⟩ => ⟨B, k, hb _ _ _ (hn r (by simp [V.roots])) hB, e⟩
  | .tup vs, c, hn, ⟨cv, e, k⟩ => ⟨cv, e, Svs.keepS hg hb vs _ (by simpa [V.roots] using hn) k⟩
  | .agg vs, c, hn, ⟨cv, e, k⟩ => ⟨cv, e, Svs.keepS hg hb vs _ (by simpa [V.roots] using hn) k⟩
  | .fn f pre caps, c, hn, ⟨p, q, e, k, l⟩ =>
    ⟨p, q, e, Svs.keepS hg hb pre _ (fun r h => hn r (by simp only [V.roots, List.mem_append]; exact .inl h)) k, Svs.keepS hg hb caps _ (fun r h => hn r (by simp only [V.roots, List.mem_append]; exact .inr h)) l⟩
  | .any, _, _, e => e
  | .int _ _, _, _, e => e
  | .bool _, _, _, e => e
  | .str _, _, _, e => e
  | .sc _, _, _, e => e
  | .ifc _ _, _, _, e => Pv.mono gam hg _ _ e
  | .ro _, _, _, e => Pv.mono gam hg _ _ e
  | .rop _ _, _, _, e => Pv.mono gam hg _ _ e
  | .gp _ _, _, _, e => e
  | .box _, _, _, e => e
  | .own _ _, _, _, e => e
theorem Svs.keepS {g g' : Gh} {S : Nat → Prop} (hg : Grows g.rho g'.rho) (hb : ∀ r p B, S r → g.base r p = some B → g'.base r p = some B) : ∀ (v : List V) (c : List Value), (∀ r, r ∈ rootsOf v → S r) → Svs gam g v c → Svs gam g' v c
  | [], _, _, e => e
  | x :: xs, _, hn, ⟨c, cs, e, k, l⟩ =>
    ⟨c, cs, e, Sv.keepS hg hb x _ (fun r h => hn r (by simp only [rootsOf, List.mem_append]; exact .inl h)) k, Svs.keepS hg hb xs _ (fun r h => hn r (by simp only [rootsOf, List.mem_append]; exact .inr h)) l⟩
end

/-- The callee's places among the caller's. -/
def callView (bs : List Back) (K N : Nat) : View := fun j => match bs.find? (fun b => b.j == j) with
  | some b => some (b.r, b.p)
  | none => if j = K then some (N, []) else if j < K then some (N + 1 + j, []) else none

theorem backPlace_find : ∀ (bs : List Back) (r : Nat) (p : Path), backPlace bs r p = (bs.find? (fun b => b.j == r)).map fun b => (b.r, b.p ++ p)
  | [], _, _ => rfl
  | b :: bs, r, p => by
    simp only [backPlace, List.find?_cons]
    cases h : (b.j == r) with
    | true => rfl
    | false => simpa using backPlace_find bs r p

theorem find_mem {bs : List Back} {b : Back} {j : Nat} (h : bs.find? (fun b => b.j == j) = some b) : b ∈ bs ∧ b.j = j := by
  have h1 := List.mem_of_find?_eq_some h
  have h2 := List.find?_some h
  exact ⟨h1, by simpa using h2⟩

theorem find_uniq {bs : List Back} (hu : ∀ b c, b ∈ bs → c ∈ bs → b.j = c.j → b = c) {b : Back} (hb : b ∈ bs) : bs.find? (fun c => c.j == b.j) = some b := by
  cases h : bs.find? (fun c => c.j == b.j) with
  | none =>
    rw [List.find?_eq_none] at h
    have := h b hb
    simp at this
  | some c =>
    obtain ⟨h1, h2⟩ := find_mem h
    rw [hu c b h1 hb h2]

theorem allFar_far : ∀ {bs : List Back}, allFar bs = true → ∀ b c, b ∈ bs → c ∈ bs → b.j ≠ c.j → Far b.r b.p c.r c.p
  | [], _, b, _, hb, _, _ => by cases hb
  | d :: bs, h, b, c, hb, hc, hne => by
    obtain ⟨h1, h2⟩ := allFar_cons h
    rcases List.mem_cons.1 hb with e1 | e1 <;> rcases List.mem_cons.1 hc with e2 | e2
    · rw [e1, e2] at hne; exact (hne rfl).elim
    · rw [e1]; exact h1 c e2
    · rw [e2]; exact far_symm (h1 b e1)
    · exact allFar_far h2 b c e1 e2 hne

theorem callView_ok {bs : List Back} {K N : Nat} (hf : allFar bs = true) (hr : ∀ b, b ∈ bs → b.r < N) (hj : ∀ b, b ∈ bs → b.j < K) : (callView bs K N).Ok := by
  intro i j a b ha hb hne
  have cases : ∀ k x, callView bs K N k = some x → (∃ b, b ∈ bs ∧ b.j = k ∧ x = (b.r, b.p)) ∨ (N ≤ x.1 ∧ x.1 = (if k = K then N else N + 1 + k) ∧ (k = K ∨ k < K)) := by
    intro k x hx
    unfold callView at hx
    split at hx
    · rename_i b hb
      obtain ⟨h1, h2⟩ := find_mem hb
      cases hx
      exact .inl ⟨b, h1, h2, rfl⟩
    · right
      split at hx
      · rename_i e; cases hx; exact ⟨Nat.le_refl N, by simp [e], .inl e⟩
      · rename_i e
        split at hx
        · rename_i h; cases hx; exact ⟨by show N ≤ N + 1 + k; omega, by simp [e], .inr h⟩
        · cases hx
  rcases cases i a ha with ⟨b1, h1, h2, e1⟩ | ⟨h1, h2, h3⟩ <;> rcases cases j b hb with ⟨b2, h4, h5, e2⟩ | ⟨h4, h5, h6⟩
  · rw [e1, e2]; exact allFar_far hf b1 b2 h1 h4 (by omega)
  · left; rw [e1]; have := hr b1 h1; simp only; omega
  · left; rw [e2]; have := hr b2 h4; simp only; omega
  · left
    rw [h2, h5]
    split <;> split <;> omega

theorem callView_lent {bs : List Back} {K N : Nat} (hu : ∀ b c, b ∈ bs → c ∈ bs → b.j = c.j → b = c) {b : Back} (hb : b ∈ bs) : callView bs K N b.j = some (b.r, b.p) := by
  simp only [callView, find_uniq hu hb]
theorem callView_res {bs : List Back} {K N : Nat} (hj : ∀ b, b ∈ bs → b.j < K) : callView bs K N K = some (N, []) := by
  have : bs.find? (fun b => b.j == K) = none := by
    rw [List.find?_eq_none]
    intro b hb
    have := hj b hb
    simp; omega
  simp [callView, this]
theorem callView_given {bs : List Back} {K N j : Nat} (hb : ∀ b, b ∈ bs → b.j ≠ j) (hj : j < K) : callView bs K N j = some (N + 1 + j, []) := by
  have : bs.find? (fun b => b.j == j) = none := by
    rw [List.find?_eq_none]
    intro b h
    simpa using hb b h
  simp only [callView, this]
  rw [if_neg (by omega), if_pos hj]
theorem callView_small {bs : List Back} {K N j r : Nat} {p : Path} (h : callView bs K N j = some (r, p)) (hr : r < N) : ∃ b, b ∈ bs ∧ b.j = j ∧ r = b.r ∧ p = b.p := by
  unfold callView at h
  split at h
  · rename_i b hb
    obtain ⟨h1, h2⟩ := find_mem hb
    cases h
    exact ⟨b, h1, h2, rfl, rfl⟩
  · split at h
    · cases h; omega
    · split at h
      · cases h; omega
      · cases h

theorem dirt_ok {bs : List Back} : ∀ (ds : List (Nat × Path)) (m : M), (dirt bs ds m).rs = m.rs ∧ (dirt bs ds m).n = m.n ∧ (∀ x, x ∈ m.dy → x ∈ (dirt bs ds m).dy) ∧
    ∃ l, (dirt bs ds m).lg = m.lg ++ l ∧ (∀ s, s ∈ l → ∃ r p, s = .drop r p) ∧ ∀ r p r2 p2, (r, p) ∈ ds → backPlace bs r p = some (r2, p2) → .drop r2 p2 ∈ l ∧ (m.n ≤ r2 → (r2, p2) ∈ (dirt bs ds m).dy)
  | [], m => ⟨rfl, rfl, fun _ h => h, [], by simp [dirt], fun s hs => (by cases hs), fun r p r2 p2 h => (by cases h)⟩
  | (r, p) :: ds, m => by
    simp only [dirt]
    cases hb : backPlace bs r p with
    | none =>
      obtain ⟨a1, a2, a3, l, a4, a5, a6⟩ := dirt_ok ds m
      refine ⟨a1, a2, a3, l, a4, a5, fun r' p' r2 p2 hm hbp => ?_⟩
      rcases List.mem_cons.1 hm with e | e
      · cases e; rw [hb] at hbp; cases hbp
      · exact a6 r' p' r2 p2 e hbp
    | some y =>
      obtain ⟨r2, p2⟩ := y
      obtain ⟨a1, a2, a3, l, a4, a5, a6⟩ := dirt_ok ds ((m.mark r2 p2).step (.drop r2 p2))
      have e1 : ((m.mark r2 p2).step (.drop r2 p2)).rs = m.rs := mark_rs m r2 p2
      have e2 : ((m.mark r2 p2).step (.drop r2 p2)).n = m.n := mark_n m r2 p2
      have e3 : ((m.mark r2 p2).step (.drop r2 p2)).lg = m.lg ++ [.drop r2 p2] := by show (m.mark r2 p2).lg ++ _ = _; rw [mark_lg]
      refine ⟨a1.trans e1, a2.trans e2, fun x hx => a3 x (mark_dy hx), .drop r2 p2 :: l, by simp only; rw [a4, e3]; simp, fun s hs => ?_, fun r' p' r3 p3 hm hbp => ?_⟩
      · rcases List.mem_cons.1 hs with e | e
        · exact ⟨r2, p2, e⟩
        · exact a5 s e
      · rcases List.mem_cons.1 hm with e | e
        · cases e
          rw [hb] at hbp; cases hbp
          exact ⟨by simp, fun hn => a3 _ (mark_mem hn)⟩
        · obtain ⟨h1, h2⟩ := a6 r' p' r3 p3 e hbp
          exact ⟨by simp [h1], fun hn => h2 (by rw [e2]; exact hn)⟩

theorem names_poor (d i : Nat) : ∀ (l : List V) (j : Nat), l.any (·.owner) = false → names d [] i j l = l
  | [], _, _ => rfl
  | x :: l, j, h => by
    simp only [List.any_cons, Bool.or_eq_false_iff] at h
    simp only [names, names_poor d i l (j + 1) h.2]
    congr 1
    cases x <;> first | rfl | cases h.1

/-- Names that a callee hands back, in the caller's words. -/
theorem arrive1_ok {g1 gm : Gh} {bs : List Back} {K N : Nat} (hg : Grows g1.rho gm.rho) (hbp : ∀ r p r2 p2 B, backPlace bs r p = some (r2, p2) → g1.base r p = some B → gm.base r2 p2 = some B) (hres : ∀ q B, g1.base K q = some B → gm.base N q = some B)
    (hNr : ∀ r p r2 p2, backPlace bs r p = some (r2, p2) → r2 < N) {x x' : V} (h : arrive1 bs x = some x') :
    x'.owner = x.owner ∧ (x.owner = true → x' = x) ∧ N ∉ x'.roots ∧ ∀ p c, Sv gam g1 (nameAt K p x) c → Sv gam gm (nameAt N p x') c := by
  have leaf : (match x.roots with | [] => some x | _ => none) = some x' → x'.owner = x.owner ∧ (x.owner = true → x' = x) ∧ N ∉ x'.roots ∧ ∀ p c, Sv gam g1 (nameAt K p x) c → Sv gam gm (nameAt N p x') c := by
    intro h
    split at h
    · rename_i hr
      cases h
      refine ⟨rfl, fun _ => rfl, by rw [hr]; simp, fun p c hc => ?_⟩
      cases x with
      | box cs => obtain ⟨B, hB, e⟩ := hc; exact ⟨B, hres _ _ hB, e⟩
      | own es cap => obtain ⟨B, k, hB, e⟩ := hc; exact ⟨B, k, hres _ _ hB, e⟩
      | _ => exact Sv.rootless gam hg _ _ hr hc
    · cases h
  cases x with
  | al r p i j =>
    simp only [arrive1] at h
    cases hb : backPlace bs r p with
    | none => rw [hb] at h; cases h
    | some y =>
      obtain ⟨r2, p2⟩ := y
      rw [hb] at h
      cases h
      refine ⟨rfl, fun ho => (by cases ho), ?_, fun q c hc => ?_⟩
      · have := hNr _ _ _ _ hb
        simp only [V.roots, List.mem_singleton]; omega
      · obtain ⟨B, hB, e⟩ := hc; exact ⟨B, hbp _ _ _ _ _ hb hB, e⟩
  | als r p i j n z =>
    simp only [arrive1] at h
    cases hb : backPlace bs r p with
    | none => rw [hb] at h; cases h
    | some y =>
      obtain ⟨r2, p2⟩ := y
      rw [hb] at h
      cases h
      refine ⟨rfl, fun ho => (by cases ho), ?_, fun q c hc => ?_⟩
      · have := hNr _ _ _ _ hb
        simp only [V.roots, List.mem_singleton]; omega
      · obtain ⟨B, k, hB, e⟩ := hc; exact ⟨B, k, hbp _ _ _ _ _ hb hB, e⟩
  | _ => exact leaf h

theorem arrives_ok {g1 gm : Gh} {bs : List Back} {K N : Nat} (hg : Grows g1.rho gm.rho) (hbp : ∀ r p r2 p2 B, backPlace bs r p = some (r2, p2) → g1.base r p = some B → gm.base r2 p2 = some B) (hres : ∀ q B, g1.base K q = some B → gm.base N q = some B)
    (hNr : ∀ r p r2 p2, backPlace bs r p = some (r2, p2) → r2 < N) : ∀ (vs vs' : List V) (j : Nat), arrives bs vs = some vs' →
    vs'.any (·.owner) = vs.any (·.owner) ∧ richOnly vs' = richOnly vs ∧ N ∉ rootsOf vs' ∧ ∀ cs, Svs gam g1 (names K [] 0 j vs) cs → Svs gam gm (names N [] 0 j vs') cs
  | [], vs', j, h => by cases h; exact ⟨rfl, rfl, by simp [rootsOf], fun cs h => h⟩
  | x :: vs, vs', j, h => by
    simp only [arrives] at h
    cases h1 : arrive1 bs x with
    | none => rw [h1] at h; cases h
    | some y =>
      cases h2 : arrives bs vs with
      | none => rw [h1, h2] at h; cases h
      | some ys =>
        rw [h1, h2] at h
        cases h
        obtain ⟨a1, a2, a3, a4⟩ := arrive1_ok gam hg hbp hres hNr h1
        obtain ⟨b1, b2, b3, b4⟩ := arrives_ok hg hbp hres hNr vs ys (j + 1) h2
        refine ⟨by simp only [List.any_cons, a1, b1], ?_, ?_, fun cs h => ?_⟩
        · simp only [richOnly, a1, b2]
          congr 1
          split
          · rename_i ho; exact a2 ho
          · rfl
        · simp only [rootsOf, List.mem_append, not_or]; exact ⟨a3, b3⟩
        · obtain ⟨c, cs', e, k, l⟩ := h
          exact ⟨c, cs', e, a4 _ _ k, b4 _ l⟩

theorem arrive_ok {g1 gm : Gh} {w1 : World} {bs : List Back} {K N : Nat} {v v' : V} {c : Value} (hg : Grows g1.rho gm.rho) (hbp : ∀ r p r2 p2 B, backPlace bs r p = some (r2, p2) → g1.base r p = some B → gm.base r2 p2 = some B)
    (hres : ∀ q B, g1.base K q = some B ↔ gm.base N q = some B) (hNr : ∀ r p r2 p2, backPlace bs r p = some (r2, p2) → r2 < N) (hfl : ∀ x, Float gam g1 w1 K [] x → Float gam gm w1 N [] x)
    (h : arrive bs v = some v') (hR : ResAt gam g1 w1 K v c) : ResAt gam gm w1 N v' c := by
  have fin : Sv gam gm (settle N v').1 c → (settle N v').2 = (settle K v).2 → N ∉ v'.roots → ResAt gam gm w1 N v' c := by
    intro h1 h2 h3
    refine ⟨h1, fun x hx => ?_, fun t B hB => ?_, h3⟩
    · rw [h2] at hx
      obtain ⟨f1, f2⟩ := hR.fl x hx
      exact ⟨hfl x f1, f2⟩
    · rw [h2]; exact hR.ex t B ((hres t B).2 hB)
  have hsv := hR.sv
  have one : arrive1 bs v = some v' → (∀ vs, v ≠ .tup vs) → (∀ vs, v ≠ .agg vs) → ResAt gam gm w1 N v' c := by
    intro h hnt hna
    obtain ⟨a1, a2, a3, a4⟩ := arrive1_ok gam hg hbp (fun q B => (hres q B).1) hNr h
    have hn : ∀ K x, (∀ vs, x ≠ V.tup vs) → (∀ vs, x ≠ V.agg vs) → (settle K x).1 = nameAt K [] x := by
      intro K x h1 h2
      cases x with
      | tup vs => exact (h1 vs rfl).elim
      | agg vs => exact (h2 vs rfl).elim
      | _ => rfl
    have hv' : (∀ vs, v' ≠ V.tup vs) ∧ (∀ vs, v' ≠ V.agg vs) := by
      cases v with
      | tup vs => exact (hnt vs rfl).elim
      | agg vs => exact (hna vs rfl).elim
      | al r p i j => simp only [arrive1] at h; split at h <;> cases h; exact ⟨fun _ h => (by cases h), fun _ h => (by cases h)⟩
      | als r p i j n z => simp only [arrive1] at h; split at h <;> cases h; exact ⟨fun _ h => (by cases h), fun _ h => (by cases h)⟩
      | _ => simp only [arrive1] at h; split at h <;> cases h; exact ⟨fun _ h => (by cases h), fun _ h => (by cases h)⟩
    refine fin ?_ ?_ a3
    · rw [hn N v' hv'.1 hv'.2]
      rw [hn K v hnt hna] at hsv
      exact a4 _ _ hsv
    · cases v with
      | tup vs => exact (hnt vs rfl).elim
      | agg vs => exact (hna vs rfl).elim
      | al r p i j => simp only [arrive1] at h; split at h <;> cases h; rfl
      | als r p i j n z => simp only [arrive1] at h; split at h <;> cases h; rfl
      | box cs => rw [a2 rfl]; rfl
      | own es cap => rw [a2 rfl]; rfl
      | _ => simp only [arrive1] at h; split at h <;> cases h; rfl
  cases v with
  | tup vs =>
    simp only [arrive] at h
    cases h1 : arrives bs vs with
    | none => rw [h1] at h; cases h
    | some ys =>
      rw [h1] at h
      cases h
      obtain ⟨b1, b2, b3, b4⟩ := arrives_ok gam hg hbp (fun q B => (hres q B).1) hNr vs ys 0 h1
      by_cases ho : vs.any (·.owner) = true
      · simp only [settle, ho, if_true] at hsv
        obtain ⟨cv, e, k⟩ := hsv
        refine fin ?_ ?_ b3
        · simp only [settle, b1, ho, if_true]; exact ⟨cv, e, b4 _ k⟩
        · simp only [settle, b1, ho, if_true, b2]
      · have ho' : vs.any (·.owner) = false := by simpa using ho
        simp only [settle, ho, if_false] at hsv
        obtain ⟨cv, e, k⟩ := hsv
        rw [← names_poor K 0 vs 0 ho'] at k
        have k2 := b4 _ k
        rw [names_poor N 0 ys 0 (by rw [b1, ho'])] at k2
        refine fin ?_ ?_ b3
        · simp only [settle, b1, ho, if_false]; exact ⟨cv, e, k2⟩
        · simp [settle, b1, ho']
  | agg vs =>
    simp only [arrive] at h
    cases h1 : arrives bs vs with
    | none => rw [h1] at h; cases h
    | some ys =>
      rw [h1] at h
      cases h
      obtain ⟨b1, b2, b3, b4⟩ := arrives_ok gam hg hbp (fun q B => (hres q B).1) hNr vs ys 0 h1
      by_cases ho : vs.any (·.owner) = true
      · simp only [settle, ho, if_true] at hsv
        obtain ⟨cv, e, k⟩ := hsv
        refine fin ?_ ?_ b3
        · simp only [settle, b1, ho, if_true]; exact ⟨cv, e, b4 _ k⟩
        · simp only [settle, b1, ho, if_true, b2]
      · have ho' : vs.any (·.owner) = false := by simpa using ho
        simp only [settle, ho, if_false] at hsv
        obtain ⟨cv, e, k⟩ := hsv
        rw [← names_poor K 0 vs 0 ho'] at k
        have k2 := b4 _ k
        rw [names_poor N 0 ys 0 (by rw [b1, ho'])] at k2
        refine fin ?_ ?_ b3
        · simp only [settle, b1, ho, if_false]; exact ⟨cv, e, k2⟩
        · simp [settle, b1, ho']
  | _ => exact one h (fun _ h => (by cases h)) (fun _ h => (by cases h))

theorem over_isSome {R : Roots} {a b : List (Nat × V)} (h : ∀ y, (look a y).isSome = (look b y).isSome) {N : Nat} (hb : over R b N = none) : over R a N = none := by
  simp only [over] at hb ⊢
  have hk := h N
  cases hl : look a N with
  | some t => rw [hl] at hk; cases hl0 : look b N with
    | none => rw [hl0] at hk; cases hk
    | some t0 => rw [hl0] at hb; cases hb
  | none =>
    cases hl0 : look b N with
    | none => rw [hl0] at hb; exact hb
    | some t0 => rw [hl0] at hb; cases hb

theorem call_ok {rec : Fun} (hrec : FunOk gam E rec) {R : Roots} {m0 m : M} {cs : List Value} {g : Gh} {w : World} {N : Nat} {f : FuncId} {v : V} (hp : OpPre gam E R m0 cs g w N) (hln : E.lends f = false) (hst : ∀ r, N ≤ r → r ∉ stepRoots m.lg)
    (h : callM E rec f m0 = some (v, m)) : CallOk E.P f cs.toArray w fun c w' => ∃ g', OpPost gam R m0 g w N g' w' m v c := by
  unfold callM at h
  rw [hln] at h
  simp only [Bool.false_eq_true, if_false] at h
  split at h
  · rename_i xs m1 hpass
    split at h
    · rename_i vs bs m2 hlend
      split at h
      · rename_i hfar
        cases ho : rec f vs with
        | none => rw [ho] at h; cases h
        | some o =>
          rw [ho] at h
          simp only at h
          split at h
          · cases h
          · rename_i hclean
            cases hpb : putBack o.outs bs m2 with
            | none => rw [hpb] at h; cases h
            | some m3 =>
              rw [hpb] at h
              simp only at h
              cases har : arrive bs o.res with
              | none => rw [har] at h; cases h
              | some v' =>
                rw [har] at h
                simp only [Option.some.injEq, Prod.mk.injEq] at h
                obtain ⟨rfl, rfl⟩ := h
                -- what is passed
                obtain ⟨g1, hS1, hM1, hxl, hP1, hT1⟩ := passSlices_ok gam E (N := N) m0.vs.length [] g m0 xs m1 hp.ms hp.nn (hp.ti.weaken fun _ _ h => h.elim) (fun i x c hx => by simp at hx) hpass
                simp only [List.length_nil, Nat.add_zero] at hxl
                have hcl : cs.length = m0.vs.length := Svs.length gam hp.ms.vs
                have hv1 : m1.vs.length = xs.length := by rw [hxl, ← hcl, Svs.length gam hS1.vs]
                have hnn1 : ∀ r, N ≤ r → over R m1.rs r = none := fun r hr => over_ks gam hM1 (hp.nn r hr)
                obtain ⟨l1, l2, l3, l4, l5, l6, l7, l8, l9, l10, l11, l12, l14, l13⟩ := lend_ok gam (g := g1) (w := w) (R := R) m1.vs xs 0 m1 m2 vs bs hS1.cl hS1.wf hlend hv1
                have l13 := l13 hfar
                have hK : vs.length = m0.vs.length := by rw [l8, hv1, hxl]
                have hbj : ∀ b, b ∈ bs → b.j < vs.length := fun b hb => by have := l9 b hb; rw [l8]; omega
                -- the places that are lent are seen
                have hseen : ∀ b, b ∈ bs → ∃ x t cs0, vs[b.j]? = some x ∧ x = .box cs0 ∧ look m1.rs b.r = some t ∧ t.get b.p = some x ∧ m1.vs[b.j]? = some (.al b.r b.p 0 0) := by
                  intro b hb
                  obtain ⟨x, h1, h2⟩ := l13 b hb
                  rw [Nat.sub_zero] at h1
                  obtain ⟨t, h3, h4⟩ := M.get_look h2
                  rcases l12 b.j x h1 with ⟨b', h5, h6, h7, cs0, h8⟩ | ⟨h5, _⟩
                  · have : b' = b := l14 b' b h5 hb (by omega)
                    subst this
                    exact ⟨x, t, cs0, h1, h8, h3, h4, h7⟩
                  · exact (h5 b hb (by omega)).elim
                have hbr : ∀ b, b ∈ bs → b.r < N := by
                  intro b hb
                  obtain ⟨_, t, _, _, _, h3, _⟩ := hseen b hb
                  rcases Nat.lt_or_ge b.r N with h | h
                  · exact h
                  · have := hnn1 b.r h
                    rw [over_look h3] at this; cases this
                let φ := callView bs vs.length N
                have hφ : φ.Ok := callView_ok hfar hbr hbj
                have hφl : ∀ b, b ∈ bs → φ b.j = some (b.r, b.p) := fun b hb => callView_lent l14 hb
                have hφr : φ vs.length = some (N, []) := callView_res hbj
                have hlive1 : ∀ y q, Live (over R m1.rs) (y, q) → y < N := by
                  rintro y q ⟨u, hu, _⟩
                  rcases Nat.lt_or_ge y N with h | h
                  · exact h
                  · simp only [rget, hnn1 y h] at hu; cases hu
                -- a lent box, as it was
                have hlent : ∀ b, b ∈ bs → ∃ cs0 c, vs[b.j]? = some (.box cs0) ∧ cs[b.j]? = some c ∧ PartOk gam g1 w b.r b.p (.box cs0) c := by
                  intro b hb
                  obtain ⟨x, t, cs0, h1, h2, h3, h4, h5⟩ := hseen b hb
                  subst h2
                  obtain ⟨c, h6, B, hB, hc⟩ := Svs.get gam hS1.vs h5
                  refine ⟨cs0, c, h1, h6, fun q u hu => ?_, ⟨B, hB, by rw [hc]; simp⟩, (hS1.wf b.r t (over_look h3)).sub h4, .inl rfl, fun q B' hB' => ?_⟩
                  · exact hS1.cl b.r (b.p ++ q) u (by simp only [rget, over_look h3]; rw [get_append, h4]; exact hu)
                  · rcases hT1 _ _ _ hB' with ⟨u, hu, huo⟩ | hh
                    · simp only [rget, over_look h3, get_append, h4] at hu
                      exact ⟨u, hu, huo⟩
                    · have := hbr b hb; omega
                have hargs : ArgsOk gam E (g1.restrict φ) w vs cs := by
                  refine ⟨by rw [hK, hcl], fun j v c hv hc => ?_, fun j q B hB => ?_, hS1.gl.restrict φ, hp.gk.mono gam E hM1.fr.grow⟩
                  · rcases l12 j v hv with ⟨b, h1, h2, h3, cs0, h4⟩ | ⟨h1, h2⟩
                    · have h2 : b.j = j := by omega
                      subst h2
                      obtain ⟨cs1, c1, h5, h6, h7⟩ := hlent b h1
                      rw [hv] at h5
                      simp only [Option.some.injEq] at h5
                      rw [hc] at h6; cases h6
                      subst h5
                      exact ⟨fun _ => h7.restrict gam hφ (hφl b h1), fun ho => (by cases ho)⟩
                    · have hj : j < vs.length := (List.getElem?_eq_some_iff.1 hv).1
                      have hφj : φ j = some (N + 1 + j, []) := callView_given (fun b hb e => h1 b hb (by omega)) hj
                      obtain ⟨p1, p2⟩ := hP1 j v c h2 hc
                      exact ⟨fun ho => (p1 ho).restrict gam hφ hφj, fun ho => (p2 ho).1⟩
                  · -- what has a base lives in an argument
                    simp only [Gh.restrict] at hB
                    cases hj : φ j with
                    | none => rw [hj] at hB; cases hB
                    | some y =>
                      obtain ⟨r, p⟩ := y
                      rw [hj] at hB
                      simp only at hB
                      by_cases hr : r < N
                      · obtain ⟨b, h1, h2, h3, h4⟩ := callView_small hj hr
                        subst h2; subst h3; subst h4
                        obtain ⟨cs1, c1, h5, h6, h7⟩ := hlent b h1
                        obtain ⟨u, hu, huo⟩ := h7.ex q B hB
                        exact ⟨_, u, h5, rfl, hu, huo⟩
                      · -- given away
                        have hcase : (j = vs.length ∧ r = N ∧ p = []) ∨ ((∀ b, b ∈ bs → b.j ≠ j) ∧ j < vs.length ∧ r = N + 1 + j ∧ p = []) := by
                          have hj' := hj
                          simp only [φ, callView] at hj'
                          split at hj'
                          · rename_i b hb
                            obtain ⟨h1, _⟩ := find_mem hb
                            cases hj'
                            exact (hr (hbr b h1)).elim
                          · rename_i hnone
                            split at hj'
                            · rename_i e; cases hj'; exact .inl ⟨e, rfl, rfl⟩
                            · split at hj'
                              · rename_i e; cases hj'
                                refine .inr ⟨fun b hb e2 => ?_, e, rfl, rfl⟩
                                rw [List.find?_eq_none] at hnone
                                have := hnone b hb
                                simp [e2] at this
                              · cases hj'
                        rcases hcase with ⟨_, h1, h2⟩ | ⟨h1, h2, h3, h4⟩
                        · subst h1; subst h2
                          rcases hT1 _ _ _ hB with hl | hh
                          · have := hlive1 _ _ hl; omega
                          · omega
                        · subst h3; subst h4
                          simp only [List.nil_append] at hB
                          have hv := List.getElem?_eq_getElem h2
                          rcases l12 j _ hv with ⟨b, h5, h6, _⟩ | ⟨_, h5⟩
                          · exact (h1 b h5 (by omega)).elim
                          · have hjc : j < cs.length := by omega
                            obtain ⟨p1, p2⟩ := hP1 j _ cs[j] h5 (List.getElem?_eq_getElem hjc)
                            cases hvo : vs[j].owner with
                            | false => rw [(p2 hvo).2 q] at hB; cases hB
                            | true =>
                              obtain ⟨u, hu, huo⟩ := (p1 hvo).ex q B (by simpa using hB)
                              exact ⟨_, u, hv, hvo, hu, huo⟩
                -- the call itself
                have hcall := hrec f vs o ho (g1.restrict φ) w cs hargs
                intro op a next Q hnext
                refine hcall op a next Q fun c w1 ⟨gR, hO⟩ => hnext c w1 ?_
                let gm := g1.merge gR φ N
                have hinv : ∀ y q, Live (over R m2.rs) (y, q) → φ.inv y q = none := by
                  intro y q hl
                  cases hi : φ.inv y q with
                  | none => rfl
                  | some x =>
                    obtain ⟨j, t⟩ := x
                    obtain ⟨p, h1, h2⟩ := inv_some hi
                    obtain ⟨h3, h4⟩ := l10 y q hl
                    obtain ⟨b, h5, h6, h7, h8⟩ := callView_small h1 (hlive1 y q h3)
                    exact (h4 b h5 ⟨h7, t, by rw [h2, h8]⟩).elim
                have hC2 : Claims gam gm w1 (over R m2.rs) := Claims.merge gam hS1.gl hO.fr (fun r p hl => Nat.le_of_lt (hlive1 r p (l10 r p hl).1)) hinv l1
                have hstrict : ∀ b, b ∈ bs → ∀ B, g1.base b.r b.p = some B → gm.base b.r b.p = some B := by
                  intro b hb B hB
                  have h1 := merge_base_at (g := g1) (g1 := gR) (N := N) hφ (hφl b hb) (Nat.le_of_lt (hbr b hb)) []
                  rw [List.append_nil] at h1
                  show (g1.merge gR φ N).base b.r b.p = some B
                  rw [h1]
                  rcases hO.kb b.j [] B (by rw [restrict_base (hφl b hb), List.append_nil]; exact hB) with ⟨q, t, hm, e⟩ | h2
                  · exfalso
                    have hq : q = [] := by
                      have := congrArg List.length e
                      simp only [List.length_nil, List.length_append] at this
                      exact List.eq_nil_of_length_eq_zero (by omega)
                    subst hq
                    simp only [Bool.not_eq_true', Bool.not_eq_false] at hclean
                    have h3 := List.all_eq_true.1 hclean _ hm
                    simp only [List.isEmpty_nil, Bool.true_and, Bool.not_eq_true'] at h3
                    rw [List.any_eq_false] at h3
                    exact h3 b hb (by simp)
                  · exact h2
                obtain ⟨q1, q2, q3, q4, q5, q6, q7, q8, q9, q10⟩ := putBack_ok gam (g := gm) (w := w1) bs m2 m3 hpb hC2 l2 hfar
                  (fun b new hb hout => by
                    obtain ⟨cs0, c0, h1, _, _⟩ := hlent b hb
                    obtain ⟨h2, h3⟩ := hO.box b.j cs0 new h1 hout
                    have := Float.merge gam (g := g1) (N := N) hφ (hφl b hb) (Nat.le_of_lt (hbr b hb)) h2
                    rw [List.append_nil] at this
                    exact ⟨this, h3⟩)
                  (fun b q s B hb hp' hB => by
                    have hni : φ.inv b.r q = none := by
                      cases hi : φ.inv b.r q with
                      | none => rfl
                      | some x =>
                        exfalso
                        obtain ⟨j, t⟩ := x
                        obtain ⟨p', h1, h2⟩ := inv_some hi
                        obtain ⟨b', h5, h6, h7, h8⟩ := callView_small h1 (hbr b hb)
                        by_cases he : b'.j = b.j
                        · have := l14 b' b h5 hb he
                          subst this
                          have h9 := congrArg List.length hp'
                          rw [h2, h8] at h9
                          simp at h9
                        · exact far_not_both (allFar_far hfar b' b h5 hb he) (y := b.r) (q := b.p) ⟨h7, t ++ [s], by rw [hp', h2, h8, List.append_assoc]⟩ ⟨rfl, [], by simp⟩
                    have hB1 : g1.base b.r q = some B := by
                      have h1 := merge_base_other (g := g1) (g1 := gR) (φ := φ) (N := N) (Nat.le_of_lt (hbr b hb)) hni
                      rw [← h1]; exact hB
                    obtain ⟨x, t, cs0, h1, h2, h3, h4, h5⟩ := hseen b hb
                    subst h2
                    rcases hT1 _ _ _ hB1 with ⟨u, hu, huo⟩ | hh
                    · simp only [rget, over_look h3] at hu
                      obtain ⟨B', hB', hf', hLab, hk⟩ := hS1.cl b.r q u (by simp only [rget, over_look h3]; exact hu) huo
                      rw [hB1] at hB'; cases hB'
                      rw [hp', get_append, hu] at h4
                      simp only [get_cons] at h4
                      cases hks : u.kid s with
                      | none => simp [hks] at h4
                      | some y =>
                        rw [hks] at h4
                        simp only [get_nil, Option.some.injEq] at h4
                        subst h4
                        obtain ⟨c0, h6, B2, h7, h8⟩ := hk s _ hks
                        have hrg := kid_range hks hf' huo
                        have hlam := hLab _ hrg
                        rw [← Nat.add_assoc] at hlam
                        refine ⟨c0, ?_, fun new => ⟨B2, hstrict b hb B2 (by rw [hp']; exact h7), h8⟩⟩
                        rw [hO.fr.cell (cell_lt h6) (by simp only [Gh.restrict, hlam]; exact hni)]
                        exact h6
                    · have := hbr b hb; omega)
                obtain ⟨d1, d2, d3, ld, d4, d5, d6⟩ := dirt_ok (bs := bs) o.dy m3
                have hov : over R (dirt bs o.dy m3).rs = over R m3.rs := by rw [d1]
                have hkall : ∀ y, (look (dirt bs o.dy m3).rs y).isSome = (look m0.rs y).isSome := fun y => by rw [d1]; exact (q7 y).trans ((l7 y).trans (hM1.ks y))
                -- what becomes of bases
                have hA : ∀ r p B, r < N → g1.base r p = some B → (∃ j q0 p0 t, (j, q0) ∈ o.dy ∧ backPlace bs j q0 = some (r, p0) ∧ p = p0 ++ t) ∨ gm.base r p = some B := by
                  intro r p B hr hB
                  cases hi : φ.inv r p with
                  | none => right; show (g1.merge gR φ N).base r p = _; rw [merge_base_other (Nat.le_of_lt hr) hi]; exact hB
                  | some x =>
                    obtain ⟨j, t⟩ := x
                    obtain ⟨p1, h1, h2⟩ := inv_some hi
                    obtain ⟨b, h5, h6, h7, h8⟩ := callView_small h1 hr
                    subst h2
                    rcases hO.kb j t B (by rw [restrict_base h1]; exact hB) with ⟨q0, t', hm, e⟩ | h3
                    · left
                      refine ⟨j, q0, b.p ++ q0, t', hm, ?_, ?_⟩
                      · rw [backPlace_find, ← h6, find_uniq l14 h5, h7]; rfl
                      · rw [e, h8, List.append_assoc]
                    · right
                      show (g1.merge gR φ N).base r (p1 ++ t) = _
                      rw [merge_base_at hφ h1 (Nat.le_of_lt hr)]; exact h3
                obtain ⟨l1', hlg1, hnm1⟩ := hM1.nm
                have hlgm : (dirt bs o.dy m3).lg = m0.lg ++ (l1' ++ ld) := by rw [d4, q5, l5, hlg1, List.append_assoc]
                refine ⟨gm, ⟨⟨rfl, ?_, ?_, hS1.gl.merge hO.gl hO.fr N⟩, ⟨hM1.fr.trans (Fr.merge hS1.gl hO.fr N), ⟨l1' ++ ld, hlgm, fun x y hxy => ?_⟩, ?_, hkall, fun x hx => ?_, fun r p B hr hB => ?_⟩, ?_, ?_, ?_⟩⟩
                · show Claims gam gm w1 (over R (dirt bs o.dy m3).rs)
                  rw [hov]; exact q1
                · show WFR (over R (dirt bs o.dy m3).rs)
                  rw [hov]; exact q2
                · rw [sweepV_append]
                  have h1 := Sv.drops gam ld d5 (hnm1 x y hxy)
                  refine Sv.keepS gam (g := g1.hide ld) (g' := gm) (S := fun r => r < N) hO.fr.grow (fun r p B hr hB => ?_) _ _ (fun r hr => ?_) h1
                  · simp only [Gh.hide] at hB
                    split at hB
                    · cases hB
                    · rename_i hn
                      rcases hA r p B hr hB with ⟨j, q0, p0, t, h2, h3, h4⟩ | h2
                      · exact (hn ⟨p0, t, (d6 j q0 r p0 h2 h3).1, h4⟩).elim
                      · exact h2
                  · rcases Nat.lt_or_ge r N with h | h
                    · exact h
                    · exfalso
                      rw [← sweepV_append] at hr
                      refine roots_sweepV (N := r) (l1' ++ ld) x ?_ (Sv.noRoot gam (hp.noBase gam E h) x y hxy) hr
                      have := hst r h
                      rw [hlgm, hp.lg, List.nil_append] at this
                      exact this
                · rw [d2, q3, l3, hM1.n]
                · exact d3 _ (by rw [q6, l6]; exact hM1.dy x hx)
                · have hrN : r < N := by
                    rcases Nat.lt_or_ge r N with h | h
                    · exact h
                    · rw [hp.noBase gam E h] at hB; cases hB
                  rcases hM1.kb r p B hr hB with ⟨q, t, hm, e⟩ | h1
                  · exact .inl ⟨q, t, d3 _ (by rw [q6, l6]; exact hm), e⟩
                  · rcases hA r p B hrN h1 with ⟨j, q0, p0, t, h2, h3, h4⟩ | h2
                    · exact .inl ⟨p0, t, (d6 j q0 r p0 h2 h3).2 (by rw [q3, l3, hM1.n]; exact hr), h4⟩
                    · exact .inr h2
                · have hback : ∀ r p r2 p2, backPlace bs r p = some (r2, p2) → ∃ b, b ∈ bs ∧ b.j = r ∧ r2 = b.r ∧ p2 = b.p ++ p := by
                    intro r p r2 p2 hb
                    rw [backPlace_find] at hb
                    cases hf : bs.find? (fun b => b.j == r) with
                    | none => rw [hf] at hb; cases hb
                    | some b =>
                      rw [hf] at hb
                      simp only [Option.map_some, Option.some.injEq, Prod.mk.injEq] at hb
                      obtain ⟨h1, h2⟩ := find_mem hf
                      exact ⟨b, h1, h2, hb.1.symm, hb.2.symm⟩
                  refine arrive_ok gam (g1 := gR) (gm := gm) (bs := bs) (Grows.refl _) (fun r p r2 p2 B hb hB => ?_) (fun q B => ?_) (fun r p r2 p2 hb => ?_) (fun x hx => ?_) har hO.rs
                  · obtain ⟨b, h1, h2, h3, h4⟩ := hback r p r2 p2 hb
                    subst h2; subst h3; subst h4
                    show (g1.merge gR φ N).base b.r (b.p ++ p) = _
                    rw [merge_base_at hφ (hφl b h1) (Nat.le_of_lt (hbr b h1))]; exact hB
                  · have := merge_base_at (g := g1) (g1 := gR) (N := N) hφ hφr (Nat.le_refl N) q
                    rw [List.nil_append] at this
                    show _ ↔ (g1.merge gR φ N).base N q = _
                    rw [this]
                  · obtain ⟨b, h1, h2, h3, h4⟩ := hback r p r2 p2 hb
                    rw [h3]; exact hbr b h1
                  · have := Float.merge gam (g := g1) (N := N) hφ hφr (Nat.le_refl N) hx
                    rw [List.nil_append] at this
                    exact this
                · rw [hov]
                  intro y q B hB
                  by_cases hyN : y = N
                  · exact .inr hyN
                  · left
                    have hyle : y < N := by
                      rcases Nat.lt_or_ge N y with h | h
                      · exfalso
                        have hB' : (g1.merge gR φ N).base y q = some B := hB
                        simp only [Gh.merge, if_pos h] at hB'
                        cases hB'
                      · omega
                    cases hi : φ.inv y q with
                    | none =>
                      have hB' : (g1.merge gR φ N).base y q = some B := hB
                      rw [merge_base_other (Nat.le_of_lt hyle) hi] at hB'
                      rcases hT1 y q B hB' with hl | hh
                      · have hna : ∀ b, b ∈ bs → ¬ At b.r b.p (y, q) := by
                          rintro b hb ⟨e1, t, e2⟩
                          simp only at e1 e2
                          refine inv_none hi (j := b.j) (p := b.p) ?_ t e2
                          rw [e1]; exact hφl b hb
                        exact q8 y q (l11 y q hl hna) hna
                      · omega
                    | some x =>
                      obtain ⟨j, t⟩ := x
                      obtain ⟨p1, h1, h2⟩ := inv_some hi
                      obtain ⟨b, h5, h6, h7, h8⟩ := callView_small h1 hyle
                      subst h2
                      have hB' : (g1.merge gR φ N).base y (p1 ++ t) = some B := hB
                      rw [merge_base_at hφ h1 (Nat.le_of_lt hyle)] at hB'
                      rcases hO.ti j t B hB' with h9 | ⟨out, u, h10, h11, h12⟩
                      · have := hbj b h5; omega
                      · obtain ⟨new, hnew⟩ := q10 b h5
                        rw [h6] at hnew
                        rw [hnew] at h10; cases h10
                        have := q9 b new t u h5 (by rw [h6]; exact hnew) h11 h12
                        rw [h7, h8]; exact this
                · exact still_none (over_isSome hkall (hp.nn N (Nat.le_refl N)))
      · cases h
    · cases h
  · cases h
end
end Go.Bv
/- Calls that only look at what they are lent; operations that are calls. -/
namespace Go.Bv
open Go

section
variable (gam : Nat → Option (Nat × Nat)) (E : Env)

/-- What a callee sees that only looks. -/
def Gh.looks (g : Gh) (w : World) : Gh where
  rho b k := match g.rho b k with | some c => some c | none => if (g.lam b k).isSome then cellAt w b k else none
  base _ _ := none
  lam _ _ := none

/-- Behind such a call. -/
def Gh.looked (g g1 : Gh) : Gh where
  rho b k := if (g.lam b k).isSome then none else g1.rho b k
  base := g.base
  lam := g.lam

theorem looks_grows (g : Gh) (w : World) : Grows g.rho (g.looks w).rho := fun b k c h => by simp [Gh.looks, h]

theorem lendArgs_ok {g : Gh} {w : World} {R : Roots} {m : M} (hC : Claims gam g w (over R m.rs)) (hG : Glob g w) : ∀ (vs xs : List V) (cs : List Value), Svs gam g vs cs → lendArgs m vs = some xs →
    xs.length = cs.length ∧ ∀ (j : Nat) x c, xs[j]? = some x → cs[j]? = some c → x.owner = false ∧ Pv gam (g.looks w).rho x c
  | [], xs, cs, hs, h => by
    simp only [lendArgs, Option.some.injEq] at h
    subst h
    have : cs = [] := hs
    subst this
    exact ⟨rfl, fun j x c hx => by simp at hx⟩
  | v :: vs, xs, cs, ⟨c, cs', e, hv, hs⟩, h => by
    subst e
    simp only [lendArgs] at h
    cases hr : lendArgs m vs with
    | none => rw [hr] at h; cases h
    | some ys =>
      rw [hr] at h
      simp only at h
      obtain ⟨i1, i2⟩ := lendArgs_ok hC hG vs ys cs' hs hr
      have fin : ∀ x, x.owner = false → Pv gam (g.looks w).rho x c → some (x :: ys) = some xs → xs.length = (c :: cs').length ∧ ∀ (j : Nat) x c1, xs[j]? = some x → (c :: cs')[j]? = some c1 → x.owner = false ∧ Pv gam (g.looks w).rho x c1 := by
        intro x h1 h2 h3
        simp only [Option.some.injEq] at h3
        subst h3
        refine ⟨by simp [i1], fun j y c1 hy hc => ?_⟩
        cases j with
        | zero => simp only [List.getElem?_cons_zero, Option.some.injEq] at hy hc; subst hy; subst hc; exact ⟨h1, h2⟩
        | succ j => exact i2 j y c1 (by simpa using hy) (by simpa using hc)
      split at h
      · rename_i r p i n z
        split at h
        · rename_i es cap hget
          split at h
          · cases h
          · rename_i hcond
            simp only [Bool.or_eq_true, not_or, Bool.not_eq_true, decide_eq_false_iff_not] at hcond
            obtain ⟨hno, hlen⟩ := hcond
            obtain ⟨B, k, hB, hc, hnk, _⟩ := hv
            obtain ⟨t, h1, h2⟩ := M.get_look hget
            obtain ⟨B', hB', hf, hLab, hk⟩ := hC r p (.own es cap) (by simp only [rget, over_look h1]; exact h2) rfl
            rw [hB] at hB'; cases hB'
            have hl : ((es.drop i).take n).length = n := by simp; omega
            refine fin (.ro ((es.drop i).take n)) rfl ⟨some ⟨B.b, B.o + i * B.z, none⟩, B.b, B.o + i * B.z, B.z, k, by rw [hc, hl]; simp [slc], by rw [hl]; exact hnk, .inr rfl, ?_⟩ h
            refine RoEs.intro gam (fun e he => hf.2.2 e (List.mem_of_mem_drop (List.mem_of_mem_take he))) fun a e b x he hx => ?_
            rw [List.getElem?_take] at he
            split at he
            · rw [List.getElem?_drop] at he
              have hkid : (V.own es cap).kid (i + a, b) = some x := by simp [V.kid, he, hx]
              obtain ⟨c1, h3, h4⟩ := hk (i + a, b) x hkid
              have hxo : x.owner = false := by
                cases ho : x.owner with
                | false => rfl
                | true =>
                  have : (es.any fun e => e.any fun x => x.owner) = true := List.any_eq_true.2 ⟨e, List.mem_of_getElem? he, List.any_eq_true.2 ⟨x, List.mem_of_getElem? hx, ho⟩⟩
                  rw [this] at hno; cases hno
              have hpv : Pv gam g.rho x c1 ∧ Leaf x := by cases x <;> first | exact h4 | cases hxo
              have hlam := hLab _ (kid_range hkid hf rfl)
              have haddr : B.o + i * B.z + a * B.z + b = B.o + (i + a) * B.z + b := by rw [Nat.add_mul]; omega
              refine ⟨c1, ?_, Pv.mono gam (looks_grows g w) _ _ hpv.1, hpv.2⟩
              rw [haddr]
              simp only at h3 hlam
              rw [← Nat.add_assoc] at hlam
              simp only [Gh.looks, hG.sep _ _ _ hlam, hlam, Option.isSome_some, if_true]
              exact h3
            · cases he
        · cases h
      · rename_i k n; exact fin (.int k n) rfl hv h
      · rename_i b; exact fin (.bool b) rfl hv h
      · rename_i b; exact fin (.str b) rfl hv h
      · rename_i es; exact fin (.ro es) rfl (Pv.mono gam (looks_grows g w) _ _ hv) h
      · cases h

theorem look_call_ok {rec : Fun} (hrec : FunOk gam E rec) {R : Roots} {m0 m : M} {cs : List Value} {g : Gh} {w : World} {N : Nat} {f : FuncId} {v : V} (hp : OpPre gam E R m0 cs g w N) (hln : E.lends f = true)
    (h : callM E rec f m0 = some (v, m)) : CallOk E.P f cs.toArray w fun c w' => ∃ g', OpPost gam R m0 g w N g' w' m v c := by
  unfold callM at h
  rw [hln] at h
  simp only [if_true] at h
  cases hla : lendArgs m0 m0.vs with
  | none => rw [hla] at h; cases h
  | some vs =>
    rw [hla] at h
    simp only at h
    cases ho : rec f vs with
    | none => rw [ho] at h; cases h
    | some o =>
      rw [ho] at h
      simp only at h
      split at h
      · rename_i hsc
        simp only [Option.some.injEq, Prod.mk.injEq] at h
        obtain ⟨rfl, rfl⟩ := h
        obtain ⟨hl, ha⟩ := lendArgs_ok gam hp.ms.cl hp.ms.gl m0.vs vs cs hp.ms.vs hla
        have hargs : ArgsOk gam E (g.looks w) w vs cs := by
          refine ⟨hl, fun j x c hx hc => ?_, fun j q B hB => (by cases hB), ⟨fun b k q hq => (by cases hq), fun b k q hq => (by cases hq), fun b k c hc => ?_⟩, hp.gk.mono gam E (looks_grows g w)⟩
          · obtain ⟨h1, h2⟩ := ha j x c hx hc
            exact ⟨fun ho => (by rw [h1] at ho; cases ho), fun _ => h2⟩
          · simp only [Gh.looks] at hc
            cases hr : g.rho b k with
            | some c1 => rw [hr] at hc; cases hc; exact hp.ms.gl.ro b k c hr
            | none =>
              rw [hr] at hc
              simp only at hc
              split at hc
              · exact hc
              · cases hc
        have hcall := hrec f vs o ho (g.looks w) w cs hargs
        intro op a next Q hnext
        refine hcall op a next Q fun c w1 ⟨g1, hO⟩ => hnext c w1 ?_
        have hcell : ∀ b k, b < w.heap.size → cellAt w1 b k = cellAt w b k := fun b k hb => hO.fr.cell hb rfl
        have hgrow : Grows g.rho (g.looked g1).rho := by
          intro b k c hc
          have hl : g.lam b k = none := by
            cases hl : g.lam b k with
            | none => rfl
            | some q => rw [hp.ms.gl.sep b k q hl] at hc; cases hc
          simp only [Gh.looked, hl, Option.isSome_none, Bool.false_eq_true, if_false]
          exact hO.fr.grow b k c (looks_grows g w b k c hc)
        have hfr : Fr g (g.looked g1) w w1 := by
          refine ⟨hgrow, hO.fr.os, hO.fr.tape, hO.fr.output, hO.fr.size, fun b k q _ hq => ⟨q, hq⟩, fun b k c hb hc => ?_, fun b hb => ?_⟩
          · simp only [Gh.looked] at hc
            split at hc
            · cases hc
            · rename_i hl
              rcases hO.fr.rho b k c hb hc with h1 | ⟨q, h1⟩
              · simp only [Gh.looks] at h1
                cases hr : g.rho b k with
                | some c1 => rw [hr] at h1; exact .inl h1
                | none => rw [hr] at h1; simp only [if_neg hl] at h1; cases h1
              · cases h1
          · rcases hO.fr.kept b hb with h1 | ⟨c, t, f, c', h1, h2, h3, h4⟩
            · exact .inl h1
            · exact .inr ⟨c, t, f, c', h1, h2, h3, fun k _ => h4 k rfl⟩
        have hgl : Glob (g.looked g1) w1 := by
          refine ⟨fun b k q hq => ?_, fun b k q hq => ?_, fun b k c hc => ?_⟩
          · obtain ⟨c, h1, h2⟩ := hp.ms.gl.cells b k q hq
            have hb := cell_lt h1
            exact ⟨c, by rw [hcell b k hb]; exact h1, by rw [hO.fr.frozen hb]; exact h2⟩
          · have hq' : g.lam b k = some q := hq
            simp [Gh.looked, hq']
          · simp only [Gh.looked] at hc
            split at hc
            · cases hc
            · exact hO.gl.ro b k c hc
        have hcl : Claims gam (g.looked g1) w1 (over R m0.rs) :=
          Claims.keep gam (g := g) (g' := g.looked g1) hgrow (fun _ _ _ _ h => h) (fun _ _ _ _ h => h) (fun b k q c _ _ hc => by rw [hcell b k (cell_lt hc)]; exact hc) hp.ms.cl
        have hkeep : ∀ x y, Sv gam g x y → Sv gam (g.looked g1) x y := fun x y h => Sv.keep gam (g := g) (g' := g.looked g1) hgrow (fun _ _ _ h => h) h
        have hMT : MT gam g w m0 (g.looked g1) w1 m0 := ⟨hfr, ⟨[], by simp, fun x y h => hkeep x y h⟩, rfl, fun _ => rfl, fun _ h => h, fun _ _ _ _ h => .inr h⟩
        have hsv : Sv gam (g.looked g1) o.res c := by
          have h1 := hO.rs.sv
          unfold scalarV at hsc
          split at hsc
          · rename_i k n hres; rw [hres] at h1 ⊢; exact h1
          · rename_i b hres; rw [hres] at h1 ⊢; exact h1
          · rename_i s hres; rw [hres] at h1 ⊢; exact h1
          · rename_i hres; rw [hres] at h1 ⊢; exact h1
          · cases hsc
        have hbare : MS gam (g.looked g1) w1 R { m0 with vs := [] } [] := ⟨rfl, hcl, hp.ms.wf, hgl⟩
        have hpp := post_poor gam (N := N) hbare (m0 := { m0 with vs := [] }) (MT.refl gam (g.looked g1) w1 _) hsv hp.ti (hp.nn N (Nat.le_refl N))
        exact ⟨g.looked g1, hpp.ms, hMT, hpp.rs, hpp.ti, hpp.st⟩
      · cases h

/-- An operation that calls a function. -/
theorem callOp_ok {rec : Fun} (hrec : FunOk gam E rec) {R : Roots} {m0 m : M} {g : Gh} {w : World} {N d : Nat} {o : Oper} {a : Act} {v : V} {c : Call} {f' : Operand} (hp : OpPre gam E R m0 ((opnds o.op).map a.eval) g w N) (ho : o.op = .call c) (hc : c.callee = .value f')
    (hst : ∀ r, N ≤ r → r ∉ stepRoots m.lg) (h : opM E rec d o.op m0 = some (v, m)) :
    OpGoes E.P o a w fun c w' => ∃ g', OpPost gam R m0 g w N g' w' m v c := by
  rw [ho] at h
  simp only [opM, hc] at h
  split at h
  · rename_i f args hvs
    have hv := hp.ms.vs
    rw [hvs, ho] at hv
    simp only [opnds, hc, List.singleton_append, List.map_cons] at hv
    obtain ⟨cf, cs', e, ⟨p, q, hcf, hp1, hq1⟩, hargs⟩ := hv
    simp only [List.cons.injEq] at e
    obtain ⟨e1, e2⟩ := e
    have hp2 : p = #[] := by
      have : p.toList = [] := hp1
      exact Array.toList_eq_nil_iff.1 this
    have hq2 : q = #[] := by
      have : q.toList = [] := hq1
      exact Array.toList_eq_nil_iff.1 this
    subst hp2; subst hq2
    have hpre : OpPre gam E R { m0 with vs := args } (c.args.toList.map a.eval) g w N := by
      refine ⟨⟨?_, hp.ms.cl, hp.ms.wf, hp.ms.gl⟩, hp.ti, hp.gk, hp.nn, hp.lg⟩
      rw [e2]; exact hargs
    have hcall : CallOk E.P f (c.args.toList.map a.eval).toArray w fun c w' => ∃ g', OpPost gam R { m0 with vs := args } g w N g' w' m v c := by
      cases hln : E.lends f with
      | true => exact look_call_ok gam E hrec hpre hln h
      | false => exact call_ok gam E hrec hpre hln hst h
    intro next Q hn
    unfold Oper.wp
    have hrun : (execOp a.eval o).run E.P w = (callFunc f (c.args.toList.map a.eval).toArray).run E.P w := by
      have e3 : c.args.map a.eval = (c.args.toList.map a.eval).toArray := by rw [← Array.toList_inj, Array.toList_map]
      simp only [execOp, ho, resolve, hc, e1, hcf, Deferred.ofValue, Sem.run_bind, Sem.run_pure, Result.andThen_ok, invoke, e3]
      simp
    rw [hrun]
    refine hcall o a next Q fun c w' ⟨g', hP⟩ => hn c w' ⟨g', ?_⟩
    refine ⟨hP.ms, ⟨hP.mt.fr, hP.mt.nm, hP.mt.n, hP.mt.ks, hP.mt.dy, hP.mt.kb⟩, hP.rs, hP.ti, hP.st⟩
  · cases h
end
end Go.Bv
/- One operation of a frame. -/
namespace Go.Bv
open Go

section
variable (gam : Nat → Option (Nat × Nat)) (E : Env)

theorem ev_ok (hgam : ∀ g, gam g = some (g, 0)) {g : Gh} {s : St} {a : Act} (h : Svs gam g s.sl a.tmps.toList) (x : Operand) : Sv gam g (s.ev x) (a.eval x) := by
  cases x with
  | tmp t =>
    simp only [St.ev, Act.eval]
    rw [List.getD_eq_getElem?_getD]
    cases hx : s.sl[t]? with
    | none => trivial
    | some v =>
      obtain ⟨y, h1, h2⟩ := Svs.get gam h hx
      rw [Array.getElem?_toList] at h1
      simp only [Option.getD_some, Array.getD_eq_getD_getElem?, h1]
      exact h2
  | const v => exact Sv.of_pv gam _ _ _ (ofValue_pv gam _ v)
  | global g => exact ⟨g, 0, hgam g, rfl⟩
  | func f => exact ⟨#[], #[], rfl, rfl, rfl⟩

theorem evs_ok (hgam : ∀ g, gam g = some (g, 0)) {g : Gh} {s : St} {a : Act} (h : Svs gam g s.sl a.tmps.toList) : ∀ (xs : List Operand), Svs gam g (xs.map s.ev) (xs.map a.eval)
  | [] => rfl
  | x :: xs => ⟨_, _, rfl, ev_ok gam hgam h x, evs_ok hgam h xs⟩

theorem put_toList (a : Act) (d : Option Tmp) (c : Value) : (a.put d c).tmps.toList = putL a.tmps.toList d c ∧ (a.put d c).defers = a.defers := by
  cases d with
  | none => exact ⟨rfl, rfl⟩
  | some d => exact ⟨by simp [Act.put, putL], rfl⟩

theorem stepsIn_out {rs : List (Nat × V)} {l : List Step} (h : stepsIn rs l = true) {rt : List V} {T : List Nat} (hrs : rs = pick rt T) : ∀ r, rt.length ≤ r → r ∉ stepRoots l := by
  intro r hr hm
  subst hrs
  obtain ⟨u, hu⟩ := Option.isSome_iff_exists.1 (List.all_eq_true.1 h r hm)
  have := (List.getElem?_eq_some_iff.1 (pick_look _ _ _ _ hu)).1
  omega

theorem effT_ok (hE : EnvOk gam E) (hgam : ∀ g, gam g = some (g, 0)) {rec : Fun} (hrec : FunOk gam E rec) {n : Nat} {o : Oper} {s : St} {T : List Nat} {e : Eff} {g : Gh} {w : World} {a : Act} (hn : 0 < n) (hF : FrOk gam E g w n s a.tmps.toList)
    (hT : isStore o.op = false → dOf n o ∈ T) (he : effT E rec n o ((opnds o.op).map s.ev) (pick s.rt T) = some e) {next : Act → World → Prop} {Q : Exit → Act → World → Prop}
    (hnext : ∀ a' w', a'.defers = a.defers → (∃ g', FrOk gam E g' w' n (e.act s) a'.tmps.toList ∧ StT n g w s g' w' (e.act s)) → next a' w') : o.wp E.P a w next Q := by
  have he0 := he
  unfold effT at he
  split at he
  · cases he
  · rename_i v m hop
    split at he
    · cases he
    · rename_i hsi
      simp only [Bool.not_eq_true', Bool.not_eq_false] at hsi
      have hover : over (rootsR s.rt) (pick s.rt T) = rootsR s.rt := over_pick s.rt T
      have hpre : OpPre gam E (rootsR s.rt) { n, vs := (opnds o.op).map s.ev, rs := pick s.rt T, lg := [], dy := [] } ((opnds o.op).map a.eval) g w s.rt.length := by
        refine ⟨⟨evs_ok gam hgam hF.sl _, by rw [hover]; exact hF.cl, by rw [hover]; exact hF.wf, hF.gl⟩, by rw [hover]; exact hF.ti, hF.gk, fun r hr => ?_, rfl⟩
        rw [hover]
        exact List.getElem?_eq_none hr
      have hdlt : dOf n o < n ∧ (moves o.op = true → ∃ d, o.dst = some d) := by
        split at he
        · rename_i hd
          have : dOf n o = n - 1 := by simp [dOf, hd]
          refine ⟨by omega, fun hm => ?_⟩
          rw [if_pos hm] at he; cases he
        · rename_i d hd
          split at he
          · cases he
          · rename_i hnd
            have h1 : dOf n o = d := by simp [dOf, hd]
            refine ⟨?_, fun _ => ⟨d, hd⟩⟩
            rw [h1]
            have : ¬ @LE.le Nat _ n d := by simpa using hnd
            omega
      have hns : moves o.op = true → isStore o.op = false := by cases o.op <;> simp [moves, isStore]
      have hgo : OpGoes E.P o a w fun c w' => ∃ g', OpPost gam (rootsR s.rt) { n, vs := (opnds o.op).map s.ev, rs := pick s.rt T, lg := [], dy := [] } g w (atRoot o (dOf n o) s.rt.length) g' w' m v c := by
        by_cases hc : ∃ c f', o.op = .call c ∧ c.callee = .value f'
        · obtain ⟨c, f', h1, h2⟩ := hc
          rw [show atRoot o (dOf n o) s.rt.length = s.rt.length by simp [atRoot, h1, moves]]
          exact callOp_ok gam E hrec hpre h1 h2 (stepsIn_out hsi rfl) hop
        · refine op_ok gam E hE hpre (fun hm => ?_) hdlt.1 hn (fun c f h1 h2 => hc ⟨c, f, h1, h2⟩) hop
          exact pick_mem s.rt (Nat.lt_of_lt_of_le hdlt.1 hF.ln) T (hT (hns hm))
      refine hgo next Q fun c w' ⟨g', hP⟩ => ?_
      have hTd : ∀ d, o.dst = some d → v.rich = true → d ∈ T := by
        intro d hd hr
        have hdd : dOf n o = d := by simp [dOf, hd]
        rw [← hdd]
        refine hT ?_
        cases hs : isStore o.op with
        | false => rfl
        | true =>
          exfalso
          have : ∃ t x y, o.op = .store t x y := by
            revert hs; cases o.op <;> simp [isStore]
          obtain ⟨t, x, y, ho⟩ := this
          rw [ho] at hop
          simp only [opM] at hop
          cases hst : storeM E t { n := n, vs := List.map s.ev (opnds (Op.store t x y)), rs := pick s.rt T, lg := [], dy := [] } with
          | none => rw [hst] at hop; cases hop
          | some m1 => rw [hst] at hop; simp only [Option.some.injEq, Prod.mk.injEq] at hop; rw [← hop.1] at hr; cases hr
      obtain ⟨g2, h1, h2⟩ := eff_ok gam E hF he0 hop hTd (Nat.le_refl _) (fun hl => light_same E hl hop) hP
      obtain ⟨p1, p2⟩ := put_toList a o.dst c
      exact hnext _ w' p2 ⟨g2, by rw [p1]; exact h1, h2⟩

theorem opEff_ok (hE : EnvOk gam E) (hgam : ∀ g, gam g = some (g, 0)) {rec : Fun} (hrec : FunOk gam E rec) {n : Nat} {o : Oper} {s : St} {e : Eff} {ft : Foot} {g : Gh} {w : World} {a : Act} (hn : 0 < n) (hF : FrOk gam E g w n s a.tmps.toList)
    (he : opEff E rec n o s = some (e, ft)) {next : Act → World → Prop} {Q : Exit → Act → World → Prop}
    (hnext : ∀ a' w', a'.defers = a.defers → (∃ g', FrOk gam E g' w' n (e.act s) a'.tmps.toList ∧ StT n g w s g' w' (e.act s)) → next a' w') : o.wp E.P a w next Q := by
  have hT : isStore o.op = false → dOf n o ∈ touched (dOf n o) o.op ((opnds o.op).map s.ev) := by
    intro h
    have : touched (dOf n o) o.op ((opnds o.op).map s.ev) = [dOf n o] ++ rootsOf ((opnds o.op).map s.ev) := by
      unfold touched
      cases ho : o.op <;> first | rfl | (rw [ho] at h; cases h)
    rw [this]; simp
  unfold opEff at he
  simp only at he
  split at he
  · rename_i e0 he0
    cases he
    exact effT_ok gam E hE hgam hrec hn hF hT he0 hnext
  · split at he
    · split at he
      · rename_i e0 he0
        cases he
        refine effT_ok gam E hE hgam hrec hn hF (fun h => ?_) he0 hnext
        rename_i hs _
        rw [h] at hs; cases hs
      · cases he
    · cases he

theorem guard_ok {g : Gh} {ops : Array Oper} {s : St} {a : Act} {o : Oper} (h : Svs gam g s.sl a.tmps.toList) {b : Bool} (hg : guardOk ops s o = some b) : Region.wanted o (yielded ops a.tmps) = b := by
  unfold guardOk at hg
  unfold Region.wanted
  cases ho : o.guard with
  | none => rw [ho] at hg; cases hg; rfl
  | some y =>
    obtain ⟨j, want⟩ := y
    rw [ho] at hg
    simp only at hg ⊢
    cases hj : ops[j]? with
    | none => rw [hj] at hg; cases hg
    | some q =>
      rw [hj] at hg
      simp only at hg
      cases hd : q.dst with
      | none => rw [hd] at hg; cases hg
      | some t =>
        rw [hd] at hg
        simp only at hg
        cases ht : s.sl[t]? with
        | none => rw [ht] at hg; cases hg
        | some x =>
          rw [ht] at hg
          obtain ⟨y, h1, h2⟩ := Svs.get gam h ht
          rw [Array.getElem?_toList] at h1
          have hy : yielded ops a.tmps j = match y with | .bool b => some b | _ => none := by
            simp only [yielded, hj, Option.bind_some, hd, h1]
            cases y <;> rfl
          rw [hy]
          split at hg
          · rename_i b0 e
            cases e
            simp only [Option.some.injEq] at hg
            subst hg
            have : y = .bool b0 := h2
            subst this
            simp
          · rename_i e
            cases e
            simp only [Option.some.injEq] at hg
            subst hg
            obtain ⟨cv, h3, h4⟩ := h2
            subst h3
            rfl
          · cases hg

theorem skip_act (o : Oper) (s : St) : (skipEff o).act s = { s with sl := match o.dst with | some d => s.sl.set d (.tup []) | none => s.sl } := by
  cases hd : o.dst <;> simp [skipEff, Eff.act, hd, sweepAll, layAll]

/-- One operation of a region, or none. -/
def RunGoes (ops : Array Oper) (o : Oper) (a : Act) (w : World) (next : Act → World → Prop) (Q : Exit → Act → World → Prop) : Prop :=
  if Region.wanted o (yielded ops a.tmps) then o.wp E.P a w next Q ∨ (o.asks E.P a w ∧ LetsOut Q) else next (a.put o.dst undef) w

theorem oneRun_ok (hE : EnvOk gam E) (hgam : ∀ g, gam g = some (g, 0)) {rec : Fun} (hrec : FunOk gam E rec) {n : Nat} {ops : Array Oper} {o : Oper} {s : St} {e : Eff} {ft : Foot} {g : Gh} {w : World} {a : Act} (hn : 0 < n) (hF : FrOk gam E g w n s a.tmps.toList)
    (he : oneRun E rec n ops o s = some (e, ft)) {next : Act → World → Prop} {Q : Exit → Act → World → Prop}
    (hnext : ∀ a' w', a'.defers = a.defers → (∃ g', FrOk gam E g' w' n (e.act s) a'.tmps.toList ∧ StT n g w s g' w' (e.act s)) → next a' w') : RunGoes E ops o a w next Q := by
  unfold oneRun at he
  unfold RunGoes
  split at he
  · rename_i hg
    rw [guard_ok gam hF.sl hg]
    exact .inl (opEff_ok gam E hE hgam hrec hn hF he hnext)
  · rename_i hg
    rw [guard_ok gam hF.sl hg]
    simp only [Bool.false_eq_true, if_false]
    cases he
    obtain ⟨p1, p2⟩ := put_toList a o.dst undef
    refine hnext _ w p2 ⟨g, ?_, ?_⟩
    · rw [skip_act, p1]
      refine ⟨?_, hF.cl, hF.wf, hF.gl, hF.ti, hF.gk, hF.ln⟩
      cases hd : o.dst with
      | none => exact hF.sl
      | some d => exact Svs.set gam d hF.sl ⟨#[], rfl, rfl⟩
    · rw [skip_act]
      exact ⟨Fr.refl g w, rfl, fun _ h => h, fun _ _ _ _ h => .inr h⟩
  · cases he
end
end Go.Bv
/- Operations that lie apart: their order does not matter. -/
namespace Go.Bv
open Go

theorem disj_spec : ∀ {as bs : List Nat}, disj as bs = true → ∀ x, x ∈ as → x ∉ bs
  | [], _, _, _, h => (by cases h)
  | a :: as, bs, h, x, hx => by
    simp only [disj, Bool.and_eq_true, Bool.not_eq_true'] at h
    rcases List.mem_cons.1 hx with e | e
    · subst e
      intro hb
      have h1 := h.1
      rw [List.any_eq_false] at h1
      exact h1 x hb (by simp)
    · exact disj_spec h.2 x e

theorem act_same {s : Step} {r : Nat} (hs : r ∉ s.roots) (p : Path) : s.act r p = some (r, p) := by
  cases s with
  | drop r0 p0 =>
    simp only [Step.roots, List.mem_singleton] at hs
    simp [Step.act, hs]
  | turn r0 p0 r2 p2 =>
    simp only [Step.roots, List.mem_cons, List.not_mem_nil, or_false, not_or] at hs
    simp [Step.act, hs.1]

mutual
theorem sweep_id {s : Step} : ∀ (v : V), (∀ r, r ∈ v.roots → r ∉ s.roots) → v.sweep s = v
  | .al r p i j, h => by simp only [V.sweep, act_same (h r (by simp [V.roots]))]
  | .als r p i j n z, h => by simp only [V.sweep, act_same (h r (by simp [V.roots]))]
  | .tup vs, h => by simp only [V.sweep, sweeps_id vs h]
  | .agg vs, h => by simp only [V.sweep, sweeps_id vs h]
  | .fn f pre caps, h => by
    simp only [V.sweep]
    rw [sweeps_id pre (fun r hr => h r (by simp only [V.roots, List.mem_append]; exact .inl hr)), sweeps_id caps (fun r hr => h r (by simp only [V.roots, List.mem_append]; exact .inr hr))]
  | .any, _ | .int _ _, _ | .bool _, _ | .str _, _ | .sc _, _ | .ifc _ _, _ | .ro _, _ | .rop _ _, _ | .gp _ _, _ | .box _, _ | .own _ _, _ => rfl
theorem sweeps_id {s : Step} : ∀ (vs : List V), (∀ r, r ∈ rootsOf vs → r ∉ s.roots) → sweeps s vs = vs
  | [], _ => rfl
  | x :: vs, h => by
    simp only [sweeps]
    rw [sweep_id x (fun r hr => h r (by simp only [rootsOf, List.mem_append]; exact .inl hr)), sweeps_id vs (fun r hr => h r (by simp only [rootsOf, List.mem_append]; exact .inr hr))]
end

theorem sweepV_id : ∀ (l : List Step) (v : V), (∀ r, r ∈ v.roots → r ∉ stepRoots l) → sweepV l v = v
  | [], _, _ => rfl
  | s :: l, v, h => by
    show sweepV l (v.sweep s) = v
    rw [sweep_id v (fun r hr hs => h r hr (by simp only [stepRoots, List.mem_append]; exact .inl hs))]
    exact sweepV_id l v (fun r hr hs => h r hr (by simp only [stepRoots, List.mem_append]; exact .inr hs))

theorem act_some_root {s : Step} {r : Nat} {p : Path} {x : Nat × Path} (h : s.act r p = some x) : x.1 = r ∨ x.1 ∈ s.roots := by
  cases s with
  | drop r0 p0 =>
    simp only [Step.act] at h
    split at h
    · split at h
      · cases h
      · cases h; exact .inl rfl
    · cases h; exact .inl rfl
  | turn r0 p0 r2 p2 =>
    simp only [Step.act] at h
    split at h
    · split at h
      · cases h; right; simp [Step.roots]
      · cases h; exact .inl rfl
    · cases h; exact .inl rfl

mutual
theorem sweep_roots {s : Step} : ∀ (v : V) (r : Nat), r ∈ (v.sweep s).roots → r ∈ v.roots ∨ r ∈ s.roots
  | .al r0 p i j, r, h => by
    simp only [V.sweep] at h
    cases e : s.act r0 p with
    | none => rw [e] at h; cases h
    | some x =>
      rw [e] at h
      simp only [V.roots, List.mem_singleton] at h ⊢
      rcases act_some_root e with h1 | h1
      · left; rw [h, h1]
      · right; rw [h]; exact h1
  | .als r0 p i j n z, r, h => by
    simp only [V.sweep] at h
    cases e : s.act r0 p with
    | none => rw [e] at h; cases h
    | some x =>
      rw [e] at h
      simp only [V.roots, List.mem_singleton] at h ⊢
      rcases act_some_root e with h1 | h1
      · left; rw [h, h1]
      · right; rw [h]; exact h1
  | .tup vs, r, h => sweeps_roots vs r h
  | .agg vs, r, h => sweeps_roots vs r h
  | .fn f pre caps, r, h => by
    simp only [V.sweep, V.roots, List.mem_append] at h ⊢
    rcases h with h | h
    · rcases sweeps_roots pre r h with h | h
      · exact .inl (.inl h)
      · exact .inr h
    · rcases sweeps_roots caps r h with h | h
      · exact .inl (.inr h)
      · exact .inr h
  | .any, _, h | .int _ _, _, h | .bool _, _, h | .str _, _, h | .sc _, _, h | .ifc _ _, _, h | .ro _, _, h | .rop _ _, _, h | .gp _ _, _, h | .box _, _, h | .own _ _, _, h => .inl h
theorem sweeps_roots {s : Step} : ∀ (vs : List V) (r : Nat), r ∈ rootsOf (sweeps s vs) → r ∈ rootsOf vs ∨ r ∈ s.roots
  | [], _, h => .inl h
  | x :: vs, r, h => by
    simp only [sweeps, rootsOf, List.mem_append] at h ⊢
    rcases h with h | h
    · rcases sweep_roots x r h with h | h
      · exact .inl (.inl h)
      · exact .inr h
    · rcases sweeps_roots vs r h with h | h
      · exact .inl (.inr h)
      · exact .inr h
end

theorem sweepV_roots : ∀ (l : List Step) (v : V) (r : Nat), r ∈ (sweepV l v).roots → r ∈ v.roots ∨ r ∈ stepRoots l
  | [], _, _, h => .inl h
  | s :: l, v, r, h => by
    rcases sweepV_roots l (v.sweep s) r h with h | h
    · rcases sweep_roots v r h with h | h
      · exact .inl h
      · right; simp only [stepRoots, List.mem_append]; exact .inl h
    · right; simp only [stepRoots, List.mem_append]; exact .inr h

/-- Two steps of names whose roots are apart. -/
theorem act_comm {s1 s2 : Step} (h : ∀ r, r ∈ s1.roots → r ∉ s2.roots) (r : Nat) (p : Path) :
    (match s1.act r p with | some (r, p) => s2.act r p | none => none) = (match s2.act r p with | some (r, p) => s1.act r p | none => none) := by
  by_cases h1 : r ∈ s1.roots
  · rw [act_same (h r h1)]
    simp only
    cases e : s1.act r p with
    | none => rfl
    | some x =>
      obtain ⟨r', p'⟩ := x
      simp only
      rcases act_some_root e with h2 | h2
      · simp only at h2; subst h2; exact act_same (h r' h1) p'
      · exact act_same (h r' h2) p'
  · rw [act_same h1]
    simp only
    by_cases h2 : r ∈ s2.roots
    · cases e : s2.act r p with
      | none => rfl
      | some x =>
        obtain ⟨r', p'⟩ := x
        simp only
        rcases act_some_root e with h3 | h3
        · simp only at h3; subst h3; exact (act_same h1 p').symm
        · exact (act_same (fun hm => h r' hm h3) p').symm
    · rw [act_same h2]
      simp only
      exact (act_same h1 p).symm

mutual
theorem sweep_comm {s1 s2 : Step} (h : ∀ r, r ∈ s1.roots → r ∉ s2.roots) : ∀ (v : V), (v.sweep s1).sweep s2 = (v.sweep s2).sweep s1
  | .al r p i j => by
    have := act_comm h r p
    simp only [V.sweep]
    cases e1 : s1.act r p with
    | none =>
      cases e2 : s2.act r p with
      | none => rfl
      | some y =>
        rw [e1, e2] at this
        simp only at this
        simp only [V.sweep, ← this]
    | some x =>
      rw [e1] at this
      simp only at this
      cases e2 : s2.act r p with
      | none =>
        rw [e2] at this
        simp only [V.sweep, this]
      | some y =>
        rw [e2] at this
        simp only at this
        simp only [V.sweep, this]
  | .als r p i j n z => by
    have := act_comm h r p
    simp only [V.sweep]
    cases e1 : s1.act r p with
    | none =>
      cases e2 : s2.act r p with
      | none => rfl
      | some y =>
        rw [e1, e2] at this
        simp only at this
        simp only [V.sweep, ← this]
    | some x =>
      rw [e1] at this
      simp only at this
      cases e2 : s2.act r p with
      | none =>
        rw [e2] at this
        simp only [V.sweep, this]
      | some y =>
        rw [e2] at this
        simp only at this
        simp only [V.sweep, this]
  | .tup vs => by simp only [V.sweep, sweeps_comm h vs]
  | .agg vs => by simp only [V.sweep, sweeps_comm h vs]
  | .fn f pre caps => by simp only [V.sweep, sweeps_comm h pre, sweeps_comm h caps]
  | .any | .int _ _ | .bool _ | .str _ | .sc _ | .ifc _ _ | .ro _ | .rop _ _ | .gp _ _ | .box _ | .own _ _ => rfl
theorem sweeps_comm {s1 s2 : Step} (h : ∀ r, r ∈ s1.roots → r ∉ s2.roots) : ∀ (vs : List V), sweeps s2 (sweeps s1 vs) = sweeps s1 (sweeps s2 vs)
  | [] => rfl
  | x :: vs => by simp only [sweeps, sweep_comm h x, sweeps_comm h vs]
end

theorem sweepV_sweep_comm {s : Step} : ∀ (l : List Step) (v : V), (∀ r, r ∈ s.roots → r ∉ stepRoots l) → sweepV l (v.sweep s) = (sweepV l v).sweep s
  | [], _, _ => rfl
  | t :: l, v, h => by
    show sweepV l ((v.sweep s).sweep t) = (sweepV l (v.sweep t)).sweep s
    rw [sweep_comm (fun r hr ht => h r hr (by simp only [stepRoots, List.mem_append]; exact .inl ht))]
    exact sweepV_sweep_comm l (v.sweep t) (fun r hr ht => h r hr (by simp only [stepRoots, List.mem_append]; exact .inr ht))

theorem sweepV_comm : ∀ (l1 l2 : List Step) (v : V), (∀ r, r ∈ stepRoots l1 → r ∉ stepRoots l2) → sweepV l2 (sweepV l1 v) = sweepV l1 (sweepV l2 v)
  | [], _, _, _ => rfl
  | s :: l1, l2, v, h => by
    show sweepV l2 (sweepV l1 (v.sweep s)) = sweepV l1 ((sweepV l2 v).sweep s)
    rw [sweepV_comm l1 l2 (v.sweep s) (fun r hr => h r (by simp only [stepRoots, List.mem_append]; exact .inr hr))]
    rw [sweepV_sweep_comm l2 v (fun r hr => h r (by simp only [stepRoots, List.mem_append]; exact .inl hr))]

/-- What is known of an effect and its foot. -/
structure EffOk (e : Eff) (f : Foot) : Prop where
  v : ∀ r, r ∈ e.v.roots → r ∈ f.T
  lg : ∀ r, r ∈ stepRoots e.lg → r ∈ f.W
  rs : ∀ x, x ∈ e.rs → x.1 ∈ f.W
  dy : e.dy = [] ∨ dirtRoot ∈ f.W

theorem pick_keys (rt : List V) : ∀ (T : List Nat) (x : Nat × V), x ∈ pick rt T → x.1 ∈ T
  | [], _, h => (by cases h)
  | t :: T, x, h => by
    simp only [pick] at h
    split at h
    · rcases List.mem_cons.1 h with e | e
      · subst e; simp
      · exact List.mem_cons_of_mem _ (pick_keys rt T x e)
    · exact List.mem_cons_of_mem _ (pick_keys rt T x h)

theorem relay_keys {rs new : List (Nat × V)} {x : Nat × V} (h : x ∈ relay rs new) : ∃ y, y ∈ rs ∧ y.1 = x.1 := by
  simp only [relay, List.mem_map] at h
  obtain ⟨y, h1, h2⟩ := h
  exact ⟨y, h1, by rw [← h2]⟩

theorem mem_dirt {x : Nat} {T : List Nat} (b : Bool) (h : x ∈ T) : x ∈ (if b = true then T else dirtRoot :: T) := by
  cases b
  · exact List.mem_cons_of_mem _ h
  · exact h

theorem effT_eff {E : Env} {rec : Fun} {n : Nat} {o : Oper} {vs : List V} {rt : List V} {T : List Nat} {e : Eff} (hT : isStore o.op = false → dOf n o ∈ T) (h : effT E rec n o vs (pick rt T) = some e) : EffOk e (foot o e T) := by
  have h0 := h
  refine ⟨fun r hr => by simp only [foot, List.mem_append]; exact .inr hr, fun r hr => by simp only [foot, List.mem_append]; exact .inr hr, fun x hx => ?_, ?_⟩
  all_goals
    unfold effT at h
    split at h
    · cases h
    rename_i v m hop
    split at h
    · cases h
  · -- the roots that are laid anew
    have hk : ∀ x, x ∈ (if light o.op then [] else relay (pick rt T) m.rs) → x.1 ∈ (if light o.op then [] else if e.dy.isEmpty then T else dirtRoot :: T) := by
      intro x hx
      split at hx
      · cases hx
      · rename_i hl
        rw [if_neg hl]
        obtain ⟨y, h1, h2⟩ := relay_keys hx
        have := pick_keys rt T y h1
        rw [h2] at this
        split
        · exact this
        · exact List.mem_cons_of_mem _ this
    simp only [foot, List.mem_append]
    split at h
    · split at h
      · cases h
      · cases h
        exact .inl (hk x hx)
    · rename_i d hd
      have hdd : dOf n o = d := by simp [dOf, hd]
      split at h
      · cases h
      · split at h
        · rename_i hrich
          have hsr : ∀ (l : List Step) (s : Step), s ∈ l → ∀ r, r ∈ s.roots → r ∈ stepRoots l := by
            intro l
            induction l with
            | nil => intro s hs; cases hs
            | cons a l ih =>
              intro s hs r hr
              simp only [stepRoots, List.mem_append]
              rcases List.mem_cons.1 hs with e2 | e2
              · subst e2; exact .inl hr
              · exact .inr (ih s e2 r hr)
          by_cases hmv : moves o.op = true
          · simp only [hmv, if_true] at h
            have hl : light o.op = false := by revert hmv; cases o.op <;> simp [moves, light]
            have hs : isStore o.op = false := by revert hmv; cases o.op <;> simp [moves, isStore]
            split at h
            · cases h
              left
              rcases List.mem_cons.1 hx with e1 | e1
              · subst e1
                simp only
                rw [hl]
                simp only [Bool.false_eq_true, if_false]
                have := hT hs
                rw [hdd] at this
                split
                · exact this
                · exact List.mem_cons_of_mem _ this
              · exact hk x e1
            · cases h
          · simp only [hmv, Bool.false_eq_true, if_false] at h
            split at h
            · cases h
              rcases List.mem_cons.1 hx with e1 | e1
              · subst e1
                right
                refine hsr _ (.drop d []) ?_ d (by simp [Step.roots])
                simp [anew, M.step]
              · left
                split at e1
                · cases e1
                · rename_i hl
                  rw [if_neg hl]
                  obtain ⟨y, h1, h2⟩ := relay_keys e1
                  have := pick_keys rt T y h1
                  rw [h2] at this
                  exact mem_dirt _ this
            · cases h
        · cases h
          exact .inl (hk x hx)
  · -- dirt
    simp only [foot, List.mem_append]
    by_cases hl : light o.op = true
    · left
      have hm := light_same E hl hop
      subst hm
      split at h
      · split at h
        · cases h
        · cases h; rfl
      · split at h
        · cases h
        · split at h
          · by_cases hmv : moves o.op = true
            · simp only [hmv, if_true] at h
              split at h
              · cases h; rfl
              · cases h
            · simp only [hmv, Bool.false_eq_true, if_false] at h
              split at h
              · cases h; rfl
              · cases h
          · cases h; rfl
    · rw [if_neg hl]
      cases hd : e.dy with
      | nil => exact .inl rfl
      | cons a l => right; left; simp
end Go.Bv
/- Regions of which the order is drawn. -/
namespace Go.Bv
open Go

structure Item where
  k : Nat
  o : Oper
  e : Eff
  f : Foot

inductive Reaches (ops : Array Oper) : Nat → Nat → Prop
  | step {k : Nat} {o : Oper} {e : Edge} (ho : ops[k]? = some o) (he : e ∈ o.after) (hb : Region.binds .any e = true) : Reaches ops k e.on
  | trans {k i : Nat} {o : Oper} {e : Edge} (ho : ops[k]? = some o) (he : e ∈ o.after) (hb : Region.binds .any e = true) (h : Reaches ops e.on i) : Reaches ops k i

theorem reach_sound {ops : Array Oper} : ∀ (f k i : Nat), reach ops f k i = true → Reaches ops k i
  | 0, _, _, h => by cases h
  | f + 1, k, i, h => by
    simp only [reach] at h
    cases ho : ops[k]? with
    | none => rw [ho] at h; cases h
    | some o =>
      rw [ho] at h
      simp only [List.any_eq_true, Bool.and_eq_true, Bool.or_eq_true] at h
      obtain ⟨e, he, ⟨hb, _⟩, h2⟩ := h
      have he := Array.mem_toList_iff.1 he
      rcases h2 with h2 | h2
      · rw [← Nat.eq_of_beq_eq_true h2]; exact .step ho he hb
      · exact .trans ho he hb (reach_sound f e.on i h2)

/-- A pair of operations, the second of which may come first. -/
structure PairOk (ops : Array Oper) (s : St) (a x : Item) : Prop where
  d1 : ∀ d, a.o.dst = some d → d ∉ looksAt ops x.o ∧ x.o.dst ≠ some d
  d2 : ∀ d, x.o.dst = some d → d ∉ looksAt ops a.o
  f1 : ∀ r, r ∈ a.f.W → r ∉ x.f.T
  f2 : ∀ r, r ∈ x.f.W → r ∉ a.f.T
  f3 : ∀ r, r ∈ a.f.W → r ∉ x.f.W
  un : ∀ t, t ∈ looksAt ops x.o → ∀ r, r ∈ (s.sl.getD t .any).roots → r ∉ stepRoots a.e.lg

theorem act_sl (e : Eff) (s : St) (t : Nat) : (e.act s).sl[t]? = if e.d = some t then (if t < s.sl.length then some e.v else none) else (s.sl[t]?).map (sweepV e.lg) := by
  cases hd : e.d with
  | none => simp [Eff.act, hd, sweepAll_map]
  | some d =>
    simp only [Eff.act, hd, sweepAll_map, List.getElem?_set, List.length_map, List.getElem?_map, Option.some.injEq]
    by_cases e : d = t
    · subst e; rfl
    · rw [if_neg e, if_neg e]

theorem act_slD {e : Eff} {s : St} {t : Nat} (h : e.d ≠ some t) : (e.act s).sl.getD t .any = sweepV e.lg (s.sl.getD t .any) := by
  rw [List.getD_eq_getElem?_getD, List.getD_eq_getElem?_getD, act_sl, if_neg h]
  cases s.sl[t]? with
  | some v => rfl
  | none =>
    simp only [Option.map_none, Option.getD_none]
    exact (sweepV_id e.lg .any (fun r hr => by cases hr)).symm

theorem look_none {rs : List (Nat × V)} {y : Nat} (h : ∀ x, x ∈ rs → x.1 ≠ y) : look rs y = none := by
  induction rs with
  | nil => rfl
  | cons a l ih =>
    obtain ⟨r, v⟩ := a
    simp only [look]
    rw [if_neg (by have := h (r, v) (by simp); simpa using this)]
    exact ih fun x hx => h x (by simp [hx])

theorem act_rt {e : Eff} {s : St} {r : Nat} (h : ∀ x, x ∈ e.rs → x.1 ≠ r) : (e.act s).rt[r]? = s.rt[r]? := by
  simp only [Eff.act, layAll_get, look_none h]

theorem pick_same {rt rt' : List V} : ∀ (T : List Nat), (∀ r, r ∈ T → rt'[r]? = rt[r]?) → pick rt' T = pick rt T
  | [], _ => rfl
  | t :: T, h => by
    simp only [pick, h t (by simp), pick_same T (fun r hr => h r (by simp [hr]))]

/-- The slots of an operation's operands. -/
def opSlots (o : Oper) : List Nat := (opnds o.op).filterMap (fun | .tmp t => some t | _ => none)

theorem ev_same {s s' : St} : ∀ (xs : List Operand), (∀ t, .tmp t ∈ xs → s'.sl.getD t .any = s.sl.getD t .any) → xs.map s'.ev = xs.map s.ev
  | [], _ => rfl
  | x :: xs, h => by
    simp only [List.map_cons]
    rw [ev_same xs (fun t ht => h t (by simp [ht]))]
    congr 1
    cases x with
    | tmp t => exact h t (by simp)
    | _ => rfl

theorem guard_same {ops : Array Oper} {s s' : St} {o : Oper} (h : ∀ g want q t, o.guard = some (g, want) → ops[g]? = some q → q.dst = some t → s'.sl.getD t .any = s.sl.getD t .any) : guardOk ops s' o = guardOk ops s o := by
  unfold guardOk
  cases hg : o.guard with
  | none => rfl
  | some y =>
    obtain ⟨j, want⟩ := y
    simp only
    cases hj : ops[j]? with
    | none => rfl
    | some q =>
      simp only
      cases hd : q.dst with
      | none => rfl
      | some t =>
        simp only
        have := h j want q t hg hj hd
        rw [List.getD_eq_getElem?_getD, List.getD_eq_getElem?_getD] at this
        cases h1 : s'.sl[t]? with
        | none =>
          cases h2 : s.sl[t]? with
          | none => rfl
          | some v => rw [h1, h2] at this; simp only [Option.getD_none, Option.getD_some] at this; rw [← this]
        | some v =>
          cases h2 : s.sl[t]? with
          | none => rw [h1, h2] at this; simp only [Option.getD_none, Option.getD_some] at this; rw [this]
          | some u => rw [h1, h2] at this; simp only [Option.getD_some] at this; rw [this]

theorem touched_roots (d : Nat) (op : Op) (vs : List V) : ∀ r, r ∈ rootsOf vs → r ∈ touched d op vs := by
  intro r hr
  unfold touched
  exact List.mem_append.2 (.inr hr)

theorem opEff_local {E : Env} {rec : Fun} {n : Nat} {o : Oper} {s s' : St} {e : Eff} {f : Foot} (h : opEff E rec n o s = some (e, f)) (hv : (opnds o.op).map s'.ev = (opnds o.op).map s.ev) (hr : ∀ r, r ∈ f.T → s'.rt[r]? = s.rt[r]?) :
    opEff E rec n o s' = some (e, f) := by
  unfold opEff at h ⊢
  simp only at h ⊢
  rw [hv]
  split at h
  · rename_i e0 h0
    cases h
    rw [pick_same _ (fun r hr' => hr r (by simp only [foot, List.mem_append]; exact .inl hr')), h0]
  · rename_i h0
    split at h
    · rename_i hs
      split at h
      · rename_i e0 h1
        cases h
        have hr2 : ∀ r, r ∈ (n - 1) :: touched (dOf n o) o.op ((opnds o.op).map s.ev) → s'.rt[r]? = s.rt[r]? := fun r hr' => hr r (by simp only [foot, List.mem_append]; exact .inl hr')
        rw [pick_same _ (fun r hr' => hr2 r (List.mem_cons_of_mem _ hr')), h0]
        simp only
        rw [if_pos hs, pick_same _ hr2, h1]
      · cases h
    · cases h

theorem opEff_eff {E : Env} {rec : Fun} {n : Nat} {o : Oper} {s : St} {e : Eff} {f : Foot} (h : opEff E rec n o s = some (e, f)) : EffOk e f ∧ e.d = o.dst ∧ ∀ r, r ∈ rootsOf ((opnds o.op).map s.ev) → r ∈ f.T := by
  have hT : isStore o.op = false → dOf n o ∈ touched (dOf n o) o.op ((opnds o.op).map s.ev) := by
    intro h
    have : touched (dOf n o) o.op ((opnds o.op).map s.ev) = [dOf n o] ++ rootsOf ((opnds o.op).map s.ev) := by
      unfold touched
      cases ho : o.op <;> first | rfl | (rw [ho] at h; cases h)
    rw [this]; simp
  have hd : ∀ T e, effT E rec n o ((opnds o.op).map s.ev) (pick s.rt T) = some e → e.d = o.dst := by
    intro T e h
    unfold effT at h
    split at h
    · cases h
    · split at h
      · cases h
      · split at h
        · rename_i hd
          split at h
          · cases h
          · cases h; exact hd.symm
        · rename_i d hd
          split at h
          · cases h
          · split at h
            · by_cases hmv : moves o.op = true
              · simp only [hmv, if_true] at h
                split at h
                · cases h; exact hd.symm
                · cases h
              · simp only [hmv, Bool.false_eq_true, if_false] at h
                split at h
                · cases h; exact hd.symm
                · cases h
            · cases h; exact hd.symm
  unfold opEff at h
  simp only at h
  split at h
  · rename_i e0 h0
    cases h
    exact ⟨effT_eff hT h0, hd _ _ h0, fun r hr => by simp only [foot, List.mem_append]; exact .inl (touched_roots _ _ _ r hr)⟩
  · split at h
    · split at h
      · rename_i e0 h1
        cases h
        exact ⟨effT_eff (fun hs => List.mem_cons_of_mem _ (hT hs)) h1, hd _ _ h1, fun r hr => by simp only [foot, List.mem_append]; exact .inl (List.mem_cons_of_mem _ (touched_roots _ _ _ r hr))⟩
      · cases h
    · cases h

theorem oneRun_eff {E : Env} {rec : Fun} {n : Nat} {ops : Array Oper} {o : Oper} {s : St} {e : Eff} {f : Foot} (h : oneRun E rec n ops o s = some (e, f)) : EffOk e f ∧ e.d = o.dst := by
  unfold oneRun at h
  split at h
  · obtain ⟨a, b, _⟩ := opEff_eff h; exact ⟨a, b⟩
  · cases h
    exact ⟨⟨fun r hr => (by cases hr), fun r hr => (by cases hr), fun x hx => (by cases hx), .inl rfl⟩, rfl⟩
  · cases h

theorem oneRun_local {E : Env} {rec : Fun} {n : Nat} {ops : Array Oper} {o : Oper} {s s' : St} {e : Eff} {f : Foot} (h : oneRun E rec n ops o s = some (e, f))
    (hg : ∀ g want q t, o.guard = some (g, want) → ops[g]? = some q → q.dst = some t → s'.sl.getD t .any = s.sl.getD t .any)
    (hv : guardOk ops s o = some true → ∀ t, .tmp t ∈ opnds o.op → s'.sl.getD t .any = s.sl.getD t .any) (hr : ∀ r, r ∈ f.T → s'.rt[r]? = s.rt[r]?) :
    oneRun E rec n ops o s' = some (e, f) := by
  unfold oneRun at h ⊢
  rw [guard_same hg]
  split at h
  · rename_i hgt
    exact opEff_local h (ev_same _ (hv hgt)) hr
  · exact h
  · cases h

theorem mem_opSlots {ops : Array Oper} {o : Oper} {t : Nat} (h : .tmp t ∈ opnds o.op) : t ∈ looksAt ops o := by
  unfold looksAt
  exact List.mem_append.2 (.inl (List.mem_filterMap.2 ⟨.tmp t, h, rfl⟩))
theorem mem_guardSlot {ops : Array Oper} {o q : Oper} {g t : Nat} {want : Bool} (h1 : o.guard = some (g, want)) (h2 : ops[g]? = some q) (h3 : q.dst = some t) : t ∈ looksAt ops o := by
  unfold looksAt
  refine List.mem_append.2 (.inr ?_)
  rw [h1]
  simp only [h2, h3]
  simp

/-- A later one may come first: it does what it did. -/
theorem swap_first {E : Env} {rec : Fun} {n : Nat} {ops : Array Oper} {s : St} {a x : Item} (ha : oneRun E rec n ops a.o s = some (a.e, a.f)) (hx : oneRun E rec n ops x.o (a.e.act s) = some (x.e, x.f)) (hp : PairOk ops s a x) : oneRun E rec n ops x.o s = some (x.e, x.f) := by
  obtain ⟨ea, da⟩ := oneRun_eff ha
  have hsl : ∀ t, t ∈ looksAt ops x.o → s.sl.getD t .any = (a.e.act s).sl.getD t .any := by
    intro t ht
    rw [act_slD, sweepV_id]
    · exact fun r hr => hp.un t ht r hr
    · rw [da]; intro hd; exact (hp.d1 t hd).1 ht
  refine oneRun_local hx (fun g want q t h1 h2 h3 => hsl t (mem_guardSlot h1 h2 h3)) (fun _ t ht => hsl t (mem_opSlots ht)) fun r hr => ?_
  refine (act_rt fun y hy e => ?_).symm
  exact hp.f1 r (by rw [← e]; exact ea.rs y hy) hr

/-- An earlier one may come behind: it does what it did. -/
theorem swap_second {E : Env} {rec : Fun} {n : Nat} {ops : Array Oper} {s : St} {a x : Item} (ha : oneRun E rec n ops a.o s = some (a.e, a.f)) (hx : oneRun E rec n ops x.o s = some (x.e, x.f)) (hp : PairOk ops s a x) : oneRun E rec n ops a.o (x.e.act s) = some (a.e, a.f) := by
  obtain ⟨ex, dx⟩ := oneRun_eff hx
  have hne : ∀ t, t ∈ looksAt ops a.o → x.e.d ≠ some t := by
    intro t ht
    rw [dx]; intro hd; exact hp.d2 t hd ht
  refine oneRun_local ha (fun g want q t h1 h2 h3 => ?_) (fun hgt t ht => ?_) fun r hr => ?_
  · rw [act_slD (hne t (mem_guardSlot h1 h2 h3)), sweepV_id]
    intro r hr
    exfalso
    -- a guard's slot names nothing
    unfold oneRun guardOk at ha
    rw [h1] at ha
    simp only [h2, h3] at ha
    rw [List.getD_eq_getElem?_getD] at hr
    cases hs : s.sl[t]? with
    | none => rw [hs] at hr; cases hr
    | some v =>
      rw [hs] at hr ha
      simp only [Option.getD_some] at hr
      cases v with
      | bool b => cases hr
      | tup vs => cases vs with
        | nil => cases hr
        | cons _ _ => cases ha
      | _ => cases ha
  · rw [act_slD (hne t (mem_opSlots ht)), sweepV_id]
    intro r hr hm
    refine hp.f2 r (ex.lg r hm) ?_
    unfold oneRun at ha
    rw [hgt] at ha
    obtain ⟨_, _, h3⟩ := opEff_eff ha
    refine h3 r ?_
    have : ∀ (l : List Operand), .tmp t ∈ l → r ∈ rootsOf (l.map s.ev) := by
      intro l
      induction l with
      | nil => intro h; cases h
      | cons y l ih =>
        intro h
        simp only [List.map_cons, rootsOf, List.mem_append]
        rcases List.mem_cons.1 h with e | e
        · subst e; exact .inl hr
        · exact .inr (ih e)
    exact this _ ht
  · refine act_rt fun y hy e => ?_
    exact hp.f2 r (by rw [← e]; exact ex.rs y hy) hr

theorem swap_act {a x : Item} {s : St} {ops : Array Oper} (ea : EffOk a.e a.f) (da : a.e.d = a.o.dst) (ex : EffOk x.e x.f) (dx : x.e.d = x.o.dst) (hp : PairOk ops s a x) : x.e.act (a.e.act s) = a.e.act (x.e.act s) := by
  have hlen : ∀ (e : Eff) (s : St), (e.act s).sl.length = s.sl.length := by
    intro e s
    simp only [Eff.act]
    cases e.d with
    | none => simp only [sweepAll_map, List.length_map]
    | some d => simp only [sweepAll_map, List.length_set, List.length_map]
  have hsl : (x.e.act (a.e.act s)).sl = (a.e.act (x.e.act s)).sl := by
    apply List.ext_getElem?
    intro t
    rw [act_sl, act_sl, act_sl, act_sl, hlen, hlen]
    by_cases h1 : x.e.d = some t
    · have h2 : a.e.d ≠ some t := by
        rw [da]; intro hd
        exact (hp.d1 t hd).2 (by rw [← dx]; exact h1)
      simp only [if_pos h1, if_neg h2]
      split
      · simp only [Option.map_some]
        rw [sweepV_id]
        intro r hr hm
        exact hp.f1 r (ea.lg r hm) (ex.v r hr)
      · rfl
    · by_cases h2 : a.e.d = some t
      · simp only [if_neg h1, if_pos h2]
        split
        · simp only [Option.map_some]
          rw [sweepV_id]
          intro r hr hm
          exact hp.f2 r (ex.lg r hm) (ea.v r hr)
        · rfl
      · simp only [if_neg h1, if_neg h2]
        cases s.sl[t]? with
        | none => rfl
        | some v =>
          simp only [Option.map_some]
          rw [sweepV_comm]
          intro r hr hm
          exact hp.f3 r (ea.lg r hr) (ex.lg r hm)
  have hrt : (x.e.act (a.e.act s)).rt = (a.e.act (x.e.act s)).rt := by
    apply List.ext_getElem?
    intro t
    simp only [Eff.act, layAll_get, layAll_length]
    cases h1 : look x.e.rs t with
    | none => rfl
    | some v =>
      have : look a.e.rs t = none := by
        refine look_none fun y hy e => ?_
        have hx : ∃ z, z ∈ x.e.rs ∧ z.1 = t := by
          have : ∀ (l : List (Nat × V)), look l t = some v → ∃ z, z ∈ l ∧ z.1 = t := by
            intro l
            induction l with
            | nil => intro h; cases h
            | cons z l ih =>
              obtain ⟨r, u⟩ := z
              intro h
              simp only [look] at h
              split at h
              · rename_i e; exact ⟨(r, u), by simp, by simpa using e⟩
              · obtain ⟨z, h1, h2⟩ := ih h; exact ⟨z, by simp [h1], h2⟩
          exact this _ h1
        obtain ⟨z, hz, ez⟩ := hx
        exact hp.f3 t (by rw [← e]; exact ea.rs y hy) (by rw [← ez]; exact ex.rs z hz)
      rw [this]
  have hdy : (x.e.act (a.e.act s)).dy = (a.e.act (x.e.act s)).dy := by
    simp only [Eff.act]
    rcases ea.dy with h | h
    · rw [h]; rfl
    · rcases ex.dy with h2 | h2
      · rw [h2]; rfl
      · exact (hp.f3 _ h h2).elim
  cases h1 : x.e.act (a.e.act s) with
  | mk sl rt dy =>
    cases h2 : a.e.act (x.e.act s) with
    | mk sl2 rt2 dy2 =>
      rw [h1, h2] at hsl hrt hdy
      simp only at hsl hrt hdy
      rw [hsl, hrt, hdy]

theorem pair_act {a x y : Item} {s : St} {ops : Array Oper} (ex : EffOk x.e x.f) (ea : EffOk a.e a.f) (hp : PairOk ops s a x) (hy : PairOk ops s a y) (dx : x.e.d = x.o.dst) : PairOk ops (x.e.act s) a y := by
  refine ⟨hy.d1, hy.d2, hy.f1, hy.f2, hy.f3, fun t ht r hr hm => ?_⟩
  have hW := ea.lg r hm
  by_cases hd : x.e.d = some t
  · rw [List.getD_eq_getElem?_getD, act_sl, if_pos hd] at hr
    split at hr
    · simp only [Option.getD_some] at hr
      exact hp.f1 r hW (ex.v r hr)
    · cases hr
  · rw [act_slD hd] at hr
    rcases sweepV_roots _ _ _ hr with h | h
    · exact hy.un t ht r h hm
    · exact hp.f3 r hW (ex.lg r h)

/-- A list of operations that runs, of which all pairs whose order is left open are apart. -/
def Good (E : Env) (rec : Fun) (n : Nat) (ops : Array Oper) : St → List Item → Prop
  | _, [] => True
  | s, a :: L => oneRun E rec n ops a.o s = some (a.e, a.f) ∧ (∀ x, x ∈ L → ¬ Reaches ops x.k a.k → PairOk ops s a x) ∧ Good E rec n ops (a.e.act s) L

def finalSt : St → List Item → St
  | s, [] => s
  | s, a :: L => finalSt (a.e.act s) L

theorem pull {E : Env} {rec : Fun} {n : Nat} {ops : Array Oper} : ∀ (A : List Item) (s : St) (x : Item) (B : List Item), Good E rec n ops s (A ++ x :: B) → (∀ a, a ∈ A → ¬ Reaches ops x.k a.k) →
    oneRun E rec n ops x.o s = some (x.e, x.f) ∧ Good E rec n ops (x.e.act s) (A ++ B) ∧ finalSt (x.e.act s) (A ++ B) = finalSt s (A ++ x :: B)
  | [], s, x, B, h, _ => ⟨h.1, h.2.2, rfl⟩
  | a :: A, s, x, B, h, hn => by
    obtain ⟨h1, h2, h3⟩ := h
    obtain ⟨i1, i2, i3⟩ := pull A (a.e.act s) x B h3 fun b hb => hn b (by simp [hb])
    have hp : PairOk ops s a x := h2 x (by simp) (hn a (by simp))
    have hx := swap_first h1 i1 hp
    have ha := swap_second h1 hx hp
    obtain ⟨ea, da⟩ := oneRun_eff h1
    obtain ⟨ex, dx⟩ := oneRun_eff hx
    have hc := swap_act ea da ex dx hp
    refine ⟨hx, ⟨ha, fun y hy hny => ?_, ?_⟩, ?_⟩
    · refine pair_act ex ea hp (h2 y ?_ hny) dx
      rcases List.mem_append.1 hy with h | h
      · exact List.mem_append.2 (.inl h)
      · exact List.mem_append.2 (.inr (by simp [h]))
    · show Good E rec n ops (a.e.act (x.e.act s)) (A ++ B)
      rw [← hc]; exact i2
    · show finalSt (a.e.act (x.e.act s)) (A ++ B) = finalSt (a.e.act s) (A ++ x :: B)
      rw [← hc]; exact i3
end Go.Bv
/- Regions. -/
namespace Go.Bv
open Go

theorem feetApart_spec {ops : Array Oper} {k : Nat} {f : Foot} : ∀ (gs : List Foot) (i : Nat), feetApart ops k f i gs = true → ∀ j g, gs[j]? = some g → (disj g.W f.T = true ∧ disj f.W g.T = true ∧ disj g.W f.W = true) ∨ reach ops k k (i + j) = true
  | [], _, _, j, g, h => by simp at h
  | g0 :: gs, i, h, j, g, hg => by
    simp only [feetApart, Bool.and_eq_true, Bool.or_eq_true] at h
    cases j with
    | zero =>
      simp only [List.getElem?_cons_zero, Option.some.injEq] at hg
      subst hg
      rcases h.1 with h1 | h1
      · exact .inl ⟨h1.1.1, h1.1.2, h1.2⟩
      · exact .inr h1
    | succ j =>
      have := feetApart_spec gs (i + 1) h.2 j g (by simpa using hg)
      rwa [show i + (j + 1) = i + 1 + j by omega]

theorem unhit_spec {ops : Array Oper} {k : Nat} {s : St} {rs : List Nat} : ∀ (xs : List Oper) (j : Nat), unhit ops k s rs j xs = true → ∀ i x, xs[i]? = some x → reach ops (j + i) (j + i) k = true ∨ ∀ t, t ∈ looksAt ops x → disj (s.sl.getD t .any).roots rs = true
  | [], _, _, i, x, h => by simp at h
  | x0 :: xs, j, h, i, x, hx => by
    simp only [unhit, Bool.and_eq_true, Bool.or_eq_true] at h
    cases i with
    | zero =>
      simp only [List.getElem?_cons_zero, Option.some.injEq] at hx
      subst hx
      rcases h.1 with h1 | h1
      · exact .inl h1
      · exact .inr fun t ht => List.all_eq_true.1 h1 t ht
    | succ i =>
      have := unhit_spec xs (j + 1) h.2 i x (by simpa using hx)
      rwa [show j + (i + 1) = j + 1 + i by omega]

theorem slotsOkWith_spec {ops : Array Oper} {k : Nat} {y : Oper} : ∀ (xs : List Oper) (i : Nat), slotsOkWith ops k y i xs = true → ∀ j x, xs[j]? = some x → slotsApart ops x y = true ∨ reach ops k k (i + j) = true
  | [], _, _, j, x, h => by simp at h
  | x0 :: xs, i, h, j, x, hx => by
    simp only [slotsOkWith, Bool.and_eq_true, Bool.or_eq_true] at h
    cases j with
    | zero => simp only [List.getElem?_cons_zero, Option.some.injEq] at hx; subst hx; exact h.1
    | succ j =>
      have := slotsOkWith_spec xs (i + 1) h.2 j x (by simpa using hx)
      rwa [show i + (j + 1) = i + 1 + j by omega]

theorem slotsOk_spec {ops : Array Oper} : ∀ (ys before : List Oper) (k : Nat), slotsOk ops before k ys = true → before.length = k → ∀ j y, ys[j]? = some y →
    (∀ e, e ∈ y.after → Region.binds .any e = true → e.on < k + j) ∧ ∀ i x, (before ++ ys)[i]? = some x → i < k + j → slotsApart ops x y = true ∨ reach ops (k + j) (k + j) i = true
  | [], _, _, _, _, j, y, h => by simp at h
  | y0 :: ys, before, k, h, hl, j, y, hy => by
    simp only [slotsOk, Bool.and_eq_true, List.all_eq_true, Bool.or_eq_true, Bool.not_eq_true'] at h
    obtain ⟨⟨h1, h2⟩, h3⟩ := h
    cases j with
    | zero =>
      simp only [List.getElem?_cons_zero, Option.some.injEq] at hy
      subst hy
      refine ⟨fun e he hb => ?_, fun i x hx hi => ?_⟩
      · rcases h1 e (Array.mem_toList_iff.2 he) with h4 | h4
        · rw [hb] at h4; cases h4
        · exact Nat.blt_eq ▸ h4
      · rw [List.getElem?_append_left (by omega)] at hx
        have := slotsOkWith_spec before 0 h2 i x hx
        rwa [Nat.zero_add] at this
    | succ j =>
      have := slotsOk_spec ys (before ++ [y0]) (k + 1) h3 (by simp [hl]) j y (by simpa using hy)
      rw [show k + (j + 1) = k + 1 + j by omega]
      refine ⟨this.1, fun i x hx hi => this.2 i x ?_ hi⟩
      rw [List.append_assoc]; exact hx

theorem slotsApart_spec {ops : Array Oper} {x y : Oper} (h : slotsApart ops x y = true) : (∀ d, x.dst = some d → d ∉ looksAt ops y ∧ y.dst ≠ some d) ∧ ∀ d, y.dst = some d → d ∉ looksAt ops x := by
  unfold slotsApart at h
  simp only [Bool.and_eq_true] at h
  refine ⟨fun d hd => ?_, fun d hd => ?_⟩
  · have h1 := h.1
    rw [hd] at h1
    simp only [Bool.and_eq_true, Bool.not_eq_true'] at h1
    refine ⟨fun hm => ?_, fun hy => ?_⟩
    · have := h1.1
      rw [List.contains_eq_mem] at this
      simp [hm] at this
    · have h2 := h1.2
      rw [hy] at h2
      simp at h2
  · have h1 := h.2
    rw [hd] at h1
    simp only [Bool.not_eq_true'] at h1
    intro hm
    rw [List.contains_eq_mem] at h1
    simp [hm] at h1

theorem draw_items {E : Env} {rec : Fun} {n : Nat} {ops : Array Oper} (hs : slotsOk ops [] 0 ops.toList = true) : ∀ (rest : List Oper) (fs : List Foot) (k : Nat) (s s' : St), drawRun E rec n ops rest fs k s = some s' → fs.length = k → ops.toList.drop k = rest →
    ∃ L : List Item, L.length = rest.length ∧ (∀ i x, L[i]? = some x → x.k = k + i ∧ rest[i]? = some x.o) ∧ finalSt s L = s' ∧ Good E rec n ops s L ∧
      (∀ x, x ∈ L → ∀ i g, fs[i]? = some g → (disj g.W x.f.T = true ∧ disj x.f.W g.T = true ∧ disj g.W x.f.W = true) ∨ reach ops x.k x.k i = true)
  | [], fs, k, s, s', h, _, _ => by
    simp only [drawRun, Option.some.injEq] at h
    exact ⟨[], rfl, fun i x hx => by simp at hx, h, trivial, fun x hx => by cases hx⟩
  | o :: rest, fs, k, s, s', h, hl, hd => by
    simp only [drawRun] at h
    cases ho : oneRun E rec n ops o s with
    | none => rw [ho] at h; cases h
    | some y =>
      obtain ⟨e, f⟩ := y
      rw [ho] at h
      simp only at h
      split at h
      · rename_i hc
        simp only [Bool.and_eq_true] at hc
        obtain ⟨hc1, hc2⟩ := hc
        have hd1 : ops.toList.drop (k + 1) = rest := by
          have := congrArg (List.drop 1) hd
          rw [List.drop_drop] at this
          simpa using this
        obtain ⟨L, i1, i2, i3, i4, i5⟩ := draw_items hs rest (fs ++ [f]) (k + 1) (e.act s) s' h (by simp [hl]) hd1
        have hget : ∀ i, ops.toList[k + i]? = (o :: rest)[i]? := by
          intro i
          rw [← hd, List.getElem?_drop]
        refine ⟨⟨k, o, e, f⟩ :: L, by simp [i1], fun i x hx => ?_, i3, ⟨ho, fun x hx hnr => ?_, i4⟩, fun x hx i g hg => ?_⟩
        · cases i with
          | zero => simp only [List.getElem?_cons_zero, Option.some.injEq] at hx; subst hx; exact ⟨rfl, rfl⟩
          | succ i =>
            have := i2 i x (by simpa using hx)
            exact ⟨by omega, by simpa using this.2⟩
        · -- a pair whose order is left open
          obtain ⟨i, hi⟩ := List.getElem?_of_mem hx
          obtain ⟨hk, hr⟩ := i2 i x hi
          have hnr' : ∀ f, reach ops f x.k k = true → False := fun f h => hnr (reach_sound f x.k k h)
          obtain ⟨hedge, hsl⟩ := slotsOk_spec ops.toList [] 0 hs rfl x.k x.o (by rw [hk, show k + 1 + i = k + (i + 1) by omega, hget]; simpa using hr)
          simp only [Nat.zero_add, List.nil_append] at hsl
          have hsa := hsl k o (by have := hget 0; simpa using this) (by omega)
          rcases hsa with hsa | hsa
          · obtain ⟨s1, s2⟩ := slotsApart_spec hsa
            have hft := i5 x hx k f (by simp [hl])
            rcases hft with ⟨f1, f2, f3⟩ | hft
            · refine ⟨s1, s2, disj_spec f1, disj_spec f2, disj_spec f3, fun t ht r hr' hm => ?_⟩
              simp only at hm
              cases hlg : e.lg with
              | nil => rw [hlg] at hm; cases hm
              | cons a l =>
                rw [hlg] at hc2
                simp only [noHit] at hc2
                rcases unhit_spec rest (k + 1) hc2 i x.o hr with h1 | h1
                · exact hnr' _ (by rw [hk]; exact h1)
                · rw [hlg] at hm
                  exact disj_spec (h1 t ht) r hr' hm
            · exact (hnr' _ hft).elim
          · exact (hnr' _ hsa).elim
        · rcases List.mem_cons.1 hx with e1 | e1
          · subst e1
            have := feetApart_spec fs 0 hc1 i g hg
            rwa [Nat.zero_add] at this
          · refine i5 x e1 i g ?_
            rw [List.getElem?_append_left (by have := (List.getElem?_eq_some_iff.1 hg).1; exact this)]
            exact hg
      · cases h

section
variable (gam : Nat → Option (Nat × Nat)) (E : Env)

theorem any_ok (hE : EnvOk gam E) (hgam : ∀ g, gam g = some (g, 0)) {rec : Fun} (hrec : FunOk gam E rec) {n : Nat} (hn : 0 < n) {ops : Array Oper} {Q : Exit → Act → World → Prop} : ∀ (m : Nat) (L : List Item) (listed : Array Bool) (a : Act) (w : World) (g : Gh) (s : St), L.length = m →
    FrOk gam E g w n s a.tmps.toList → Good E rec n ops s L → listed.size = ops.size → (∀ x, x ∈ L → ops[x.k]? = some x.o) → L.Pairwise (fun x y => x.k < y.k) → (∀ k, k < ops.size → (listed.getD k true = false ↔ ∃ x, x ∈ L ∧ x.k = k)) →
    (∀ y i, listed.getD y false = true → Reaches ops y i → listed.getD i false = true) → (∀ x, x ∈ L → ∀ e, e ∈ x.o.after → Region.binds .any e = true → e.on < x.k) →
    (∀ a' w', a'.defers = a.defers → (∃ g', FrOk gam E g' w' n (finalSt s L) a'.tmps.toList ∧ StT n g w s g' w' (finalSt s L)) → Q .normal a' w') → wpAny E.P .any ops Q m listed a w := by
  intro m
  induction m with
  | zero =>
    intro L listed a w g s hm hF _ _ _ _ hli _ _ hQ
    have hL : L = [] := List.eq_nil_of_length_eq_zero hm
    subst hL
    refine ⟨?_, hQ a w rfl ⟨g, hF, StT.refl n g w s⟩⟩
    rw [List.eq_nil_iff_forall_not_mem]
    intro j hj
    obtain ⟨h1, o, h2, _⟩ := mem_ready.1 hj
    obtain ⟨x, hx, _⟩ := (hli j (Array.getElem?_eq_some_iff.1 h2).1).1 h1
    cases hx
  | succ m ih =>
    intro L listed a w g s hm hF hG hsz hops hpw hli hcl hed hQ
    have hlist : ∀ k, k < ops.size → (∀ x, x ∈ L → x.k ≠ k) → listed.getD k false = true := by
      intro k hk hno
      have hk2 : k < listed.size := by rw [hsz]; exact hk
      have h1 : ¬ listed.getD k true = false := fun h => by
        obtain ⟨x, hx, e⟩ := (hli k hk).1 h
        exact hno x hx e
      simp only [Array.getD_eq_getD_getElem?, Array.getElem?_eq_getElem hk2, Option.getD_some] at h1 ⊢
      simpa using h1
    refine ⟨fun hr => ?_, fun i hi => ?_⟩
    · exfalso
      cases L with
      | nil => cases hm
      | cons x L =>
        have hx := hops x (by simp)
        have hxs : x.k < ops.size := (Array.getElem?_eq_some_iff.1 hx).1
        have : x.k ∈ Region.ready .any ops listed := by
          refine mem_ready.2 ⟨(hli x.k hxs).2 ⟨x, by simp, rfl⟩, x.o, hx, fun e he hb => ?_⟩
          have hlt := hed x (by simp) e he hb
          refine hlist e.on (by omega) fun y hy => ?_
          rcases List.mem_cons.1 hy with e1 | e1
          · subst e1; omega
          · have := (List.pairwise_cons.1 hpw).1 y e1; omega
        rw [hr] at this
        cases this
    · obtain ⟨h1, o, h2, h3⟩ := mem_ready.1 hi
      have his : i < ops.size := (Array.getElem?_eq_some_iff.1 h2).1
      obtain ⟨x, hx, hxk⟩ := (hli i his).1 h1
      subst hxk
      have hxo := hops x hx
      rw [hxo] at h2
      cases h2
      obtain ⟨A, B, rfl⟩ := List.append_of_mem hx
      have hun : ∀ b, b ∈ A ++ x :: B → listed.getD b.k false = true → False := by
        intro b hb hlb
        have hbs : b.k < ops.size := (Array.getElem?_eq_some_iff.1 (hops b hb)).1
        have := (hli b.k hbs).2 ⟨b, hb, rfl⟩
        have hk2 : b.k < listed.size := by rw [hsz]; exact hbs
        simp only [Array.getD_eq_getD_getElem?, Array.getElem?_eq_getElem hk2, Option.getD_some] at this hlb
        rw [this] at hlb; cases hlb
      have hnr : ∀ b, b ∈ A → ¬ Reaches ops x.k b.k := by
        intro b hb hrch
        have hbl : listed.getD b.k false = true := by
          generalize b.k = bk at hrch
          cases hrch with
          | step ho he hbi =>
            rw [hxo] at ho; cases ho
            exact h3 _ he hbi
          | trans ho he hbi h =>
            rw [hxo] at ho; cases ho
            exact hcl _ _ (h3 _ he hbi) h
        exact hun b (List.mem_append.2 (.inl hb)) hbl
      obtain ⟨p1, p2, p3⟩ := pull A s x B hG hnr
      unfold wpOp
      rw [hxo]
      simp only
      refine oneRun_ok gam E hE hgam hrec hn hF p1 fun a' w' hdf ⟨g', hF', hS'⟩ => ?_
      have hsub : (A ++ B).Sublist (A ++ x :: B) := List.Sublist.append_left (List.sublist_cons_self x B) A
      have hne : ∀ y, y ∈ A ++ B → y.k ≠ x.k := by
        intro y hy
        rw [List.pairwise_append] at hpw
        obtain ⟨q1, q2, q3⟩ := hpw
        rcases List.mem_append.1 hy with h | h
        · have := q3 y h x (by simp); omega
        · have := (List.pairwise_cons.1 q2).1 y h; omega
      refine ih (A ++ B) _ a' w' g' (x.e.act s) (by simp at hm ⊢; omega) hF' p2 (by simp [hsz]) (fun y hy => hops y (hsub.subset hy)) (hpw.sublist hsub) (fun k hk => ?_) (fun y j hy hr => ?_) (fun y hy => hed y (hsub.subset hy)) fun a2 w2 hd2 ⟨g2, hF2, hS2⟩ => ?_
      · by_cases hkx : k = x.k
        · subst hkx
          constructor
          · intro h
            exfalso
            have hk2 : x.k < listed.size := by rw [hsz]; exact hk
            simp [hk2] at h
          · rintro ⟨y, hy, e⟩
            exact (hne y hy e).elim
        · rw [getD_set_ne true (fun h => hkx h.symm), hli k hk]
          constructor
          · rintro ⟨y, hy, e⟩
            refine ⟨y, ?_, e⟩
            rcases List.mem_append.1 hy with h | h
            · exact List.mem_append.2 (.inl h)
            · rcases List.mem_cons.1 h with e1 | e1
              · subst e1; exact (hkx e.symm).elim
              · exact List.mem_append.2 (.inr e1)
          · rintro ⟨y, hy, e⟩
            exact ⟨y, hsub.subset hy, e⟩
      · by_cases hyx : y = x.k
        · subst hyx
          refine getD_set_true ?_
          cases hr with
          | step ho he hbi =>
            rw [hxo] at ho; cases ho
            exact h3 _ he hbi
          | trans ho he hbi h =>
            rw [hxo] at ho; cases ho
            exact hcl _ _ (h3 _ he hbi) h
        · rw [getD_set_ne false (fun h => hyx h.symm)] at hy
          exact getD_set_true (hcl y j hy hr)
      · refine hQ a2 w2 (hd2.trans hdf) ⟨g2, ?_, ?_⟩
        · rw [← p3]; exact hF2
        · rw [← p3]; exact hS'.trans hS2

theorem FrOk.drew {g : Gh} {w : World} {n : Nat} {s : St} {ts : List Value} (h : FrOk gam E g w n s ts) : FrOk gam E g { w with drawn := w.drawn + 1 } n s ts ∧ StT n g w s g { w with drawn := w.drawn + 1 } s :=
  ⟨⟨h.sl, h.cl, h.wf, ⟨h.gl.cells, h.gl.sep, h.gl.ro⟩, h.ti, h.gk, h.ln⟩, ⟨⟨Grows.refl _, rfl, rfl, rfl, Nat.le_refl _, fun _ _ q _ h => ⟨q, h⟩, fun _ _ _ _ h => .inl h, fun _ _ => .inl rfl⟩, rfl, fun _ h => h, fun _ _ _ _ h => .inr h⟩⟩

theorem draw_ok (hE : EnvOk gam E) (hgam : ∀ g, gam g = some (g, 0)) (hmix : E.P.follows .mixedOrders = true) {rec : Fun} (hrec : FunOk gam E rec) {n : Nat} (hn : 0 < n) {ops : Array Oper} {id : Nat} {Q : Exit → Act → World → Prop} {a : Act} {w : World} {g : Gh} {s s' : St}
    (hF : FrOk gam E g w n s a.tmps.toList) (hs : slotsOk ops [] 0 ops.toList = true) (h : drawRun E rec n ops ops.toList [] 0 s = some s')
    (hQ : ∀ a' w', a'.defers = a.defers → (∃ g', FrOk gam E g' w' n s' a'.tmps.toList ∧ StT n g w s g' w' s') → Q .normal a' w') : (Code.region id ops true).wp E.P Q a w := by
  obtain ⟨L, i1, i2, i3, i4, _⟩ := draw_items hs ops.toList [] 0 s s' h rfl (by simp)
  simp only [Nat.zero_add] at i2
  have hLs : L.length = ops.size := by simpa using i1
  obtain ⟨hF', hS'⟩ := hF.drew
  refine wp_region_any hmix ?_
  have hk : ∀ x, x ∈ L → ∃ i, L[i]? = some x ∧ x.k = i ∧ ops[i]? = some x.o := by
    intro x hx
    obtain ⟨i, hi⟩ := List.getElem?_of_mem hx
    obtain ⟨h1, h2⟩ := i2 i x hi
    exact ⟨i, hi, h1, by rw [Array.getElem?_toList] at h2; exact h2⟩
  have hkey := any_ok gam E hE hgam hrec hn (Q := Q) (ops := ops) ops.size L (Array.replicate ops.size false) a _ g s hLs hF' i4 (by simp) (fun x hx => by obtain ⟨i, _, h1, h2⟩ := hk x hx; rw [h1]; exact h2) ?_ (fun k hk' => ?_) (fun y i hy => ?_) (fun x hx e he hb => ?_) ?_
  · exact hkey
  · rw [List.pairwise_iff_getElem]
    intro i j hi hj hij
    have h1 := (i2 i L[i] (List.getElem?_eq_getElem hi)).1
    have h2 := (i2 j L[j] (List.getElem?_eq_getElem hj)).1
    omega
  · constructor
    · intro _
      have hkL : k < L.length := by omega
      exact ⟨L[k], List.getElem_mem hkL, (i2 k L[k] (List.getElem?_eq_getElem hkL)).1⟩
    · intro _
      simp [hk']
  · exfalso
    simp only [Array.getD_eq_getD_getElem?] at hy
    rw [Array.getElem?_replicate] at hy
    split at hy <;> cases hy
  · obtain ⟨i, h1, h2, h3⟩ := hk x hx
    have := (slotsOk_spec ops.toList [] 0 hs rfl i x.o (by rw [Array.getElem?_toList]; exact h3)).1 e he hb
    omega
  · intro a' w' hd ⟨g', hF2, hS2⟩
    rw [i3] at hF2 hS2
    exact hQ a' w' hd ⟨g', hF2, hS'.trans hS2⟩

theorem ops_ok (hE : EnvOk gam E) (hgam : ∀ g, gam g = some (g, 0)) {rec : Fun} (hrec : FunOk gam E rec) {n : Nat} (hn : 0 < n) {ops : Array Oper} {Q : Exit → Act → World → Prop} : ∀ (rest : List Oper) (k : Nat) (a : Act) (w : World) (g : Gh) (s s' : St),
    ops.toList.drop k = rest → FrOk gam E g w n s a.tmps.toList → opsRun E rec n ops rest s = some s' →
    (∀ a' w', a'.defers = a.defers → (∃ g', FrOk gam E g' w' n s' a'.tmps.toList ∧ StT n g w s g' w' s') → Q .normal a' w') → wpOps E.P ops Q (List.range' k rest.length) a w
  | [], k, a, w, g, s, s', _, hF, h, hQ => by
    simp only [opsRun, Option.some.injEq] at h
    subst h
    exact hQ a w rfl ⟨g, hF, StT.refl n g w s⟩
  | o :: rest, k, a, w, g, s, s', hd, hF, h, hQ => by
    simp only [opsRun] at h
    cases ho : oneRun E rec n ops o s with
    | none => rw [ho] at h; cases h
    | some y =>
      obtain ⟨e, f⟩ := y
      rw [ho] at h
      simp only at h
      have hget : ops[k]? = some o := by
        have : (ops.toList.drop k)[0]? = some o := by rw [hd]; rfl
        rw [List.getElem?_drop] at this
        simpa using this
      have hd1 : ops.toList.drop (k + 1) = rest := by
        have := congrArg (List.drop 1) hd
        rw [List.drop_drop] at this
        simpa using this
      simp only [List.length_cons, List.range'_succ, wpOps, hget]
      exact oneRun_ok gam E hE hgam hrec hn hF ho fun a' w' hdf ⟨g', hF', hS'⟩ =>
        ops_ok hE hgam hrec hn rest (k + 1) a' w' g' (e.act s) s' hd1 hF' h fun a2 w2 hd2 ⟨g2, hF2, hS2⟩ => hQ a2 w2 (hd2.trans hdf) ⟨g2, hF2, hS'.trans hS2⟩
end
end Go.Bv
/- Control. -/
namespace Go.Bv
open Go

def exitOf : Ex → Exit
  | .nx => .normal
  | .rt => .ret
  | .ex id => .exit id
  | .gt l => .goto l

/-- A scope that is left, or in which the run goes on behind a label. -/
def ScopeOk (P : Program) (Q : Exit → Act → World → Prop) (c : Code) : Nat → Code → Act → World → Prop
  | 0, _, _, _ => False
  | k + 1, cur, a, w => cur.wp P (fun e a' w' => match e with
    | .goto l => (match findLabel c l with | some rest => ScopeOk P Q c k rest a' w' | none => Q (.goto l) a' w')
    | e => Q e a' w') a w

theorem scope_key {P : Program} {Q : Exit → Act → World → Prop} {c : Code} (b : Frame) (kk : List Go.Item) (cs : List Frame) : ∀ (k : Nat) (cur : Code) (a : Act) (w : World), ScopeOk P Q c k cur a w →
    ∃ e a' w', Q e a' w' ∧ Arrives P (lone (b.at a (.code cur :: .inScope c :: kk)) cs w) b kk cs e a' w'
  | 0, _, _, _, h => h.elim
  | k + 1, cur, a, w, h => by
    obtain ⟨e, a₁, w₁, hq, harr⟩ := h b (.inScope c :: kk) cs
    cases e with
    | normal => exact ⟨.normal, a₁, w₁, hq, Steps.trans harr (.one step_inScope)⟩
    | exit id => exact ⟨.exit id, a₁, w₁, hq, fun k' hk => harr k' (by simp [exitTo, hk])⟩
    | goto l =>
      simp only at hq
      cases hf : findLabel c l with
      | none =>
        rw [hf] at hq
        exact ⟨.goto l, a₁, w₁, hq, fun k' hk => harr k' (by simp [gotoIn, hf, hk])⟩
      | some rest =>
        rw [hf] at hq
        obtain ⟨e₂, a₂, w₂, hq₂, harr₂⟩ := scope_key b kk cs k rest a₁ w₁ hq
        exact ⟨e₂, a₂, w₂, hq₂, .of_steps (harr _ (by simp [gotoIn, hf])) harr₂⟩
    | ret => exact ⟨_, a₁, w₁, hq, harr⟩
    | panic ch => exact ⟨_, a₁, w₁, hq, harr⟩
    | outgrown => exact ⟨_, a₁, w₁, hq, harr⟩

theorem wp_scope_ok {P : Program} {Q : Exit → Act → World → Prop} {c : Code} {k : Nat} {a : Act} {w : World} (h : ScopeOk P Q c k c a w) : (Code.scope c).wp P Q a w := by
  intro b kk cs
  obtain ⟨e, a', w', h1, h2⟩ := scope_key b kk cs k c a w h
  exact ⟨e, a', w', h1, .of_steps (.one step_scope) h2⟩

theorem exists_least {p : Nat → Prop} (h : ∃ n, p n) : ∃ n, p n ∧ ∀ m, p m → n ≤ m := by
  obtain ⟨n, hn⟩ := h
  induction n using Nat.strongRecOn with
  | _ n ih =>
    by_cases hm : ∃ m, m < n ∧ p m
    · obtain ⟨m, h1, h2⟩ := hm
      exact ih m h1 h2
    · exact ⟨n, hn, fun m hpm => by
        rcases Nat.lt_or_ge m n with h | h
        · exact (hm ⟨m, h, hpm⟩).elim
        · exact h⟩

open Classical in
noncomputable def leastOf (p : Nat → Prop) : Nat := if h : ∃ n, p n then (exists_least h).choose else 0
theorem leastOf_spec {p : Nat → Prop} (h : ∃ n, p n) : p (leastOf p) ∧ ∀ m, p m → leastOf p ≤ m := by
  unfold leastOf
  rw [dif_pos h]
  exact (exists_least h).choose_spec

section
variable (gam : Nat → Option (Nat × Nat)) (E : Env)

theorem clearSl_ok {g : Gh} : ∀ (bs : List Bool) {vs : List V} {cs : List Value}, Svs gam g vs cs → Svs gam g (clearSl bs vs) cs
  | [], vs, cs, h => by cases vs <;> exact h
  | b :: bs, [], cs, h => h
  | b :: bs, v :: vs, cs, ⟨c, cs', e, h1, h2⟩ => by
    refine ⟨c, cs', e, ?_, clearSl_ok bs h2⟩
    cases b
    · exact trivial
    · exact h1

mutual
theorem Sv.freed {g : Gh} {d : Nat} : ∀ (v : V) (c : Value), (∀ r, r ∈ v.roots → r ≠ d) → Sv gam g v c → Sv gam (g.free d) v c
  | .al r p i j, c, hr, ⟨B, hB, e⟩ => ⟨B, by simp only [Gh.free]; rw [if_neg (hr r (by simp [V.roots]))]; exact hB, e⟩
  | .als r p i j n z, c, hr, ⟨B, k, hB, e⟩ => ⟨B, k, by simp only [Gh.free]; rw [if_neg (hr r (by simp [V.roots]))]; exact hB, e⟩
  | .tup vs, c, hr, ⟨cv, e, k⟩ => ⟨cv, e, Svs.freed vs _ (fun r h => hr r (by simpa [V.roots] using h)) k⟩
  | .agg vs, c, hr, ⟨cv, e, k⟩ => ⟨cv, e, Svs.freed vs _ (fun r h => hr r (by simpa [V.roots] using h)) k⟩
  | .fn f pre caps, c, hr, ⟨p, q, e, k, l⟩ => ⟨p, q, e, Svs.freed pre _ (fun r h => hr r (by simp [V.roots, h])) k, Svs.freed caps _ (fun r h => hr r (by simp [V.roots, h])) l⟩
  | .any, _, _, e => e
  | .int _ _, _, _, e => e
  | .bool _, _, _, e => e
  | .str _, _, _, e => e
  | .sc _, _, _, e => e
  | .ifc _ _, _, _, e => e
  | .ro _, _, _, e => e
  | .rop _ _, _, _, e => e
  | .gp _ _, _, _, e => e
  | .box _, _, _, e => e
  | .own _ _, _, _, e => e
theorem Svs.freed {g : Gh} {d : Nat} : ∀ (v : List V) (c : List Value), (∀ r, r ∈ rootsOf v → r ≠ d) → Svs gam g v c → Svs gam (g.free d) v c
  | [], _, _, e => e
  | x :: xs, _, hr, ⟨c, cs, e, k, l⟩ => ⟨c, cs, e, Sv.freed x _ (fun r h => hr r (by simp [rootsOf, h])) k, Svs.freed xs _ (fun r h => hr r (by simp [rootsOf, h])) l⟩
end

theorem freeRoot_ok {g : Gh} {w : World} {n d : Nat} {sl rt : List V} {dy : List (Nat × Path)} {ts : List Value} (hF : FrOk gam E g w n ⟨sl, rt, dy⟩ ts) (hd : d < n) (hr : ∀ r, r ∈ rootsOf sl → r ≠ d) :
    FrOk gam E (g.free d) w n ⟨sl, rt.set d .any, dy⟩ ts ∧ StT n g w ⟨sl, rt, dy⟩ (g.free d) w ⟨sl, rt.set d .any, dy⟩ := by
  have hln := hF.ln
  simp only at hln
  have hR : ∀ y, rootsR (rt.set d .any) y = if y = d then some .any else rootsR rt y := by
    intro y
    simp only [rootsR]
    by_cases h : y = d
    · subst h; rw [if_pos rfl, List.getElem?_set_self (by omega)]
    · rw [if_neg h, List.getElem?_set_ne (fun e => h e.symm)]
  refine ⟨⟨Svs.freed gam sl ts hr hF.sl, ?_, ?_, ⟨hF.gl.cells, hF.gl.sep, hF.gl.ro⟩, ?_, hF.gk, by simpa using hln⟩, ⟨Fr.free g w d, by simp, fun _ h => h, fun r p B hrn hB => .inr ?_⟩⟩
  · refine Claims.free gam hF.cl (d := d) (R' := rootsR (rt.set d .any)) fun y => ?_
    rw [hR]
    by_cases h : y = d
    · subst h
      have hs : (rootsR rt y).isSome = true := by simp only [rootsR]; rw [List.getElem?_eq_getElem (by omega)]; rfl
      rw [if_pos rfl, if_pos rfl, if_pos hs]
    · rw [if_neg h, if_neg h]
  · intro r v hv
    have hv : rootsR (rt.set d .any) r = some v := hv
    rw [hR] at hv
    split at hv
    · cases hv; exact WFV.leaf any_leaf
    · exact hF.wf r v hv
  · have := hF.ti.free (d := d) (R' := rootsR (rt.set d .any)) fun y hy => by rw [hR, if_neg hy]
    exact this.weaken fun y q h => h.1
  · simp only [Gh.free]
    rw [if_neg (by omega)]; exact hB

theorem clearRt_ok {w : World} {n : Nat} {sl : List V} {dy : List (Nat × Path)} {ts : List Value} : ∀ (k : Nat) (pre vs : List V) (g : Gh), pre.length + k = n → FrOk gam E g w n ⟨sl, pre ++ vs, dy⟩ ts →
    ∃ g', FrOk gam E g' w n ⟨sl, pre ++ clearRt (rootsOf sl) pre.length k vs, dy⟩ ts ∧ StT n g w ⟨sl, pre ++ vs, dy⟩ g' w ⟨sl, pre ++ clearRt (rootsOf sl) pre.length k vs, dy⟩
  | 0, pre, vs, g, _, hF => ⟨g, by simpa [clearRt] using hF, by simpa [clearRt] using StT.refl n g w _⟩
  | k + 1, pre, [], g, _, hF => ⟨g, by simpa [clearRt] using hF, by simpa [clearRt] using StT.refl n g w _⟩
  | k + 1, pre, v :: vs, g, hn, hF => by
    have next : ∀ (x : V) (g1 : Gh), FrOk gam E g1 w n ⟨sl, (pre ++ [x]) ++ vs, dy⟩ ts → ∃ g', FrOk gam E g' w n ⟨sl, pre ++ x :: clearRt (rootsOf sl) (pre.length + 1) k vs, dy⟩ ts ∧ StT n g1 w ⟨sl, pre ++ x :: vs, dy⟩ g' w ⟨sl, pre ++ x :: clearRt (rootsOf sl) (pre.length + 1) k vs, dy⟩ := by
      intro x g1 h1
      obtain ⟨g', a, b⟩ := clearRt_ok k (pre ++ [x]) vs g1 (by simp; omega) h1
      simp only [List.append_assoc, List.cons_append, List.nil_append, List.length_append, List.length_cons, List.length_nil, Nat.zero_add] at a b
      exact ⟨g', a, b⟩
    simp only [clearRt]
    by_cases hm : (rootsOf sl).any (Nat.beq pre.length) = true
    · rw [if_pos hm]
      exact next v g (by simpa using hF)
    · rw [if_neg hm]
      obtain ⟨h1, h2⟩ := freeRoot_ok gam E hF (d := pre.length) (by omega) (fun r hr e => by
        subst e
        exact hm (List.any_eq_true.2 ⟨pre.length, hr, by simp⟩))
      have hset : (pre ++ v :: vs).set pre.length V.any = pre ++ .any :: vs := by
        rw [List.set_append, if_neg (by omega), Nat.sub_self, List.set_cons_zero]
      rw [hset] at h1 h2
      obtain ⟨g', a, b⟩ := next .any _ (by simpa using h1)
      exact ⟨g', a, h2.trans b⟩

theorem clearSt_ok {g : Gh} {w : World} {n : Nat} {s : St} {ts : List Value} (mask : List Bool) (hF : FrOk gam E g w n s ts) :
    ∃ g', FrOk gam E g' w n (clearSt n mask s) ts ∧ StT n g w s g' w (clearSt n mask s) := by
  have hF1 : FrOk gam E g w n ⟨clearSl mask s.sl, [] ++ s.rt, s.dy⟩ ts := ⟨clearSl_ok gam _ hF.sl, hF.cl, hF.wf, hF.gl, hF.ti, hF.gk, hF.ln⟩
  obtain ⟨g', a, b⟩ := clearRt_ok gam E n [] s.rt g (by simp) hF1
  exact ⟨g', a, ⟨b.fr, b.ln, b.dy, b.kb⟩⟩

/-- What holds behind a piece of a frame's run. -/
def Done (n : Nat) (g : Gh) (w : World) (s : St) (a : Act) (s' : St) (a' : Act) (w' : World) : Prop :=
  a'.defers = a.defers ∧ ∃ g', FrOk gam E g' w' n s' a'.tmps.toList ∧ StT n g w s g' w' s'

theorem Done.trans {n : Nat} {g g1 : Gh} {w w1 w2 : World} {s s1 s2 : St} {a a1 a2 : Act} (hd : a1.defers = a.defers) (hS : StT n g w s g1 w1 s1) (h : Done gam E n g1 w1 s1 a1 s2 a2 w2) : Done gam E n g w s a s2 a2 w2 := by
  obtain ⟨h1, g2, h2, h3⟩ := h
  exact ⟨h1.trans hd, g2, h2, hS.trans h3⟩

theorem exec_ok (hE : EnvOk gam E) (hgam : ∀ g, gam g = some (g, 0)) (hmix : E.P.follows .mixedOrders = true) {rec : Fun} (hrec : FunOk gam E rec) {lv : Nat → List Nat} {n : Nat} (hn : 0 < n) : ∀ (fuel : Nat) (c : Code) (s s' : St) (x : Ex) (a : Act) (w : World) (g : Gh) (Q : Exit → Act → World → Prop),
    FrOk gam E g w n s a.tmps.toList → exec E rec lv n fuel c s = some (x, s') → (∀ a' w', Done gam E n g w s a s' a' w' → Q (exitOf x) a' w') → c.wp E.P Q a w := by
  intro fuel
  induction fuel with
  | zero => intro c s s' x a w g Q hF h; cases h
  | succ fuel ih =>
    intro c s s' x a w g Q hF h hQ
    have stay : some (Ex.nx, s) = some (x, s') → Q .normal a w := by
      intro h
      cases h
      exact hQ a w ⟨rfl, g, hF, StT.refl n g w s⟩
    cases c with
    | skip => exact wp_skip (stay h)
    | label l => exact wp_label (stay h)
    | region id ops draw =>
      simp only [exec] at h
      cases draw with
      | true =>
        simp only [if_true] at h
        split at h
        · rename_i hs
          cases hd : drawRun E rec n ops ops.toList [] 0 s with
          | none => rw [hd] at h; cases h
          | some s1 =>
            rw [hd] at h
            cases h
            exact draw_ok gam E hE hgam hmix hrec hn hF hs hd fun a' w' h1 h2 => hQ a' w' ⟨h1, h2⟩
        · cases h
      | false =>
        simp only [Bool.false_eq_true, if_false] at h
        cases hd : opsRun E rec n ops ops.toList s with
        | none => rw [hd] at h; cases h
        | some s1 =>
          rw [hd] at h
          cases h
          refine wp_region ?_
          have := ops_ok gam E hE hgam hrec hn (Q := Q) (ops := ops) ops.toList 0 a w g s s' (by simp) hF hd fun a' w' h1 h2 => hQ a' w' ⟨h1, h2⟩
          rw [List.range_eq_range']
          simpa using this
    | seq c1 c2 =>
      simp only [exec] at h
      cases h1 : exec E rec lv n fuel c1 s with
      | none => rw [h1] at h; cases h
      | some y =>
        obtain ⟨x1, s1⟩ := y
        rw [h1] at h
        refine wp_seq (ih c1 s s1 x1 a w g _ hF h1 fun a1 w1 hd1 => ?_)
        cases x1 with
        | nx =>
          simp only at h
          obtain ⟨e1, g1, hF1, hS1⟩ := hd1
          exact ih c2 s1 s' x a1 w1 g1 Q hF1 h fun a2 w2 hd2 => hQ a2 w2 (hd2.trans gam E e1 hS1)
        | rt => cases h; exact hQ a1 w1 hd1
        | ex id => cases h; exact hQ a1 w1 hd1
        | gt l => cases h; exact hQ a1 w1 hd1
    | cond y c1 c2 =>
      simp only [exec] at h
      cases hv : s.ev y with
      | bool t =>
        rw [hv] at h
        simp only at h
        have he := ev_ok gam hgam hF.sl y
        rw [hv] at he
        have he : a.eval y = .bool t := he
        exact wp_cond he (ih _ s s' x a w g Q hF h hQ)
      | _ => rw [hv] at h; cases h
    | block id body =>
      simp only [exec] at h
      cases h1 : exec E rec lv n fuel body s with
      | none => rw [h1] at h; cases h
      | some y =>
        obtain ⟨x1, s1⟩ := y
        rw [h1] at h
        refine wp_block (ih body s s1 x1 a w g _ hF h1 fun a1 w1 hd1 => ?_)
        cases x1 with
        | nx => cases h; exact hQ a1 w1 hd1
        | rt => cases h; exact hQ a1 w1 hd1
        | gt l => cases h; exact hQ a1 w1 hd1
        | ex i =>
          simp only [Option.some.injEq, Prod.mk.injEq] at h
          obtain ⟨e1, e2⟩ := h
          subst e2
          simp only [exitOf, Exit.inBlock]
          by_cases hi : i = id
          · subst hi
            simp only [beq_self_eq_true, if_true] at e1
            subst e1
            simp only [if_true]
            exact hQ a1 w1 hd1
          · rw [if_neg (by simpa using hi)] at e1
            subst e1
            rw [if_neg hi]
            exact hQ a1 w1 hd1
    | loop body =>
      simp only [exec] at h
      -- how many rounds are left
      obtain ⟨g0, hF0, hS0⟩ := clearSt_ok gam E (deadMask (lv (loopKey body)) 0 s.sl) hF
      let Inv : Act → World → Nat → Prop := fun a1 w1 k => ∃ s1 g1, loopRun n (exec E rec lv n fuel body) ((clearDead n (lv (loopKey body)) s).sl.map known) k s1 = some (x, s') ∧ FrOk gam E g1 w1 n s1 a1.tmps.toList ∧ StT n g w s g1 w1 s1 ∧ a1.defers = a.defers
      refine wp_loop (fun a1 w1 => ∃ k, Inv a1 w1 k) (fun a1 w1 => leastOf (Inv a1 w1)) ⟨fuel, _, g0, h, hF0, hS0, rfl⟩ fun a1 w1 hI => ?_
      obtain ⟨hl1, hl2⟩ := leastOf_spec hI
      generalize hk : leastOf (Inv a1 w1) = k at hl1 hl2
      obtain ⟨s1, g1, hrun, hF1, hS1, hd1⟩ := hl1
      cases k with
      | zero => cases hrun
      | succ k =>
        simp only [loopRun] at hrun
        cases h1 : exec E rec lv n fuel body s1 with
        | none => rw [h1] at hrun; cases hrun
        | some y =>
          obtain ⟨x1, s2⟩ := y
          rw [h1] at hrun
          refine ih body s1 s2 x1 a1 w1 g1 _ hF1 h1 fun a2 w2 hd2 => ?_
          have hd3 := hd2.trans gam E hd1 hS1
          cases x1 with
          | nx =>
            simp only at hrun
            obtain ⟨e3, g3, hF3, hS3⟩ := hd3
            have hInv : Inv a2 w2 k := by
              obtain ⟨g4, hF4, hS4⟩ := clearSt_ok gam E ((clearDead n (lv (loopKey body)) s).sl.map known) hF3
              exact ⟨_, g4, hrun, hF4, hS3.trans hS4, e3⟩
            refine ⟨⟨k, hInv⟩, ?_⟩
            have := (leastOf_spec ⟨k, hInv⟩).2 k hInv
            omega
          | rt => cases hrun; exact hQ a2 w2 hd3
          | ex id => cases hrun; exact hQ a2 w2 hd3
          | gt l => cases hrun; exact hQ a2 w2 hd3
    | exit id => simp only [exec, Option.some.injEq, Prod.mk.injEq] at h; obtain ⟨rfl, rfl⟩ := h; exact wp_exit (hQ a w ⟨rfl, g, hF, StT.refl n g w s⟩)
    | ret => simp only [exec, Option.some.injEq, Prod.mk.injEq] at h; obtain ⟨rfl, rfl⟩ := h; exact wp_ret (hQ a w ⟨rfl, g, hF, StT.refl n g w s⟩)
    | goto l => simp only [exec, Option.some.injEq, Prod.mk.injEq] at h; obtain ⟨rfl, rfl⟩ := h; exact wp_goto (hQ a w ⟨rfl, g, hF, StT.refl n g w s⟩)
    | scope body =>
      simp only [exec] at h
      have key : ∀ (k : Nat) (cur : Code) (s1 : St) (g1 : Gh) (a1 : Act) (w1 : World), scopeRun (exec E rec lv n fuel) body k cur s1 = some (x, s') → FrOk gam E g1 w1 n s1 a1.tmps.toList → StT n g w s g1 w1 s1 → a1.defers = a.defers → ScopeOk E.P Q body k cur a1 w1 := by
        intro k
        induction k with
        | zero => intro cur s1 g1 a1 w1 h; cases h
        | succ k ihk =>
          intro cur s1 g1 a1 w1 hrun hF1 hS1 hd1
          simp only [scopeRun] at hrun
          cases h1 : exec E rec lv n fuel cur s1 with
          | none => rw [h1] at hrun; cases hrun
          | some y =>
            obtain ⟨x1, s2⟩ := y
            rw [h1] at hrun
            refine ih cur s1 s2 x1 a1 w1 g1 _ hF1 h1 fun a2 w2 hd2 => ?_
            have hd3 := hd2.trans gam E hd1 hS1
            cases x1 with
            | nx => cases hrun; exact hQ a2 w2 hd3
            | rt => cases hrun; exact hQ a2 w2 hd3
            | ex id => cases hrun; exact hQ a2 w2 hd3
            | gt l =>
              simp only [exitOf] at hrun ⊢
              cases hf : findLabel body l with
              | none =>
                rw [hf] at hrun
                cases hrun
                exact hQ a2 w2 hd3
              | some rest =>
                rw [hf] at hrun
                obtain ⟨e3, g3, hF3, hS3⟩ := hd3
                exact ihk rest s2 g3 a2 w2 hrun hF3 hS3 e3
      exact wp_scope_ok (key fuel body s g a w h hF (StT.refl n g w s) rfl)
    | _ => cases h
end
end Go.Bv
/- Results on their way out of a frame. -/
namespace Go.Bv
open Go

section
variable (gam : Nat → Option (Nat × Nat)) (E : Env)

/-- A name in the words of the caller, who knows no roots of the frame's own. -/
inductive NameOut (n : Nat) : V → V → Prop
  | al {r : Nat} {p : Path} {i j : Nat} (h : n ≤ r) : NameOut n (.al r p i j) (.al (r - n) p i j)
  | als {r : Nat} {p : Path} {i j k z : Nat} (h : n ≤ r) : NameOut n (.als r p i j k z) (.als (r - n) p i j k z)

/-- What leaves: it floats, or is plain, or is a name that stays. -/
structure LeaveOk (R : Roots) (N : Nat) (P0 : Path) (g : Gh) (w : World) (m : M) (cs : List Value) (v : V) (c : Value) (g' : Gh) (m' : M) (x : V) : Prop where
  ms : MS gam g' w R m' cs
  mt : MT gam g w m g' w m'
  ow : x.owner = true → PartOk gam g' w N P0 x c
  no : x.owner = false → (Pv gam g'.rho x c ∨ (g' = g ∧ m' = m ∧ NameOut m.n v x)) ∧ ∀ q, g'.base N (P0 ++ q) = none
  kp : Keeps g w g' w N (Off P0)
  ti : Tight g' (over R m'.rs) (fun y _ => y = N)

theorem leave1_ok {R : Roots} {N : Nat} {P0 : Path} {g : Gh} {w : World} {m m' : M} {cs : List Value} {v x : V} {c : Value} (hS : MS gam g w R m cs) (hN : over R m.rs N = none) (hfree : ∀ q, g.base N (P0 ++ q) = none)
    (hT : Tight g (over R m.rs) (fun y _ => y = N)) (hv : Sv gam g v c) {fz : Bool} (h : leave1 fz m v = some (x, m')) : ∃ g', LeaveOk gam R N P0 g w m cs v c g' m' x := by
  have hStill : Still (over R m.rs) N := still_none hN
  have hrN : ∀ r p, (∃ u, m.get r p = some u) → r ≠ N := by
    rintro r p ⟨u, hu⟩ rfl
    obtain ⟨t, ht, _⟩ := M.get_look hu
    simp only [over, ht] at hN; cases hN
  have hfa : FreeAt g (over R m.rs) N P0 := ⟨hfree, fun q hq ⟨e, _⟩ => by
    obtain ⟨y, q⟩ := q
    simp only at e
    subst e
    exact hStill q hq⟩
  have viaFreeze : ∀ x m', freeze1 m v = some (x, m') → ∃ g', LeaveOk gam R N P0 g w m cs v c g' m' x := by
    intro x m' h
    obtain ⟨g', a1, a2, a3, a4, a5, _, a7⟩ := keepsA_freeze1 gam (g' := g) hS h hv
    obtain ⟨k1, _⟩ := a5 N hStill
    exact ⟨g', a1, a2, fun ho => (by rw [plain_owner a4] at ho; cases ho), fun _ => ⟨.inl a3, fun q => k1.none _ trivial (hfree q)⟩, k1.weaken (fun _ _ => trivial), a7 _ hT⟩
  have viaFrz : ∀ x m', frz1 m v = some (x, m') → ∃ g', LeaveOk gam R N P0 g w m cs v c g' m' x := by
    intro x m' h
    obtain ⟨g', a1, a2, a3, a4, a5, _, a7⟩ := keepsA_frz1 gam (g' := g) hS h hv
    obtain ⟨k1, _⟩ := a5 N hStill
    exact ⟨g', a1, a2, fun ho => (by rw [plain_owner a4] at ho; cases ho), fun _ => ⟨.inl a3, fun q => k1.none _ trivial (hfree q)⟩, k1.weaken (fun _ _ => trivial), a7 _ hT⟩
  have viaTakeS : ∀ es cap m', takeS m v = some (es, cap, m') → ∃ g', LeaveOk gam R N P0 g w m cs v c g' m' (.own es cap) := by
    intro es cap m' ht
    obtain ⟨g1, hS1, hM1, hFl, hCk, hWf, hEx, r, p, i, n, es0, cap0, m2, hv', hget, hput, hrs, hlg, hvs, hbo, hlam, hrho, _⟩ := takeS_ok gam hS ht hv N P0 hfa (fun r p hu => .inl (hrN r p hu))
    have hr := hrN r p ⟨_, hget⟩
    have hb : ∀ q, Off P0 q → g1.base N q = g.base N q := fun q hq => by
      rw [hbo N q (fun ⟨_, t, e⟩ => hq t e), move_base_other]
      · exact fun ⟨_, t, e⟩ => hq t e
      · exact fun h => hr h.1.symm
    refine ⟨g1, hS1, hM1, fun _ => ⟨hFl, hCk, hWf, .inl rfl, hEx⟩, fun ho => (by cases ho), ⟨fun q B hq hB => by rw [hb q hq]; exact hB, fun q hq hB => by rw [hb q hq]; exact hB, fun b k q hq hl => ?_, fun _ _ _ _ _ _ h => h, hM1.fr.grow⟩, fun y q B hB => ?_⟩
    · rw [hlam]; exact move_lam_other g hl (fun h => hr h.1.symm)
    · by_cases hy : y = N
      · exact .inr hy
      · left
        rw [hbo y q (fun h => hy h.1)] at hB
        rw [show over R m'.rs = over R m2.rs by rw [hrs]]
        rcases hT.move (r2 := N) (p2 := P0) hput y q B hB with h | h | h
        · exact h
        · exact (hy h).elim
        · exact (hy h.1).elim
  cases v with
  | als r p i j k z =>
    simp only [leave1] at h
    have viaT : (match takeS m (.als r p i j k z) with | some (es, cap, m) => some (V.own es cap, m) | none => none) = some (x, m') → ∃ g', LeaveOk gam R N P0 g w m cs (.als r p i j k z) c g' m' x := by
      intro h
      cases ht : takeS m (.als r p i j k z) with
      | none => rw [ht] at h; cases h
      | some y =>
        obtain ⟨es, cap, m1⟩ := y
        rw [ht] at h
        cases h
        exact viaTakeS es cap _ ht
    split at h
    · exact viaFrz x m' h
    split at h
    · exact viaT h
    · rename_i hnr
      split at h
      · exact viaT h
      · cases h
        exact ⟨g, hS, MT.refl gam g w m, fun ho => (by cases ho), fun _ => ⟨.inr ⟨rfl, rfl, .als (by omega)⟩, hfree⟩, Keeps.refl g w N _, hT⟩
      · cases h
  | al r p i j =>
    simp only [leave1] at h
    split at h
    · split at h
      · rename_i bs hbox
        obtain ⟨hget, ho, hwf, _, hS1, hM1, hF⟩ := take_ok gam hS h N P0 (fun y e => by cases e) (fun _ => .inl (hrN r p ⟨_, hbox⟩)) hfa
        obtain ⟨_, _, m2, st, hput, em, _, _⟩ := take_shape h
        have hr := hrN r p ⟨_, hbox⟩
        rw [hbox] at hget
        cases hget
        obtain ⟨t, ht1, ht2⟩ := M.get_look hbox
        obtain ⟨B, hB, hc⟩ := hv
        refine ⟨g.move r p N P0, hS1, hM1, fun _ => ⟨hF, ⟨B, by have := move_base_to g r p N P0 []; simp only [List.append_nil] at this; rw [this]; exact hB, by rw [hc]; simp⟩, hwf, .inl rfl, fun q B' hB' => ?_⟩, fun ho => (by cases ho), ⟨fun q B hq hB => ?_, fun q hq hB => ?_, fun b k q _ hl => move_lam_other g hl (fun h => hr h.1.symm), fun _ _ _ _ _ _ h => h, Grows.refl _⟩, ?_⟩
        · rw [move_base_to] at hB'
          rcases hT _ _ _ hB' with ⟨u, hu, huo⟩ | hh
          · simp only [rget, over_look ht1, get_append, ht2] at hu
            exact ⟨u, hu, huo⟩
          · exact (hr hh).elim
        · rw [move_base_other]
          · exact hB
          · exact fun ⟨_, t, e⟩ => hq t e
          · exact fun h => hr h.1.symm
        · rw [move_base_other]
          · exact hB
          · exact fun ⟨_, t, e⟩ => hq t e
          · exact fun h => hr h.1.symm
        · have := hT.move (r2 := N) (p2 := P0) hput
          rw [em]
          show Tight _ (over R (m2.mark r p).rs) _
          rw [mark_rs]
          refine this.weaken ?_
          rintro y q (h | h)
          · exact h
          · exact h.1
      · cases h
    · rename_i hnr
      cases h
      exact ⟨g, hS, MT.refl gam g w m, fun ho => (by cases ho), fun _ => ⟨.inr ⟨rfl, rfl, .al (by omega)⟩, hfree⟩, Keeps.refl g w N _, hT⟩
  | _ =>
    simp only [leave1] at h
    split at h
    · exact viaFrz x m' h
    · exact viaFreeze x m' h

theorem leaveR_ok {R : Roots} {N : Nat} {P0 : Path} {g : Gh} {w : World} {m m' : M} {cs : List Value} {v x : V} {c : Value} (hS : MS gam g w R m cs) (hN : over R m.rs N = none) (hfree : ∀ q, g.base N (P0 ++ q) = none)
    (hT : Tight g (over R m.rs) (fun y _ => y = N)) (hv : Sv gam g v c) {fz : Bool} (h : leaveR fz m v = some (x, m')) : ∃ g', LeaveOk gam R N P0 g w m cs v c g' m' x ∧ (x.owner = false → Pv gam g'.rho x c) := by
  unfold leaveR at h
  cases hl : leave1 fz m v with
  | none => rw [hl] at h; cases h
  | some y =>
    obtain ⟨x1, m1⟩ := y
    rw [hl] at h
    simp only at h
    split at h
    · rename_i hr
      cases h
      obtain ⟨g', hL⟩ := leave1_ok gam hS hN hfree hT hv hl
      refine ⟨g', hL, fun ho => ?_⟩
      rcases (hL.no ho).1 with h1 | ⟨_, _, h1⟩
      · exact h1
      · cases h1 <;> cases hr
    · cases h

/-- Several that leave: each floats at its place, or is plain. -/
structure Left (g : Gh) (w : World) (N : Nat) (j : Nat) (xs : List V) (cs : List Value) : Prop where
  len : xs.length = cs.length
  ow : ∀ (k : Nat) x c, xs[k]? = some x → cs[k]? = some c → (x.owner = true → PartOk gam g w N [(0, j + k)] x c) ∧ (x.owner = false → Pv gam g.rho x c ∧ ∀ q, g.base N ((0, j + k) :: q) = none)

theorem Left.cons {g g' : Gh} {w : World} {N j : Nat} {x : V} {c : Value} {xs : List V} {cs : List Value} (h : Left gam g' w N (j + 1) xs cs) (hk : Keeps g w g' w N (fun p => ∀ k, k < xs.length → Off [(0, j + 1 + k)] p)) (hg : Grows g.rho g'.rho)
    (ho : x.owner = true → PartOk gam g w N [(0, j)] x c) (hn : x.owner = false → Pv gam g.rho x c ∧ ∀ q, g.base N ((0, j) :: q) = none) : Left gam g' w N j (x :: xs) (c :: cs) := by
  have hoff : ∀ q, ∀ k, k < xs.length → Off [(0, j + 1 + k)] ([(0, j)] ++ q) := fun q k _ => off_ne (by simp; omega) q
  refine ⟨by simp [h.len], fun k y d hy hd => ?_⟩
  cases k with
  | zero =>
    simp only [List.getElem?_cons_zero, Option.some.injEq] at hy hd
    subst hy; subst hd
    exact ⟨fun h1 => hk.part gam (p := [(0, j)]) (fun t => hoff t) (ho h1), fun h1 => ⟨Pv.mono gam hg _ _ (hn h1).1, fun q => hk.none _ (hoff q) ((hn h1).2 q)⟩⟩
  | succ k =>
    have := h.ow k y d (by simpa using hy) (by simpa using hd)
    rw [show j + (k + 1) = j + 1 + k by omega]
    exact this

theorem leaves_ok {R : Roots} {N : Nat} {w : World} {cs : List Value} {f : M → V → Option (V × M)}
    (hf : ∀ (j : Nat) (g : Gh) (m m' : M) v x c, MS gam g w R m cs → over R m.rs N = none → (∀ q, g.base N ((0, j) :: q) = none) → Tight g (over R m.rs) (fun y _ => y = N) → Sv gam g v c → f m v = some (x, m') →
      ∃ g', LeaveOk gam R N [(0, j)] g w m cs v c g' m' x ∧ (x.owner = false → Pv gam g'.rho x c)) {k : Nat} :
    ∀ (vs : List V) (cv : List Value) (j : Nat) (g : Gh) (m m' : M) (xs : List V), MS gam g w R m cs → onAll f k m vs = some (xs, m') → vs.length = cv.length → (∀ (q : Nat) v c, vs[q]? = some v → cv[q]? = some c → Sv gam g (sweepV (m.lg.drop k) v) c) → k ≤ m.lg.length →
    over R m.rs N = none → (∀ a, j ≤ a → a < j + vs.length → ∀ q, g.base N ((0, a) :: q) = none) → Tight g (over R m.rs) (fun y _ => y = N) →
    ∃ g', MS gam g' w R m' cs ∧ MT gam g w m g' w m' ∧ Left gam g' w N j xs cv ∧ Keeps g w g' w N (fun p => ∀ k, k < vs.length → Off [(0, j + k)] p) ∧ Tight g' (over R m'.rs) (fun y _ => y = N) ∧ k ≤ m'.lg.length := by
  intro vs
  induction vs with
  | nil =>
    intro cv j g m m' xs hS h hl hv hk hN hfree hT
    simp only [onAll, Option.some.injEq, Prod.mk.injEq] at h
    obtain ⟨rfl, rfl⟩ := h
    cases cv with
    | nil => exact ⟨g, hS, MT.refl gam g w m, ⟨rfl, fun k x c hx => by simp at hx⟩, Keeps.refl g w N _, hT, hk⟩
    | cons _ _ => simp at hl
  | cons v vs ih =>
    intro cv j g m m' xs hS h hl hv hk hN hfree hT
    cases cv with
    | nil => simp at hl
    | cons c cv =>
      simp only [onAll] at h
      cases hg : f m (sweepV (m.lg.drop k) v) with
      | none => simp [hg] at h
      | some y =>
        obtain ⟨x, m1⟩ := y
        simp only [hg] at h
        cases hr : onAll f k m1 vs with
        | none => simp [hr] at h
        | some y =>
          obtain ⟨xs1, m2⟩ := y
          simp only [hr, Option.some.injEq, Prod.mk.injEq] at h
          obtain ⟨rfl, rfl⟩ := h
          obtain ⟨g1, hL, hPv⟩ := hf j g m m1 _ x c hS hN (hfree j (Nat.le_refl _) (by simp)) hT (hv 0 v c rfl rfl) hg
          obtain ⟨l, hlg, hnm⟩ := hL.mt.nm
          have hk1 : k ≤ m1.lg.length := by rw [hlg, List.length_append]; omega
          have hv1 : ∀ (q : Nat) v c, vs[q]? = some v → cv[q]? = some c → Sv gam g1 (sweepV (m1.lg.drop k) v) c := by
            intro q v c h1 h2
            have := hv (q + 1) v c (by simpa using h1) (by simpa using h2)
            rw [hlg, List.drop_append_of_le_length hk, sweepV_append]
            exact hnm _ _ this
          have hfree1 : ∀ a, j + 1 ≤ a → a < j + 1 + vs.length → ∀ q, g1.base N ((0, a) :: q) = none := by
            intro a ha ha2 q
            refine hL.kp.none _ (off_ne (s := (0, j)) (t := (0, a)) ?_ q) (hfree a (by omega) (by simp; omega) q)
            simp; omega
          obtain ⟨g2, hS2, hM2, hLeft, hK2, hT2, hk2⟩ := ih cv (j + 1) g1 m1 m2 xs1 hL.ms hr (by simpa using hl) hv1 hk1 (over_ks gam hL.mt hN) hfree1 hL.ti
          have hlen : xs1.length = vs.length := by rw [hLeft.len]; simpa using hl.symm
          refine ⟨g2, hS2, hL.mt.trans gam hM2, hLeft.cons gam (by rw [hlen]; exact hK2) hM2.fr.grow hL.ow (fun ho => ⟨hPv ho, (hL.no ho).2⟩), ?_, hT2, hk2⟩
          refine (hL.kp.trans hK2).weaken ?_
          intro p hp
          refine ⟨by simpa using hp 0 (by simp), fun q hq => ?_⟩
          have := hp (q + 1) (by simp; omega)
          rwa [show j + (q + 1) = j + 1 + q by omega] at this
end
end Go.Bv
