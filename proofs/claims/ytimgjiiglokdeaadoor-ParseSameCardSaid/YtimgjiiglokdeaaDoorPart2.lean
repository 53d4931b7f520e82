/- Part of a proof: an interpreter of the program over trees, and what it says of calls. -/
import Derived.Test.YtimgjiiglokdeaaDoorPart1
import Derived.Laws.BytesString
import Derived.Deep.AppendSrc
import Derived.Great.BuildSlice
import Derived.Deep.Upon
/- The operations that only look. -/
namespace Go.Bv
open Go

section
variable (gam : Nat → Option (Nat × Nat)) (E : Env)

theorem ofScalar_pv (rho : Nat → Nat → Option Value) (v : Value) : Pv gam rho (ofScalar v) v := by
  cases v <;> first
    | rfl
    | (rename_i s; cases s; rename_i d; cases d; rfl)

theorem ofScalars_pv (rho : Nat → Nat → Option Value) : ∀ l : List Value, Pvs gam rho (l.map ofScalar) l
  | [] => rfl
  | v :: l => ⟨v, l, rfl, ofScalar_pv gam rho v, ofScalars_pv rho l⟩

theorem ofValue_pv (rho : Nat → Nat → Option Value) (v : Value) : Pv gam rho (ofValue v) v := by
  have hs := ofScalar_pv gam rho v
  cases v
  case agg cs => exact ⟨cs, rfl, ofScalars_pv gam rho _⟩
  all_goals exact hs

theorem ofScalar_leaf (v : Value) : Leaf (ofScalar v) ∧ (ofScalar v).owner = false := by
  cases v <;> exact ⟨fun s => by obtain ⟨i, j⟩ := s; rfl, rfl⟩

theorem addJ_ok {g : Gh} {x v : V} {cx : Value} {off : Nat} (hx : Sv gam g x cx) (h : addJ x off = some v) : ∃ b o, cx = ptr b o ∧ Sv gam g v (ptr b (o + off)) := by
  cases x <;> simp only [addJ] at h <;> first
    | (cases h; done)
    | (simp only [Option.some.injEq] at h; subst h)
  case al r p i j =>
    obtain ⟨B, hB, hc⟩ := hx
    exact ⟨_, _, hc, B, hB, by rw [Nat.add_assoc]⟩
  case rop cs j =>
    obtain ⟨b, o, hc, hr⟩ := hx
    exact ⟨_, _, hc, b, o, by rw [Nat.add_assoc], hr⟩
  case gp a j =>
    obtain ⟨b, o, hg, hc⟩ := hx
    exact ⟨_, _, hc, b, o, hg, by rw [Nat.add_assoc]⟩

theorem ptr_add (b o k : Nat) : (⟨b, o, none⟩ : Addr).add k = ⟨b, o + k, none⟩ := by
  unfold Addr.add; split
  · rename_i h; subst h; rfl
  · rfl

theorem fieldAddr_ok {g : Gh} {w : World} {t : TypeId} {f : Nat} {x v : V} {cx : Value} (hx : Sv gam g x cx) (h : (match fieldOff E t f with | some (_, o) => addJ x o | none => none) = some v) :
    ∃ c, (Instr.fieldAt t cx f).run E.P w = .ok c w ∧ Sv gam g v c := by
  unfold fieldOff at h
  split at h
  · rename_i ft o hf
    split at hf
    · rename_i fs hu
      cases hfs : fs[f]? with
      | none => simp [hfs] at hf
      | some fd =>
        simp only [hfs] at hf
        split at hf
        · cases hf
        · rename_i hz
          simp only [Option.some.injEq, Prod.mk.injEq] at hf
          obtain ⟨rfl, rfl⟩ := hf
          obtain ⟨b, o, hc, hv⟩ := addJ_ok gam hx h
          have hi : ∃ i, E.P.info? fd.type = some i := by
            cases hi : E.P.info? fd.type with
            | none => simp [Program.cellsOf, hi] at hz
            | some i => exact ⟨i, rfl⟩
          obtain ⟨i, hi⟩ := hi
          have hz' : E.P.cellsOf fd.type ≠ 0 := by simpa using hz
          refine ⟨ptr b (o + fd.offset), ?_, hv⟩
          subst hc
          simp only [Instr.fieldAt, Sem.run_bind, run_underlying hu, Result.andThen_ok, hfs, Instr.sureAddr, ptr, Sem.run_pure, fieldPlace, run_sizeOf w hi, if_neg hz', ptr_add]
    · cases hf
  · cases h

theorem partU_ok {g : Gh} {t : TypeId} {xs : List V} {cv : Array Value} {off : Nat} {v : V} (hx : Svs gam g xs cv.toList) (h : partU E t xs off = some v) (w : World) :
    ∃ c, (part t cv off).run E.P w = .ok c w ∧ Sv gam g v c := by
  unfold partU at h
  cases hu : E.P.underlying t with
  | none => simp [hu] at h
  | some u =>
    simp only [hu] at h
    have h' : partV E t xs off = some v := by
      split at h
      · cases h
      · exact h
    obtain ⟨i, hi⟩ := hasInfo hu
    exact part_ok gam E hx h' hu hi w

theorem field_ok {g : Gh} {w : World} {t : TypeId} {f : Nat} {x v : V} {cx : Value} (hx : Sv gam g x cx) (h : fieldV E t f x = some v) :
    ∃ c, (Instr.field t cx f).run E.P w = .ok c w ∧ Sv gam g v c := by
  unfold fieldV at h
  cases hf : fieldOff E t f with
  | none => simp [hf] at h
  | some y =>
    obtain ⟨ft, o⟩ := y
    cases x <;> simp only [hf] at h <;> try (cases h; done)
    case agg cs =>
    unfold fieldOff at hf
    split at hf
    · rename_i fs hu
      cases hfs : fs[f]? with
      | none => simp [hfs] at hf
      | some fd =>
        simp only [hfs] at hf
        split at hf
        · cases hf
        · simp only [Option.some.injEq, Prod.mk.injEq] at hf
          obtain ⟨rfl, rfl⟩ := hf
          obtain ⟨cv, hc, hs⟩ := hx
          obtain ⟨c, h1, h2⟩ := partU_ok gam E hs h w
          refine ⟨c, ?_, h2⟩
          subst hc
          simp only [Instr.field, Sem.run_bind, run_underlying hu, Result.andThen_ok, hfs, asAgg, Sem.run_pure, h1]
    · cases hf

theorem get_bytes (b : List UInt8) (i : Nat) : (⟨b.toArray⟩ : ByteArray)[i]? = b[i]? := by
  have h : (⟨b.toArray⟩ : ByteArray).size = b.length := rfl
  by_cases hi : i < b.length
  · rw [getElem?_pos (⟨b.toArray⟩ : ByteArray) i (by rw [h]; exact hi), List.getElem?_eq_getElem hi]
    rfl
  · rw [getElem?_neg (⟨b.toArray⟩ : ByteArray) i (by rw [h]; exact hi), List.getElem?_eq_none (by omega)]

theorem index_ok {g : Gh} {w : World} {t : TypeId} {x v : V} {cx : Value} {k : IntKind} {i : Int} (hx : Sv gam g x cx) (h : (if 0 ≤ i then indexV E t x i.toNat else none) = some v) :
    ∃ c, (Instr.index t cx (.int k i)).run E.P w = .ok c w ∧ Sv gam g v c := by
  split at h
  · rename_i h0
    cases x <;> simp only [indexV] at h <;> try (cases h; done)
    case str b =>
      split at h
      · rename_i ht
        cases hb : b[i.toNat]? with
        | none => simp [hb] at h
        | some c =>
          simp only [hb, Option.some.injEq] at h
          subst h
          have hx : cx = .string ⟨b.toArray⟩ := hx
          subst hx
          refine ⟨.int .u8 c.toNat, ?_, rfl⟩
          simp only [Instr.index, asIntOf, Sem.run_bind, Sem.run_pure, Result.andThen_ok, run_underlying ht, if_pos h0, get_bytes, hb]
      · cases h
    case agg cs =>
      split at h
      · rename_i n e hu
        split at h
        · rename_i hlt
          obtain ⟨cv, hc, hs⟩ := hx
          obtain ⟨c, h1, h2⟩ := partU_ok gam E hs h w
          have hue : ∃ u, E.P.underlying e = some u := by
            cases hue : E.P.underlying e with
            | none => simp [partU, hue] at h
            | some u => exact ⟨u, rfl⟩
          obtain ⟨u, hue⟩ := hue
          obtain ⟨inf, hi⟩ := hasInfo hue
          refine ⟨c, ?_, h2⟩
          subst hc
          have hc : 0 ≤ i ∧ i < (n : Int) := ⟨h0, by omega⟩
          simp only [Instr.index, asIntOf, Sem.run_bind, Sem.run_pure, Result.andThen_ok, run_underlying hu, Sem.run_ite, if_pos hc, run_sizeOf w hi, h1]
        · cases h
      · cases h
  · cases h

theorem extract_ok {g : Gh} {w : World} {vs : List V} {ix : Nat} {v : V} {c : Value} (hx : Sv gam g (.tup vs) c) (h : vs[ix]? = some v) : ∃ c', (Instr.extract c ix).run E.P w = .ok c' w ∧ Sv gam g v c' := by
  obtain ⟨cv, hc, hs⟩ := hx
  subst hc
  obtain ⟨y, h1, h2⟩ := Svs.get gam hs h
  rw [Array.getElem?_toList] at h1
  exact ⟨y, by simp only [Instr.extract, h1, Sem.run_pure], h2⟩

theorem un_ok {g : Gh} {w : World} {op : UnOp} {x v : V} {cx : Value} (hx : Sv gam g x cx) (h : unV op x = some v) : ∃ c, (Op.unary op cx).run E.P w = .ok c w ∧ Sv gam g v c := by
  unfold unV at h
  split at h
  · rename_i k n
    have hx : cx = .int k n := hx
    subst hx
    simp only [Option.some.injEq] at h
    subst h
    exact ⟨_, by simp [Op.unary, Op.intArith], rfl⟩
  · rename_i b
    have hx : cx = .bool b := hx
    subst hx
    simp only [Option.some.injEq] at h
    subst h
    exact ⟨_, by simp [Op.unary], rfl⟩
  · cases h

/-- A slice's elements, as they lie in memory. -/
theorem elems_ok {g : Gh} {w : World} {R : Roots} {m : M} {x : V} {cx : Value} {es : List (List V)} (hC : Claims gam g w (over R m.rs)) (hG : Glob g w) (hx : Sv gam g x cx) (h : elems m x = some es) :
    (∃ a k, cx = .slice a 0 k) ∧ es = [] ∨ ∃ b o z k, cx = slc b o es.length k ∧ es.length ≤ k ∧ (∀ e, e ∈ es → e.length = z) ∧
      ∀ (i j : Nat) e v, es[i]? = some e → e[j]? = some v → ∃ c, cellAt w b (o + i * z + j) = some c ∧ (v.owner = false → Pv gam g.rho v c ∧ Leaf v) := by
  cases x <;> simp only [elems] at h <;> try (cases h; done)
  case ro es' =>
    simp only [Option.some.injEq] at h
    subst h
    obtain ⟨a, b, o, z, k, hc, hk, ha, hr⟩ := hx
    rcases ha with rfl | rfl
    · exact .inl ⟨⟨a, k, hc⟩, rfl⟩
    refine .inr ⟨b, o, z, k, hc, hk, ?_, ?_⟩
    · intro e he
      obtain ⟨i, hi⟩ := List.mem_iff_getElem?.1 he
      exact (RoEs.elim gam hr i e hi).1
    · intro i j e v he hv
      obtain ⟨_, h2⟩ := RoEs.elim gam hr i e he
      obtain ⟨c, h3, h4⟩ := RoCs.elim gam h2 j v hv
      exact ⟨c, hG.ro _ _ _ h3, fun _ => h4⟩
  case als r p i0 j0 n z0 =>
    split at h
    · rename_i es' cap hget
      split at h
      · rename_i hcond
        simp only [Bool.and_eq_true, beq_iff_eq, decide_eq_true_eq] at hcond
        obtain ⟨rfl, hle⟩ := hcond
        simp only [Option.some.injEq] at h
        obtain ⟨B, k, hB, hc, hnk, _⟩ := hx
        obtain ⟨t, h1, h2⟩ := M.get_look hget
        obtain ⟨B', hB', hf, _, hk⟩ := hC r p (.own es' cap) (by simp [rget, over_look h1, h2]) rfl
        rw [hB] at hB'; cases hB'
        have hlen : es.length = n := by rw [← h]; simp; omega
        refine .inr ⟨B.b, B.o + i0 * B.z, B.z, k, by rw [hc, hlen]; simp, by omega, ?_, ?_⟩
        · intro e he
          rw [← h] at he
          exact hf.2.2 e (List.mem_of_mem_drop (List.mem_of_mem_take he))
        · intro i j e v he hv
          have he' : es'[i0 + i]? = some e := by
            rw [← h, List.getElem?_take] at he
            split at he
            · rwa [List.getElem?_drop] at he
            · cases he
          have hkid : (V.own es' cap).kid (i0 + i, j) = some v := by simp [V.kid, he', hv]
          obtain ⟨c, hc1, hc2⟩ := hk (i0 + i, j) v hkid
          refine ⟨c, by simp only at hc1; rwa [show B.o + i0 * B.z + i * B.z + j = B.o + (i0 + i) * B.z + j by rw [Nat.add_mul]; omega], ?_⟩
          intro ho
          cases v <;> simp [V.owner] at ho <;> exact hc2
      · cases h
    · cases h
  case sc s =>
    split at h
    · rename_i e; cases e
    · rename_i e; cases e
    · rename_i k e
      simp only [Option.some.injEq] at h
      have hx : cx = s := hx
      cases e
      exact .inl ⟨⟨none, _, hx⟩, h.symm⟩
    · cases h

theorem bytes_of {gam' : Nat → Option (Nat × Nat)} {rho : Nat → Nat → Option Value} : ∀ (es : List (List V)) (b : List UInt8), bytesOf es = some b → b.length = es.length ∧ ∀ (i : Nat) e, es[i]? = some e → ∃ c : UInt8, b[i]? = some c ∧ e = [.int .u8 c.toNat]
  | [], b, h => by simp only [bytesOf, Option.some.injEq] at h; subst h; simp
  | e :: es, b, h => by
    simp only [bytesOf] at h
    cases hb : byteOf e with
    | none => simp [hb] at h
    | some c =>
      cases hbs : bytesOf es with
      | none => simp [hb, hbs] at h
      | some bs =>
        simp only [hb, hbs, Option.some.injEq] at h
        subst h
        obtain ⟨h1, h2⟩ := bytes_of (gam' := gam') (rho := rho) es bs hbs
        refine ⟨by simp [h1], ?_⟩
        intro i e' he
        cases i with
        | zero =>
          simp only [List.getElem?_cons_zero, Option.some.injEq] at he
          subst he
          refine ⟨c, by simp, ?_⟩
          unfold byteOf at hb
          split at hb
          · rename_i n
            split at hb
            · rename_i hn
              simp only [Bool.and_eq_true, decide_eq_true_eq] at hn
              simp only [Option.some.injEq] at hb
              subst hb
              have : n.toNat < 256 := by omega
              congr 2
              simp [UInt8.toNat_ofNat', Nat.mod_eq_of_lt this]
              omega
            · cases hb
          · cases hb
        | succ i => simpa using h2 i e' (by simpa using he)

end
end Go.Bv
/- The operations that only look, further ones. -/
namespace Go.Bv
open Go

section
variable (gam : Nat → Option (Nat × Nat)) (E : Env)

theorem str_size (b : List UInt8) : (⟨b.toArray⟩ : ByteArray).size = b.length := rfl

theorem lenS_ok {g : Gh} {x v : V} {cx : Value} (hx : Sv gam g x cx) (h : lenS x = some v) : ∃ a n k, cx = .slice a n k ∧ v = .int .i64 n := by
  cases x <;> simp only [lenS] at h <;> try (cases h; done)
  case ro es =>
    simp only [Option.some.injEq] at h
    obtain ⟨a, b, o, z, k, hc, _⟩ := hx
    exact ⟨_, _, k, hc, h.symm⟩
  case als r p i j n' z =>
    simp only [Option.some.injEq] at h
    obtain ⟨B, k, _, hc, _⟩ := hx
    exact ⟨_, _, k, hc, h.symm⟩
  case sc s =>
    split at h
    · rename_i e; cases e
    · rename_i e; cases e
    · rename_i e
      simp only [Option.some.injEq] at h
      have hx : cx = s := hx
      cases e
      exact ⟨none, _, _, hx, h.symm⟩
    · cases h

theorem len_ok {g : Gh} {w : World} {m : M} {t : TypeId} {x v : V} {cx : Value} {ts : Array TypeId} {T : TypeId} (hx : Sv gam g x cx) (ht : ts[0]? = some t)
    (h : (match E.P.underlying t with
        | some (.array n _) => some (V.int .i64 n, m)
        | some (.slice _) => just m (lenS x)
        | some .string => just m (lenStr x)
        | _ => none) = some (v, m)) :
    ∃ c, (Builtin.len_ ts T #[cx]).run E.P w = .ok c w ∧ Sv gam g v c := by
  cases hu : E.P.underlying t with
  | none => simp [hu] at h
  | some u =>
    simp only [hu] at h
    cases u <;> simp only [just] at h <;> try (cases h; done)
    case array n e =>
      simp only [Option.some.injEq, Prod.mk.injEq] at h
      obtain ⟨rfl, _⟩ := h
      refine ⟨.int .i64 n, ?_, rfl⟩
      simp only [Builtin.len_, ht, List.getElem?_toArray, List.getElem?_cons_zero, Sem.run_bind, run_underlying hu, Result.andThen_ok]
      cases cx <;> rfl
    case slice e =>
      cases hl : lenS x with
      | none => simp [hl] at h
      | some v' =>
        simp only [hl, Option.some.injEq, Prod.mk.injEq] at h
        obtain ⟨rfl, _⟩ := h
        obtain ⟨a, n, k, hc, hv⟩ := lenS_ok gam hx hl
        subst hc; subst hv
        refine ⟨.int .i64 n, ?_, rfl⟩
        simp only [Builtin.len_, ht, List.getElem?_toArray, List.getElem?_cons_zero, Sem.run_bind, run_underlying hu, Result.andThen_ok]
        rfl
    case string =>
      cases x <;> simp only [lenStr] at h <;> try (cases h; done)
      case str b =>
      simp only [Option.some.injEq, Prod.mk.injEq] at h
      obtain ⟨rfl, _⟩ := h
      have hx : cx = .string ⟨b.toArray⟩ := hx
      subst hx
      refine ⟨.int .i64 b.length, ?_, rfl⟩
      simp only [Builtin.len_, ht, List.getElem?_toArray, List.getElem?_cons_zero, Sem.run_bind, run_underlying hu, Result.andThen_ok]
      rfl

theorem nilCheck_ok {g : Gh} {x v : V} {cx : Value} (hx : Sv gam g x cx) (h : nilV x = some v) : x = v ∧ ((∃ a, cx = .pointer (some a)) ∨ (∃ t y, cx = .iface t y) ∨ ∃ f p q, cx = .func (.func f) p q) := by
  cases x <;> simp only [nilV, Option.some.injEq] at h <;> first
    | (cases h; done)
    | subst h
  case al r p i j => obtain ⟨B, _, hc⟩ := hx; subst hc; exact ⟨rfl, .inl ⟨_, rfl⟩⟩
  case rop cs j => obtain ⟨b, o, hc, _⟩ := hx; subst hc; exact ⟨rfl, .inl ⟨_, rfl⟩⟩
  case gp a j => obtain ⟨b, o, _, hc⟩ := hx; subst hc; exact ⟨rfl, .inl ⟨_, rfl⟩⟩
  case ifc t y => obtain ⟨c, hc, _⟩ := hx; subst hc; exact ⟨rfl, .inr (.inl ⟨_, _, rfl⟩)⟩
  case fn f a b => obtain ⟨p, q, hc, _⟩ := hx; subst hc; exact ⟨rfl, .inr (.inr ⟨_, _, _, rfl⟩)⟩

theorem info_of_cells {P : Program} {t : TypeId} (h : P.cellsOf t ≠ 0) : ∃ i, P.info? t = some i := by
  cases hi : P.info? t with
  | none => simp [Program.cellsOf, hi] at h
  | some i => exact ⟨i, rfl⟩

theorem indexAddr_ok {g : Gh} {w : World} {R : Roots} {m : M} {t : TypeId} {x v : V} {cx : Value} {k : IntKind} {i : Int} (hC : Claims gam g w (over R m.rs)) (hx : Sv gam g x cx)
    (h : (if 0 ≤ i then indexAddrV E m t x i.toNat else none) = some v) :
    ∃ c, (Instr.indexAt t cx (.int k i)).run E.P w = .ok c w ∧ Sv gam g v c := by
  split at h
  · rename_i h0
    unfold indexAddrV at h
    split at h
    · rename_i n e hu
      split at h
      · rename_i hlt
        simp only [Bool.and_eq_true, decide_eq_true_eq, bne_iff_ne, ne_eq] at hlt
        obtain ⟨b, o, hc, hv⟩ := addJ_ok gam hx h
        obtain ⟨inf, hinf⟩ := info_of_cells hlt.2
        refine ⟨_, ?_, hv⟩
        subst hc
        have hcond : 0 ≤ i ∧ i < (n : Int) := ⟨h0, by omega⟩
        simp only [Instr.indexAt, asIntOf, Sem.run_bind, Sem.run_pure, Result.andThen_ok, run_underlying hu, Instr.sureAddr, ptr, Sem.run_ite, if_pos hcond, run_sizeOf w hinf, ptr_add]
      · cases h
    · rename_i e hu
      split at h
      · cases h
      · rename_i hz
        obtain ⟨inf, hinf⟩ := info_of_cells (P := E.P) (t := e) (by simpa using hz)
        have key : ∀ b o n kk, cx = slc b o n kk → i < (n : Int) → (Instr.indexAt t cx (.int k i)).run E.P w = .ok (ptr b (o + i.toNat * E.P.cellsOf e)) w := by
          intro b o n kk hc hlt
          subst hc
          have hcond : 0 ≤ i ∧ i < (n : Int) := ⟨h0, hlt⟩
          simp only [Instr.indexAt, asIntOf, slc, Sem.run_bind, Sem.run_pure, Result.andThen_ok, run_underlying hu, Sem.run_ite, if_pos hcond, run_sizeOf w hinf, ptr_add]
          rfl
        cases x <;> simp only at h <;> try (cases h; done)
        case ro es =>
          cases he : es[i.toNat]? with
          | none => simp [he] at h
          | some c =>
            simp only [he] at h
            split at h
            · rename_i hcl
              simp only [beq_iff_eq] at hcl
              simp only [Option.some.injEq] at h
              subst h
              obtain ⟨a, b, o, z, kk, hc, hk, ha, hr⟩ := hx
              have hlt := (List.getElem?_eq_some_iff.1 he).1
              have ha : a = some ⟨b, o, none⟩ := ha.resolve_left (by rintro rfl; simp at hlt)
              subst ha
              refine ⟨_, key _ _ _ _ hc (by omega), b, o + i.toNat * E.P.cellsOf e, rfl, ?_⟩
              obtain ⟨h1, h2⟩ := RoEs.elim gam hr _ _ he
              rw [← hcl, h1]; exact h2
            · cases h
        case als r p i0 j n z0 =>
          split at h
          · rename_i hlt
            split at h
            · rename_i es cap hget
              cases he : es[i0 + i.toNat]? with
              | none => simp [he] at h
              | some c =>
                simp only [he] at h
                split at h
                · rename_i hcl
                  simp only [Bool.and_eq_true, beq_iff_eq] at hcl
                  obtain ⟨rfl, hcl⟩ := hcl
                  simp only [Option.some.injEq] at h
                  subst h
                  obtain ⟨B, kk, hB, hc, hnk, _⟩ := hx
                  obtain ⟨tt, h1, h2⟩ := M.get_look hget
                  obtain ⟨B', hB', hf, _, _⟩ := hC r p (.own es cap) (by simp [rget, over_look h1, h2]) rfl
                  rw [hB] at hB'; cases hB'
                  have hz' := hf.2.2 c (List.mem_of_getElem? he)
                  refine ⟨_, key _ _ _ _ hc (by omega), B, hB, ?_⟩
                  rw [← hcl, hz']
                  congr 1
                  rw [Nat.add_mul]; omega
                · cases h
            · cases h
          · cases h
    · cases h
  · cases h

theorem bound_none {d n : Nat} (h : bound d none = some n) : n = d := by simp only [bound, Option.some.injEq] at h; exact h.symm

theorem bound_run {d n y : Nat} {x : V} {cx : Value} {g : Gh} {w : World} {code : BoundsCode} (hx : Sv gam g x cx) (h : bound d (some x) = some n) (hy : n ≤ y) : (Instr.sliceBound cx y code).run E.P w = .ok n w := by
  unfold bound at h
  split at h
  · rename_i e; cases e
  · rename_i k i e
    cases e
    split at h
    · rename_i h0
      simp only [Option.some.injEq] at h
      have hx : cx = .int k i := hx
      subst hx
      have hc : 0 ≤ i ∧ i ≤ (y : Int) := ⟨h0, by omega⟩
      simp only [Instr.sliceBound, asIntOf, Sem.run_bind, Sem.run_pure, Result.andThen_ok, Sem.run_ite, if_pos hc, h]
    · cases h
  · cases h

/-- Bounds of a slice, as they are given. -/
def OptSv (g : Gh) : Option V → Option Value → Prop
  | none, none => True
  | some x, some c => Sv gam g x c
  | _, _ => False

theorem bounds_ok {g : Gh} {w : World} {lo hi : Option V} {clo chi : Option Value} {isS : Bool} {len cap l h : Nat} (hl : OptSv gam g lo clo) (hh : OptSv gam g hi chi)
    (h1 : bound 0 lo = some l) (h2 : bound len hi = some h) (hlh : l ≤ h) (hhc : h ≤ cap) : (Instr.sliceBounds isS len cap clo chi none).run E.P w = .ok (l, h, cap) w := by
  cases lo <;> cases clo <;> simp only [OptSv] at hl <;> cases hi <;> cases chi <;> simp only [OptSv] at hh
  · rw [bound_none h1, bound_none h2]
    simp only [Instr.sliceBounds, Sem.run_bind, Sem.run_pure, Result.andThen_ok]
  · rw [bound_none h1]
    simp only [Instr.sliceBounds, Sem.run_bind, Sem.run_pure, Result.andThen_ok, bound_run gam E hh h2 hhc]
  · rw [bound_none h2] at hlh ⊢
    simp only [Instr.sliceBounds, Sem.run_bind, Sem.run_pure, Result.andThen_ok, bound_run gam E hl h1 hlh]
  · simp only [Instr.sliceBounds, Sem.run_bind, Sem.run_pure, Result.andThen_ok, bound_run gam E hh h2 hhc, bound_run gam E hl h1 hlh]

theorem take_bytes (b : List UInt8) (l h : Nat) : (⟨b.toArray⟩ : ByteArray).extract l h = ⟨((b.take h).drop l).toArray⟩ := by
  apply ByteArray.ext
  simp only [ByteArray.data_extract]
  apply Array.ext'
  simp [Array.toList_extract, List.extract, List.drop_take]

theorem RoEs.take_drop {rho : Nat → Nat → Option Value} {z b o : Nat} {es : List (List V)} (h : RoEs gam rho z b o es) (l n : Nat) : RoEs gam rho z b (o + l * z) ((es.take n).drop l) := by
  have key : ∀ (i : Nat) e, ((es.take n).drop l)[i]? = some e → es[l + i]? = some e := by
    intro i e he
    rw [List.getElem?_drop, List.getElem?_take] at he
    split at he
    · exact he
    · cases he
  apply RoEs.intro
  · intro e he
    obtain ⟨i, hi⟩ := List.mem_iff_getElem?.1 he
    exact (RoEs.elim gam h _ _ (key i e hi)).1
  · intro i e j x he hx
    obtain ⟨_, h2⟩ := RoEs.elim gam h _ _ (key i e he)
    have := RoCs.elim gam h2 j x hx
    rwa [show o + l * z + i * z + j = o + (l + i) * z + j by rw [Nat.add_mul]; omega]

theorem chunks_length (z : Nat) : ∀ (n : Nat) (cs : List V), (chunks z n cs).length = n
  | 0, _ => rfl
  | n + 1, cs => by simp [chunks, chunks_length z n]

theorem RoCs.drop {rho : Nat → Nat → Option Value} {b : Nat} {cs : List V} {o : Nat} (h : RoCs gam rho b o cs) (k : Nat) : RoCs gam rho b (o + k) (cs.drop k) := by
  apply RoCs.intro
  intro j x hx
  rw [List.getElem?_drop] at hx
  have := RoCs.elim gam h _ _ hx
  rwa [Nat.add_assoc]

theorem RoCs.take {rho : Nat → Nat → Option Value} {b : Nat} {cs : List V} {o : Nat} (h : RoCs gam rho b o cs) (k : Nat) : RoCs gam rho b o (cs.take k) := by
  apply RoCs.intro
  intro j x hx
  rw [List.getElem?_take] at hx
  split at hx
  · exact RoCs.elim gam h _ _ hx
  · cases hx

theorem RoCs.chunks {rho : Nat → Nat → Option Value} {b z : Nat} : ∀ (n : Nat) (cs : List V) (o : Nat), n * z ≤ cs.length → RoCs gam rho b o cs → RoEs gam rho z b o (chunks z n cs)
  | 0, _, _, _, _ => trivial
  | n + 1, cs, o, hl, h => by
    rw [Nat.add_mul] at hl
    refine ⟨by simp; omega, RoCs.take gam h z, RoCs.chunks n (cs.drop z) (o + z) (by simp; omega) (RoCs.drop gam h z)⟩

theorem slice_ok {g : Gh} {w : World} {R : Roots} {m : M} {t : TypeId} {x v : V} {cx : Value} {lo hi : Option V} {clo chi : Option Value} (hC : Claims gam g w (over R m.rs)) (hE : GlobOk gam E g)
    (hx : Sv gam g x cx) (hl : OptSv gam g lo clo) (hh : OptSv gam g hi chi) (h : sliceV E m t x lo hi = some v) :
    ∃ c, (Instr.sliceAt t cx clo chi none).run E.P w = .ok c w ∧ Sv gam g v c := by
  unfold sliceV at h
  cases hu : E.P.underlying t with
  | none => simp [hu] at h
  | some u =>
    simp only [hu] at h
    have hbb : ∀ (d : Nat) (y : Nat → Nat → Option V), (match bound 0 lo, bound d hi with | some l, some h => y l h | _, _ => none) = some v → ∃ l hh', bound 0 lo = some l ∧ bound d hi = some hh' ∧ y l hh' = some v := by
      intro d y hy
      cases h1 : bound 0 lo with
      | none => simp [h1] at hy
      | some l =>
        cases h2 : bound d hi with
        | none => simp [h1, h2] at hy
        | some h' => simp only [h1, h2] at hy; exact ⟨l, h', rfl, rfl, hy⟩
    cases u <;> simp only at h <;> try (cases h; done)
    case string =>
      cases x <;> simp only at h <;> try (cases h; done)
      case str b =>
      obtain ⟨l, h', h1, h2, h3⟩ := hbb b.length (fun l h => if (decide (l ≤ h) && decide (h ≤ b.length)) = true then some (V.str ((b.take h).drop l)) else none) h
      split at h3
      · rename_i hc
        simp only [Bool.and_eq_true, decide_eq_true_eq] at hc
        simp only [Option.some.injEq] at h3
        subst h3
        have hx : cx = .string ⟨b.toArray⟩ := hx
        subst hx
        refine ⟨.string ⟨((b.take h').drop l).toArray⟩, ?_, rfl⟩
        have hb := bounds_ok gam E (w := w) (isS := false) (cap := b.length) hl hh h1 h2 hc.1 hc.2
        simp only [Instr.sliceAt, Instr.slice, Sem.run_bind, run_underlying hu, Result.andThen_ok, Option.isSome_none, Bool.false_eq_true, if_false, str_size, hb, Sem.run_pure, take_bytes]
      · cases h3
    case slice e =>
      split at h
      · cases h
      · rename_i hz
        obtain ⟨inf, hinf⟩ := info_of_cells (P := E.P) (t := e) (by simpa using hz)
        have key : ∀ (a : Option Addr) (n k l h' : Nat), cx = .slice a n k → bound 0 lo = some l → bound n hi = some h' → l ≤ h' → h' ≤ k →
            (Instr.sliceAt t cx clo chi none).run E.P w = .ok (.slice (if k = l then a else a.map (·.add (l * E.P.cellsOf e))) (h' - l) (k - l)) w := by
          intro a n k l h' hc h1 h2 h3 h4
          subst hc
          have hb := bounds_ok gam E (w := w) (isS := true) (cap := k) hl hh h1 h2 h3 h4
          simp only [Instr.sliceAt, Instr.slice, Sem.run_bind, run_underlying hu, Result.andThen_ok, hb, run_sizeOf w hinf, Sem.run_pure]
        split at h
        · -- nil
          obtain ⟨l, h', h1, h2, h3⟩ := hbb 0 (fun l h => match l, h with | 0, 0 => some (V.sc (.slice none 0 0)) | _, _ => none) (by
            revert h
            cases bound 0 lo <;> cases bound 0 hi <;> simp
            rename_i a b
            cases a <;> cases b <;> simp)
          cases l <;> cases h' <;> simp at h3
          subst h3
          have hx : cx = .slice none 0 0 := hx
          refine ⟨_, key none 0 0 0 0 hx h1 h2 (Nat.le_refl _) (Nat.le_refl _), ?_⟩
          simp [Sv, Pv]
        · rename_i es
          obtain ⟨l, h', h1, h2, h3⟩ := hbb es.length _ h
          split at h3
          · rename_i hc
            simp only [Bool.and_eq_true, decide_eq_true_eq] at hc
            obtain ⟨a, b, o, z, k, hcx, hk, ha, hr⟩ := hx
            have hrun := key _ _ _ _ _ hcx h1 h2 hc.1 (by omega)
            refine ⟨_, hrun, ?_⟩
            cases hcut : cutEs (E.P.cellsOf e) l h' es with
            | none => simp [hcut] at h3
            | some es' =>
              simp only [hcut, Option.some.injEq] at h3
              subst h3
              unfold cutEs at hcut
              split at hcut
              · rename_i hl0
                simp only [beq_iff_eq] at hl0
                subst hl0
                simp only [Option.some.injEq] at hcut
                subst hcut
                have hlen : (es.take h').length = h' := by simp; omega
                refine ⟨a, b, o, z, k, ?_, by omega, ha.imp (fun e => by rw [e]; simp) id, by have := RoEs.take_drop gam hr 0 h'; simpa using this⟩
                rw [hlen]
                simp only [Nat.zero_mul, Nat.sub_zero]
                cases a <;> split <;> simp [Addr.add]
              · split at hcut
                · rename_i hlh
                  simp only [beq_iff_eq] at hlh
                  subst hlh
                  simp only [Option.some.injEq] at hcut
                  subst hcut
                  split
                  · exact ⟨a, b, o, z, k - l, by simp, by simp, .inl rfl, trivial⟩
                  · exact ⟨a.map (fun x => x.add (l * E.P.cellsOf e)), b, o, z, k - l, by simp, by simp, .inl rfl, trivial⟩
                · rename_i hl0 hlh
                  cases hel : es[l]? with
                  | none => simp [hel] at hcut
                  | some c =>
                    simp only [hel] at hcut
                    split at hcut
                    · rename_i hcl
                      simp only [beq_iff_eq] at hcl hl0 hlh
                      simp only [Option.some.injEq] at hcut
                      subst hcut
                      have hzz := (RoEs.elim gam hr _ _ hel).1
                      have hlen : ((es.take h').drop l).length = h' - l := by simp; omega
                      have hne : ¬ k = l := by omega
                      have ha : a = some ⟨b, o, none⟩ := ha.resolve_left (by rintro rfl; simp at hel)
                      subst ha
                      refine ⟨some ⟨b, o + l * z, none⟩, b, o + l * z, z, k - l, ?_, by omega, .inr rfl, RoEs.take_drop gam hr l h'⟩
                      rw [hlen, if_neg hne]
                      simp only [Option.map_some, ptr_add, ← hcl, hzz]
                    · cases hcut
          · cases h3
        · rename_i r p i j n z
          obtain ⟨l, h', h1, h2, h3⟩ := hbb n _ h
          split at h3
          · rename_i hlh
            split at h3
            · rename_i es cap hget
              split at h3
              · rename_i hc
                simp only [Bool.and_eq_true, beq_iff_eq, decide_eq_true_eq] at hc
                obtain ⟨⟨rfl, hc1⟩, hc2⟩ := hc
                obtain ⟨B, k, hB, hcx, hnk, hkC⟩ := hx
                have hrun := key _ _ _ _ _ hcx h1 h2 hlh (by omega)
                refine ⟨_, hrun, ?_⟩
                split at h3
                · rename_i hl0
                  simp only [beq_iff_eq] at hl0
                  subst hl0
                  simp only [Option.some.injEq] at h3
                  subst h3
                  refine ⟨B, k, hB, ?_, by omega, hkC⟩
                  simp only [Nat.zero_mul, Nat.sub_zero]
                  split <;> simp [slc, Addr.add]
                · split at h3
                  · rename_i hlh'
                    simp only [beq_iff_eq] at hlh'
                    subst hlh'
                    simp only [Option.some.injEq] at h3
                    subst h3
                    split
                    · exact ⟨some ⟨B.b, B.o + i * B.z + 0, none⟩, B.b, B.o + i * B.z + 0, 0, k - l, by simp, by simp, .inl rfl, trivial⟩
                    · exact ⟨some ⟨B.b, B.o + i * B.z + 0 + l * E.P.cellsOf e, none⟩, B.b, B.o, 0, k - l, by simp [ptr_add], by simp, .inl rfl, trivial⟩
                  · rename_i hl0 hlh'
                    cases hel : es[i + l]? with
                    | none => simp [hel] at h3
                    | some c =>
                      simp only [hel] at h3
                      split at h3
                      · rename_i hcl
                        simp only [beq_iff_eq] at hcl hl0 hlh'
                        simp only [Option.some.injEq] at h3
                        subst h3
                        obtain ⟨tt, g1, g2⟩ := M.get_look hget
                        obtain ⟨B', hB', hf, _, _⟩ := hC r p (.own es cap) (by simp [rget, over_look g1, g2]) rfl
                        rw [hB] at hB'; cases hB'
                        have hzz := hf.2.2 c (List.mem_of_getElem? hel)
                        have hne : ¬ k = l := by omega
                        refine ⟨B, k - l, hB, ?_, by omega, fun h0 => ⟨rfl, by have := (hkC h0).2; omega⟩⟩
                        rw [if_neg hne]
                        simp only [Option.map_some, ptr_add, slc, ← hcl, hzz]
                        rw [show B.o + i * B.z + 0 + l * B.z = B.o + (i + l) * B.z + 0 by rw [Nat.add_mul]; omega]
                      · cases h3
              · cases h3
            · cases h3
          · cases h3
        · cases h
    case array k e =>
      split at h
      · cases h
      · rename_i hz
        obtain ⟨inf, hinf⟩ := info_of_cells (P := E.P) (t := e) (by simpa using hz)
        cases x <;> simp only at h <;> try (cases h; done)
        case gp a j =>
        cases hg : E.glob a with
        | none => simp [hg] at h
        | some cs =>
          simp only [hg] at h
          obtain ⟨l, h', h1, h2, h3⟩ := hbb k _ h
          split at h3
          · rename_i hc
            simp only [Bool.and_eq_true, decide_eq_true_eq] at hc
            obtain ⟨⟨hc1, hc2⟩, hc3⟩ := hc
            simp only [Option.some.injEq] at h3
            subst h3
            obtain ⟨b, o, hga, hcx⟩ := hx
            obtain ⟨b', o', hga', hr⟩ := hE a cs hg
            rw [hga] at hga'; cases hga'
            subst hcx
            have hb := bounds_ok gam E (w := w) (isS := false) (cap := k) hl hh h1 h2 hc1 hc2
            refine ⟨.slice (some (if k = l then (⟨b, o + j, none⟩ : Addr) else (⟨b, o + j, none⟩ : Addr).add (l * E.P.cellsOf e))) (h' - l) (k - l), by simp only [Instr.sliceAt, ptr, Instr.sureAddr, Sem.run_bind, run_underlying hu, Result.andThen_ok, hb, run_sizeOf w hinf, Sem.run_pure], ?_⟩
            have hcl : (chunks (E.P.cellsOf e) (h' - l) (cs.drop (j + l * E.P.cellsOf e))).length = h' - l := chunks_length _ _ _
            by_cases hkl : k = l
            · rw [if_pos hkl]
              have h0 : h' - l = 0 := by omega
              rw [h0]
              exact ⟨some ⟨b, o + j, none⟩, b, o + j, 0, k - l, rfl, by simp [chunks], .inl rfl, trivial⟩
            · rw [if_neg hkl, ptr_add]
              refine ⟨some ⟨b, o + j + l * E.P.cellsOf e, none⟩, b, o + j + l * E.P.cellsOf e, E.P.cellsOf e, k - l, by rw [hcl], by rw [hcl]; omega, .inr rfl, ?_⟩
              have hmul : l * E.P.cellsOf e + (h' - l) * E.P.cellsOf e ≤ k * E.P.cellsOf e := by
                rw [← Nat.add_mul]
                exact Nat.mul_le_mul_right _ (by omega)
              have := RoCs.chunks gam (rho := g.rho) (b := b) (z := E.P.cellsOf e) (h' - l) (cs.drop (j + l * E.P.cellsOf e)) (o + (j + l * E.P.cellsOf e)) (by simp; omega) (RoCs.drop gam hr _)
              rwa [← Nat.add_assoc] at this
          · cases h3

end
end Go.Bv
/- Conversions. -/
namespace Go.Bv
open Go

section
variable (gam : Nat → Option (Nat × Nat)) (E : Env)

theorem fold_bytes : ∀ (b : List UInt8) (s : List UInt8), (b.map fun c => ((c.toNat : Nat) : Int)).foldl (fun (r : ByteArray) n => r.push (UInt8.ofNat n.toNat)) ⟨s.toArray⟩ = ⟨(s ++ b).toArray⟩
  | [], s => by simp
  | c :: b, s => by
    simp only [List.map_cons, List.foldl_cons]
    have h : (⟨s.toArray⟩ : ByteArray).push (UInt8.ofNat ((c.toNat : Nat) : Int).toNat) = ⟨(s ++ [c]).toArray⟩ := by
      apply ByteArray.ext
      simp [ByteArray.push]
    rw [h, fold_bytes b (s ++ [c])]
    simp

theorem conv_ok {g : Gh} {w : World} {R : Roots} {m : M} {src dst : TypeId} {x v : V} {cx : Value} (hC : Claims gam g w (over R m.rs)) (hG : Glob g w)
    (hx : Sv gam g x cx) (h : convV E m src dst x = some v) : ∃ c, (convert src dst cx).run E.P w = .ok c w ∧ Sv gam g v c := by
  unfold convV at h
  split at h
  · rename_i u k k' n hs hd
    simp only [Option.some.injEq] at h
    subst h
    have hx : cx = .int k' n := hx
    subst hx
    refine ⟨.int k (k.wrap n), ?_, rfl⟩
    simp only [convert, Sem.run_bind, run_underlying hs, run_underlying hd, Result.andThen_ok]
    cases u <;> rfl
  · rename_i u b hs hd
    simp only [Option.some.injEq] at h
    subst h
    have hx : cx = .string ⟨b.toArray⟩ := hx
    subst hx
    refine ⟨.string ⟨b.toArray⟩, ?_, rfl⟩
    simp only [convert, Sem.run_bind, run_underlying hs, run_underlying hd, Result.andThen_ok]
    cases u <;> rfl
  · rename_i x _ _ _ e hs hd _
    cases he : elems m x with
    | none => simp [he] at h
    | some es =>
      simp only [he] at h
      split at h
      · rename_i b hu hb
        simp only [Option.some.injEq] at h
        subst h
        obtain ⟨hbl, hbe⟩ := bytes_of (gam' := gam) (rho := g.rho) es b hb
        refine ⟨.string ⟨b.toArray⟩, ?_, rfl⟩
        rcases elems_ok gam hC hG hx he with ⟨⟨a0, k, hc⟩, h0⟩ | ⟨bb, o, z, k, hc, hk, hz, hcell⟩
        · subst hc; subst h0
          rw [run_convert_bytes_string w src dst e a0 0 k hs hu hd]
          have : b = [] := by simpa using hbl
          subst this
          cases a0 <;> rfl
        · subst hc
          rw [slc, run_convert_bytes_string w src dst e _ _ _ hs hu hd, run_bytesToString w _ _ _ (b.map fun c => ((c.toNat : Nat) : Int))]
          · have := fold_bytes b []
            simp only [List.nil_append] at this
            rw [show (ByteArray.empty : ByteArray) = ⟨([] : List UInt8).toArray⟩ from rfl, this]
          · rw [← hbl]
            have hl : ((b.map fun c => ((c.toNat : Nat) : Int)).map (Value.int .u8)).length = b.length := by simp
            rw [← hl]
            apply run_loadCells_list
            intro i y hy
            simp only [List.map_map, List.getElem?_map, Option.map_eq_some_iff, Function.comp_apply] at hy
            obtain ⟨c, hc1, rfl⟩ := hy
            have hi : i < es.length := by rw [← hbl]; exact (List.getElem?_eq_some_iff.1 hc1).1
            obtain ⟨c', h1, h2⟩ := hbe i _ (List.getElem?_eq_getElem hi)
            rw [hc1] at h1; cases h1
            have hzi := hz _ (List.mem_of_getElem? (List.getElem?_eq_getElem hi))
            rw [h2] at hzi
            simp only [List.length_cons, List.length_nil] at hzi
            obtain ⟨cc, h3, h4⟩ := hcell i 0 _ (.int .u8 c.toNat) (List.getElem?_eq_getElem hi) (by rw [h2]; rfl)
            have h5 : cc = .int .u8 c.toNat := (h4 rfl).1
            rw [cellAt_add, ← h5, ← h3, ← hzi, Nat.zero_add, Nat.mul_one, Nat.add_zero]
      · cases h
  · cases h

end
end Go.Bv
/- Parts that go along, one after the other. -/
namespace Go.Bv
open Go

section
variable (gam : Nat → Option (Nat × Nat))

theorem Off.sub {s : Nat × Nat} {p t : Path} (h : Off [s] p) (hne : p ≠ []) : Off [s] (p ++ t) := by
  intro u e
  cases p with
  | nil => exact hne rfl
  | cons a p =>
    simp at e
    exact h p (by rw [e.1]; rfl)

theorem off_ne {s t : Nat × Nat} (h : s ≠ t) (q : Path) : Off [s] ([t] ++ q) := off_step h q

theorem goAlongs_ok {R : Roots} {d i k : Nat} {w : World} {cs : List Value} : ∀ (vs : List V) (cv : List Value) (j : Nat) (g : Gh) (m m' : M) (xs : List V), MS gam g w R m cs → goAlongs d i k m j vs = some (xs, m') →
    vs.length = cv.length → (∀ (q : Nat) v c, vs[q]? = some v → cv[q]? = some c → Sv gam g (sweepV (m.lg.drop k) v) c) → k ≤ m.lg.length →
    Still (over R m.rs) d → d < m.n → (∀ a, j ≤ a → a < j + vs.length → ∀ q, g.base d ([(i, a)] ++ q) = none) → Tight g (over R m.rs) (fun y _ => y = d) →
    ∃ g', MS gam g' w R m' cs ∧ MT gam g w m g' w m' ∧ xs.length = vs.length ∧ (∀ (q : Nat) x c, xs[q]? = some x → cv[q]? = some c → PartOk gam g' w d [(i, j + q)] x c) ∧
      Keeps g w g' w d (fun p => ∀ q, q < vs.length → Off [(i, j + q)] p) ∧ Still (over R m'.rs) d ∧ m'.n = m.n ∧ Tight g' (over R m'.rs) (fun y _ => y = d) ∧ k ≤ m'.lg.length := by
  intro vs
  induction vs with
  | nil =>
    intro cv j g m m' xs hS h hl hv hk hd hdn hf hT
    simp only [goAlongs, Option.some.injEq, Prod.mk.injEq] at h
    obtain ⟨rfl, rfl⟩ := h
    exact ⟨g, hS, MT.refl gam g w m, rfl, fun q x c hx => by simp at hx, (Keeps.refl g w d _), hd, rfl, hT, hk⟩
  | cons v vs ih =>
    intro cv j g m m' xs hS h hl hv hk hd hdn hf hT
    cases cv with
    | nil => simp at hl
    | cons c cv =>
      simp only [goAlongs] at h
      cases hg : goAlong m (d, [(i, j)]) (sweepV (m.lg.drop k) v) with
      | none => simp [hg] at h
      | some y =>
        obtain ⟨x, m1⟩ := y
        simp only [hg] at h
        cases hr : goAlongs d i k m1 (j + 1) vs with
        | none => simp [hr] at h
        | some y =>
          obtain ⟨xs1, m2⟩ := y
          simp only [hr, Option.some.injEq, Prod.mk.injEq] at h
          obtain ⟨rfl, rfl⟩ := h
          obtain ⟨g1, hS1, hM1, hP1, hK1, hd1, hn1, hT1⟩ := goAlong_ok gam hS hg (hv 0 v c rfl rfl) hd hdn (hf j (Nat.le_refl _) (by simp)) hT
          obtain ⟨l, hlg, hnm⟩ := hM1.nm
          have hk1 : k ≤ m1.lg.length := by rw [hlg, List.length_append]; omega
          have hv1 : ∀ (q : Nat) v c, vs[q]? = some v → cv[q]? = some c → Sv gam g1 (sweepV (m1.lg.drop k) v) c := by
            intro q v c h1 h2
            have := hv (q + 1) v c (by simpa using h1) (by simpa using h2)
            rw [hlg, List.drop_append_of_le_length hk, sweepV_append]
            exact hnm _ _ this
          have hf1 : ∀ a, j + 1 ≤ a → a < j + 1 + vs.length → ∀ q, g1.base d ([(i, a)] ++ q) = none := by
            intro a ha ha2 q
            refine hK1.none _ (off_ne ?_ q) (hf a (by omega) (by simp; omega) q)
            simp; omega
          obtain ⟨g2, hS2, hM2, hlen, hP2, hK2, hd2, hn2, hT2, hk2⟩ := ih cv (j + 1) g1 m1 m2 xs1 hS1 hr (by simpa using hl) hv1 hk1 hd1 (by rw [hn1]; exact hdn) hf1 hT1
          refine ⟨g2, hS2, hM1.trans gam hM2, by simp [hlen], ?_, ?_, hd2, hn2.trans hn1, hT2, hk2⟩
          · intro q x' c' hx hc
            cases q with
            | zero =>
              simp only [List.getElem?_cons_zero, Option.some.injEq] at hx hc
              subst hx; subst hc
              refine hK2.part gam (p := [(i, j + 0)]) ?_ hP1
              intro t q _
              refine off_ne ?_ t
              simp; omega
            | succ q =>
              have := hP2 q x' c' (by simpa using hx) (by simpa using hc)
              rwa [show j + 1 + q = j + (q + 1) by omega] at this
          · refine (hK1.trans hK2).weaken ?_
            intro p hp
            refine ⟨by simpa using hp 0 (by simp), fun q hq => ?_⟩
            have := hp (q + 1) (by simp; omega)
            rwa [show j + (q + 1) = j + 1 + q by omega] at this

end
end Go.Bv
/- Composites that are made of parts. -/
namespace Go.Bv
open Go

def fillL {α : Type} (cs xs : List α) (off : Nat) : List α := cs.take off ++ xs ++ cs.drop (off + xs.length)

theorem fillL_get {α : Type} {cs xs : List α} {off : Nat} (h : off + xs.length ≤ cs.length) (k : Nat) :
    (fillL cs xs off)[k]? = if off ≤ k ∧ k < off + xs.length then xs[k - off]? else cs[k]? := by
  unfold fillL
  have h1 : (cs.take off).length = off := by simp; omega
  by_cases hk : k < off
  · rw [List.append_assoc, List.getElem?_append_left (by omega), List.getElem?_take_of_lt hk, if_neg (by omega)]
  · by_cases hk2 : k < off + xs.length
    · rw [List.getElem?_append_left (by simp; omega), List.getElem?_append_right (by omega), h1, if_pos ⟨by omega, hk2⟩]
    · rw [List.getElem?_append_right (by simp; omega), if_neg (by omega), List.getElem?_drop]
      congr 1
      simp
      omega

theorem fill_fold (off : Nat) : ∀ (xs : List Value) (k : Nat) (cs : Array Value), off + k + xs.length ≤ cs.size →
    ((xs.zipIdx k).foldl (fun (cs : Array Value) (p : Value × Nat) => cs.setIfInBounds (off + p.2) p.1) cs).toList = fillL cs.toList xs (off + k)
  | [], k, cs, h => by simp [fillL]
  | x :: xs, k, cs, h => by
    simp only [List.zipIdx_cons, List.foldl_cons]
    simp only [List.length_cons] at h
    rw [fill_fold off xs (k + 1) _ (by simp; omega)]
    apply List.ext_getElem?
    intro j
    rw [fillL_get (by simp; omega), fillL_get (by simp; omega)]
    simp only [Array.toList_setIfInBounds, List.length_cons]
    by_cases h1 : j = off + k
    · subst h1
      rw [if_neg (by omega), if_pos (by omega)]
      rw [List.getElem?_set_self (by simp; omega)]
      simp
    · by_cases h2 : off + k < j ∧ j < off + k + (xs.length + 1)
      · rw [if_pos (by omega), if_pos (by omega)]
        rw [show j - (off + k) = (j - (off + (k + 1))) + 1 by omega]
        simp
      · rw [if_neg (by omega), if_neg (by omega), List.getElem?_set_ne (by omega)]

end Go.Bv
/- What is built of parts: a composite's cells. -/
namespace Go.Bv
open Go

section
variable (gam : Nat → Option (Nat × Nat))

theorem Svs.cells {g : Gh} {v : V} {c : Value} (h : Sv gam g v c) (hv : ∀ vs, v ≠ .tup vs) (hs : ∀ x, v = .sc x → x.oneCell' = true) (ha : v ≠ .any) : Svs gam g v.cells c.cells.toList := by
  cases v <;> simp only [V.cells]
  case any => exact (ha rfl).elim
  case tup vs => exact (hv vs rfl).elim
  case agg cs => obtain ⟨cv, hc, hk⟩ := h; subst hc; exact hk
  case sc x =>
    have h0 : c = x := h
    subst h0
    have := hs c rfl
    cases c <;> simp [Value.oneCell'] at this <;> exact ⟨_, [], rfl, rfl, rfl⟩
  case int => have h0 : c = _ := h; subst h0; exact ⟨_, [], rfl, rfl, rfl⟩
  case bool => have h0 : c = _ := h; subst h0; exact ⟨_, [], rfl, rfl, rfl⟩
  case str => have h0 : c = _ := h; subst h0; exact ⟨_, [], rfl, rfl, rfl⟩
  case ifc t x => obtain ⟨cx, hc, hk⟩ := h; subst hc; exact ⟨_, [], rfl, ⟨cx, rfl, hk⟩, rfl⟩
  case fn f pre caps => obtain ⟨p, q, hc, hk⟩ := h; subst hc; exact ⟨_, [], rfl, ⟨p, q, rfl, hk⟩, rfl⟩
  case ro es => obtain ⟨a, b, o, z, k, hc, hk⟩ := h; subst hc; exact ⟨_, [], rfl, ⟨a, b, o, z, k, rfl, hk⟩, rfl⟩
  case rop cs j => obtain ⟨b, o, hc, hk⟩ := h; subst hc; exact ⟨_, [], rfl, ⟨b, o, rfl, hk⟩, rfl⟩
  case gp a j => obtain ⟨b, o, hg, hc⟩ := h; subst hc; exact ⟨_, [], rfl, ⟨b, o, hg, rfl⟩, rfl⟩
  case box cs => exact h.elim
  case own es cap => exact h.elim
  case al r p i j => obtain ⟨B, hB, hc⟩ := h; subst hc; exact ⟨_, [], rfl, ⟨B, hB, rfl⟩, rfl⟩
  case als r p i j n z => obtain ⟨B, k, hB, hc, hk⟩ := h; subst hc; exact ⟨_, [], rfl, ⟨B, k, hB, rfl, hk⟩, rfl⟩

theorem goAlongs_any {d i k : Nat} : ∀ (vs : List V) (j : Nat) (m m' : M) (xs : List V), goAlongs d i k m j vs = some (xs, m') → xs.length = vs.length
  | [], j, m, m', xs, h => by simp only [goAlongs, Option.some.injEq, Prod.mk.injEq] at h; rw [← h.1]
  | v :: vs, j, m, m', xs, h => by
    simp only [goAlongs] at h
    cases hg : goAlong m (d, [(i, j)]) (sweepV (m.lg.drop k) v) with
    | none => simp [hg] at h
    | some y =>
      obtain ⟨x, m1⟩ := y
      simp only [hg] at h
      cases hr : goAlongs d i k m1 (j + 1) vs with
      | none => simp [hr] at h
      | some y =>
        obtain ⟨xs1, m2⟩ := y
        simp only [hr, Option.some.injEq, Prod.mk.injEq] at h
        rw [← h.1, List.length_cons, List.length_cons, goAlongs_any vs (j + 1) m1 m2 xs1 hr]

theorem told_cells {g : Gh} {v : V} {c : Value} (h : Sv gam g v c) (ht : v.told = true) : Svs gam g v.cells c.cells.toList := by
  refine Svs.cells gam h ?_ ?_ ?_
  · rintro vs rfl; simp [V.told] at ht
  · rintro x rfl; simpa [V.told] using ht
  · rintro rfl; simp [V.told] at ht

theorem fillL_length {α : Type} {cs xs : List α} {off : Nat} (h : off + xs.length ≤ cs.length) : (fillL cs xs off).length = cs.length := by
  simp [fillL]; omega

theorem buildParts_ok {R : Roots} {d : Nat} {w : World} {cs : List Value} {place : Nat → Option (Nat × Nat)} : ∀ (offs : List (Nat × Nat)) (q : Nat) (vcs : List V) (cells : Array Value) (ps : List (Nat × Value)) (g : Gh) (m m' : M) (vcs' : List V),
    MS gam g w R m cs → buildParts d offs q vcs m = some (vcs', m') → ps.length = offs.length →
    (∀ (a i : Nat) v off size, ps[a]? = some (i, v) → offs[a]? = some (off, size) → place i = some (off, size) ∧ cs[q + a]? = some v) →
    vcs.length = cells.size → (∀ (k : Nat) x c, vcs[k]? = some x → cells[k]? = some c → PartOk gam g w d [(0, k)] x c) →
    apartR offs = true → (∀ off size, (off, size) ∈ offs → ∀ a, off ≤ a → a < off + size → ∀ t, g.base d ([(0, a)] ++ t) = none) →
    Still (over R m.rs) d → d < m.n → Tight g (over R m.rs) (fun y _ => y = d) →
    ∃ g' cells', Instr.fill place cells ps = some cells' ∧ MS gam g' w R m' cs ∧ MT gam g w m g' w m' ∧ vcs'.length = cells'.size ∧ cells'.size = cells.size ∧
      (∀ (k : Nat) x c, vcs'[k]? = some x → cells'[k]? = some c → PartOk gam g' w d [(0, k)] x c) ∧ Still (over R m'.rs) d ∧ m'.n = m.n ∧ Tight g' (over R m'.rs) (fun y _ => y = d) ∧
      (∀ p, (∀ k, k < vcs.length → Off [(0, k)] p) → g.base d p = none → g'.base d p = none) := by
  intro offs
  induction offs with
  | nil =>
    intro q vcs cells ps g m m' vcs' hS h hl hp hlen hP _ _ hd hdn hT
    simp only [buildParts, Option.some.injEq, Prod.mk.injEq] at h
    obtain ⟨rfl, rfl⟩ := h
    cases ps with
    | nil => exact ⟨g, cells, rfl, hS, MT.refl gam g w m, hlen, rfl, hP, hd, rfl, hT, fun _ _ h => h⟩
    | cons p ps => simp at hl
  | cons os offs ih =>
    intro q vcs cells ps g m m' vcs' hS h hl hp hlen hP hap hfree hd hdn hT
    obtain ⟨off, size⟩ := os
    cases ps with
    | nil => simp at hl
    | cons p ps =>
      obtain ⟨i, c⟩ := p
      simp only [buildParts] at h
      cases hv : m.vs[q]? with
      | none => simp [hv] at h
      | some v =>
        simp only [hv] at h
        split at h
        · rename_i hcond
          simp only [Bool.and_eq_true, beq_iff_eq, decide_eq_true_eq] at hcond
          obtain ⟨⟨htold, hsz⟩, hle⟩ := hcond
          cases hg : goAlongs d 0 m.lg.length m off v.cells with
          | none => simp [hg] at h
          | some y =>
            obtain ⟨xs, m1⟩ := y
            simp only [hg] at h
            obtain ⟨hpl, hcq⟩ := hp 0 i c off size rfl rfl
            obtain ⟨c', hc1, hc2⟩ := Svs.get gam hS.vs hv
            simp only [Nat.add_zero] at hcq
            rw [hcq] at hc1; cases hc1
            have hcells := told_cells gam hc2 htold
            have hcl : c.cells.toList.length = v.cells.length := Svs.length gam hcells
            have hcs : c.cells.size = size := by rw [← hsz, ← hcl]; simp
            obtain ⟨g1, hS1, hM1, hxl, hP1, hK1, hd1, hn1, hT1, _⟩ := goAlongs_ok gam (k := m.lg.length) v.cells c.cells.toList off g m m1 xs hS hg hcl.symm
              (by intro a x y hx hy
                  obtain ⟨y', h1, h2⟩ := Svs.get gam hcells hx
                  rw [hy] at h1; cases h1
                  rw [List.drop_length]; exact h2)
              (Nat.le_refl _) hd hdn (fun a h1 h2 => hfree off size (by simp) a h1 (by rw [hsz] at h2; exact h2)) hT
            -- the cells so far
            let cells1 : Array Value := c.cells.zipIdx.foldl (fun cs (c, j) => cs.setIfInBounds (off + j) c) cells
            have hc1l : cells1.toList = fillL cells.toList c.cells.toList off := by
              have := fill_fold off c.cells.toList 0 cells (by simp; omega)
              simp only [Nat.add_zero] at this
              rw [← this]
              simp only [cells1, ← Array.foldl_toList, Array.toList_zipIdx]
            have hc1s : cells1.size = cells.size := by
              rw [← Array.length_toList, hc1l, fillL_length (by simp; omega)]; simp
            have hvl : (fillAt vcs xs off).length = vcs.length := fillL_length (by omega)
            have hP2 : ∀ (k : Nat) x c, (fillAt vcs xs off)[k]? = some x → cells1[k]? = some c → PartOk gam g1 w d [(0, k)] x c := by
              intro k x y hx hy
              rw [show fillAt vcs xs off = fillL vcs xs off from rfl, fillL_get (by omega)] at hx
              rw [← Array.getElem?_toList, hc1l, fillL_get (by simp; omega)] at hy
              have e1 : xs.length = c.cells.toList.length := by omega
              rw [← e1] at hy
              split at hx
              · rename_i hk
                rw [if_pos hk] at hy
                have := hP1 (k - off) x y hx hy
                rwa [show off + (k - off) = k by omega] at this
              · rename_i hk
                rw [if_neg hk] at hy
                refine hK1.part gam (p := [(0, k)]) ?_ (hP k x y hx (by rw [← Array.getElem?_toList]; exact hy))
                intro t a ha
                refine off_ne ?_ t
                simp; omega
            have hap2 : apartR offs = true ∧ ∀ o s, (o, s) ∈ offs → off + size ≤ o ∨ o + s ≤ off := by
              simp only [apartR, Bool.and_eq_true, List.all_eq_true, Bool.or_eq_true, Nat.ble_eq] at hap
              exact ⟨hap.2, fun o s hm => hap.1 (o, s) hm⟩
            obtain ⟨g2, cells2, hfill, hS2, hM2, hl2, hs2, hP3, hd2, hn2, hT2, hN2⟩ := ih (q + 1) (fillAt vcs xs off) cells1 ps g1 m1 m' vcs' hS1 h (by simpa using hl)
              (by intro a i' v' o s h1 h2
                  have := hp (a + 1) i' v' o s (by simpa using h1) (by simpa using h2)
                  rwa [show q + (a + 1) = q + 1 + a by omega] at this)
              (by rw [hvl, hc1s, hlen]) hP2 hap2.1
              (by intro o s hm a h1 h2 t
                  refine hK1.none _ ?_ (hfree o s (by simp [hm]) a h1 h2 t)
                  intro b hb
                  refine off_ne ?_ t
                  have := hap2.2 o s hm
                  simp; omega)
              hd1 (by rw [hn1]; exact hdn) hT1
            refine ⟨g2, cells2, ?_, hS2, hM1.trans gam hM2, hl2, by rw [hs2, hc1s], hP3, hd2, hn2.trans hn1, hT2, fun p hp hb => hN2 p (fun k hk => hp k (by rw [← hvl]; exact hk)) (hK1.none p (fun q hq => hp (off + q) (by omega)) hb)⟩
            simp only [Instr.fill, hpl]
            rw [if_neg]
            · exact hfill
            · simp only [ne_eq, Bool.or_eq_true, decide_eq_true_eq, not_or, Decidable.not_not]
              omega
        · cases h

end
end Go.Bv
/- New memory: what an allocation, a boxed thing, a made slice come to. -/
namespace Go.Bv
open Go

section
variable (gam : Nat → Option (Nat × Nat))

/-- A block more, for an owner whose parts float at a root. -/
theorem made_ok {g : Gh} {w w' : World} {R : Roots} {m : M} {cs : List Value} {d : Nat} {v : V} {cv : Array Value} {T : TypeId} {f : Nat × Nat} {B : Base} {X : Nat → Path → Prop}
    (hS : MS gam g w R m cs) (ha : Adds w w' cv T f) (hT : Tight g (over R m.rs) X) (hd : Still (over R m.rs) d) (hb0 : g.base d [] = none)
    (hb : B.b = w.heap.size) (hsz : B.o + B.C * B.z ≤ cv.size) (hfz : ∀ k, B.o ≤ k → k < B.o + B.C * B.z → ¬ (f.1 ≤ k ∧ k < f.2)) (hf : Fits v B) (hv : v.owner = true)
    (hk : ∀ s x, v.kid s = some x → ∃ c, cv[B.o + s.1 * B.z + s.2]? = some c ∧ PartOk gam g w d [s] x c)
    (hex : ∀ s t B', g.base d (s :: t) = some B' → ∃ x, v.kid s = some x)
    {c : Value} (hc : ∀ g' : Gh, g'.base d [] = some B → Ck gam g' d [] v c) :
    MS gam (g.new d B) w' R m cs ∧ MT gam g w m (g.new d B) w' m ∧ PartOk gam (g.new d B) w' d [] v c ∧ Tight (g.new d B) (over R m.rs) (fun y q => X y q ∨ (y = d ∧ q = [])) := by
  have hturn := turns_new g (d := d) (B := B) hb0
  have hnm : ∀ v c, Sv gam g v c → Sv gam (g.new d B) v c := fun v c h => Sv.keep gam (g := g) (g' := g.new d B) (Grows.refl _) hturn h
  have hvs : ∀ (vs : List V) (cs : List Value), Svs gam g vs cs → Svs gam (g.new d B) vs cs := by
    intro vs
    induction vs with
    | nil => exact fun _ h => h
    | cons a vs ih => exact fun _ ⟨c, cs, e, h1, h2⟩ => ⟨c, cs, e, hnm _ _ h1, ih _ h2⟩
  refine ⟨⟨hvs _ _ hS.vs, hS.cl.new gam hS.gl ha hb (hd []), hS.wf, hS.gl.new ha hb hsz hfz⟩, ⟨Fr.new ha hb, ⟨[], by simp, fun v c h => hnm v c h⟩, rfl, fun _ => rfl, fun _ h => h, fun r p B' _ hB => .inr (hturn r p B' hB)⟩, ⟨?_, ?_, ?_, ?_, ?_⟩, hT.new⟩
  · exact new_owner gam hS.gl ha hb hf fun s x hx => by
      obtain ⟨c, h1, h2⟩ := hk s x hx
      exact ⟨h2.fl, c, h1, h2.ck⟩
  · exact hc _ (by simp [Gh.new])
  · intro q u s x hu hks
    cases q with
    | nil =>
      rw [get_nil] at hu; cases hu
      obtain ⟨c, _, h2⟩ := hk s x hks
      exact h2.ol
    | cons s0 q =>
      rw [get_cons] at hu
      cases h0 : v.kid s0 with
      | none => simp [h0] at hu
      | some y =>
        simp only [h0] at hu
        obtain ⟨c, _, h2⟩ := hk s0 y h0
        exact h2.wf q u s x hu hks
  · exact .inl hv
  · intro t B' hB
    cases t with
    | nil => exact ⟨v, get_nil v, hv⟩
    | cons s t =>
      simp only [Gh.new, List.nil_append] at hB
      rw [if_neg (by simp)] at hB
      obtain ⟨x, hx⟩ := hex s t B' hB
      obtain ⟨c, _, h2⟩ := hk s x hx
      obtain ⟨u, hu, ho⟩ := h2.ex t B' hB
      exact ⟨u, by rw [get_cons, hx]; exact hu, ho⟩

end
end Go.Bv
/- What an operation's result is, while it floats; how it comes to lie in its slot and root. -/
namespace Go.Bv
open Go

/-- The package-level variables' addresses, as the program lays them. -/
def gam0 : Nat → Option (Nat × Nat) := fun g => some (g, 0)

section
variable (gam : Nat → Option (Nat × Nat))

theorem Float.moved {g : Gh} {w : World} {r : Nat} {p : Path} {r2 : Nat} {p2 : Path} {v : V} (h : Float gam g w r p v) : Float gam (g.move r p r2 p2) w r2 p2 v := by
  intro q u hu ho
  obtain ⟨B, hB, hf, hl, hk⟩ := h q u hu ho
  refine ⟨B, by rw [move_base_to]; exact hB, hf, fun k hk' => move_lam_to g (hl k hk'), fun s x hx => ?_⟩
  obtain ⟨c, h1, h2⟩ := hk s x hx
  refine ⟨c, h1, ?_⟩
  rw [List.append_assoc] at h2 ⊢
  exact Ck.moved gam (g := g) (g' := g.move r p r2 p2) rfl (move_base_to g r p r2 p2 (q ++ [s])) h2

mutual
theorem Sv.keepR {g g' : Gh} {N : Nat} (hg : Grows g.rho g'.rho) (hb : ∀ r p B, r ≠ N → g.base r p = some B → g'.base r p = some B) : ∀ (v : V) (c : Value), N ∉ v.roots → Sv gam g v c → Sv gam g' v c
  | .al r p i j, c, hn, ⟨B, hB, e⟩ => ⟨B, hb _ _ _ (fun e => hn (by simp [V.roots, e])) hB, e⟩
  | .als r p i j n z, c, hn, ⟨B, k, hB, e⟩ => ⟨B, k, hb _ _ _ (fun e => hn (by simp [V.roots, e])) hB, e⟩
  | .tup vs, c, hn, ⟨cv, e, k⟩ => ⟨cv, e, Svs.keepR hg hb vs _ (by simpa [V.roots] using hn) k⟩
  | .agg vs, c, hn, ⟨cv, e, k⟩ => ⟨cv, e, Svs.keepR hg hb vs _ (by simpa [V.roots] using hn) k⟩
  | .fn f pre caps, c, hn, ⟨p, q, e, k, l⟩ => by
    simp only [V.roots, List.mem_append, not_or] at hn
    exact ⟨p, q, e, Svs.keepR hg hb pre _ hn.1 k, Svs.keepR hg hb caps _ hn.2 l⟩
  | .any, _, _, e => e
  | .int _ _, _, _, e => e
  | .bool _, _, _, e => e
  | .str _, _, _, e => e
  | .sc _, _, _, e => e
  | .ifc _ _, _, _, e => Pv.mono gam hg _ _ e
  | .ro _, _, _, e => Pv.mono gam hg _ _ e
  | .rop _ _, _, _, e => Pv.mono gam hg _ _ e
  | .gp _ _, _, _, e => e
  | .box _, _, _, e => e
  | .own _ _, _, _, e => e
theorem Svs.keepR {g g' : Gh} {N : Nat} (hg : Grows g.rho g'.rho) (hb : ∀ r p B, r ≠ N → g.base r p = some B → g'.base r p = some B) : ∀ (v : List V) (c : List Value), N ∉ rootsOf v → Svs gam g v c → Svs gam g' v c
  | [], _, _, e => e
  | x :: xs, _, hn, ⟨c, cs, e, k, l⟩ => by
    simp only [rootsOf, List.mem_append, not_or] at hn
    exact ⟨c, cs, e, Sv.keepR hg hb x _ hn.1 k, Svs.keepR hg hb xs _ hn.2 l⟩
end

/-- What a result is that floats at a root. -/
structure ResAt (g : Gh) (w : World) (N : Nat) (v : V) (c : Value) : Prop where
  sv : Sv gam g (settle N v).1 c
  fl : ∀ x, (settle N v).2 = some x → Float gam g w N [] x ∧ WFV x
  ex : ∀ t B, g.base N t = some B → ∃ x u, (settle N v).2 = some x ∧ x.get t = some u ∧ u.owner = true
  nr : N ∉ v.roots

theorem nameAt_keep {g g' : Gh} {N d : Nat} {p : Path} (hg : Grows g.rho g'.rho) (hb : ∀ r p B, r ≠ N → g.base r p = some B → g'.base r p = some B) (hd : ∀ q B, g.base N q = some B → g'.base d q = some B)
    {x : V} {c : Value} (hn : N ∉ x.roots) (h : Sv gam g (nameAt N p x) c) : Sv gam g' (nameAt d p x) c := by
  cases x with
  | box cs => obtain ⟨B, hB, e⟩ := h; exact ⟨B, hd _ _ hB, e⟩
  | own es cap => obtain ⟨B, k, hB, e⟩ := h; exact ⟨B, k, hd _ _ hB, e⟩
  | _ => exact Sv.keepR gam hg hb _ _ hn h

theorem names_keep {g g' : Gh} {N d : Nat} (hg : Grows g.rho g'.rho) (hb : ∀ r p B, r ≠ N → g.base r p = some B → g'.base r p = some B) (hd : ∀ q B, g.base N q = some B → g'.base d q = some B) (i : Nat) :
    ∀ (vs : List V) (j : Nat) (cs : List Value), N ∉ rootsOf vs → Svs gam g (names N [] i j vs) cs → Svs gam g' (names d [] i j vs) cs
  | [], _, _, _, h => h
  | x :: vs, j, _, hn, ⟨c, cs, e, k, l⟩ => by
    simp only [rootsOf, List.mem_append, not_or] at hn
    exact ⟨c, cs, e, nameAt_keep gam hg hb hd hn.1 k, names_keep hg hb hd i vs (j + 1) cs hn.2 l⟩

theorem settle_keep {g g' : Gh} {N d : Nat} (hg : Grows g.rho g'.rho) (hb : ∀ r p B, r ≠ N → g.base r p = some B → g'.base r p = some B) (hd : ∀ q B, g.base N q = some B → g'.base d q = some B)
    {v : V} {c : Value} (hn : N ∉ v.roots) (h : Sv gam g (settle N v).1 c) : Sv gam g' (settle d v).1 c ∧ (settle d v).2 = (settle N v).2 := by
  cases v with
  | box cs => obtain ⟨B, hB, e⟩ := h; exact ⟨⟨B, hd _ _ hB, e⟩, rfl⟩
  | own es cap => obtain ⟨B, k, hB, e⟩ := h; exact ⟨⟨B, k, hd _ _ hB, e⟩, rfl⟩
  | tup vs =>
    simp only [settle] at h ⊢
    split at h
    · rename_i ho
      rw [if_pos ho, if_pos ho]
      obtain ⟨cv, e, k⟩ := h
      exact ⟨⟨cv, e, names_keep gam hg hb hd 0 vs 0 _ hn k⟩, rfl⟩
    · rename_i ho
      rw [if_neg ho, if_neg ho]
      exact ⟨Sv.keepR gam hg hb _ _ hn h, rfl⟩
  | agg vs =>
    simp only [settle] at h ⊢
    split at h
    · rename_i ho
      rw [if_pos ho, if_pos ho]
      obtain ⟨cv, e, k⟩ := h
      exact ⟨⟨cv, e, names_keep gam hg hb hd 0 vs 0 _ hn k⟩, rfl⟩
    · rename_i ho
      rw [if_neg ho, if_neg ho]
      exact ⟨Sv.keepR gam hg hb _ _ hn h, rfl⟩
  | _ => exact ⟨Sv.keepR gam hg hb _ _ hn h, rfl⟩

theorem owner_sweep (s : Step) (x : V) : (x.sweep s).owner = x.owner := by
  cases x with
  | al r p a b => simp only [V.sweep]; cases s.act r p <;> rfl
  | als r p a b n z => simp only [V.sweep]; cases s.act r p <;> rfl
  | _ => rfl

theorem sweep_owner (s : Step) {x : V} (h : x.owner = true) : x.sweep s = x := by
  cases x <;> first | rfl | cases h

theorem sweeps_any (s : Step) : ∀ vs : List V, (sweeps s vs).any (·.owner) = vs.any (·.owner)
  | [] => rfl
  | x :: vs => by simp only [sweeps, List.any_cons, sweeps_any s vs, owner_sweep]

theorem sweeps_rich (s : Step) : ∀ vs : List V, richOnly (sweeps s vs) = richOnly vs
  | [] => rfl
  | x :: vs => by
    simp only [sweeps, richOnly, sweeps_rich s vs, owner_sweep]
    congr 1
    split
    · rename_i h; exact sweep_owner s h
    · rfl

theorem rich_sweep (s : Step) (v : V) : (v.sweep s).rich = v.rich := by
  cases v with
  | al r p a b => simp only [V.sweep]; cases s.act r p <;> rfl
  | als r p a b n z => simp only [V.sweep]; cases s.act r p <;> rfl
  | tup vs => simp only [V.sweep, V.rich, sweeps_any]
  | agg vs => simp only [V.sweep, V.rich, sweeps_any]
  | _ => rfl

/-- A result's names are swept of a root that is not its own. -/
theorem names_sweep {N d : Nat} (hne : N ≠ d) (i : Nat) : ∀ (vs : List V) (j : Nat), sweeps (.drop d []) (names N [] i j vs) = names N [] i j (sweeps (.drop d []) vs)
  | [], _ => rfl
  | x :: vs, j => by
    simp only [names, sweeps, names_sweep hne i vs (j + 1)]
    congr 1
    cases x with
    | box cs => simp [nameAt, V.sweep, Step.act, hne]
    | own es cap => simp [nameAt, V.sweep, Step.act, hne]
    | al r p a b => simp only [nameAt, V.sweep]; cases (Step.drop d []).act r p <;> rfl
    | als r p a b n z => simp only [nameAt, V.sweep]; cases (Step.drop d []).act r p <;> rfl
    | _ => rfl
theorem settle_sweep {N d : Nat} (hne : N ≠ d) (v : V) : (settle N (v.sweep (.drop d []))).1 = (settle N v).1.sweep (.drop d []) ∧ (settle N (v.sweep (.drop d []))).2 = (settle N v).2 := by
  cases v with
  | box cs => simp [settle, V.sweep, Step.act, hne]
  | own es cap => simp [settle, V.sweep, Step.act, hne]
  | tup vs =>
    simp only [V.sweep, settle, sweeps_any]
    split
    · simp [V.sweep, names_sweep hne, sweeps_rich]
    · simp [V.sweep]
  | agg vs =>
    simp only [V.sweep, settle, sweeps_any]
    split
    · simp [V.sweep, names_sweep hne, sweeps_rich]
    · simp [V.sweep]
  | al r p a b => simp only [V.sweep, settle]; cases (Step.drop d []).act r p <;> exact ⟨rfl, rfl⟩
  | als r p a b n z => simp only [V.sweep, settle]; cases (Step.drop d []).act r p <;> exact ⟨rfl, rfl⟩
  | _ => exact ⟨rfl, rfl⟩

theorem drop_act {d r : Nat} {p : Path} {x : Nat × Path} (h : (Step.drop d []).act r p = some x) : x = (r, p) := by
  simp only [Step.act] at h
  split at h
  · simp [behind] at h
  · simp at h; exact h.symm

mutual
theorem roots_drop {N d : Nat} : ∀ (v : V), N ∉ v.roots → N ∉ (v.sweep (.drop d [])).roots
  | .al r p a b, h => by
    simp only [V.sweep]
    cases e : (Step.drop d []).act r p with
    | none => simp [V.roots]
    | some x => rw [drop_act e]; exact h
  | .als r p a b n z, h => by
    simp only [V.sweep]
    cases e : (Step.drop d []).act r p with
    | none => simp [V.roots]
    | some x => rw [drop_act e]; exact h
  | .tup vs, h => roots_drops vs h
  | .agg vs, h => roots_drops vs h
  | .fn f pre caps, h => by
    simp only [V.roots, List.mem_append, not_or] at h
    simp only [V.sweep, V.roots, List.mem_append, not_or]
    exact ⟨roots_drops pre h.1, roots_drops caps h.2⟩
  | .any, h | .int _ _, h | .bool _, h | .str _, h | .sc _, h | .ifc _ _, h | .ro _, h | .rop _ _, h | .gp _ _, h | .box _, h | .own _ _, h => h
theorem roots_drops {N d : Nat} : ∀ (vs : List V), N ∉ rootsOf vs → N ∉ rootsOf (sweeps (.drop d []) vs)
  | [], h => h
  | x :: vs, h => by
    simp only [rootsOf, List.mem_append, not_or] at h
    simp only [sweeps, rootsOf, List.mem_append, not_or]
    exact ⟨roots_drop x h.1, roots_drops vs h.2⟩
end

mutual
theorem roots_drop_self {d : Nat} : ∀ (v : V), d ∉ (v.sweep (.drop d [])).roots
  | .al r p a b => by
    simp only [V.sweep, Step.act]
    by_cases e : r = d
    · subst e; simp [behind, V.roots]
    · simp only [beq_iff_eq, if_neg e, V.roots, List.mem_singleton]; exact fun h => e h.symm
  | .als r p a b n z => by
    simp only [V.sweep, Step.act]
    by_cases e : r = d
    · subst e; simp [behind, V.roots]
    · simp only [beq_iff_eq, if_neg e, V.roots, List.mem_singleton]; exact fun h => e h.symm
  | .tup vs => roots_drop_selfs vs
  | .agg vs => roots_drop_selfs vs
  | .fn f pre caps => by
    simp only [V.sweep, V.roots, List.mem_append, not_or]
    exact ⟨roots_drop_selfs pre, roots_drop_selfs caps⟩
  | .any | .int _ _ | .bool _ | .str _ | .sc _ | .ifc _ _ | .ro _ | .rop _ _ | .gp _ _ | .box _ | .own _ _ => by simp [V.sweep, V.roots]
theorem roots_drop_selfs {d : Nat} : ∀ (vs : List V), d ∉ rootsOf (sweeps (.drop d []) vs)
  | [] => by simp [sweeps, rootsOf]
  | x :: vs => by
    simp only [sweeps, rootsOf, List.mem_append, not_or]
    exact ⟨roots_drop_self x, roots_drop_selfs vs⟩
end

theorem act_roots {s : Step} {N r : Nat} {p : Path} {x : Nat × Path} (hs : N ∉ s.roots) (hr : N ≠ r) (h : s.act r p = some x) : N ≠ x.1 := by
  cases s with
  | drop r0 p0 =>
    simp only [Step.act] at h
    split at h
    · split at h
      · cases h
      · cases h; exact hr
    · cases h; exact hr
  | turn r0 p0 r2 p2 =>
    simp only [Step.roots, List.mem_cons, List.not_mem_nil, or_false, not_or] at hs
    simp only [Step.act] at h
    split at h
    · split at h
      · cases h; exact hs.2
      · cases h; exact hr
    · cases h; exact hr

mutual
theorem roots_sweep {s : Step} {N : Nat} (hs : N ∉ s.roots) : ∀ (v : V), N ∉ v.roots → N ∉ (v.sweep s).roots
  | .al r p a b, h => by
    simp only [V.sweep]
    cases e : s.act r p with
    | none => simp [V.roots]
    | some x =>
      simp only [V.roots, List.mem_singleton] at h ⊢
      exact act_roots hs h e
  | .als r p a b n z, h => by
    simp only [V.sweep]
    cases e : s.act r p with
    | none => simp [V.roots]
    | some x =>
      simp only [V.roots, List.mem_singleton] at h ⊢
      exact act_roots hs h e
  | .tup vs, h => roots_sweeps hs vs h
  | .agg vs, h => roots_sweeps hs vs h
  | .fn f pre caps, h => by
    simp only [V.roots, List.mem_append, not_or] at h
    simp only [V.sweep, V.roots, List.mem_append, not_or]
    exact ⟨roots_sweeps hs pre h.1, roots_sweeps hs caps h.2⟩
  | .any, h | .int _ _, h | .bool _, h | .str _, h | .sc _, h | .ifc _ _, h | .ro _, h | .rop _ _, h | .gp _ _, h | .box _, h | .own _ _, h => h
theorem roots_sweeps {s : Step} {N : Nat} (hs : N ∉ s.roots) : ∀ (vs : List V), N ∉ rootsOf vs → N ∉ rootsOf (sweeps s vs)
  | [], h => h
  | x :: vs, h => by
    simp only [rootsOf, List.mem_append, not_or] at h
    simp only [sweeps, rootsOf, List.mem_append, not_or]
    exact ⟨roots_sweep hs x h.1, roots_sweeps hs vs h.2⟩
end

theorem roots_sweepV {N : Nat} : ∀ (l : List Step) (v : V), N ∉ stepRoots l → N ∉ v.roots → N ∉ (sweepV l v).roots
  | [], _, _, h => h
  | s :: l, v, hs, h => by
    simp only [stepRoots, List.mem_append, not_or] at hs
    exact roots_sweepV l (v.sweep s) hs.2 (roots_sweep hs.1 v h)

mutual
theorem Sv.noRoot {g : Gh} {N : Nat} (hN : ∀ p, g.base N p = none) : ∀ (v : V) (c : Value), Sv gam g v c → N ∉ v.roots
  | .al r p i j, c, ⟨B, hB, _⟩ => by
    simp only [V.roots, List.mem_singleton]
    rintro rfl
    rw [hN] at hB; cases hB
  | .als r p i j n z, c, ⟨B, k, hB, _⟩ => by
    simp only [V.roots, List.mem_singleton]
    rintro rfl
    rw [hN] at hB; cases hB
  | .tup vs, c, ⟨cv, e, k⟩ => Svs.noRoot hN vs _ k
  | .agg vs, c, ⟨cv, e, k⟩ => Svs.noRoot hN vs _ k
  | .fn f pre caps, c, ⟨p, q, e, k, l⟩ => by
    simp only [V.roots, List.mem_append, not_or]
    exact ⟨Svs.noRoot hN pre _ k, Svs.noRoot hN caps _ l⟩
  | .any, _, _ | .int _ _, _, _ | .bool _, _, _ | .str _, _, _ | .sc _, _, _ | .ifc _ _, _, _ | .ro _, _, _ | .rop _ _, _, _ | .gp _ _, _, _ | .box _, _, _ | .own _ _, _, _ => by simp [V.roots]
theorem Svs.noRoot {g : Gh} {N : Nat} (hN : ∀ p, g.base N p = none) : ∀ (v : List V) (c : List Value), Svs gam g v c → N ∉ rootsOf v
  | [], _, _ => by simp [rootsOf]
  | x :: xs, _, ⟨c, cs, e, k, l⟩ => by
    simp only [rootsOf, List.mem_append, not_or]
    exact ⟨Sv.noRoot hN x _ k, Svs.noRoot hN xs _ l⟩
end
end
end Go.Bv
/- From an operation's view to the frame behind it. -/
namespace Go.Bv
open Go

def rootsR (rt : List V) : Roots := fun r => rt[r]?

theorem pick_look (rt : List V) : ∀ (T : List Nat) (r : Nat) (v : V), look (pick rt T) r = some v → rt[r]? = some v
  | [], r, v, h => by cases h
  | t :: T, r, v, h => by
    simp only [pick] at h
    cases ht : rt[t]? with
    | none => simp only [ht] at h; exact pick_look rt T r v h
    | some u =>
      simp only [ht, look] at h
      split at h
      · rename_i e
        cases h
        rw [← beq_iff_eq.1 e]; exact ht
      · exact pick_look rt T r v h

theorem pick_mem (rt : List V) {d : Nat} (hd : d < rt.length) : ∀ (T : List Nat), d ∈ T → ∃ t, look (pick rt T) d = some t
  | [], h => by cases h
  | x :: T, h => by
    simp only [pick]
    cases hx : rt[x]? with
    | none =>
      rcases List.mem_cons.1 h with e | e
      · subst e
        rw [List.getElem?_eq_getElem hd] at hx; cases hx
      · exact pick_mem rt hd T e
    | some u =>
      simp only [look]
      split
      · exact ⟨u, rfl⟩
      · rename_i hne
        rcases List.mem_cons.1 h with e | e
        · subst e; simp at hne
        · exact pick_mem rt hd T e

theorem over_pick (rt : List V) (T : List Nat) : over (rootsR rt) (pick rt T) = rootsR rt := by
  funext r
  simp only [over]
  cases h : look (pick rt T) r with
  | none => rfl
  | some v => exact (pick_look rt T r v h).symm

theorem layAll_length : ∀ (rs : List (Nat × V)) (rt : List V), (layAll rs rt).length = rt.length
  | [], _ => rfl
  | (r, v) :: l, rt => by simp only [layAll, List.length_set, layAll_length l rt]

theorem layAll_over {rt : List V} : ∀ (rs : List (Nat × V)), (∀ r, (look rs r).isSome → r < rt.length) → rootsR (layAll rs rt) = over (rootsR rt) rs
  | [], _ => rfl
  | (r, v) :: l, h => by
    funext y
    have hr : r < rt.length := h r (by simp [look])
    have hl : ∀ y, (look l y).isSome → y < rt.length := fun y hy => h y (by simp only [look]; split <;> simp_all)
    have ih := congrFun (layAll_over l hl) y
    simp only [rootsR, over, layAll, look] at ih ⊢
    rw [List.getElem?_set, layAll_length]
    by_cases e : r = y
    · subst e; simp [hr]
    · simp only [if_neg e]
      rw [if_neg (by simpa using e)]
      exact ih

theorem look_relay (new : List (Nat × V)) : ∀ (rs : List (Nat × V)) (y : Nat), look (relay rs new) y = match look rs y with | some v => some (match look new y with | some v => v | none => v) | none => none
  | [], _ => rfl
  | (r, v) :: l, y => by
    have ih := look_relay new l y
    simp only [relay, List.map_cons, look] at ih ⊢
    by_cases e : (r == y) = true
    · rw [if_pos e, if_pos e, beq_iff_eq.1 e]; rfl
    · rw [if_neg e, if_neg e]; exact ih

theorem layAll_get : ∀ (rs : List (Nat × V)) (rt : List V) (y : Nat), (layAll rs rt)[y]? = match look rs y with | some v => if y < rt.length then some v else none | none => rt[y]?
  | [], _, _ => rfl
  | (r, v) :: l, rt, y => by
    simp only [layAll, look, List.getElem?_set, layAll_length]
    by_cases e : r = y
    · subst e; simp
    · rw [if_neg e, if_neg (by simpa using e), layAll_get l rt y]

theorem layAll_relay {rs new : List (Nat × V)} (h : ∀ y, (look new y).isSome = (look rs y).isSome) (rt : List V) : layAll (relay rs new) rt = layAll new rt := by
  apply List.ext_getElem?
  intro y
  rw [layAll_get, layAll_get, look_relay]
  have hy := h y
  cases h1 : look rs y with
  | none => rw [h1] at hy; cases h2 : look new y with
    | none => rfl
    | some v => rw [h2] at hy; cases hy
  | some u => rw [h1] at hy; cases h2 : look new y with
    | none => rw [h2] at hy; cases hy
    | some v => rfl

section
variable (gam : Nat → Option (Nat × Nat)) (E : Env)

/-- A frame and a run's slots. -/
structure FrOk (g : Gh) (w : World) (n : Nat) (s : St) (ts : List Value) : Prop where
  sl : Svs gam g s.sl ts
  cl : Claims gam g w (rootsR s.rt)
  wf : WFR (rootsR s.rt)
  gl : Glob g w
  ti : Tight g (rootsR s.rt) (fun _ _ => False)
  gk : GlobOk gam E g
  ln : n ≤ s.rt.length

/-- From frame to frame. -/
structure StT (n : Nat) (g : Gh) (w : World) (s : St) (g' : Gh) (w' : World) (s' : St) : Prop where
  fr : Fr g g' w w'
  ln : s'.rt.length = s.rt.length
  dy : ∀ x, x ∈ s.dy → x ∈ s'.dy
  kb : ∀ r p B, n ≤ r → g.base r p = some B → Under s'.dy r p ∨ g'.base r p = some B

theorem StT.refl (n : Nat) (g : Gh) (w : World) (s : St) : StT n g w s g w s := ⟨Fr.refl g w, rfl, fun _ h => h, fun _ _ _ _ h => .inr h⟩
theorem StT.trans {n : Nat} {g g1 g2 : Gh} {w w1 w2 : World} {s s1 s2 : St} (h : StT n g w s g1 w1 s1) (k : StT n g1 w1 s1 g2 w2 s2) : StT n g w s g2 w2 s2 :=
  ⟨h.fr.trans k.fr, k.ln.trans h.ln, fun x hx => k.dy x (h.dy x hx), fun r p B hr hB => by
    rcases h.kb r p B hr hB with ⟨q, t, hm, e⟩ | h1
    · exact .inl ⟨q, t, k.dy _ hm, e⟩
    · exact k.kb r p B hr h1⟩

theorem Svs.set {g : Gh} : ∀ {v : List V} {c : List Value} (d : Nat) {x : V} {y : Value}, Svs gam g v c → Sv gam g x y → Svs gam g (v.set d x) (c.set d y)
  | [], _, d, x, y, h, _ => by cases h; exact rfl
  | a :: v, _, 0, x, y, ⟨c, cs, e, _, l⟩, hx => by subst e; exact ⟨y, cs, rfl, hx, l⟩
  | a :: v, _, d + 1, x, y, ⟨c, cs, e, k, l⟩, hx => by subst e; exact ⟨c, _, rfl, k, Svs.set d l hx⟩

theorem Svs.map {g g' : Gh} {f : V → V} (hf : ∀ v c, Sv gam g v c → Sv gam g' (f v) c) : ∀ {v : List V} {c : List Value}, Svs gam g v c → Svs gam g' (v.map f) c
  | [], _, h => h
  | _ :: _, _, ⟨c, cs, e, k, l⟩ => ⟨c, cs, e, hf _ _ k, Svs.map hf l⟩

theorem foldl_addTo : ∀ (l dy : List (Nat × Path)) (x : Nat × Path), (x ∈ dy ∨ x ∈ l) → x ∈ l.foldl (fun l x => addTo x l) dy
  | [], dy, x, h => by rcases h with h | h; exact h; cases h
  | y :: l, dy, x, h => by
    simp only [List.foldl_cons]
    refine foldl_addTo l _ x ?_
    rcases h with h | h
    · exact .inl (mem_addTo h)
    · rcases List.mem_cons.1 h with e | e
      · subst e; exact .inl (addTo_mem _ _)
      · exact .inr e

/-- Where a result floats. -/
def atRoot (o : Oper) (d N : Nat) : Nat := if moves o.op then d else N

theorem rget_none {R : Roots} {r : Nat} (h : R r = none) (p : Path) : rget R r p = none := by simp [rget, h]

theorem settle_rich {N : Nat} {v : V} : (v.rich = true ↔ ∃ x, (settle N v).2 = some x) := by
  cases v with
  | tup vs => simp only [V.rich, settle]; split <;> simp_all
  | agg vs => simp only [V.rich, settle]; split <;> simp_all
  | _ => simp [V.rich, settle]
theorem settle_poor {N : Nat} {v : V} (h : v.rich = false) : settle N v = (v, none) := by
  cases v with
  | tup vs => simp only [V.rich] at h; simp [settle, h]
  | agg vs => simp only [V.rich] at h; simp [settle, h]
  | box _ => cases h
  | own _ _ => cases h
  | _ => rfl

/-- A floating result comes to lie at its own root: the names, the claims. -/
theorem lay_ok {g : Gh} {w : World} {R R' : Roots} {d : Nat} {t x : V} {v : V} {c : Value} (hC : Claims gam g w R) (hW : WFR R) (hT : Tight g R (fun y _ => y = d)) (hd : R d = some t)
    (hR : ResAt gam g w d v c) (hx : (settle d v).2 = some x) (hS : Still R d) (hR' : ∀ y, R' y = if y = d then some x else R y) :
    Claims gam g w R' ∧ WFR R' ∧ Tight g R' (fun _ _ => False) := by
  obtain ⟨hfl, hwf⟩ := hR.fl x hx
  refine ⟨root_at gam hC hd hR' hfl, ?_, ?_⟩
  · intro r u hu
    rw [hR'] at hu
    split at hu
    · cases hu; exact hwf
    · exact hW r u hu
  · intro r p B hB
    left
    rcases hT r p B hB with ⟨u, hu, ho⟩ | e
    · by_cases e : r = d
      · subst e; exact (hS p ⟨u, hu, ho⟩).elim
      · refine ⟨u, ?_, ho⟩
        simp only [rget, hR', if_neg e] at hu ⊢
        exact hu
    · subst e
      obtain ⟨x', u, hx', hu, ho⟩ := hR.ex p B hB
      rw [hx] at hx'; cases hx'
      exact ⟨u, by simp only [rget, hR', if_pos]; exact hu, ho⟩

/-- A result that floats elsewhere goes into a root that was made free. -/
theorem res_move {g : Gh} {w : World} {R : Roots} {d N : Nat} {v : V} {c : Value} (hC : Claims gam g w R) (hG : Glob g w) (hT : Tight g R (fun y _ => y = N)) (hfree : FreeAt g R d []) (hN : Still R N) (hne : N ≠ d)
    (hR : ResAt gam g w N v c) (hnd : d ∉ v.roots) :
    Claims gam (g.move N [] d []) w R ∧ Tight (g.move N [] d []) R (fun y _ => y = d) ∧ ResAt gam (g.move N [] d []) w d v c ∧
      (∀ x y, Sv gam g x y → N ∉ x.roots → Sv gam (g.move N [] d []) x y) := by
  have hb : ∀ r p B, r ≠ N → g.base r p = some B → (g.move N [] d []).base r p = some B := by
    intro r p B hr hB
    rw [move_base_other]
    · exact hB
    · rintro ⟨e, t, e2⟩
      simp only [List.nil_append] at e e2
      subst e; subst e2
      have := hfree.base p
      simp only [List.nil_append] at this
      rw [this] at hB; cases hB
    · rintro ⟨e, _⟩; exact hr e
  have hd : ∀ q B, g.base N q = some B → (g.move N [] d []).base d q = some B := fun q B hB => by
    have := move_base_to g N [] d [] q
    simp only [List.nil_append] at this
    rw [this]; exact hB
  obtain ⟨hsv, hse⟩ := settle_keep gam (g := g) (g' := g.move N [] d []) (Grows.refl _) hb hd hR.nr hR.sv
  refine ⟨?_, ?_, ⟨hsv, ?_, ?_, hnd⟩, fun x y h hn => Sv.keepR gam (g := g) (g' := g.move N [] d []) (Grows.refl _) hb x y hn h⟩
  · refine Claims.keep gam (g := g) (g' := g.move N [] d []) (Grows.refl _) (fun r p B hl hB => hb r p B (fun e => hN p (e ▸ hl)) hB) (fun b k q hl hq => ?_) (fun _ _ _ _ _ _ h => h) hC
    refine move_lam_other g hq ?_
    rintro ⟨e, _⟩
    obtain ⟨r, q⟩ := q
    simp only at e; subst e
    exact hN q hl
  · intro r p B hB
    by_cases e : r = d
    · exact .inr e
    · left
      by_cases e2 : r = N
      · subst e2
        have : (g.move r [] d []).base r p = none := by
          simp only [Gh.move, if_neg e, if_pos]; rfl
        rw [this] at hB; cases hB
      · rw [move_base_other] at hB
        · rcases hT r p B hB with h | h
          · exact h
          · exact (e2 h).elim
        · rintro ⟨h, _⟩; exact e h
        · rintro ⟨h, _⟩; exact e2 h
  · intro x hx
    rw [hse] at hx
    obtain ⟨h1, h2⟩ := hR.fl x hx
    exact ⟨h1.moved gam, h2⟩
  · intro t B hB
    have := move_base_to g N [] d [] t
    simp only [List.nil_append] at this
    rw [this] at hB
    rw [hse]
    exact hR.ex t B hB

/-- What is to be shown of an operation, before its result lies in its slot. -/
structure OpPost (R : Roots) (m0 : M) (g0 : Gh) (w0 : World) (N : Nat) (g : Gh) (w : World) (m : M) (v : V) (c : Value) : Prop where
  ms : MS gam g w R { m with vs := [] } []
  mt : MT gam g0 w0 m0 g w m
  rs : ResAt gam g w N v c
  ti : Tight g (over R m.rs) (fun y _ => y = N)
  st : Still (over R m.rs) N

def putL (ts : List Value) (d : Option Nat) (c : Value) : List Value := match d with | some d => ts.set d c | none => ts

theorem MS.bare {g : Gh} {w : World} {R : Roots} {m : M} {cs : List Value} (h : MS gam g w R m cs) : MS gam g w R { m with vs := [] } [] := ⟨rfl, h.cl, h.wf, h.gl⟩

theorem still_none {R : Roots} {N : Nat} (h : R N = none) : Still R N := fun q ⟨u, hu, _⟩ => by simp [rget, h] at hu

theorem eff_ok {n : Nat} {o : Oper} {s : St} {ts : List Value} {rec : Fun} {T : List Nat} {e : Eff} {g0 g : Gh} {w0 w : World} {v : V} {m : M} {c : Value} {N : Nat}
    (hF : FrOk gam E g0 w0 n s ts) (he : effT E rec n o ((opnds o.op).map s.ev) (pick s.rt T) = some e)
    (hop : opM E rec (dOf n o) o.op { n, vs := (opnds o.op).map s.ev, rs := pick s.rt T, lg := [], dy := [] } = some (v, m))
    (hT : ∀ d, o.dst = some d → v.rich = true → d ∈ T)
    (hN : s.rt.length ≤ N) (hl : light o.op = true → m = { n, vs := (opnds o.op).map s.ev, rs := pick s.rt T, lg := [], dy := [] })
    (hP : OpPost gam (rootsR s.rt) { n, vs := (opnds o.op).map s.ev, rs := pick s.rt T, lg := [], dy := [] } g0 w0 (atRoot o (dOf n o) N) g w m v c) :
    ∃ g', FrOk gam E g' w n (e.act s) (putL ts o.dst c) ∧ StT n g0 w0 s g' w (e.act s) := by
  obtain ⟨l, hlg, hnm⟩ := hP.mt.nm
  simp only [List.nil_append] at hlg
  subst hlg
  have h0N : ∀ p, g0.base N p = none := by
    intro p
    cases hB : g0.base N p with
    | none => rfl
    | some B =>
      rcases hF.ti N p B hB with ⟨u, hu, _⟩ | h
      · simp only [rget, rootsR, List.getElem?_eq_none hN] at hu; cases hu
      · exact h.elim
  have hks : ∀ r, (look m.rs r).isSome → r < s.rt.length := by
    intro r hr
    rw [hP.mt.ks] at hr
    simp only at hr
    obtain ⟨u, hu⟩ := Option.isSome_iff_exists.1 hr
    have := pick_look _ _ _ _ hu
    exact (List.getElem?_eq_some_iff.1 this).1
  have hgk : GlobOk gam E g := hF.gk.mono gam E hP.mt.fr.grow
  have hover : rootsR (layAll m.rs s.rt) = over (rootsR s.rt) m.rs := layAll_over m.rs hks
  have hrl : layAll (relay (pick s.rt T) m.rs) s.rt = layAll m.rs s.rt := layAll_relay (fun y => hP.mt.ks y) s.rt
  have hrs : rootsR (layAll (if light o.op then [] else relay (pick s.rt T) m.rs) s.rt) = over (rootsR s.rt) m.rs := by
    split
    · rename_i h
      rw [hl h, over_pick]; rfl
    · rw [hrl]; exact hover
  have hln : ∀ rs, (layAll rs s.rt).length = s.rt.length := fun rs => layAll_length rs s.rt
  have hovN : over (rootsR s.rt) m.rs N = none := by
    simp only [over]
    cases hl2 : look m.rs N with
    | none => show s.rt[N]? = none; exact List.getElem?_eq_none hN
    | some u => have := hks N (by simp [hl2]); omega
  unfold effT at he
  rw [hop] at he
  simp only at he
  split at he
  · cases he
  rename_i hsi
  have hNs : N ∉ stepRoots m.lg := by
    intro hm
    simp only [stepsIn, Bool.not_eq_true', Bool.not_eq_false, List.all_eq_true] at hsi
    obtain ⟨u, hu⟩ := Option.isSome_iff_exists.1 (hsi N hm)
    have := (List.getElem?_eq_some_iff.1 (pick_look _ _ _ _ hu)).1
    omega
  have hslN : ∀ x y, Sv gam g0 x y → Sv gam g (sweepV m.lg x) y ∧ N ∉ (sweepV m.lg x).roots := fun x y hx =>
    ⟨hnm x y hx, roots_sweepV m.lg x hNs (Sv.noRoot gam h0N x y hx)⟩
  have hsl0 : ∀ (g' : Gh) (l : List Step), (∀ x y, Sv gam g x y → N ∉ x.roots → Sv gam g' (sweepV l x) y) → Svs gam g' (sweepAll (m.lg ++ l) s.sl) ts := by
    intro g' l h
    rw [sweepAll_map]
    exact hF.sl.map gam (fun x y hx => by rw [sweepV_append]; exact h _ _ (hslN x y hx).1 (hslN x y hx).2)
  have hr0 : ∀ r p B, g0.base r p = some B → r < s.rt.length := by
    intro r p B hB
    rcases hF.ti r p B hB with ⟨u, hu, _⟩ | h
    · simp only [rget, rootsR] at hu
      cases hr : s.rt[r]? with
      | none => simp [hr] at hu
      | some t => exact (List.getElem?_eq_some_iff.1 hr).1
    · exact h.elim
  have hkb : ∀ (s' : St) (g' : Gh), (∀ x, x ∈ m.dy → x ∈ s'.dy) → (∀ r p B, n ≤ r → r < s.rt.length → g.base r p = some B → g'.base r p = some B) → ∀ r p B, n ≤ r → g0.base r p = some B → Under s'.dy r p ∨ g'.base r p = some B := by
    intro s' g' hd hb r p B hr hB
    rcases hP.mt.kb r p B hr hB with ⟨q, t, hm, e⟩ | h
    · exact .inl ⟨q, t, hd _ hm, e⟩
    · exact .inr (hb r p B hr (hr0 r p B hB) h)
  -- what floats is let go
  have letGo : ∀ (s' : St), rootsR s'.rt = over (rootsR s.rt) m.rs → s'.rt.length = s.rt.length → s'.sl = sweepAll m.lg s.sl → (∀ x, x ∈ s.dy → x ∈ s'.dy) → (∀ x, x ∈ m.dy → x ∈ s'.dy) →
      Tight g (over (rootsR s.rt) m.rs) (fun y _ => y = N) →
      FrOk gam E (g.free N) w n s' ts ∧ StT n g0 w0 s (g.free N) w s' ∧ (∀ x y, Sv gam g x y → N ∉ x.roots → Sv gam (g.free N) x y) := by
    intro s' e1 e2 e3 e4 e5 hti
    have hkp : ∀ x y, Sv gam g x y → N ∉ x.roots → Sv gam (g.free N) x y := fun x y hx hn =>
      Sv.keepR gam (N := N) (g := g) (g' := g.free N) (Grows.refl _) (fun r p B hr hB => by simp only [Gh.free, if_neg hr]; exact hB) x y hn hx
    refine ⟨⟨?_, ?_, ?_, ⟨hP.ms.gl.cells, hP.ms.gl.sep, hP.ms.gl.ro⟩, ?_, hgk, by rw [e2]; exact hF.ln⟩, ⟨hP.mt.fr.trans (Fr.free g w N), e2, e4, ?_⟩, hkp⟩
    · have := hsl0 (g.free N) [] hkp
      rw [List.append_nil] at this
      rw [e3]; exact this
    · rw [e1]
      refine Claims.free gam (d := N) hP.ms.cl (fun y => ?_)
      split
      · rename_i e; rw [e, hovN]; rfl
      · rfl
    · rw [e1]; exact hP.ms.wf
    · rw [e1]
      refine (hti.free (d := N) (R' := over (rootsR s.rt) m.rs) (fun y hy => rfl)).weaken ?_
      rintro r p ⟨h1, h2⟩
      exact h2 h1
    · exact hkb s' (g.free N) e5 (fun r p B _ hr hB => by simp only [Gh.free]; rw [if_neg (by omega)]; exact hB)
  split at he
  · rename_i hdst
    split at he
    · cases he
    · rename_i hmv
      cases he
      have hat : atRoot o (dOf n o) N = N := by simp [atRoot, hmv]
      rw [hat] at hP
      obtain ⟨h1, h2, _⟩ := letGo (Eff.act ⟨none, .any, if light o.op then [] else relay (pick s.rt T) m.rs, m.lg, m.dy⟩ s) hrs (hln _) rfl (fun x hx => foldl_addTo _ _ _ (.inl hx)) (fun x hx => foldl_addTo _ _ _ (.inr hx)) hP.ti
      rw [hdst]
      exact ⟨_, h1, h2⟩
  · rename_i d hdst
    rw [hdst]
    have hdn : dOf n o = d := by simp [dOf, hdst]
    rw [hdn] at hP
    split at he
    · cases he
    · rename_i hnd
      have hdlt : @LT.lt Nat _ d n := by
        have : ¬ @LE.le Nat _ n d := by simpa using hnd
        omega
      split at he
      · rename_i hrich
        have hdl : @LT.lt Nat _ d s.rt.length := Nat.lt_of_lt_of_le hdlt hF.ln
        have hNd : @Ne Nat N d := by omega
        -- the last step: what floats at its own root comes to lie there
        have last : ∀ (g2 : Gh) (v2 x2 : V) (m2 : M) (l2 : List Step) (e : Eff), Claims gam g2 w (over (rootsR s.rt) m2.rs) → WFR (over (rootsR s.rt) m2.rs) → Glob g2 w → Fr g0 g2 w0 w → (∀ x, x ∈ m.dy → x ∈ m2.dy) →
            (∀ r p B, n ≤ r → r < s.rt.length → g.base r p = some B → g2.base r p = some B) → (∀ x y, Sv gam g x y → N ∉ x.roots → Sv gam g2 (sweepV l2 x) y) →
            Tight g2 (over (rootsR s.rt) m2.rs) (fun y _ => y = d) → Still (over (rootsR s.rt) m2.rs) d → (∃ t, over (rootsR s.rt) m2.rs d = some t) → ResAt gam g2 w d v2 c → (settle d v2).2 = some x2 →
            e.d = some d → e.v = (settle d v2).1 → e.lg = m.lg ++ l2 → e.dy = m2.dy → (∀ y, rootsR (layAll e.rs s.rt) y = if y = d then some x2 else over (rootsR s.rt) m2.rs y) →
            FrOk gam E g2 w n (e.act s) (ts.set d c) ∧ StT n g0 w0 s g2 w (e.act s) := by
          intro g2 v2 x2 m2 l2 e hS2c hS2w hS2g hfr hdy hb hnm2 hti hst ⟨t, ht⟩ hres hx e1 e2 e3 e4 e5
          obtain ⟨c1, c2, c3⟩ := lay_ok gam hS2c hS2w hti ht hres hx hst e5
          refine ⟨⟨?_, c1, c2, hS2g, c3, hF.gk.mono gam E hfr.grow, by show n ≤ (layAll e.rs s.rt).length; rw [hln]; exact hF.ln⟩, ⟨hfr, hln _, fun x hx => foldl_addTo _ _ _ (.inl hx), ?_⟩⟩
          · simp only [Eff.act, e1, e2, e3]
            exact (hsl0 g2 l2 hnm2).set gam d hres.sv
          · exact hkb _ g2 (fun x hx => foldl_addTo _ _ _ (.inr (by rw [e4]; exact hdy x hx))) hb
        by_cases hmv : moves o.op = true
        · have hlt : light o.op = false := by
            revert hmv; cases o.op <;> simp [moves, light]
          have hat : atRoot o d N = d := by simp [atRoot, hmv]
          rw [hat] at hP
          simp only [hmv, if_true, hlt, Bool.false_eq_true, if_false] at he
          cases hse : (settle d v).2 with
          | none => obtain ⟨x, hx⟩ := (settle_rich (N := d)).1 hrich; rw [hse] at hx; cases hx
          | some x2 =>
            have hse2 : settle d v = ((settle d v).1, some x2) := by rw [← hse]
            rw [hse2] at he
            simp only [Option.some.injEq] at he
            have hdm : ∃ t, look m.rs d = some t := by
              obtain ⟨t, ht⟩ := pick_mem s.rt hdl T (hT d hdst hrich)
              have := hP.mt.ks d
              simp only [ht, Option.isSome_some] at this
              exact Option.isSome_iff_exists.1 this
            obtain ⟨t, ht⟩ := hdm
            obtain ⟨a, b⟩ := last g v x2 m [] e hP.ms.cl hP.ms.wf hP.ms.gl hP.mt.fr (fun _ h => h) (fun _ _ _ _ _ h => h) (fun x y h _ => h) hP.ti hP.st ⟨t, over_look ht⟩ hP.rs hse
              (by rw [← he]) (by rw [← he]) (by rw [← he, List.append_nil]) (by rw [← he]) (by
                intro y
                rw [← he]
                have h1 := congrFun (layAll_over m.rs hks) y
                simp only [rootsR, layAll, List.getElem?_set, layAll_length, hrl] at h1 ⊢
                by_cases e : d = y
                · subst e; simp [hdl]
                · rw [if_neg e, if_neg (fun (h : y = d) => e h.symm)]; exact h1)
            exact ⟨g, a, b⟩
        · have hmv : moves o.op = false := by simpa using hmv
          have hat : atRoot o d N = N := by simp [atRoot, hmv]
          rw [hat] at hP
          simp only [hmv, Bool.false_eq_true, if_false] at he
          obtain ⟨t, ht⟩ := pick_mem s.rt hdl T (hT d hdst hrich)
          have hks2 := hP.mt.ks d
          simp only [ht, Option.isSome_some] at hks2
          obtain ⟨t2, ht2⟩ := Option.isSome_iff_exists.1 hks2
          obtain ⟨a1, a2, a3, a4, a5⟩ := anew_ok gam (m := { m with vs := [] }) hP.ms ht2 (by show d < m.n; rw [hP.mt.n]; exact hdlt)
          have hR1 : ResAt gam (g.free d) w N (v.sweep (.drop d [])) c := by
            obtain ⟨s1, s2⟩ := settle_sweep hNd v
            refine ⟨?_, ?_, ?_, roots_drop v hP.rs.nr⟩
            · rw [s1]
              exact Sv.sweep gam (turns_free g d) (Grows.refl _) _ _ hP.rs.sv
            · intro x hx
              rw [s2] at hx
              obtain ⟨f1, f2⟩ := hP.rs.fl x hx
              exact ⟨Float.keep gam (g := g) (g' := g.free d) (Grows.refl _) (fun q B hB => by simp only [Gh.free, if_neg hNd]; exact hB) (fun _ _ _ h => h) (fun _ _ _ _ _ h => h) f1, f2⟩
            · intro q B hB
              simp only [Gh.free, if_neg hNd] at hB
              rw [s2]; exact hP.rs.ex q B hB
          have hovN1 : over (rootsR s.rt) (anew d m).rs N = none := by
            show over (rootsR s.rt) (lay .any m.rs d) N = none
            rw [over_lay ht2, if_neg hNd]; exact hovN
          obtain ⟨b1, b2, b3, b4⟩ := res_move gam a1.cl a1.gl ((a5 _ hP.ti).weaken (fun _ _ h => h.1)) a3 (still_none hovN1) hNd hR1 (roots_drop_self v)
          cases hse : (settle d (v.sweep (.drop d []))).2 with
          | none =>
            have : (v.sweep (.drop d [])).rich = true := by rw [rich_sweep]; exact hrich
            obtain ⟨x, hx⟩ := (settle_rich (N := d)).1 this; rw [hse] at hx; cases hx
          | some x2 =>
            have hse2 : settle d (v.sweep (.drop d [])) = ((settle d (v.sweep (.drop d []))).1, some x2) := by rw [← hse]
            rw [hse2] at he
            simp only [Option.some.injEq] at he
            obtain ⟨a, b⟩ := last ((g.free d).move N [] d []) (v.sweep (.drop d [])) x2 (anew d m) [.drop d []] e b1 a1.wf (a1.gl.move N [] d []) ((hP.mt.fr.trans a2.fr).trans (Fr.move _ w N [] d [])) (fun _ h => h)
              (by
                intro r p B hr hrl hB
                rw [move_base_other]
                · have : @Ne Nat r d := by omega
                  simp only [Gh.free]; rw [if_neg this]; exact hB
                · rintro ⟨h, _⟩; have : @Eq Nat r d := h; omega
                · rintro ⟨h, _⟩; have : @Eq Nat r N := h; omega)
              (by
                intro x y hx hn
                have h1 := Sv.sweep gam (turns_free g d) (Grows.refl _) x y hx
                exact b4 _ _ h1 (roots_drop x hn)) b2 a4 ⟨.any, by show over (rootsR s.rt) (lay .any m.rs d) d = _; rw [over_lay ht2, if_pos rfl]⟩ b3 hse
              (by rw [← he]) (by rw [← he]) (by rw [← he]; rfl) (by rw [← he]) (by
                intro y
                rw [← he]
                have h1 := congrFun (layAll_over (lay .any m.rs d) (fun r hr => hks r (by rw [look_lay ht2] at hr; split at hr; rename_i e; rw [e, ht2]; rfl; exact hr))) y
                have hrl2 : layAll (relay (pick s.rt T) (anew d m).rs) s.rt = layAll (lay .any m.rs d) s.rt := by
                  refine layAll_relay (fun z => ?_) s.rt
                  show (look (lay .any m.rs d) z).isSome = _
                  rw [look_lay ht2]
                  split
                  · rename_i e; rw [e, ht]; rfl
                  · exact hP.mt.ks z
                simp only [rootsR, layAll, List.getElem?_set, layAll_length] at h1 ⊢
                by_cases e : d = y
                · subst e; simp [hdl]
                · rw [if_neg e, if_neg (fun (h : y = d) => e h.symm)]
                  split
                  · rename_i hlt
                    simp only [layAll]
                    show s.rt[y]? = over (rootsR s.rt) (lay .any m.rs d) y
                    rw [over_lay ht2, if_neg (fun h => e h.symm), hl hlt, over_pick]; rfl
                  · rw [hrl2]; exact h1)
            exact ⟨_, a, b⟩
      · rename_i hpoor
        have hpoor : v.rich = false := by simpa using hpoor
        cases he
        -- nothing floats
        have hnone : ∀ t, g.base (atRoot o d N) t = none := by
          intro t
          cases hB : g.base (atRoot o d N) t with
          | none => rfl
          | some B =>
            obtain ⟨x, u, hx, _⟩ := hP.rs.ex t B hB
            rw [settle_poor hpoor] at hx; cases hx
        have hti : Tight g (over (rootsR s.rt) m.rs) (fun _ _ => False) := by
          intro r p B hB
          rcases hP.ti r p B hB with h | h
          · exact .inl h
          · subst h; rw [hnone] at hB; cases hB
        have hgN : ∀ p, g.base N p = none := by
          intro p
          cases hB : g.base N p with
          | none => rfl
          | some B =>
            rcases hti N p B hB with ⟨u, hu, _⟩ | h
            · simp only [rget, hovN] at hu; cases hu
            · exact h.elim
        obtain ⟨h1, h2, h3⟩ := letGo (Eff.act ⟨none, .any, if light o.op then [] else relay (pick s.rt T) m.rs, m.lg, m.dy⟩ s) hrs (hln _) rfl (fun x hx => foldl_addTo _ _ _ (.inl hx)) (fun x hx => foldl_addTo _ _ _ (.inr hx)) (hti.weaken (fun _ _ h => h.elim))
        have hsv := hP.rs.sv
        rw [settle_poor hpoor] at hsv
        exact ⟨_, ⟨Svs.set gam d h1.sl (h3 _ _ hsv (Sv.noRoot gam hgN _ _ hsv)), h1.cl, h1.wf, h1.gl, h1.ti, h1.gk, h1.ln⟩, h2.fr, h2.ln, h2.dy, h2.kb⟩
end
end Go.Bv
/- What operations come to: results that float. -/
namespace Go.Bv
open Go

/-- An operation comes to a value. -/
def OpGoes (P : Program) (o : Oper) (a : Act) (w : World) (Φ : Value → World → Prop) : Prop :=
  ∀ (next : Act → World → Prop) (Q : Exit → Act → World → Prop), (∀ c w', Φ c w' → next (a.put o.dst c) w') → o.wp P a w next Q

theorem OpGoes.value {P : Program} {o : Oper} {a : Act} {w w' : World} {Φ : Value → World → Prop} {c : Value} (h : (execOp a.eval o).run P w = .ok (.value c) w') (hΦ : Φ c w') : OpGoes P o a w Φ := by
  intro next Q hn
  unfold Oper.wp
  rw [h]
  exact hn c w' hΦ
theorem OpGoes.skip {P : Program} {o : Oper} {a : Act} {w w' : World} {Φ : Value → World → Prop} (h : (execOp a.eval o).run P w = .ok .skip w') (hΦ : Φ undef w') : OpGoes P o a w Φ := by
  intro next Q hn
  unfold Oper.wp
  rw [h]
  exact hn undef w' hΦ
theorem OpGoes.mono {P : Program} {o : Oper} {a : Act} {w : World} {Φ Ψ : Value → World → Prop} (h : OpGoes P o a w Φ) (hi : ∀ c w', Φ c w' → Ψ c w') : OpGoes P o a w Ψ :=
  fun next Q hn => h next Q fun c w' hc => hn c w' (hi c w' hc)

section
variable (gam : Nat → Option (Nat × Nat)) (E : Env)

theorem Sv.not_owner {g : Gh} {v : V} {c : Value} (h : Sv gam g v c) : v.owner = false := by
  cases v <;> first | rfl | exact False.elim h
theorem Svs.not_owner {g : Gh} : ∀ {v : List V} {c : List Value}, Svs gam g v c → v.any (·.owner) = false
  | [], _, _ => rfl
  | x :: xs, _, ⟨c, cs, e, k, l⟩ => by
    simp only [List.any_cons, Sv.not_owner gam k, Svs.not_owner l, Bool.or_self]
theorem Sv.poor {g : Gh} {v : V} {c : Value} (h : Sv gam g v c) : v.rich = false := by
  cases v with
  | tup vs => obtain ⟨cv, _, k⟩ := h; exact Svs.not_owner gam k
  | agg vs => obtain ⟨cv, _, k⟩ := h; exact Svs.not_owner gam k
  | box _ => exact False.elim h
  | own _ _ => exact False.elim h
  | _ => rfl

mutual
theorem Pv.noRoots {rho : Nat → Nat → Option Value} {N : Nat} : ∀ (v : V) (c : Value), Pv gam rho v c → N ∉ v.roots
  | .al _ _ _ _, _, h => h.elim
  | .als _ _ _ _ _ _, _, h => h.elim
  | .tup vs, _, ⟨_, _, k⟩ => Pvs.noRoots vs _ k
  | .agg vs, _, ⟨_, _, k⟩ => Pvs.noRoots vs _ k
  | .fn f pre caps, _, ⟨p, q, e, k, l⟩ => by
    simp only [V.roots, List.mem_append, not_or]
    exact ⟨Pvs.noRoots pre _ k, Pvs.noRoots caps _ l⟩
  | .any, _, _ | .int _ _, _, _ | .bool _, _, _ | .str _, _, _ | .sc _, _, _ | .ifc _ _, _, _ | .ro _, _, _ | .rop _ _, _, _ | .gp _ _, _, _ | .box _, _, _ | .own _ _, _, _ => by simp [V.roots]
theorem Pvs.noRoots {rho : Nat → Nat → Option Value} {N : Nat} : ∀ (v : List V) (c : List Value), Pvs gam rho v c → N ∉ rootsOf v
  | [], _, _ => by simp [rootsOf]
  | x :: xs, _, ⟨c, cs, e, k, l⟩ => by
    simp only [rootsOf, List.mem_append, not_or]
    exact ⟨Pv.noRoots x _ k, Pvs.noRoots xs _ l⟩
end

theorem res_poor {g : Gh} {w : World} {N : Nat} {v : V} {c : Value} (h : Sv gam g v c) (hN : ∀ p, g.base N p = none) : ResAt gam g w N v c := by
  have hp := settle_poor (N := N) (h.poor gam)
  refine ⟨by rw [hp]; exact h, ?_, ?_, Sv.noRoot gam hN v c h⟩
  · intro x hx; rw [hp] at hx; cases hx
  · intro t B hB; rw [hN] at hB; cases hB

theorem post_poor {R : Roots} {m0 m : M} {cs : List Value} {g0 g : Gh} {w0 w : World} {N : Nat} {v : V} {c : Value} (hS : MS gam g w R m cs) (hM : MT gam g0 w0 m0 g w m) (hv : Sv gam g v c)
    (hT : Tight g (over R m.rs) (fun _ _ => False)) (hN : over R m.rs N = none) : OpPost gam R m0 g0 w0 N g w m v c := by
  refine ⟨hS.bare gam, hM, res_poor gam hv (fun p => ?_), hT.weaken (fun _ _ h => h.elim), still_none hN⟩
  cases hB : g.base N p with
  | none => rfl
  | some B =>
    rcases hT N p B hB with ⟨u, hu, _⟩ | h
    · simp only [rget, hN] at hu; cases hu
    · exact h.elim

theorem PartOk.name {g : Gh} {w : World} {d : Nat} {p : Path} {x : V} {c : Value} (h : PartOk gam g w d p x c) : Sv gam g (nameAt d p x) c := by
  cases x with
  | box cs => obtain ⟨B, hB, e⟩ := h.ck; exact ⟨B, hB, by rw [e]; simp⟩
  | own es cap =>
    obtain ⟨B, hB, e⟩ := h.ck
    obtain ⟨B', hB', hf, _⟩ := h.fl [] _ (get_nil _) rfl
    rw [List.append_nil, hB] at hB'; cases hB'
    exact ⟨B, B.C, hB, by rw [e]; simp, hf.1, fun _ => ⟨rfl, rfl⟩⟩
  | _ => exact Sv.of_pv gam _ _ _ h.ck.1

theorem PartOk.noRoot {g : Gh} {w : World} {d : Nat} {p : Path} {x : V} {c : Value} (h : PartOk gam g w d p x c) (N : Nat) : N ∉ x.roots := by
  cases x with
  | box cs => simp [V.roots]
  | own es cap => simp [V.roots]
  | _ => exact Pv.noRoots gam _ _ h.ck.1

theorem PartOk.res {g : Gh} {w : World} {d : Nat} {x : V} {c : Value} (h : PartOk gam g w d [] x c) (ho : x.owner = true) : ResAt gam g w d x c := by
  have hn := h.name gam
  refine ⟨?_, ?_, ?_, h.noRoot gam d⟩
  · cases x with
    | box cs => exact hn
    | own es cap => exact hn
    | _ => cases ho
  · intro y hy
    cases x with
    | box cs => cases hy; exact ⟨h.fl, h.wf⟩
    | own es cap => cases hy; exact ⟨h.fl, h.wf⟩
    | _ => cases ho
  · intro t B hB
    obtain ⟨u, hu, huo⟩ := h.ex t B (by simpa using hB)
    refine ⟨x, u, ?_, hu, huo⟩
    cases x with
    | box cs => rfl
    | own es cap => rfl
    | _ => cases ho

/-- A part of a composite result: what owns floats, the rest names or is plain. -/
structure CompOk (g : Gh) (w : World) (d : Nat) (k : Nat) (x : V) (c : Value) : Prop where
  ow : x.owner = true → PartOk gam g w d [(0, k)] x c
  no : x.owner = false → Sv gam g x c ∧ ∀ t, g.base d ((0, k) :: t) = none
  nr : d ∉ x.roots

theorem comp_of_part {g : Gh} {w : World} {d k : Nat} {x : V} {c : Value} (h : PartOk gam g w d [(0, k)] x c) : CompOk gam g w d k x c := by
  refine ⟨fun _ => h, fun ho => ⟨?_, fun t => ?_⟩, h.noRoot gam d⟩
  · have := h.name gam
    cases x <;> first | exact this | cases ho
  · cases hB : g.base d ((0, k) :: t) with
    | none => rfl
    | some B =>
      obtain ⟨u, hu, huo⟩ := h.ex t B (by simpa using hB)
      rcases h.ol with h1 | h1
      · rw [h1] at ho; cases ho
      · cases t with
        | nil => rw [get_nil] at hu; cases hu; rw [ho] at huo; cases huo
        | cons s t => rw [get_cons, h1 s] at hu; cases hu

theorem richOnly_get (cs : List V) (k : Nat) : (richOnly cs)[k]? = (cs[k]?).map fun v => if v.owner then v else .any := by
  induction cs generalizing k with
  | nil => rfl
  | cons x cs ih => cases k with
    | zero => rfl
    | succ k => exact ih k

theorem comps_res {g : Gh} {w : World} {d : Nat} {cs : List V} {cv : Array Value} {mk : List V → V} {mc : Array Value → Value} (hmk : (mk = V.agg ∧ mc = Value.agg) ∨ (mk = V.tup ∧ mc = Value.tuple)) (hl : cs.length = cv.size)
    (hk : ∀ (k : Nat) x c, cs[k]? = some x → cv[k]? = some c → CompOk gam g w d k x c) (hb0 : g.base d [] = none) (hex : ∀ s t B, g.base d (s :: t) = some B → ∃ k, s = (0, k) ∧ k < cs.length) :
    ResAt gam g w d (mk cs) (mc cv) := by
  have hget : ∀ {k : Nat} {x : V}, cs[k]? = some x → ∃ c, cv[k]? = some c ∧ CompOk gam g w d k x c := by
    intro k x hx
    have hlt : k < cv.size := by rw [← hl]; exact (List.getElem?_eq_some_iff.1 hx).1
    exact ⟨cv[k], Array.getElem?_eq_getElem hlt, hk k x _ hx (Array.getElem?_eq_getElem hlt)⟩
  have hnr : d ∉ rootsOf cs := by
    have : ∀ (l : List V), (∀ x, x ∈ l → d ∉ x.roots) → d ∉ rootsOf l := by
      intro l
      induction l with
      | nil => intro _; simp [rootsOf]
      | cons x l ih =>
        intro h
        simp only [rootsOf, List.mem_append, not_or]
        exact ⟨h x (by simp), ih fun y hy => h y (by simp [hy])⟩
    refine this cs fun x hx => ?_
    obtain ⟨k, hk'⟩ := List.getElem?_of_mem hx
    obtain ⟨c, _, h⟩ := hget hk'
    exact h.nr
  have hnames : Svs gam g (names d [] 0 0 cs) cv.toList := by
    refine Svs.intro gam (by rw [names_length]; simpa using hl) fun k x y hx hy => ?_
    rw [names_get] at hx
    simp only [Option.map_eq_some_iff] at hx
    obtain ⟨z, hz, rfl⟩ := hx
    rw [Array.getElem?_toList] at hy
    have h := hk k z y hz hy
    simp only [Nat.zero_add, List.nil_append]
    cases hzo : z.owner with
    | true => exact (h.ow hzo).name gam
    | false =>
      have := (h.no hzo).1
      cases z <;> first | exact this | cases hzo
  have hfl : Float gam g w d [] (mk (richOnly cs)) ∧ WFV (mk (richOnly cs)) ∧ (mk (richOnly cs)).owner = false ∧ ∀ s, (mk (richOnly cs)).kid s = if s.1 == 0 then (richOnly cs)[s.2]? else none := by
    have hkid : ∀ s, (mk (richOnly cs)).kid s = if s.1 == 0 then (richOnly cs)[s.2]? else none := by
      intro s; obtain ⟨i, j⟩ := s
      rcases hmk with ⟨rfl, _⟩ | ⟨rfl, _⟩ <;> rfl
    have hno : (mk (richOnly cs)).owner = false := by rcases hmk with ⟨rfl, _⟩ | ⟨rfl, _⟩ <;> rfl
    have hkd : ∀ s x, (mk (richOnly cs)).kid s = some x → (∃ k c, s = (0, k) ∧ PartOk gam g w d [(0, k)] x c) ∨ x = .any := by
      intro s x hx
      obtain ⟨i, j⟩ := s
      rw [hkid] at hx
      split at hx
      · rename_i hi
        simp only [beq_iff_eq] at hi
        subst hi
        rw [richOnly_get] at hx
        simp only [Option.map_eq_some_iff] at hx
        obtain ⟨z, hz, hzx⟩ := hx
        split at hzx
        · rename_i hzo
          subst hzx
          obtain ⟨c, _, h⟩ := hget hz
          exact .inl ⟨j, c, rfl, h.ow hzo⟩
        · exact .inr hzx.symm
      · cases hx
    refine ⟨?_, ?_, hno, hkid⟩
    · intro q u hu ho
      cases q with
      | nil => rw [get_nil] at hu; cases hu; rw [hno] at ho; cases ho
      | cons s q =>
        rw [get_cons] at hu
        cases hks : (mk (richOnly cs)).kid s with
        | none => simp [hks] at hu
        | some x =>
          simp only [hks] at hu
          rcases hkd s x hks with ⟨k, c, rfl, h⟩ | rfl
          · have := h.fl q u hu ho
            exact this
          · cases q with
            | nil => rw [get_nil] at hu; cases hu; cases ho
            | cons s q => rw [get_cons, any_leaf s] at hu; cases hu
    · intro q u s x hu hks
      cases q with
      | nil =>
        rw [get_nil] at hu; cases hu
        rcases hkd s x hks with ⟨k, c, rfl, h⟩ | rfl
        · exact h.ol
        · exact .inr any_leaf
      | cons s0 q =>
        rw [get_cons] at hu
        cases hk0 : (mk (richOnly cs)).kid s0 with
        | none => simp [hk0] at hu
        | some y =>
          simp only [hk0] at hu
          rcases hkd s0 y hk0 with ⟨k, c, rfl, h⟩ | rfl
          · exact h.wf q u s x hu hks
          · exact WFV.leaf any_leaf q u s x hu hks
  by_cases ho : cs.any (·.owner) = true
  · have hse : settle d (mk cs) = (mk (names d [] 0 0 cs), some (mk (richOnly cs))) := by
      rcases hmk with ⟨rfl, _⟩ | ⟨rfl, _⟩ <;> simp [settle, ho]
    refine ⟨?_, ?_, ?_, ?_⟩
    · rw [hse]
      rcases hmk with ⟨rfl, rfl⟩ | ⟨rfl, rfl⟩ <;> exact ⟨cv, rfl, hnames⟩
    · intro x hx
      rw [hse] at hx; cases hx
      exact ⟨hfl.1, hfl.2.1⟩
    · intro t B hB
      cases t with
      | nil => rw [hb0] at hB; cases hB
      | cons s t =>
        obtain ⟨k, rfl, hlt⟩ := hex s t B hB
        have hx := List.getElem?_eq_getElem hlt
        obtain ⟨c, _, h⟩ := hget hx
        cases hxo : cs[k].owner with
        | false => rw [(h.no hxo).2 t] at hB; cases hB
        | true =>
          obtain ⟨u, hu, huo⟩ := (h.ow hxo).ex t B (by simpa using hB)
          refine ⟨mk (richOnly cs), u, by rw [hse], ?_, huo⟩
          rw [get_cons, hfl.2.2.2]
          simp only [beq_self_eq_true, if_true, richOnly_get, hx, Option.map_some, hxo]
          exact hu
    · rcases hmk with ⟨rfl, _⟩ | ⟨rfl, _⟩ <;> exact hnr
  · have hno : ∀ x, x ∈ cs → x.owner = false := by
      intro x hx
      cases hxo : x.owner with
      | false => rfl
      | true => exact (ho (List.any_eq_true.2 ⟨x, hx, hxo⟩)).elim
    have hn2 : ∀ (l : List V) (j : Nat), (∀ x, x ∈ l → x.owner = false) → names d [] 0 j l = l := by
      intro l
      induction l with
      | nil => intro _ _; rfl
      | cons x l ih =>
        intro j h
        simp only [names, ih (j + 1) fun y hy => h y (by simp [hy])]
        congr 1
        have := h x (by simp)
        cases x <;> first | rfl | cases this
    rw [hn2 cs 0 hno] at hnames
    refine res_poor gam ?_ ?_
    · rcases hmk with ⟨rfl, rfl⟩ | ⟨rfl, rfl⟩ <;> exact ⟨cv, rfl, hnames⟩
    · intro t
      cases hB : g.base d t with
      | none => rfl
      | some B =>
        cases t with
        | nil => rw [hb0] at hB; cases hB
        | cons s t =>
          obtain ⟨k, rfl, hlt⟩ := hex s t B hB
          have hx := List.getElem?_eq_getElem hlt
          obtain ⟨c, _, h⟩ := hget hx
          rw [(h.no (hno _ (List.getElem_mem hlt))).2 t] at hB; cases hB

/-- What is known when an operation begins. -/
structure OpPre (R : Roots) (m0 : M) (cs : List Value) (g : Gh) (w : World) (N : Nat) : Prop where
  ms : MS gam g w R m0 cs
  ti : Tight g (over R m0.rs) (fun _ _ => False)
  gk : GlobOk gam E g
  nn : ∀ r, N ≤ r → over R m0.rs r = none
  lg : m0.lg = []

theorem OpPre.noBase {R : Roots} {m0 : M} {cs : List Value} {g : Gh} {w : World} {N : Nat} (h : OpPre gam E R m0 cs g w N) {r : Nat} (hr : N ≤ r) (p : Path) : g.base r p = none := by
  cases hB : g.base r p with
  | none => rfl
  | some B =>
    rcases h.ti r p B hB with ⟨u, hu, _⟩ | h'
    · simp only [rget, h.nn r hr] at hu; cases hu
    · exact h'.elim

theorem OpPre.poor {R : Roots} {m0 : M} {cs : List Value} {g : Gh} {w : World} {N : Nat} (h : OpPre gam E R m0 cs g w N) {v : V} {c : Value} (hv : Sv gam g v c) : OpPost gam R m0 g w N g w m0 v c :=
  post_poor gam h.ms (MT.refl gam g w m0) hv h.ti (h.nn N (Nat.le_refl N))

theorem ofValue_cells (v : Value) : (ofValue v).cells = v.cells.toList.map ofScalar := by
  cases v <;> simp [ofValue, V.cells, Value.cells, ofScalar]

theorem ofScalar_plain (v : Value) : plainV (ofScalar v) = true := by cases v <;> rfl

theorem alloc_adds (w : World) (cv : Array Value) (T : TypeId) : Adds w (w.alloc (.cells cv T)) cv T (0, 0) := ⟨rfl, rfl, rfl, rfl⟩

theorem alloc_ok {R : Roots} {m0 m : M} {cs : List Value} {g : Gh} {w : World} {N : Nat} {t : TypeId} {v : V} {o : Oper} {a : Act} (hp : OpPre gam E R m0 cs g w N) (ho : o.op = .alloc t)
    (h : just m0 (match zeroV E t with | some v => some (V.box v.cells) | none => none) = some (v, m)) :
    OpGoes E.P o a w fun c w' => ∃ g', OpPost gam R m0 g w N g' w' m v c := by
  simp only [zeroV] at h
  cases hi : E.P.info? t with
  | none => simp [hi, just] at h
  | some i =>
    cases hz : i.zero with
    | none => simp [hi, hz, just] at h
    | some z =>
      simp only [hi, hz, just, Option.some.injEq, Prod.mk.injEq] at h
      obtain ⟨rfl, rfl⟩ := h
      let B : Base := ⟨w.heap.size, 0, (ofValue z).cells.length, 1⟩
      have hle : (ofValue z).cells.length = z.cells.size := by rw [ofValue_cells]; simp
      obtain ⟨a1, a2, a3, a4⟩ := made_ok gam (w' := w.alloc (.cells z.cells t)) (d := N) (v := .box (ofValue z).cells) (B := B) hp.ms (alloc_adds w z.cells t) hp.ti (still_none (hp.nn N (Nat.le_refl N))) (hp.noBase gam E (Nat.le_refl N) [])
        rfl (by show 0 + 1 * (ofValue z).cells.length ≤ _; rw [hle]; omega) (fun k _ _ h => by omega) ⟨rfl, rfl⟩ rfl
        (by
          rintro ⟨i, j⟩ x hx
          simp only [V.kid] at hx
          split at hx
          · rename_i hi0
            simp only [beq_iff_eq] at hi0
            subst hi0
            rw [ofValue_cells, List.getElem?_map] at hx
            simp only [Option.map_eq_some_iff, Array.getElem?_toList] at hx
            obtain ⟨y, hy, rfl⟩ := hx
            refine ⟨y, by show z.cells[0 + 0 * _ + j]? = _; simpa using hy, part_plain gam (ofScalar_plain y) (ofScalar_pv gam _ y) fun q => hp.noBase gam E (Nat.le_refl N) _⟩
          · cases hx)
        (fun s t' B' hB => by rw [hp.noBase gam E (Nat.le_refl N)] at hB; cases hB)
        (c := ptr w.heap.size 0) (fun g' hg => ⟨B, hg, rfl⟩)
      refine OpGoes.value (c := ptr w.heap.size 0) (w' := w.alloc (.cells z.cells t)) ?_ ⟨_, a1.bare gam, a2, a3.res gam rfl, ?_, still_none (hp.nn N (Nat.le_refl N))⟩
      · simp only [execOp, ho, Instr.alloc, zeroValue, Sem.run_bind, run_typeInfo w hi, Result.andThen_ok, hz, Sem.run_pure, newVar, newRow, run_newObj]
        rfl
      · exact a4.weaken fun y q h => by rcases h with h | h; exact h.elim; exact h.1

/-- One that is laid into a new block of its own. -/
theorem box_ok {R : Roots} {m0 m : M} {cs : List Value} {g : Gh} {w : World} {N d : Nat} {t : TypeId} {v : V} {o : Oper} {a : Act} {x' : Operand} (hp : OpPre gam E R m0 cs g w N) (ho : o.op = .box t x')
    (hdl : ∃ u, look m0.rs d = some u) (hdn : d < m0.n) (hcs : cs = [a.eval x'])
    (h : (match (anew d m0).vs with
      | [v] => if !v.told then none else match goAlongs d 0 (anew d m0).lg.length (anew d m0) 0 v.cells with | some (cs, m) => some (V.box cs, m) | none => none
      | _ => none) = some (v, m)) :
    OpGoes E.P o a w fun c w' => ∃ g', OpPost gam R m0 g w d g' w' m v c := by
  obtain ⟨u, hu⟩ := hdl
  obtain ⟨a1, a2, a3, a4, a5⟩ := anew_ok gam hp.ms hu hdn
  split at h
  · rename_i v0 hvs
    split at h
    · cases h
    · rename_i htold
      simp only [Bool.not_eq_true, Bool.not_eq_false'] at htold
      cases hg : goAlongs d 0 (anew d m0).lg.length (anew d m0) 0 v0.cells with
      | none => simp [hg] at h
      | some y =>
        obtain ⟨xs, m1⟩ := y
        simp only [hg, Option.some.injEq, Prod.mk.injEq] at h
        obtain ⟨rfl, rfl⟩ := h
        have hvs1 := a1.vs
        rw [hvs, hcs] at hvs1
        obtain ⟨c0, cs0, e0, hv0, hn0⟩ := hvs1
        simp only [List.cons.injEq] at e0
        obtain ⟨rfl, rfl⟩ := e0
        have hcells := told_cells gam hv0 htold
        obtain ⟨g1, hS1, hM1, hxl, hP1, hK1, hd1, hn1, hT1, _⟩ := goAlongs_ok gam (k := (anew d m0).lg.length) v0.cells (a.eval x').cells.toList 0 (g.free d) (anew d m0) m1 xs a1 hg (Svs.length gam hcells).symm
          (by intro q x y hx hy
              obtain ⟨y', h1, h2⟩ := Svs.get gam hcells hx
              rw [hy] at h1; cases h1
              rw [List.drop_length]; exact h2)
          (Nat.le_refl _) a4 hdn (fun a _ _ q => by have := a3.base ([(0, a)] ++ q); simpa using this) ((a5 _ hp.ti).weaken fun _ _ h => h.1.elim)
        have hsz : xs.length = (a.eval x').cells.size := by rw [hxl]; have := Svs.length gam hcells; simpa using this.symm
        let B : Base := ⟨w.heap.size, 0, xs.length, 1⟩
        obtain ⟨b1, b2, b3, b4⟩ := made_ok gam (w' := w.alloc (.cells (a.eval x').cells t)) (d := d) (v := .box xs) (B := B) hS1 (alloc_adds w _ t) hT1 hd1
          (hK1.none [] (fun q _ t e => by simp at e) (by have := a3.base []; simpa using this))
          rfl (by show 0 + 1 * xs.length ≤ _; rw [hsz]; omega) (fun k _ _ h => by omega) ⟨rfl, rfl⟩ rfl
          (by
            rintro ⟨i, j⟩ x hx
            simp only [V.kid] at hx
            split at hx
            · rename_i hi0
              simp only [beq_iff_eq] at hi0
              subst hi0
              have hj : j < (a.eval x').cells.size := by rw [← hsz]; exact (List.getElem?_eq_some_iff.1 hx).1
              have := hP1 j x (a.eval x').cells[j] hx (by rw [Array.getElem?_toList]; exact Array.getElem?_eq_getElem hj)
              rw [Nat.zero_add] at this
              exact ⟨_, by show (a.eval x').cells[0 + 0 * _ + j]? = _; simp only [Nat.zero_mul, Nat.zero_add]; exact Array.getElem?_eq_getElem hj, this⟩
            · cases hx)
          (fun s t' B' hB => by
            cases hk : (V.box xs).kid s with
            | some x => exact ⟨x, rfl⟩
            | none =>
              have := hK1.none (s :: t') (fun q hq b e => by
                simp only [Nat.zero_add, List.cons_append, List.nil_append, List.cons.injEq] at e
                obtain ⟨rfl, _⟩ := e
                simp only [V.kid] at hk
                simp only [beq_self_eq_true, if_true] at hk
                rw [List.getElem?_eq_none_iff] at hk
                omega) (by have := a3.base (s :: t'); simpa using this)
              rw [this] at hB; cases hB)
          (c := ptr w.heap.size 0) (fun g' hg => ⟨B, hg, rfl⟩)
        refine OpGoes.value (c := ptr w.heap.size 0) (w' := w.alloc (.cells (a.eval x').cells t)) ?_ ⟨_, b1.bare gam, a2.trans gam (hM1.trans gam b2), b3.res gam rfl, ?_, hd1⟩
        · simp only [execOp, ho, Instr.box, newVar, newRow, Sem.run_bind, run_newObj, Result.andThen_ok, Sem.run_pure]
          rfl
        · exact b4.weaken fun y q h => by rcases h with h | h; exact h; exact h.1
  · cases h
end
end Go.Bv
/- What operations come to: composites, slices, interfaces. -/
namespace Go.Bv
open Go

section
variable (gam : Nat → Option (Nat × Nat)) (E : Env)

theorem places_ok {P : Program} : ∀ (fs : List Field), (fs.all fun f => (P.info? f.type).isSome) = true →
    fs.mapM (fun f => (P.info? f.type).map fun i => (f.offset, i.size)) = some (fs.map fun f => (f.offset, P.cellsOf f.type))
  | [], _ => rfl
  | f :: fs, h => by
    simp only [List.all_cons, Bool.and_eq_true] at h
    obtain ⟨i, hi⟩ := Option.isSome_iff_exists.1 h.1
    simp [List.mapM_cons, hi, places_ok fs h.2, Program.cellsOf]

theorem offs_length {g : Nat → Option (Nat × Nat)} : ∀ {ps : List (Nat × Operand)} {offs : List (Nat × Nat)}, offsOf g ps = some offs → offs.length = ps.length ∧ ∀ (a i : Nat) x, ps[a]? = some (i, x) → g i = offs[a]?
  | [], offs, h => by simp only [offsOf, Option.some.injEq] at h; subst h; exact ⟨rfl, fun a i x hx => by simp at hx⟩
  | (i, x) :: ps, offs, h => by
    simp only [offsOf] at h
    split at h
    · rename_i y ys h1 h2
      simp only [Option.some.injEq] at h; subst h
      obtain ⟨e1, e2⟩ := offs_length h2
      refine ⟨by simp [e1], fun a j z hz => ?_⟩
      cases a with
      | zero => simp only [List.getElem?_cons_zero, Option.some.injEq, Prod.mk.injEq] at hz ⊢; rw [← hz.1, h1]
      | succ a => simp only [List.getElem?_cons_succ] at hz ⊢; exact e2 a j z hz
    · cases h

/-- The places of a composite's parts, as the model has them. -/
theorem built_ok {P : Program} {t : TypeId} {i : TypeInfo} {z : Value} {g : Nat → Option (Nat × Nat)} (hi : P.info? t = some i) (hz : i.zero = some z) {E : Env} (hE : E.P = P) (hg : partsOf E t = some g) (parts : List (Nat × Value)) :
    P.built t parts = Instr.fill g z.cells parts := by
  subst hE
  unfold partsOf at hg
  unfold Program.built
  rw [hi]
  split at hg
  · rename_i fs hu
    split at hg
    · rename_i hall
      cases hg
      simp only [hu, hz]
      rw [places_ok fs.toList (by rw [← hall]; simp)]
      simp only
      congr 1
      funext k
      simp only [List.getElem?_toArray, List.getElem?_map, Array.getElem?_toList]
      cases fs[k]? <;> rfl
    · cases hg
  · rename_i n e hu
    split at hg
    · rename_i hall
      cases hg
      obtain ⟨ie, hie⟩ := Option.isSome_iff_exists.1 hall
      simp only [hu, hz, hie]
      congr 1
      funext k
      simp [Program.cellsOf, hie]
    · cases hg
  · cases hg

theorem build_ok {R : Roots} {m0 m : M} {cs : List Value} {g : Gh} {w : World} {N d : Nat} {t : TypeId} {parts : Array (Nat × Operand)} {v : V} {o : Oper} {a : Act} (hp : OpPre gam E R m0 cs g w N) (ho : o.op = .build t parts)
    (hdl : ∃ u, look m0.rs d = some u) (hdn : d < m0.n) (hcs : cs = parts.toList.map (fun x => a.eval x.2))
    (h : (match zeroV E t, partsOf E t with
      | some z, some g => match offsOf g parts.toList with
        | some offs => if !apartR offs then none else match buildParts d offs 0 z.cells (anew d m0) with | some (cs, m) => some (V.agg cs, m) | none => none
        | none => none
      | _, _ => none) = some (v, m)) :
    OpGoes E.P o a w fun c w' => ∃ g', OpPost gam R m0 g w d g' w' m v c := by
  obtain ⟨u, hu⟩ := hdl
  obtain ⟨a1, a2, a3, a4, a5⟩ := anew_ok gam hp.ms hu hdn
  split at h
  · rename_i zv gp hzv hgp
    cases hof : offsOf gp parts.toList with
    | none => simp [hof] at h
    | some offs =>
      simp only [hof] at h
      split at h
      · cases h
      · rename_i hap
        simp only [Bool.not_eq_true, Bool.not_eq_false'] at hap
        cases hb : buildParts d offs 0 zv.cells (anew d m0) with
        | none => simp [hb] at h
        | some y =>
          obtain ⟨vcs, m1⟩ := y
          simp only [hb, Option.some.injEq, Prod.mk.injEq] at h
          obtain ⟨rfl, rfl⟩ := h
          simp only [zeroV] at hzv
          cases hi : E.P.info? t with
          | none => simp [hi] at hzv
          | some i =>
            cases hz : i.zero with
            | none => simp [hi, hz] at hzv
            | some z =>
              simp only [hi, hz, Option.some.injEq] at hzv
              subst hzv
              obtain ⟨hol, hog⟩ := offs_length hof
              have hfree : ∀ p, (g.free d).base d p = none := fun p => by have := a3.base p; simpa using this
              obtain ⟨g1, cells1, hfill, hS1, hM1, hl1, hs1, hP1, hd1, hn1, hT1, hN1⟩ := buildParts_ok gam (place := gp) offs 0 (ofValue z).cells z.cells (parts.map fun (i, x) => (i, a.eval x)).toList (g.free d) (anew d m0) m1 vcs a1 hb
                (by simp [hol])
                (by
                  intro b i' v' off size h1 h2
                  simp only [Array.toList_map, List.getElem?_map, Option.map_eq_some_iff] at h1
                  obtain ⟨⟨i2, x⟩, hx, e⟩ := h1
                  simp only [Prod.mk.injEq] at e
                  obtain ⟨rfl, rfl⟩ := e
                  refine ⟨by rw [hog b i2 x hx, h2], ?_⟩
                  rw [hcs, Nat.zero_add, List.getElem?_map, hx]; rfl)
                (by rw [ofValue_cells]; simp)
                (by
                  intro k x c hx hc
                  rw [ofValue_cells, List.getElem?_map] at hx
                  simp only [Option.map_eq_some_iff, Array.getElem?_toList] at hx
                  obtain ⟨y, hy, rfl⟩ := hx
                  rw [hc] at hy; cases hy
                  exact part_plain gam (ofScalar_plain _) (ofScalar_pv gam _ _) fun q => hfree _)
                hap (fun off size _ b _ _ q => hfree _) a4 hdn ((a5 _ hp.ti).weaken fun _ _ h => h.1.elim)
              have hb0 : g1.base d [] = none := hN1 [] (fun k _ t e => by simp at e) (hfree [])
              have hlz : (ofValue z).cells.length = vcs.length := by rw [ofValue_cells, hl1, hs1]; simp
              refine OpGoes.value (c := .agg cells1) (w' := w) ?_ ⟨g1, hS1.bare gam, a2.trans gam hM1, ?_, hT1, hd1⟩
              · have hbt : E.P.built t (parts.map fun (i, x) => (i, a.eval x)).toList = some cells1 := by rw [built_ok hi hz rfl hgp]; exact hfill
                simp only [execOp, ho, Sem.run_bind, run_build w t _ cells1 hbt, Result.andThen_ok, Sem.run_pure]
              · refine comps_res gam (mk := V.agg) (mc := Value.agg) (.inl ⟨rfl, rfl⟩) hl1 (fun k x c hx hc => comp_of_part gam (hP1 k x c hx hc)) hb0 ?_
                rintro ⟨i1, j1⟩ t' B' hB'
                by_cases hin : i1 = 0 ∧ j1 < vcs.length
                · exact ⟨j1, by rw [hin.1], hin.2⟩
                · rw [hN1 _ (fun k hk t e => by
                    simp only [List.cons_append, List.nil_append, List.cons.injEq, Prod.mk.injEq] at e
                    rw [hlz] at hk
                    exact hin ⟨e.1.1, by omega⟩) (hfree _)] at hB'
                  cases hB'
  · cases h

/-- Values that are to own nothing, one after the other. -/
theorem freezes_ok {R : Roots} {d k : Nat} {w : World} {cs : List Value} : ∀ (vs : List V) (cv : List Value) (g : Gh) (m m' : M) (xs : List V), MS gam g w R m cs → onAll frz1 k m vs = some (xs, m') →
    vs.length = cv.length → (∀ (q : Nat) v c, vs[q]? = some v → cv[q]? = some c → Sv gam g (sweepV (m.lg.drop k) v) c) → k ≤ m.lg.length → Still (over R m.rs) d →
    ∃ g', MS gam g' w R m' cs ∧ MT gam g w m g' w m' ∧ xs.length = vs.length ∧ (∀ (q : Nat) x c, xs[q]? = some x → cv[q]? = some c → Pv gam g'.rho x c ∧ plainV x = true) ∧
      Keeps g w g' w d (fun _ => True) ∧ Still (over R m'.rs) d ∧ m'.n = m.n ∧ (∀ X, Tight g (over R m.rs) X → Tight g' (over R m'.rs) X) ∧ k ≤ m'.lg.length := by
  intro vs
  induction vs with
  | nil =>
    intro cv g m m' xs hS h hl hv hk hd
    simp only [onAll, Option.some.injEq, Prod.mk.injEq] at h
    obtain ⟨rfl, rfl⟩ := h
    exact ⟨g, hS, MT.refl gam g w m, rfl, fun q x c hx => by simp at hx, Keeps.refl g w d _, hd, rfl, fun _ h => h, hk⟩
  | cons v vs ih =>
    intro cv g m m' xs hS h hl hv hk hd
    cases cv with
    | nil => simp at hl
    | cons c cv =>
      simp only [onAll] at h
      cases hg : frz1 m (sweepV (m.lg.drop k) v) with
      | none => simp [hg] at h
      | some y =>
        obtain ⟨x, m1⟩ := y
        simp only [hg] at h
        cases hr : onAll frz1 k m1 vs with
        | none => simp [hr] at h
        | some y =>
          obtain ⟨xs1, m2⟩ := y
          simp only [hr, Option.some.injEq, Prod.mk.injEq] at h
          obtain ⟨rfl, rfl⟩ := h
          obtain ⟨g1, hS1, hM1, hP1, hpl1, hK1, hd1, hn1, hT1⟩ := keeps_frz1 gam (g' := g) hS hg (hv 0 v c rfl rfl) hd
          obtain ⟨l, hlg, hnm⟩ := hM1.nm
          have hk1 : k ≤ m1.lg.length := by rw [hlg, List.length_append]; omega
          have hv1 : ∀ (q : Nat) v c, vs[q]? = some v → cv[q]? = some c → Sv gam g1 (sweepV (m1.lg.drop k) v) c := by
            intro q v c h1 h2
            have := hv (q + 1) v c (by simpa using h1) (by simpa using h2)
            rw [hlg, List.drop_append_of_le_length hk, sweepV_append]
            exact hnm _ _ this
          obtain ⟨g2, hS2, hM2, hlen, hP2, hK2, hd2, hn2, hT2, hk2⟩ := ih cv g1 m1 m2 xs1 hS1 hr (by simpa using hl) hv1 hk1 hd1
          refine ⟨g2, hS2, hM1.trans gam hM2, by simp [hlen], ?_, (hK1.trans hK2).weaken (fun _ _ => ⟨trivial, trivial⟩), hd2, hn2.trans hn1, fun X hX => hT2 X (hT1 X hX), hk2⟩
          intro q x' c' hx hc
          cases q with
          | zero =>
            simp only [List.getElem?_cons_zero, Option.some.injEq] at hx hc
            subst hx; subst hc
            exact ⟨Pv.mono gam hM2.fr.grow _ _ hP1, hpl1⟩
          | succ q => exact hP2 q x' c' (by simpa using hx) (by simpa using hc)

theorem Pvs.intro {rho : Nat → Nat → Option Value} : ∀ {v : List V} {c : List Value}, v.length = c.length → (∀ (k : Nat) (x : V) (y : Value), v[k]? = some x → c[k]? = some y → Pv gam rho x y) → Pvs gam rho v c
  | [], [], _, _ => rfl
  | [], _ :: _, h, _ => by simp at h
  | _ :: _, [], h, _ => by simp at h
  | x :: v, y :: c, h, hk => ⟨y, c, rfl, hk 0 x y rfl rfl, Pvs.intro (by simpa using h) fun k a b ha hb => hk (k + 1) a b (by simpa using ha) (by simpa using hb)⟩

theorem freezeV_ok {R : Roots} {m m' : M} {cs : List Value} {g : Gh} {w : World} {v x : V} {c : Value} {d : Nat} (hS : MS gam g w R m cs) (h : freezeV frz1 m v = some (x, m')) (hv : Sv gam g v c) (hd : Still (over R m.rs) d) :
    ∃ g', MS gam g' w R m' cs ∧ MT gam g w m g' w m' ∧ Pv gam g'.rho x c ∧ x.owner = false ∧ Keeps g w g' w d (fun _ => True) ∧ Still (over R m'.rs) d ∧ m'.n = m.n ∧ (∀ X, Tight g (over R m.rs) X → Tight g' (over R m'.rs) X) := by
  unfold freezeV at h
  split at h
  · rename_i vs
    cases ha : onAll frz1 m.lg.length m vs with
    | none => simp [ha] at h
    | some y =>
      obtain ⟨xs, m1⟩ := y
      simp only [ha, Option.some.injEq, Prod.mk.injEq] at h
      obtain ⟨rfl, rfl⟩ := h
      obtain ⟨cv, rfl, hvs⟩ := hv
      have hl := Svs.length gam hvs
      obtain ⟨g1, a1, a2, a3, a4, a5, a6, a7, a8, _⟩ := freezes_ok gam vs cv.toList g m m1 xs hS ha hl.symm
        (by intro q v c h1 h2
            obtain ⟨y', h3, h4⟩ := Svs.get gam hvs h1
            rw [h2] at h3; cases h3
            rw [List.drop_length]; exact h4) (Nat.le_refl _) hd
      exact ⟨g1, a1, a2, ⟨cv, rfl, Pvs.intro gam (by rw [a3, hl]) fun k x y hx hy => (a4 k x y hx hy).1⟩, rfl, a5, a6, a7, a8⟩
  · obtain ⟨g1, a1, a2, a3, a4, a5, a6, a7, a8⟩ := keeps_frz1 gam (g' := g) hS h hv hd
    exact ⟨g1, a1, a2, a3, plain_owner a4, a5, a6, a7, a8⟩

theorem ifc_ok {R : Roots} {m0 m : M} {cs : List Value} {g : Gh} {w : World} {N : Nat} {t : TypeId} {x' : Operand} {v v0 : V} {o : Oper} {a : Act} (hp : OpPre gam E R m0 cs g w N) (ho : o.op = .makeInterface t x')
    (hcs : cs = [a.eval x']) (hvs : m0.vs = [v0])
    (h : (match E.P.underlying t with
      | some (.interface _) | none => none
      | some _ => match freezeV frz1 m0 v0 with | some (v, m) => some (V.ifc t v, m) | none => none) = some (v, m)) :
    OpGoes E.P o a w fun c w' => ∃ g', OpPost gam R m0 g w N g' w' m v c := by
  split at h
  · cases h
  · cases h
  · rename_i u hni hu
    cases hf : freezeV frz1 m0 v0 with
    | none => simp [hf] at h
    | some y =>
      obtain ⟨x, m1⟩ := y
      simp only [hf, Option.some.injEq, Prod.mk.injEq] at h
      obtain ⟨rfl, rfl⟩ := h
      have hv := hp.ms.vs
      rw [hvs, hcs] at hv
      obtain ⟨c0, cs0, e0, hv0, _⟩ := hv
      simp only [List.cons.injEq] at e0
      obtain ⟨rfl, rfl⟩ := e0
      obtain ⟨g1, a1, a2, a3, _, _, a6, _, a8⟩ := freezeV_ok gam hp.ms hf hv0 (still_none (hp.nn N (Nat.le_refl N)))
      refine OpGoes.value (c := .iface t (a.eval x')) (w' := w) ?_ ⟨g1, post_poor gam a1 a2 ?_ (a8 _ hp.ti) ?_⟩
      · simp only [execOp, ho, Instr.makeInterface, Sem.run_bind, run_underlying hu, Result.andThen_ok]
        cases u <;> first | rfl | exact absurd rfl (hni _)
      · exact ⟨_, rfl, a3⟩
      · have := hp.nn N (Nat.le_refl N)
        simp only [over] at this ⊢
        have hk := a2.ks N
        cases hl : look m1.rs N with
        | some t => rw [hl] at hk; cases hl0 : look m0.rs N with
          | none => rw [hl0] at hk; cases hk
          | some t0 => rw [hl0] at this; cases this
        | none =>
          cases hl0 : look m0.rs N with
          | none => rw [hl0] at this; exact this
          | some t0 => rw [hl0] at this; cases this
end
end Go.Bv
/- What operations come to: slices that are made. -/
namespace Go.Bv
open Go

section
variable (gam : Nat → Option (Nat × Nat)) (E : Env)

/-- What a slice's elements are of cells, so far. -/
structure Rows (rho : Nat → Nat → Option Value) (z n : Nat) (es : List (List V)) (cells : Array Value) : Prop where
  len : es.length = n
  size : cells.size = n * z
  wide : ∀ e, e ∈ es → e.length = z
  get : ∀ (i j : Nat) e x, es[i]? = some e → e[j]? = some x → ∃ c, cells[i * z + j]? = some c ∧ Pv gam rho x c ∧ plainV x = true

theorem sliceParts_ok {R : Roots} {d : Nat} {w : World} {cs : List Value} {z n : Nat} : ∀ (is : List Nat) (q : Nat) (es es' : List (List V)) (cells : Array Value) (ps : List (Nat × Value)) (g : Gh) (m m' : M),
    MS gam g w R m cs → sliceParts is q es m = some (es', m') → ps.length = is.length →
    (∀ (b i : Nat) v, ps[b]? = some (i, v) → is[b]? = some i ∧ cs[q + b]? = some v) → Rows gam g.rho z n es cells → Still (over R m.rs) d →
    ∃ g' cells', Instr.fill (fun i => some (i * z, z)) cells ps = some cells' ∧ MS gam g' w R m' cs ∧ MT gam g w m g' w m' ∧ Rows gam g'.rho z n es' cells' ∧ Keeps g w g' w d (fun _ => True) ∧ Still (over R m'.rs) d ∧
      (∀ X, Tight g (over R m.rs) X → Tight g' (over R m'.rs) X) := by
  intro is
  induction is with
  | nil =>
    intro q es es' cells ps g m m' hS h hl hp hr hd
    simp only [sliceParts, Option.some.injEq, Prod.mk.injEq] at h
    obtain ⟨rfl, rfl⟩ := h
    cases ps with
    | nil => exact ⟨g, cells, rfl, hS, MT.refl gam g w m, hr, Keeps.refl g w d _, hd, fun _ h => h⟩
    | cons p ps => simp at hl
  | cons i is ih =>
    intro q es es' cells ps g m m' hS h hl hp hr hd
    cases ps with
    | nil => simp at hl
    | cons p ps =>
      obtain ⟨i0, c⟩ := p
      obtain ⟨hi0, hcq⟩ := hp 0 i0 c rfl
      simp only [List.getElem?_cons_zero, Option.some.injEq] at hi0
      subst hi0
      simp only [sliceParts] at h
      cases hv : m.vs[q]? with
      | none => simp [hv] at h
      | some v =>
        cases he : es[i]? with
        | none => simp [hv, he] at h
        | some e =>
          simp only [hv, he] at h
          split at h
          · cases h
          · rename_i htold
            simp only [Bool.not_eq_true, Bool.not_eq_false'] at htold
            cases hf : onAll frz1 m.lg.length m v.cells with
            | none => simp [hf] at h
            | some y =>
              obtain ⟨xs, m1⟩ := y
              simp only [hf] at h
              split at h
              · rename_i hxl
                simp only [beq_iff_eq] at hxl
                obtain ⟨c', hc1, hc2⟩ := Svs.get gam hS.vs hv
                simp only [Nat.add_zero] at hcq
                rw [hcq] at hc1; cases hc1
                have hcells := told_cells gam hc2 htold
                have hcl : c.cells.toList.length = v.cells.length := Svs.length gam hcells
                obtain ⟨g1, b1, b2, b3, b4, b5, b6, b7, b8, _⟩ := freezes_ok gam v.cells c.cells.toList g m m1 xs hS hf hcl.symm
                  (by intro q' v' c' h1 h2
                      obtain ⟨y', h3, h4⟩ := Svs.get gam hcells h1
                      rw [h2] at h3; cases h3
                      rw [List.drop_length]; exact h4) (Nat.le_refl _) hd
                have hez : e.length = z := hr.wide e (List.mem_of_getElem? he)
                have hcz : c.cells.size = z := by rw [← hez, ← hxl, b3, ← hcl]; simp
                have hin : i < n := by rw [← hr.len]; exact (List.getElem?_eq_some_iff.1 he).1
                have hle : i * z + z ≤ cells.size := by rw [hr.size, ← Nat.succ_mul]; exact Nat.mul_le_mul_right _ hin
                let cells1 : Array Value := c.cells.zipIdx.foldl (fun cs (c, j) => cs.setIfInBounds (i * z + j) c) cells
                have hc1l : cells1.toList = fillL cells.toList c.cells.toList (i * z) := by
                  have := fill_fold (i * z) c.cells.toList 0 cells (by simp; omega)
                  simp only [Nat.add_zero] at this
                  rw [← this]
                  simp only [cells1, ← Array.foldl_toList, Array.toList_zipIdx]
                have hc1s : cells1.size = cells.size := by
                  rw [← Array.length_toList, hc1l, fillL_length (by simp; omega)]; simp
                have hr1 : Rows gam g1.rho z n (es.set i xs) cells1 := by
                  refine ⟨by simp [hr.len], by rw [hc1s, hr.size], ?_, ?_⟩
                  · intro e' he'
                    rcases List.mem_or_eq_of_mem_set he' with h1 | h1
                    · exact hr.wide e' h1
                    · rw [h1, hxl, hez]
                  · intro k j e' x hk hx
                    have hget : ∀ kk, cells1[kk]? = if i * z ≤ kk ∧ kk < i * z + z then c.cells[kk - i * z]? else cells[kk]? := by
                      intro kk
                      rw [← Array.getElem?_toList, hc1l, fillL_get (by simp; omega)]
                      simp only [Array.length_toList, hcz, Array.getElem?_toList]
                    rw [List.getElem?_set] at hk
                    split at hk
                    · rename_i hik
                      subst hik
                      split at hk
                      · cases hk
                        have hjx : j < z := by rw [← hez, ← hxl]; exact (List.getElem?_eq_some_iff.1 hx).1
                        rw [hget, if_pos ⟨by omega, by omega⟩, Nat.add_sub_cancel_left]
                        have hj2 : j < c.cells.size := by omega
                        obtain ⟨p1, p2⟩ := b4 j x c.cells[j] hx (by rw [Array.getElem?_toList]; exact Array.getElem?_eq_getElem hj2)
                        exact ⟨_, Array.getElem?_eq_getElem hj2, p1, p2⟩
                      · cases hk
                    · rename_i hik
                      have hjz : j < z := by rw [← hr.wide e' (List.mem_of_getElem? hk)]; exact (List.getElem?_eq_some_iff.1 hx).1
                      rw [hget, if_neg]
                      · obtain ⟨cc, p1, p2, p3⟩ := hr.get k j e' x hk hx
                        exact ⟨cc, p1, Pv.mono gam b2.fr.grow _ _ p2, p3⟩
                      · rintro ⟨h1, h2⟩
                        rcases Nat.lt_or_gt_of_ne hik with hlt | hgt
                        · have : (i + 1) * z ≤ k * z := Nat.mul_le_mul_right _ hlt
                          rw [Nat.succ_mul] at this; omega
                        · have : (k + 1) * z ≤ i * z := Nat.mul_le_mul_right _ hgt
                          rw [Nat.succ_mul] at this; omega
                obtain ⟨g2, cells2, d1, d2, d3, d4, d5, d6, d7⟩ := ih (q + 1) (es.set i xs) es' cells1 ps g1 m1 m' b1 h (by simpa using hl)
                  (by intro b i' v' h1
                      have := hp (b + 1) i' v' (by simpa using h1)
                      rw [show q + (b + 1) = q + 1 + b by omega] at this
                      exact ⟨by simpa using this.1, this.2⟩) hr1 b6
                refine ⟨g2, cells2, ?_, d2, b2.trans gam d3, d4, (b5.trans d5).weaken (fun _ _ => ⟨trivial, trivial⟩), d6, fun X hX => d7 X (b8 X hX)⟩
                simp only [Instr.fill]
                rw [if_neg]
                · exact d1
                · simp only [ne_eq, Bool.or_eq_true, decide_eq_true_eq, not_or, Decidable.not_not]
                  omega
              · cases h

theorem over_ks {R : Roots} {g g' : Gh} {w w' : World} {m0 m : M} {N : Nat} (h : MT gam g w m0 g' w' m) (hn : over R m0.rs N = none) : over R m.rs N = none := by
  simp only [over] at hn ⊢
  have hk := h.ks N
  cases hl : look m.rs N with
  | some t => rw [hl] at hk; cases hl0 : look m0.rs N with
    | none => rw [hl0] at hk; cases hk
    | some t0 => rw [hl0] at hn; cases hn
  | none =>
    cases hl0 : look m0.rs N with
    | none => rw [hl0] at hn; exact hn
    | some t0 => rw [hl0] at hn; cases hn

/-- A row in new memory, of which all cells are plain. -/
theorem row_ok {R : Roots} {m : M} {cs : List Value} {g : Gh} {w w' : World} {N : Nat} {es : List (List V)} {cap : Option Nat} {cv : Array Value} {T : TypeId} {f : Nat × Nat} {z n C : Nat}
    (hS : MS gam g w R m cs) (ha : Adds w w' cv T f) (hT : Tight g (over R m.rs) (fun _ _ => False)) (hN : over R m.rs N = none)
    (hz : ∀ e, e ∈ es → e.length = z) (hn : es.length = n) (hC : n ≤ C) (hcap : ∀ c, cap = some c → C = c) (hsz : C * z ≤ cv.size) (hfz : ∀ k, k < C * z → ¬ (f.1 ≤ k ∧ k < f.2))
    (hg : ∀ (i j : Nat) e x, es[i]? = some e → e[j]? = some x → ∃ c, cv[i * z + j]? = some c ∧ Pv gam g.rho x c ∧ plainV x = true) :
    OpPost gam R m g w N (g.new N ⟨w.heap.size, 0, z, C⟩) w' m (.own es cap) (slc w.heap.size 0 n C) := by
  have hnb : ∀ p, g.base N p = none := by
    intro p
    cases hB : g.base N p with
    | none => rfl
    | some B =>
      rcases hT N p B hB with ⟨u, hu, _⟩ | h
      · simp only [rget, hN] at hu; cases hu
      · exact h.elim
  obtain ⟨a1, a2, a3, a4⟩ := made_ok gam (d := N) (v := .own es cap) (B := ⟨w.heap.size, 0, z, C⟩) hS ha hT (still_none hN) (hnb []) rfl (by simpa using hsz) (fun k _ h => hfz k (by simpa using h))
    ⟨by rw [hn]; exact hC, fun c hc => hcap c hc, hz⟩ rfl
    (by
      rintro ⟨i, j⟩ x hx
      simp only [V.kid] at hx
      cases he : es[i]? with
      | none => simp [he] at hx
      | some e =>
        simp only [he] at hx
        obtain ⟨c, p1, p2, p3⟩ := hg i j e x he hx
        exact ⟨c, by simpa using p1, part_plain gam p3 p2 fun q => hnb _⟩)
    (fun s t B' hB => by rw [hnb] at hB; cases hB)
    (c := slc w.heap.size 0 n C) (fun g' hg' => ⟨_, hg', by rw [hn]⟩)
  exact ⟨a1.bare gam, a2, a3.res gam rfl, a4.weaken fun y q h => by rcases h with h | h; exact h.elim; exact h.1, still_none hN⟩

theorem OpPost.after {R : Roots} {m0 m1 m : M} {g0 g1 g : Gh} {w0 w1 w : World} {N : Nat} {v : V} {c : Value} (h : OpPost gam R m1 g1 w1 N g w m v c) (hM : MT gam g0 w0 m0 g1 w1 m1) : OpPost gam R m0 g0 w0 N g w m v c :=
  ⟨h.ms, hM.trans gam h.mt, h.rs, h.ti, h.st⟩

theorem rep_get {z : List V} {n i : Nat} {e : List V} (h : (List.replicate n z)[i]? = some e) : e = z ∧ i < n := by
  rw [List.getElem?_replicate] at h
  split at h
  · cases h; exact ⟨rfl, by assumption⟩
  · cases h

theorem buildSlice_ok {R : Roots} {m0 m : M} {cs : List Value} {g : Gh} {w : World} {N n : Nat} {t : TypeId} {parts : Array (Nat × Operand)} {v : V} {o : Oper} {a : Act} (hp : OpPre gam E R m0 cs g w N) (ho : o.op = .buildSlice t n parts)
    (hcs : cs = parts.toList.map (fun x => a.eval x.2))
    (h : (match E.P.underlying t with
      | some (.slice e) => match zeroV E e with
        | some z => if n * E.P.cellsOf e ≤ 65536 && z.cells.length == E.P.cellsOf e && Nat.blt 0 (E.P.cellsOf e) then
            (match sliceParts (parts.toList.map (·.1)) 0 (List.replicate n z.cells) m0 with
            | some (es, m) => some (V.own es (some n), m)
            | none => none) else none
        | none => none
      | _ => none) = some (v, m)) :
    OpGoes E.P o a w fun c w' => ∃ g', OpPost gam R m0 g w N g' w' m v c := by
  split at h
  · rename_i e hu
    simp only [zeroV] at h
    cases hi : E.P.info? e with
    | none => simp [hi] at h
    | some i =>
      cases hz : i.zero with
      | none => simp [hi, hz] at h
      | some z =>
        simp only [hi, hz] at h
        split at h
        · rename_i hc
          simp only [Bool.and_eq_true, decide_eq_true_eq, beq_iff_eq, Nat.blt_eq] at hc
          obtain ⟨⟨hsm, hzl⟩, hpos⟩ := hc
          have hci : E.P.cellsOf e = i.size := by simp [Program.cellsOf, hi]
          rw [hci] at hsm hzl hpos
          have hzs : z.cells.size = i.size := by rw [← hzl, ofValue_cells]; simp
          cases hsp : sliceParts (parts.toList.map (·.1)) 0 (List.replicate n (ofValue z).cells) m0 with
          | none => simp [hsp] at h
          | some y =>
            obtain ⟨es, m1⟩ := y
            simp only [hsp, Option.some.injEq, Prod.mk.injEq] at h
            obtain ⟨rfl, rfl⟩ := h
            let cells0 : Array Value := (Array.range (n * i.size)).map (z.cells[· % z.cells.size]!)
            have hr0 : Rows gam g.rho i.size n (List.replicate n (ofValue z).cells) cells0 := by
              refine ⟨by simp, by simp [cells0], ?_, ?_⟩
              · intro e' he'
                obtain ⟨k, hk⟩ := List.getElem?_of_mem he'
                rw [(rep_get hk).1, hzl]
              · intro k j e' x hk hx
                obtain ⟨rfl, hkn⟩ := rep_get hk
                rw [ofValue_cells, List.getElem?_map] at hx
                simp only [Option.map_eq_some_iff, Array.getElem?_toList] at hx
                obtain ⟨y, hy, rfl⟩ := hx
                have hj : j < z.cells.size := (Array.getElem?_eq_some_iff.1 hy).1
                refine ⟨y, ?_, ofScalar_pv gam _ _, ofScalar_plain _⟩
                have hlt : k * i.size + j < n * i.size := by
                  have : (k + 1) * i.size ≤ n * i.size := Nat.mul_le_mul_right _ hkn
                  rw [Nat.succ_mul] at this; omega
                have hmod : (k * i.size + j) % z.cells.size = j := by
                  rw [hzs, Nat.mul_comm, Nat.mul_add_mod]; exact Nat.mod_eq_of_lt (by omega)
                simp only [cells0, Array.getElem?_map, Array.getElem?_range, hlt, if_true, Option.map_some, hmod]
                rw [getElem!_pos z.cells j hj]
                rw [Array.getElem?_eq_getElem hj] at hy
                exact hy
            obtain ⟨g1, cells1, d1, d2, d3, d4, d5, d6, d7⟩ := sliceParts_ok gam (d := N) _ 0 _ es cells0 (parts.map fun (i, x) => (i, a.eval x)).toList g m0 m1 hp.ms hsp (by simp)
              (by intro b i' v' h1
                  simp only [Array.toList_map, List.getElem?_map, Option.map_eq_some_iff] at h1
                  obtain ⟨⟨i2, x⟩, hx, e1⟩ := h1
                  simp only [Prod.mk.injEq] at e1
                  obtain ⟨rfl, rfl⟩ := e1
                  exact ⟨by rw [List.getElem?_map, hx]; rfl, by rw [hcs, Nat.zero_add, List.getElem?_map, hx]; rfl⟩) hr0 (still_none (hp.nn N (Nat.le_refl N)))
            have hrow := row_ok gam (w' := w.alloc (.cells cells1 e)) (N := N) (cap := some n) (C := n) d2 (alloc_adds w cells1 e) (d7 _ hp.ti) (over_ks gam d3 (hp.nn N (Nat.le_refl N))) d4.wide d4.len (Nat.le_refl _) (fun c hc => by cases hc; rfl)
              (by rw [d4.size]; exact Nat.le_refl _) (fun k _ h => by omega) d4.get
            refine OpGoes.value (c := slc w.heap.size 0 n n) (w' := w.alloc (.cells cells1 e)) ?_ ⟨_, hrow.after gam d3⟩
            by_cases hn0 : n = 0
            · subst hn0
              have hps : parts.toList.map (·.1) = [] := by
                cases hpp : parts.toList.map (·.1) with
                | nil => rfl
                | cons x xs =>
                  rw [hpp] at hsp
                  simp only [sliceParts, List.replicate_zero, List.getElem?_nil] at hsp
                  split at hsp
                  · rename_i h1 h2; cases h2
                  · cases hsp
              have hpe : parts = #[] := by
                have : parts.toList = [] := by simpa using hps
                exact Array.toList_eq_nil_iff.1 this
              subst hpe
              have hc0 : cells1 = #[] := by
                have : cells1.size = 0 := by rw [d4.size]; simp
                exact Array.size_eq_zero_iff.1 this
              subst hc0
              simp [execOp, ho, Instr.buildSlice, run_underlying hu, sizeOf, typeInfo, hi, Instr.fill, newRow, slc]
              have : Array.map (fun _ => (default : Value)) (Array.range 0) = #[] := by apply Array.ext <;> simp
              rw [this]
            · have := run_buildSlice w t e n (parts.map fun (i, x) => (i, a.eval x)) cells1 i z hu hi hz (by omega) (by
                intro h0
                rcases Nat.mul_eq_zero.1 h0 with h1 | h1 <;> omega) d1
              simp only [execOp, ho, Sem.run_bind, this, Result.andThen_ok, Sem.run_pure]
              rfl
        · cases h
  · cases h

theorem modify_push (hs : Array Obj) (x : Obj) (f : Obj → Obj) : (hs.push x).modify hs.size f = hs.push (f x) := by
  apply Array.ext
  · simp
  · intro i h1 h2
    rw [Array.getElem_modify]
    by_cases e : hs.size = i
    · subst e; simp
    · rw [if_neg e]
      simp only [Array.size_modify, Array.size_push] at h1
      rw [Array.getElem_push_lt (by omega), Array.getElem_push_lt (by omega)]

theorem ofBytes_get (b : List UInt8) (i : Nat) : (ofBytes b)[i]? = (b[i]?).map fun c => [.int .u8 c.toNat] := by simp [ofBytes]

theorem toBytes_ok {R : Roots} {m0 : M} {cs : List Value} {g : Gh} {w : World} {N : Nat} {s t : TypeId} {x' : Operand} {v x : V} {o : Oper} {a : Act} (hp : OpPre gam E R m0 cs g w N) (ho : o.op = .convert s t x')
    (hcs : cs = [a.eval x']) (hvs : m0.vs = [x]) (h : toBytes E s t x = some v) :
    OpGoes E.P o a w fun c w' => ∃ g', OpPost gam R m0 g w N g' w' m0 v c := by
  unfold toBytes at h
  split at h
  · rename_i u e b hs ht
    split at h
    · rename_i hu8
      simp only [Option.some.injEq] at h
      subst h
      have hv := hp.ms.vs
      rw [hvs, hcs] at hv
      obtain ⟨c0, cs0, e0, hv0, _⟩ := hv
      simp only [List.cons.injEq] at e0
      obtain ⟨rfl, rfl⟩ := e0
      have hx : a.eval x' = .string ⟨b.toArray⟩ := hv0
      let q : Question := .appendCap b.length 0 e
      let C : Nat := q.cut (w.tape w.drawn q)
      have hC : b.length ≤ C := Nat.le_add_right _ _
      let cv : Array Value := (b.toArray.map fun c => Value.int .u8 c.toNat) ++ Array.replicate (C - b.length) (.int .u8 0)
      have hcvs : cv.size = C := by simp [cv]; omega
      let w1 : World := { w with drawn := w.drawn + 1 }
      let w' : World := { w1 with heap := w.heap.push (.cells cv e (C, C + 1)) }
      have ha : Adds w w' cv e (C, C + 1) := ⟨rfl, rfl, rfl, rfl⟩
      have hrow := row_ok gam (w' := w') (N := N) (es := ofBytes b) (cap := none) (z := 1) (n := b.length) (C := C) hp.ms ha hp.ti (hp.nn N (Nat.le_refl N)) (fun e' he' => by
          simp only [ofBytes, List.mem_map] at he'
          obtain ⟨c, _, rfl⟩ := he'; rfl) (by simp [ofBytes]) hC (fun c hc => by cases hc) (by omega) (fun k hk h => by have h1 : C ≤ k := h.1; omega)
        (fun i j e' x hi hx => by
          rw [ofBytes_get] at hi
          simp only [Option.map_eq_some_iff] at hi
          obtain ⟨c, hc, rfl⟩ := hi
          cases j with
          | succ j => simp at hx
          | zero =>
            simp only [List.getElem?_cons_zero, Option.some.injEq] at hx
            subst hx
            refine ⟨.int .u8 c.toNat, ?_, rfl, rfl⟩
            have hib : i < b.length := (List.getElem?_eq_some_iff.1 hc).1
            simp only [cv, Nat.mul_one, Nat.add_zero]
            rw [Array.getElem?_append_left (by simpa using hib)]
            simp [hc])
      refine OpGoes.value (c := slc w.heap.size 0 b.length C) (w' := w') ?_ ⟨_, hrow⟩
      have hconv : (convert s t (.string ⟨b.toArray⟩)).run E.P w = .ok (slc w.heap.size 0 b.length C) w' := by
        have hstb : (Conv.stringToBytes e ⟨b.toArray⟩).run E.P w = .ok (slc w.heap.size 0 b.length C) w' := by
          have hbs : (⟨b.toArray⟩ : ByteArray).size = b.length := rfl
          simp only [Conv.stringToBytes, Sem.run_bind, run_choose, Question.forced, Bool.false_eq_true, if_false, Result.andThen_ok, newRow, run_newObj, Sem.run_pure, markStringish, run_shape, hbs]
          have hsh : ({ w1 with heap := w.heap.push (.cells cv e) } : World).shape? w.heap.size = some (e, cv.size) := by
            simp [World.shape?]
          have hfr : ({ w1 with heap := w.heap.push (.cells cv e) } : World).freeze ⟨w.heap.size, C, none⟩ 1 = w' := by
            simp only [World.freeze]
            rw [if_neg (by omega)]
            simp only [w', World.mk.injEq, and_self, and_true]
            rw [modify_push]
            rfl
          show Result.andThen (Sem.run E.P (match World.shape? { w1 with heap := w.heap.push (.cells cv e) } w.heap.size with | some (_, n) => freeze ⟨w.heap.size, n, none⟩ 1 | _ => pure ()) { w1 with heap := w.heap.push (.cells cv e) }) _ = _
          rw [hsh]
          simp only [run_freeze, hcvs, hfr, Result.andThen_ok]
          rfl
        simp only [convert, Sem.run_bind, run_underlying hs, run_underlying ht, Result.andThen_ok]
        cases u <;> simp only [Sem.run_bind, run_underlying hu8, Result.andThen_ok, hstb]
      simp only [execOp, ho, Sem.run_bind, hx, hconv, Result.andThen_ok, Sem.run_pure]
    · cases h
  · cases h
end
end Go.Bv
/- What an append comes to. -/
namespace Go.Bv
open Go

section
variable (gam : Nat → Option (Nat × Nat)) (E : Env)

theorem one_plain {x : V} (h : x.one = true) : plainV x = true := by
  cases x with
  | fn f pre caps => cases pre <;> cases caps <;> first | rfl | cases h
  | _ => first | rfl | cases h
theorem one_cell {rho : Nat → Nat → Option Value} {x : V} {c : Value} (h : x.one = true) (hp : Pv gam rho x c) : c.oneCell' = true := by
  cases x with
  | fn f pre caps => obtain ⟨p, q, e, _⟩ := hp; subst e; rfl
  | sc y => have : c = y := hp; subst this; exact h
  | int k n => have : c = .int k n := hp; subst this; rfl
  | bool b => have : c = .bool b := hp; subst this; rfl
  | str b => have : c = .string ⟨b.toArray⟩ := hp; subst this; rfl
  | ifc t x => obtain ⟨cx, e, _⟩ := hp; subst e; rfl
  | ro es => obtain ⟨a, b, o, z, k, e, _⟩ := hp; subst e; rfl
  | rop cs j => obtain ⟨b, o, e, _⟩ := hp; subst e; rfl
  | gp g j => obtain ⟨b, o, _, e⟩ := hp; subst e; rfl
  | _ => cases h

/-- Cells that lie in memory, one after the other. -/
def memList (w : World) (b o n : Nat) : List Value := (List.range n).map fun k => (cellAt w b (o + k)).getD default
theorem memList_get {w : World} {b o n k : Nat} {c : Value} (h : cellAt w b (o + k) = some c) (hk : k < n) : (memList w b o n)[k]? = some c := by
  simp [memList, hk, h]
theorem memList_cell {w : World} {b o n : Nat} (h : ∀ k, k < n → ∃ c, cellAt w b (o + k) = some c) {k : Nat} {u : Value} (hu : (memList w b o n)[k]? = some u) : k < n ∧ cellAt w b (o + k) = some u := by
  have hk : k < n := by have := (List.getElem?_eq_some_iff.1 hu).1; simpa [memList] using this
  obtain ⟨c, hc⟩ := h k hk
  rw [memList_get hc hk] at hu
  cases hu
  exact ⟨hk, hc⟩
theorem memList_length (w : World) (b o n : Nat) : (memList w b o n).length = n := by simp [memList]

/-- What an append's second argument yields. -/
structure News (g : Gh) (size : Nat) (new : List (List V)) (news : List Value) : Prop where
  wide : ∀ e, e ∈ new → e.length = size
  get : ∀ (i j : Nat) e x, new[i]? = some e → e[j]? = some x → ∃ c, news[i * size + j]? = some c ∧ Pv gam g.rho x c ∧ plainV x = true

theorem wide_all {z : Nat} {es : List (List V)} {b : Nat} (h : wide z es = true) (hb : ∀ e, e ∈ es → e.length = b) : ∀ e, e ∈ es → e.length = z := by
  cases es with
  | nil => intro e he; cases he
  | cons x es =>
    simp only [wide, beq_iff_eq] at h
    intro e he
    rw [hb e he, ← hb x (by simp), h]

theorem divmod_lt {n z k : Nat} (hz : 0 < z) (hk : k < n * z) : k / z < n ∧ k % z < z ∧ k / z * z + k % z = k :=
  ⟨(Nat.div_lt_iff_lt_mul hz).2 hk, Nat.mod_lt _ hz, by rw [Nat.mul_comm]; exact Nat.div_add_mod k z⟩

theorem tx_slice {d : Option TypeDesc} {y : V} (hy : ∀ b, y ≠ .str b) (ht : yields d y = true) : ∃ e', d = some (.slice e') := by
  unfold yields at ht
  split at ht
  · cases ht
  · rename_i b; exact (hy b rfl).elim
  · exact ⟨_, rfl⟩
  · cases ht

theorem news_ok {R : Roots} {m : M} {cs : List Value} {g : Gh} {w : World} {e tx : TypeId} {i : TypeInfo} {y : V} {cy : Value} {new : List (List V)} (hS : MS gam g w R m cs) (hi : E.P.info? e = some i) (hy : Sv gam g y cy)
    (hnew : appended m y = some new) (hw : wide (E.P.cellsOf e) new = true) (ho : new.all (·.all V.one) = true)
    (ht : yields (E.P.underlying tx) y = true) :
    ∃ news, Src E.P i.size tx cy new.length news w ∧ News gam g i.size new news := by
  have hci : E.P.cellsOf e = i.size := by simp [Program.cellsOf, hi]
  rw [hci] at hw
  have hone : ∀ (k j : Nat) e x, new[k]? = some e → e[j]? = some x → x.one = true := by
    intro k j e' x he hx
    have := List.all_eq_true.1 ho e' (List.mem_of_getElem? he)
    exact List.all_eq_true.1 this x (List.mem_of_getElem? hx)
  have empty : new = [] → (∃ e', E.P.underlying tx = some (.slice e')) ∨ E.P.underlying tx = some .string → (∀ w' : World, (Builtin.lenOf cy).run E.P w' = .ok 0 w') → (Builtin.firstCells i.size 0 cy).run E.P w = .ok #[] w → (Builtin.firstCells i.size 0 cy).run E.P w.drew = .ok #[] w.drew →
      ∃ news, Src E.P i.size tx cy new.length news w ∧ News gam g i.size new news := by
    intro h0 hk hl hc hd
    subst h0
    exact ⟨[], ⟨hk, hl, hc, hd, by simp, fun u hu => (by cases hu)⟩, ⟨fun e he => (by cases he), fun i j e x he => (by simp at he)⟩⟩
  cases y with
  | str b =>
    simp only [appended, Option.some.injEq] at hnew
    subst hnew
    have hk : E.P.underlying tx = some .string := by
      unfold yields at ht
      split at ht <;> simp_all
    have hcy : cy = .string ⟨b.toArray⟩ := hy
    subst hcy
    by_cases hb : b = []
    · subst hb
      refine empty rfl (.inr hk) (fun w' => rfl) ?_ ?_ <;> simp [Builtin.firstCells]
    · have h1 : i.size = 1 := by
        cases b with
        | nil => exact (hb rfl).elim
        | cons c b => simp only [ofBytes, List.map_cons, wide, List.length_cons, List.length_nil, beq_iff_eq] at hw; omega
      refine ⟨byteCells ⟨b.toArray⟩, ?_, ?_, ?_⟩
      · rw [h1]
        have := Src.ofString (P := E.P) w hk ⟨b.toArray⟩
        have hl : (ofBytes b).length = (⟨b.toArray⟩ : ByteArray).size := by simp [ofBytes, ByteArray.size]
        rw [hl]; exact this
      · intro e' he'
        simp only [ofBytes, List.mem_map] at he'
        obtain ⟨c, _, rfl⟩ := he'
        rw [h1]; rfl
      · intro k j e' x he hx
        rw [ofBytes_get] at he
        simp only [Option.map_eq_some_iff] at he
        obtain ⟨c, hc, rfl⟩ := he
        cases j with
        | succ j => simp at hx
        | zero =>
          simp only [List.getElem?_cons_zero, Option.some.injEq] at hx
          subst hx
          refine ⟨.int .u8 c.toNat, ?_, rfl, rfl⟩
          rw [h1]
          simp [byteCells, hc]
  | _ =>
    all_goals
      simp only [appended] at hnew
      rcases elems_ok gam hS.cl hS.gl hy hnew with ⟨⟨a0, k, hc⟩, h0⟩ | ⟨b, o, z, k, hc, hk, hz, hcell⟩
      · subst hc
        have hkk : ∃ e', E.P.underlying tx = some (.slice e') := tx_slice (fun b h => by cases h) ht
        refine empty h0 (.inl hkk) (fun w' => rfl) ?_ ?_ <;> cases a0 <;> simp [Builtin.firstCells, loadCells, loadCellsFrom]
      · have hkk : ∃ e', E.P.underlying tx = some (.slice e') := tx_slice (fun b h => by cases h) ht
        have hws := wide_all hw hz
        have hzs : new ≠ [] → z = i.size := by
          intro hne
          cases hnn : new with
          | nil => exact (hne hnn).elim
          | cons e0 rest =>
            have := hws e0 (by rw [hnn]; simp)
            rw [← this]; exact (hz e0 (by rw [hnn]; simp)).symm
        obtain ⟨e', hke⟩ := hkk
        have hcl : ∀ kk, kk < new.length * i.size → ∃ c, cellAt w b (o + kk) = some c ∧ c.oneCell' = true := by
          intro kk hkl
          have hpos : 0 < i.size := by
            rcases Nat.eq_zero_or_pos i.size with h0 | h0
            · rw [h0] at hkl; omega
            · exact h0
          obtain ⟨d1, d2, d3⟩ := divmod_lt hpos hkl
          have hne : new ≠ [] := by rintro h0; rw [h0] at d1; simp at d1
          have he := List.getElem?_eq_getElem d1
          have hl := hws _ (List.getElem_mem d1)
          have hj : kk % i.size < new[kk / i.size].length := by rw [hl]; exact d2
          have hx := List.getElem?_eq_getElem hj
          obtain ⟨c, h1, h2⟩ := hcell _ _ _ _ he hx
          have ho1 := hone _ _ _ _ he hx
          refine ⟨c, ?_, one_cell gam ho1 (h2 (plain_owner (one_plain ho1))).1⟩
          rw [hzs hne, Nat.add_assoc, d3] at h1
          exact h1
        refine ⟨memList w b o (new.length * i.size), ?_, hws, ?_⟩
        · rw [hc]
          refine Src.ofSlice w hke _ _ _ _ (memList_length _ _ _ _) (fun j u hu => ?_) ?_
          · rw [cellAt_add]
            exact (memList_cell (fun k hk => by obtain ⟨c, h, _⟩ := hcl k hk; exact ⟨c, h⟩) hu).2
          · intro u hu
            obtain ⟨k, hk'⟩ := List.getElem?_of_mem hu
            obtain ⟨h1, h2⟩ := memList_cell (fun k hk => by obtain ⟨c, h, _⟩ := hcl k hk; exact ⟨c, h⟩) hk'
            obtain ⟨c, h3, h4⟩ := hcl k h1
            rw [h2] at h3; cases h3; exact h4
        · intro k' j e1 x he hx
          obtain ⟨c, h1, h2⟩ := hcell _ _ _ _ he hx
          have ho1 := hone _ _ _ _ he hx
          obtain ⟨h3, _⟩ := h2 (plain_owner (one_plain ho1))
          refine ⟨c, ?_, h3, one_plain ho1⟩
          have hk'l := (List.getElem?_eq_some_iff.1 he).1
          have hjl : j < i.size := by rw [← hws e1 (List.mem_of_getElem? he)]; exact (List.getElem?_eq_some_iff.1 hx).1
          have hne : new ≠ [] := by rintro h0; rw [h0] at hk'l; simp at hk'l
          refine memList_get ?_ ?_
          · rw [← hzs hne, ← Nat.add_assoc]; exact h1
          · have : (k' + 1) * i.size ≤ new.length * i.size := Nat.mul_le_mul_right _ hk'l
            rw [Nat.succ_mul] at this; omega
end
end Go.Bv
/- What an append comes to, further on. -/
namespace Go.Bv
open Go

section
variable (gam : Nat → Option (Nat × Nat)) (E : Env)

def Gh.setTop (g : Gh) (N : Nat) : Gh where
  rho := g.rho
  base x q := if x = N ∧ q = [] then none else g.base x q
  lam := g.lam

theorem MT.reg {g0 g1 g2 : Gh} {w0 w1 w2 : World} {m0 m : M} {N : Nat} {l : List Step} (h : MT gam g0 w0 m0 g1 w1 m) (hl : m.lg = m0.lg ++ l) (hN : N ∉ stepRoots l) (h0 : ∀ p, g0.base N p = none) (hfr : Fr g1 g2 w1 w2)
    (hb : ∀ r p B, r ≠ N → g1.base r p = some B → g2.base r p = some B) : MT gam g0 w0 m0 g2 w2 m := by
  obtain ⟨l', hl', hnm⟩ := h.nm
  have : l' = l := List.append_cancel_left (hl'.symm.trans hl)
  subst this
  refine ⟨h.fr.trans hfr, ⟨l', hl', fun v c hv => ?_⟩, h.n, h.ks, h.dy, fun r p B hr hB => ?_⟩
  · exact Sv.keepR gam hfr.grow hb _ _ (roots_sweepV l' v hN (Sv.noRoot gam h0 v c hv)) (hnm v c hv)
  · rcases h.kb r p B hr hB with h1 | h1
    · exact .inl h1
    · exact .inr (hb r p B (fun e => by rw [e, h0] at hB; cases hB) h1)

theorem setCells_ok {g : Gh} {b : Nat} {q : Nat × Path} : ∀ (vs : List Value) (o : Nat) (w : World), Glob g w → (∀ j, j < vs.length → g.lam b (o + j) = some q) →
    Glob g (w.setCells b o vs) ∧ Fr g g w (w.setCells b o vs) ∧ (∀ b' k', (b' = b → k' < o ∨ o + vs.length ≤ k') → cellAt (w.setCells b o vs) b' k' = cellAt w b' k') ∧
      (∀ j v, vs[j]? = some v → cellAt (w.setCells b o vs) b (o + j) = some v)
  | [], o, w, hG, _ => ⟨hG, Fr.refl g w, fun _ _ _ => rfl, fun j v hv => by simp at hv⟩
  | v :: vs, o, w, hG, hl => by
    have h0 := hl 0 (by simp)
    rw [Nat.add_zero] at h0
    obtain ⟨u, hu, _⟩ := hG.cells b o q h0
    obtain ⟨a1, a2, a3, a4⟩ := setCells_ok vs (o + 1) (w.setCell ⟨b, o, none⟩ v) (hG.set h0 v) (fun j hj => by have := hl (j + 1) (by simp; omega); rwa [show o + (j + 1) = o + 1 + j by omega] at this)
    refine ⟨a1, (Fr.set h0 v).trans a2, fun b' k' h => ?_, fun j x hx => ?_⟩
    · show cellAt ((w.setCell ⟨b, o, none⟩ v).setCells b (o + 1) vs) b' k' = _
      rw [a3 b' k' (fun e => by have := h e; simp only [List.length_cons] at this; omega)]
      refine cell_set_other ?_
      rintro ⟨e1, e2⟩
      have := h e1
      simp only [List.length_cons] at this
      omega
    · show cellAt ((w.setCell ⟨b, o, none⟩ v).setCells b (o + 1) vs) b (o + j) = _
      cases j with
      | zero =>
        simp only [List.getElem?_cons_zero, Option.some.injEq] at hx
        subst hx
        have h1 := a3 b o (fun _ => .inl (by omega))
        simp only [Nat.add_zero]
        rw [h1]
        exact cell_set_same hu
      | succ j => rw [show o + (j + 1) = o + 1 + j by omega]; exact a4 j x (by simpa using hx)

theorem own_kid_app {es new : List (List V)} {cap cap' : Option Nat} (a b : Nat) :
    (V.own (es ++ new) cap').kid (a, b) = if a < es.length then (V.own es cap).kid (a, b) else (V.own new cap).kid (a - es.length, b) := by
  by_cases h : a < es.length <;> simp [V.kid, List.getElem?_append, h]

theorem growBy_le (n : Nat) : ∀ (r c : Nat), c < n → Builtin.growBy n r c ≤ n + n / 4 + 192
  | 0, c, h => by simp only [Builtin.growBy]; omega
  | r + 1, c, h => by
    simp only [Builtin.growBy]
    rw [if_neg (by omega)]
    by_cases h2 : c + (c + 768) / 4 < n
    · exact growBy_le n r _ h2
    · cases r with
      | zero => simp only [Builtin.growBy]; omega
      | succ r => simp only [Builtin.growBy]; rw [if_pos (by omega)]; omega

theorem nextcap_fits {n c b : Nat} (h : c < n) (hn : n ≤ 16777216) (hb : b ≤ 65536) : Builtin.nextslicecap n c * b ≤ 281474976710656 := by
  have : Builtin.nextslicecap n c ≤ 67108864 := by
    unfold Builtin.nextslicecap
    split
    · omega
    · split
      · omega
      · have := growBy_le n 4 c h; omega
  have := Nat.mul_le_mul this hb
  omega

theorem grownCap_ge (w : World) (n c : Nat) (e : TypeId) : n ≤ grownCap w n c e := Nat.le_add_right _ _

theorem PartOk.kid {g : Gh} {w : World} {N : Nat} {v : V} {c : Value} (h : PartOk gam g w N [] v c) (ho : v.owner = true) {s : Nat × Nat} {x : V} (hx : v.kid s = some x) :
    ∃ B c', g.base N [] = some B ∧ cellAt w B.b (B.o + s.1 * B.z + s.2) = some c' ∧ PartOk gam g w N [s] x c' := by
  obtain ⟨B, hB, hf, hl, hk⟩ := h.fl [] v (get_nil v) ho
  obtain ⟨c', h1, h2⟩ := hk s x hx
  refine ⟨B, c', hB, h1, ?_, h2, h.wf.sub (p := [s]) (by rw [get_cons, hx]; exact get_nil x), h.wf [] v s x (get_nil v) hx, ?_⟩
  · have := Float.kid gam h.fl hx
    exact this
  · intro t B' hB'
    obtain ⟨u, hu, huo⟩ := h.ex (s :: t) B' (by simpa using hB')
    rw [get_cons, hx] at hu
    exact ⟨u, hu, huo⟩

theorem zeroCells_size (z : Array Value) (n : Nat) : (Builtin.zeroCells z n).size = n * z.size := by simp [Builtin.zeroCells]

theorem append_run {P : Program} {o : Oper} {a : Act} {c : Call} {w w' : World} {r : Value} {t tx : TypeId} {x y : Value} (ho : o.op = .call c) (hc : c.callee = .builtin .append) (ht : c.argTypes.toList = [t, tx]) (ha : c.args.toList.map a.eval = [x, y])
    (h : (Builtin.append_ #[t, tx] o.type #[x, y]).run P w = .ok r w') : (execOp a.eval o).run P w = .ok (.value r) w' := by
  have e1 : c.argTypes = #[t, tx] := by rw [← Array.toList_inj]; exact ht
  have e2 : c.args.map a.eval = #[x, y] := by rw [← Array.toList_inj, Array.toList_map]; exact ha
  simp only [execOp, ho, resolve, hc, Sem.run_bind, Sem.run_pure, Result.andThen_ok, invoke, builtin, e1, e2, h]

theorem append_own_ok {R : Roots} {m0 m : M} {cs : List Value} {g : Gh} {w : World} {N r i0 j n z0 : Nat} {p : Path} {t tx e : TypeId} {i : TypeInfo} {z : Value} {es0 es new : List (List V)} {cap0 cap : Option Nat} {cx cy : Value} {news : List Value}
    (hp : OpPre gam E R m0 cs g w N) (hx : Sv gam g (.als r p i0 j n z0) cx) (hget0 : m0.get r p = some (.own es0 cap0))
    (hc0 : (if es0.isEmpty = true then cap0 == some 0 else wide (E.P.cellsOf e) es0) = true) (htk : takeS m0 (.als r p i0 j n z0) = some (es, cap, m)) (hlen : es.length + new.length ≤ 16777216)
    (hut : E.P.underlying t = some (.slice e)) (hi : E.P.info? e = some i) (hz : i.zero = some z) (hzs : z.cells.size = i.size) (hby : i.bytes ≤ 65536) (hsrc : Src E.P i.size tx cy new.length news w) (hnews : News gam g i.size new news) (ty : TypeId) :
    ∃ c' w', (Builtin.append_ #[t, tx] ty #[cx, cy]).run E.P w = .ok c' w' ∧
      ∃ g', OpPost gam R m0 g w N g' w' m (.own (es ++ new) (capApp cap (es.length + new.length))) c' := by
  have hNN := hp.nn N (Nat.le_refl N)
  have hci : E.P.cellsOf e = i.size := by simp [Program.cellsOf, hi]
  have hlkN : ∀ u, look m0.rs N ≠ some u := fun u hu => by simp only [over, hu] at hNN; cases hNN
  have hrN : ∀ r p, (∃ u, m0.get r p = some u) → r ≠ N := by
    rintro r p ⟨u, hu⟩ rfl
    obtain ⟨t, ht, _⟩ := M.get_look hu
    exact hlkN t ht
  have hnb : ∀ q, g.base N q = none := hp.noBase gam E (Nat.le_refl N)
  obtain ⟨g1, hS1, hM1, hFl, hCk, hWf, hEx, r', p', i', n', es0', cap0', m1, hv, hget, hput, hrs, hlg, _, hbo, hlam, hrho, B, hB, hz0, hcz⟩ :=
    takeS_ok gam hp.ms htk hx N [] ⟨fun q => by simpa using hnb q, fun q hq ⟨e1, _⟩ => by
      obtain ⟨y, q⟩ := q
      simp only at e1
      subst e1
      exact still_none hNN q hq⟩ (fun r p hu => .inl (hrN r p hu))
  cases hv
  rw [hget0] at hget
  cases hget
  have hpart : PartOk gam g1 w N [] (.own es cap) cx := ⟨hFl, hCk, hWf, .inl rfl, hEx⟩
  have hNs : N ∉ stepRoots [Step.drop r p] := by
    simp only [stepRoots, Step.roots, List.append_nil, List.mem_singleton]
    exact fun e => hrN r p ⟨_, hget0⟩ e.symm
  have hrsE : over R m.rs = over R m1.rs := by rw [hrs]
  have hti1 : Tight g1 (over R m.rs) (fun y _ => y = N) := by
    intro x q B' hB'
    by_cases hx : x = N
    · exact .inr hx
    · left
      rw [hbo x q (fun h => hx h.1)] at hB'
      rw [hrsE]
      rcases hp.ti.move (r2 := N) (p2 := []) hput x q B' hB' with h | h | h
      · exact h
      · exact h.elim
      · exact (hx h.1).elim
  have hNm : over R m.rs N = none := over_ks gam hM1 hNN
  have hStill : Still (over R m.rs) N := still_none hNm
  obtain ⟨B1, hB1, hcx⟩ := hCk
  rw [hB] at hB1; cases hB1
  obtain ⟨B1, hB1, ⟨hf1, hf2, hf3⟩, hLab, hkids⟩ := hFl [] _ (get_nil _) rfl
  rw [List.append_nil] at hB1 hLab
  rw [hB] at hB1; cases hB1
  -- how wide the elements are
  have hwd : B.C = 0 ∨ B.z = i.size := by
    split at hc0
    · rename_i he
      left; exact hcz (by simpa using hc0)
    · rename_i he
      right
      cases hes : es0 with
      | nil => rw [hes] at he; simp at he
      | cons e0 rest =>
        rw [hes] at hc0
        simp only [wide, beq_iff_eq, hci] at hc0
        rw [← hc0]; exact (hz0 e0 (by rw [hes]; simp)).symm
  have hesz : ∀ e, e ∈ es → e.length = i.size := by
    intro e' he'
    rw [hf3 e' he']
    rcases hwd with h | h
    · have : es.length = 0 := by omega
      have := List.eq_nil_of_length_eq_zero this
      rw [this] at he'; cases he'
    · exact h
  have hez : es ≠ [] → B.z = i.size := by
    intro hne
    rcases hwd with h | h
    · exact (hne (List.eq_nil_of_length_eq_zero (by omega))).elim
    · exact h
  have hnl := hsrc.newsLen
  have hwfA : ∀ cap', WFV (V.own (es ++ new) cap') := by
    intro cap' q u s x hu hk
    have hleaf : ∀ a b y, (V.own new cap).kid (a, b) = some y → Leaf y ∧ y.owner = false := by
      intro a b y hy
      simp only [V.kid] at hy
      cases he : new[a]? with
      | none => simp [he] at hy
      | some e' =>
        simp only [he] at hy
        obtain ⟨_, _, _, h3⟩ := hnews.get a b e' y he hy
        exact ⟨plain_leaf h3, plain_owner h3⟩
    cases q with
    | nil =>
      rw [get_nil] at hu; cases hu
      obtain ⟨a, b⟩ := s
      rw [own_kid_app (cap := cap)] at hk
      split at hk
      · exact hWf [] _ (a, b) x (get_nil _) hk
      · exact .inr (hleaf _ _ _ hk).1
    | cons s0 q =>
      obtain ⟨a, b⟩ := s0
      rw [get_cons] at hu
      cases hk0 : (V.own (es ++ new) cap').kid (a, b) with
      | none => simp [hk0] at hu
      | some y =>
        simp only [hk0] at hu
        rw [own_kid_app (cap := cap)] at hk0
        split at hk0
        · exact hWf ((a, b) :: q) u s x (by rw [get_cons, hk0]; exact hu) hk
        · exact WFV.leaf (hleaf _ _ _ hk0).1 q u s x hu hk
  have hcapA : ∀ c, (capApp cap (es.length + new.length)) = some c → es.length + new.length ≤ c ∧ B.C = c := by
    intro c hc
    cases cap with
    | none => cases hc
    | some c0 =>
      simp only [capApp] at hc
      split at hc
      · cases hc; exact ⟨by assumption, hf2 c rfl⟩
      · cases hc
  by_cases hroom : es.length + new.length ≤ B.C
  · -- in place
    have hzn : 0 < news.length → B.z = i.size ∧ 0 < i.size ∧ 0 < new.length := by
      intro h
      rw [hnl] at h
      have h1 := Nat.pos_of_mul_pos_left h
      have h2 := Nat.pos_of_mul_pos_right h
      rcases hwd with h3 | h3
      · omega
      · exact ⟨h3, by omega, by omega⟩
    have hrange : ∀ k, k < news.length → es.length * i.size + k < B.C * B.z := by
      intro k hk
      obtain ⟨h1, h2, h3⟩ := hzn (by omega)
      rw [h1]
      have h4 : (es.length + new.length) * i.size ≤ B.C * i.size := Nat.mul_le_mul_right _ hroom
      rw [Nat.add_mul] at h4
      omega
    have hlamR : ∀ k, k < news.length → g1.lam B.b (B.o + es.length * i.size + k) = some (N, []) := by
      intro k hk
      rw [Nat.add_assoc]
      exact hLab _ (hrange k hk)
    have hrun := run_append_room_src w t tx ty e i hut hi B.b B.o es.length B.C cy new.length news hsrc hroom
      (fun k hk => by obtain ⟨c, h, _⟩ := hS1.gl.cells _ _ _ (hlamR k hk); rw [show w.cell? ⟨B.b, B.o + es.length * i.size + k, none⟩ = some c from h]; rfl)
      (fun k hk => by obtain ⟨c, _, h⟩ := hS1.gl.cells _ _ _ (hlamR k hk); exact h)
    obtain ⟨s1, s2, s3, s4⟩ := setCells_ok (g := g1) (b := B.b) (q := (N, [])) news (B.o + es.length * i.size) w hS1.gl hlamR
    have hout : ∀ b k q, g1.lam b k = some q → q ≠ (N, []) → cellAt (w.setCells B.b (B.o + es.length * i.size) news) b k = cellAt w b k := by
      intro b k q hq hne
      refine s3 b k (fun e => ?_)
      subst e
      by_cases hk : k < B.o + es.length * i.size
      · exact .inl hk
      · right
        rcases Nat.lt_or_ge k (B.o + es.length * i.size + news.length) with h | h
        · have := hlamR (k - (B.o + es.length * i.size)) (by omega)
          rw [show B.o + es.length * i.size + (k - (B.o + es.length * i.size)) = k by omega, hq] at this
          cases this; exact (hne rfl).elim
        · exact h
    have hcl : Claims gam g1 (w.setCells B.b (B.o + es.length * i.size) news) (over R m.rs) := by
      refine Claims.keep gam (g := g1) (g' := g1) (Grows.refl _) (fun _ _ _ _ h => h) (fun _ _ _ _ h => h) (fun b k q c hl hq hc => ?_) hS1.cl
      rw [hout b k q hq (by rintro rfl; exact hStill [] hl)]; exact hc
    refine ⟨_, _, by rw [hcx]; exact hrun, g1, ⟨⟨rfl, hcl, hS1.wf, s1⟩, ?_, ?_, hti1, hStill⟩⟩
    · exact MT.reg gam hM1 hlg hNs hnb s2 (fun _ _ _ _ h => h)
    · refine PartOk.res gam ⟨?_, ⟨B, hB, ?_⟩, hwfA _, .inl rfl, ?_⟩ rfl
      · refine float_intro gam hB ⟨by rw [List.length_append]; exact hroom, fun c hc => (hcapA c hc).2, ?_⟩ hLab ?_
        · intro e' he'
          rcases List.mem_append.1 he' with h | h
          · exact hf3 e' h
          · rw [hnews.wide e' h]
            rcases hwd with h3 | h3
            · have : new.length = 0 := by omega
              rw [List.eq_nil_of_length_eq_zero this] at h; cases h
            · exact h3.symm
        · rintro ⟨a, b⟩ x hx
          rw [own_kid_app (cap := cap)] at hx
          split at hx
          · rename_i ha
            obtain ⟨_, c', hB', hc', hpk⟩ := hpart.kid gam rfl hx
            rw [hB] at hB'; cases hB'
            refine ⟨?_, c', ?_, hpk.ck⟩
            · refine Float.keep gam (g := g1) (g' := g1) (Grows.refl _) (fun _ _ h => h) (fun _ _ _ h => h) (fun b2 k q c hl hc => ?_) hpk.fl
              rw [hout b2 k _ hl (by intro e; simp at e)]; exact hc
            · rw [s3]
              · exact hc'
              · intro _
                left
                have hb : b < B.z := by
                  simp only [V.kid] at hx
                  cases he : es[a]? with
                  | none => simp [he] at hx
                  | some e' =>
                    simp only [he] at hx
                    rw [← hf3 e' (List.mem_of_getElem? he)]
                    exact (List.getElem?_eq_some_iff.1 hx).1
                have hzz := hez (by rintro h; rw [h] at ha; simp at ha)
                have h4 : (a + 1) * i.size ≤ es.length * i.size := Nat.mul_le_mul_right _ ha
                rw [Nat.succ_mul] at h4
                simp only
                rw [hzz] at hb ⊢
                omega
          · rename_i ha
            simp only [V.kid] at hx
            cases he : new[a - es.length]? with
            | none => simp [he] at hx
            | some e' =>
              simp only [he] at hx
              obtain ⟨c', h1, h2, h3⟩ := hnews.get _ b e' x he hx
              have hll := (List.getElem?_eq_some_iff.1 h1).1
              refine ⟨Float.leaf gam (plain_leaf h3) (plain_owner h3), c', ?_, ?_⟩
              · have h4 := s4 _ _ h1
                obtain ⟨h5, _, _⟩ := hzn (by omega)
                simp only
                rw [h5]
                rw [show B.o + a * i.size + b = B.o + es.length * i.size + ((a - es.length) * i.size + b) by
                  have : a * i.size = es.length * i.size + (a - es.length) * i.size := by rw [← Nat.add_mul]; congr 1; omega
                  omega]
                exact h4
              · have := part_plain gam (d := N) (p := []) (w := w) (g := { g1 with base := fun _ _ => none }) h3 (Pv.mono gam hM1.fr.grow _ _ h2) (fun _ => rfl)
                have hck := this.ck
                cases x <;> simp [plainV] at h3 <;> exact hck
      · rw [List.length_append]
        rfl
      · intro q B' hB'
        obtain ⟨u, hu, huo⟩ := hEx q B' hB'
        cases q with
        | nil => exact ⟨_, get_nil _, rfl⟩
        | cons s q =>
          obtain ⟨a, b⟩ := s
          rw [get_cons] at hu
          cases hk0 : (V.own es cap).kid (a, b) with
          | none => simp [hk0] at hu
          | some y =>
            simp only [hk0] at hu
            have ha : a < es.length := by
              simp only [V.kid] at hk0
              cases he : es[a]? with
              | none => simp [he] at hk0
              | some e' => exact (List.getElem?_eq_some_iff.1 he).1
            exact ⟨u, by rw [get_cons, own_kid_app (cap := cap), if_pos ha, hk0]; exact hu, huo⟩
  · -- a new block
    have hpos : 0 < new.length := by omega
    have hcellB : ∀ k, k < es.length * i.size → ∃ c, cellAt w B.b (B.o + k) = some c := by
      intro k hk
      have h0 : es ≠ [] := by rintro rfl; simp at hk
      have h1 := hez h0
      have h2 : es.length * i.size ≤ B.C * B.z := by rw [h1]; exact Nat.mul_le_mul_right _ hf1
      obtain ⟨c, h, _⟩ := hS1.gl.cells _ _ _ (hLab k (by omega))
      exact ⟨c, h⟩
    let olds := memList w B.b B.o (es.length * i.size)
    have hol : olds.length = es.length * i.size := memList_length _ _ _ _
    have hrun := run_append_grow_src w t tx ty e i z hut hi hz (some ⟨B.b, B.o, none⟩) es.length B.C olds
      (run_firstCells_some (P := E.P) w.drew i.size es.length ⟨B.b, B.o, none⟩ es.length B.C olds hol (fun k u hu => by
        rw [show (w.drew).cell? ((⟨B.b, B.o, none⟩ : Addr).add k) = w.cell? ((⟨B.b, B.o, none⟩ : Addr).add k) from rfl, cellAt_add]
        exact (memList_cell hcellB hu).2)) cy new.length news hsrc (by omega) (by omega) (nextcap_fits (by omega) hlen hby)
    let C := grownCap w (es.length + new.length) B.C e
    have hC : es.length + new.length ≤ C := grownCap_ge _ _ _ _
    let cv := (olds ++ news).toArray ++ Builtin.zeroCells z.cells (C - (es.length + new.length))
    have hcvs : C * i.size ≤ cv.size := by
      simp only [cv, Array.size_append, zeroCells_size, hzs, List.size_toArray, List.length_append, hol, hnl]
      rw [← Nat.add_mul, ← Nat.add_mul]
      exact Nat.mul_le_mul_right _ (by omega)
    have hcvO : ∀ k, k < es.length * i.size → cv[k]? = olds[k]? := by
      intro k hk
      simp only [cv]
      rw [Array.getElem?_append_left (by simp [hol]; omega)]
      simp only [List.getElem?_toArray]
      rw [List.getElem?_append_left (by omega)]
    have hcvN : ∀ k, k < news.length → cv[es.length * i.size + k]? = news[k]? := by
      intro k hk
      simp only [cv]
      rw [Array.getElem?_append_left (by simp [hol]; omega)]
      simp only [List.getElem?_toArray]
      rw [List.getElem?_append_right (by omega), hol, Nat.add_sub_cancel_left]
    have hb2 : ∀ r p B, r ≠ N → g1.base r p = some B → (g1.setTop N).base r p = some B := by
      intro r p B hr hB
      simp only [Gh.setTop]
      rw [if_neg (fun h => hr h.1)]; exact hB
    have hbk : ∀ s t, (g1.setTop N).base N (s :: t) = g1.base N (s :: t) := fun s t => by simp [Gh.setTop]
    have hfr2 : Fr g1 (g1.setTop N) w w := ⟨Grows.refl _, rfl, rfl, rfl, Nat.le_refl _, fun _ _ q _ h => ⟨q, h⟩, fun _ _ _ _ h => .inl h, fun _ _ => Kept.refl _ _ _⟩
    have hS2 : MS gam (g1.setTop N) w R { m with vs := [] } [] := by
      refine ⟨rfl, ?_, hS1.wf, ⟨hS1.gl.cells, hS1.gl.sep, hS1.gl.ro⟩⟩
      refine Claims.keep gam (g := g1) (g' := g1.setTop N) (Grows.refl _) (fun r p B hl hB => hb2 r p B (fun e => hStill p (e ▸ hl)) hB) (fun _ _ _ _ h => h) (fun _ _ _ _ _ _ h => h) hS1.cl
    have hM2 : MT gam g w m0 (g1.setTop N) w m := MT.reg gam hM1 hlg hNs hnb hfr2 hb2
    have hti2 : Tight (g1.setTop N) (over R m.rs) (fun y _ => y = N) := by
      intro x q B' hB'
      by_cases hx : x = N
      · exact .inr hx
      · simp only [Gh.setTop] at hB'
        rw [if_neg (fun h => hx h.1)] at hB'
        exact hti1 x q B' hB'
    have hkidE : ∀ a b x, (V.own es cap).kid (a, b) = some x → a < es.length ∧ b < i.size := by
      intro a b x hx
      simp only [V.kid] at hx
      cases he : es[a]? with
      | none => simp [he] at hx
      | some e' =>
        simp only [he] at hx
        refine ⟨(List.getElem?_eq_some_iff.1 he).1, ?_⟩
        rw [← hesz e' (List.mem_of_getElem? he)]
        exact (List.getElem?_eq_some_iff.1 hx).1
    obtain ⟨b1, b2, b3, b4⟩ := made_ok gam (w' := w.drew.alloc (.cells cv e)) (f := (0, 0)) (T := e) (cv := cv) (d := N) (v := .own (es ++ new) (capApp cap (es.length + new.length))) (B := ⟨w.heap.size, 0, i.size, C⟩) hS2 ⟨rfl, rfl, rfl, rfl⟩ hti2 hStill
      (by simp [Gh.setTop]) rfl (by show 0 + C * i.size ≤ _; omega) (fun k _ _ h => by omega)
      ⟨by rw [List.length_append]; exact hC, fun c hc => by have := hcapA c hc; omega, fun e' he' => by
        rcases List.mem_append.1 he' with h | h
        · exact hesz e' h
        · exact hnews.wide e' h⟩ rfl
      (by
        rintro ⟨a, b⟩ x hx
        rw [own_kid_app (cap := cap)] at hx
        simp only [Nat.zero_add]
        split at hx
        · rename_i ha
          obtain ⟨_, hbz⟩ := hkidE a b x hx
          obtain ⟨_, c', hB', hc', hpk⟩ := hpart.kid gam rfl hx
          rw [hB] at hB'; cases hB'
          have hzz := hez (by rintro h; rw [h] at ha; simp at ha)
          have h4 : (a + 1) * i.size ≤ es.length * i.size := Nat.mul_le_mul_right _ ha
          rw [Nat.succ_mul] at h4
          refine ⟨c', ?_, ?_⟩
          · rw [hcvO _ (by omega)]
            refine memList_get ?_ (by omega)
            simp only at hc'
            rw [hzz, Nat.add_assoc] at hc'
            exact hc'
          · refine ⟨?_, ?_, hpk.wf, hpk.ol, ?_⟩
            · refine Float.keep gam (g := g1) (g' := g1.setTop N) (Grows.refl _) (fun q B hB => by rw [List.cons_append, List.nil_append, hbk]; exact hB) (fun _ _ _ h => h) (fun _ _ _ _ _ h => h) hpk.fl
            · exact Ck.keep gam (g := g1) (g' := g1.setTop N) (Grows.refl _) (fun B hB => by rw [hbk]; exact hB) hpk.ck
            · intro q B' hB'
              refine hpk.ex q B' ?_
              rw [List.cons_append, List.nil_append, hbk] at hB'
              exact hB'
        · rename_i ha
          simp only [V.kid] at hx
          cases he : new[a - es.length]? with
          | none => simp [he] at hx
          | some e' =>
            simp only [he] at hx
            obtain ⟨c', h1, h2, h3⟩ := hnews.get _ b e' x he hx
            have hll := (List.getElem?_eq_some_iff.1 h1).1
            refine ⟨c', ?_, part_plain gam h3 (Pv.mono gam hM1.fr.grow _ _ h2) fun q => ?_⟩
            · rw [show a * i.size + b = es.length * i.size + ((a - es.length) * i.size + b) by
                  have : a * i.size = es.length * i.size + (a - es.length) * i.size := by rw [← Nat.add_mul]; congr 1; omega
                  omega]
              rw [hcvN _ hll]; exact h1
            · rw [List.cons_append, List.nil_append, hbk]
              cases hB' : g1.base N ((a, b) :: q) with
              | none => rfl
              | some B' =>
                obtain ⟨u, hu, huo⟩ := hEx ((a, b) :: q) B' hB'
                rw [get_cons] at hu
                cases hk0 : (V.own es cap).kid (a, b) with
                | none => simp [hk0] at hu
                | some y => exact (ha (hkidE a b y hk0).1).elim)
      (by
        rintro ⟨a, b⟩ q B' hB'
        rw [hbk] at hB'
        obtain ⟨u, hu, huo⟩ := hEx ((a, b) :: q) B' hB'
        rw [get_cons] at hu
        cases hk0 : (V.own es cap).kid (a, b) with
        | none => simp [hk0] at hu
        | some y => exact ⟨y, by rw [own_kid_app (cap := cap), if_pos (hkidE a b y hk0).1]; exact hk0⟩)
      (c := slc w.heap.size 0 (es.length + new.length) C) (fun g' hg => ⟨_, hg, by rw [List.length_append]⟩)
    refine ⟨_, _, by rw [hcx]; exact hrun, _, ⟨b1, ?_, b3.res gam rfl, b4.weaken (fun y q h => by rcases h with h | h; exact h; exact h.1), hStill⟩⟩
    refine MT.reg gam hM1 hlg hNs hnb (hfr2.trans b2.fr) (fun r p B hr hB => ?_)
    simp only [Gh.new]
    rw [if_neg (fun h => hr h.1)]
    exact hb2 r p B hr hB

theorem append_ok {R : Roots} {m0 m : M} {cs : List Value} {g : Gh} {w : World} {N : Nat} {t tx : TypeId} {c : Call} {v : V} {o : Oper} {a : Act} (hp : OpPre gam E R m0 cs g w N) (ho : o.op = .call c) (hcal : c.callee = .builtin .append)
    (hat : c.argTypes.toList = [t, tx]) (hcs : cs = c.args.toList.map a.eval) (h : appendM E t tx m0 = some (v, m)) :
    OpGoes E.P o a w fun c w' => ∃ g', OpPost gam R m0 g w N g' w' m v c := by
  unfold appendM at h
  split at h
  · rename_i x y hvs
    split at h
    · rename_i new e hnew hut
      split at h
      · cases h
      · rename_i i hi
        cases hz : i.zero with
        | none => simp [hz] at h
        | some z =>
        simp only [hz] at h
        split at h
        · rename_i hcond
          simp only [Bool.and_eq_true, decide_eq_true_eq] at hcond
          obtain ⟨⟨⟨⟨hby, hwd⟩, hone⟩, hzz⟩, hyl⟩ := hcond
          have hvv := hp.ms.vs
          rw [hvs] at hvv
          obtain ⟨cx, cs1, e1, hx, cy, cs2, e2, hy, e3⟩ := hvv
          subst e3; subst e2
          have hargs : c.args.toList.map a.eval = [cx, cy] := hcs.symm.trans e1
          have hci : E.P.cellsOf e = i.size := by simp [Program.cellsOf, hi]
          · simp only [beq_iff_eq, hci] at hzz
            have hzs : z.cells.size = i.size := by rw [← hzz, ofValue_cells]; simp
            obtain ⟨news, hsrc, hnews⟩ := news_ok gam E hp.ms hi hy hnew hwd hone hyl
            have hnl := hsrc.newsLen
            have nothing : ∀ (b : Option Addr) (k : Nat) (hcx : ∃ n, cx = .slice b n k ∧ n ≤ k), new = [] → (Builtin.append_ #[t, tx] o.type #[cx, cy]).run E.P w = .ok cx w := by
              rintro b k ⟨n, rfl, hle⟩ h0
              subst h0
              have : news = [] := by
                have : news.length = 0 := by rw [hnl]; simp
                exact List.eq_nil_of_length_eq_zero this
              subst this
              exact run_append_nothing w t tx o.type e i hut hi b n k hle cy hsrc
            split at h
            · -- nil
              have hcx : cx = .slice none 0 0 := hx
              split at h
              · rename_i hne
                simp only [Option.some.injEq, Prod.mk.injEq] at h
                obtain ⟨rfl, rfl⟩ := h
                exact OpGoes.value (append_run ho hcal hat hargs (nothing none 0 ⟨0, hcx, Nat.le_refl _⟩ (List.isEmpty_iff.1 hne))) ⟨g, hp.poor gam E hx⟩
              · rename_i hne
                split at h
                · rename_i hlen
                  simp only [Option.some.injEq, Prod.mk.injEq] at h
                  obtain ⟨rfl, rfl⟩ := h
                  subst hcx
                  have hpos : 0 < new.length := by
                    cases new with
                    | nil => simp at hne
                    | cons _ _ => simp
                  have hrun := run_append_grow_src w t tx o.type e i z hut hi hz none 0 0 [] (run_firstCells_none w.drew i.size 0 0 0) cy new.length news hsrc (by omega) (by omega) (nextcap_fits (by omega) (by omega) hby)
                  have hC := grownCap_ge w (0 + new.length) 0 e
                  have hrow := row_ok gam (w := w) (g := g) (R := R) (m := m0) (N := N) (es := new) (cap := none) (z := i.size) (n := new.length) (C := grownCap w (0 + new.length) 0 e) hp.ms
                    (w' := w.drew.alloc (.cells (([] ++ news).toArray ++ Builtin.zeroCells z.cells (grownCap w (0 + new.length) 0 e - (0 + new.length))) e)) ⟨rfl, rfl, rfl, rfl⟩ hp.ti (hp.nn N (Nat.le_refl N))
                    hnews.wide rfl (by omega) (fun c hc => by cases hc)
                    (by rw [Array.size_append, zeroCells_size, hzs]
                        simp only [List.nil_append, List.size_toArray, hnl]
                        rw [← Nat.add_mul]
                        exact Nat.mul_le_mul_right _ (by omega))
                    (fun k _ h => by omega)
                    (fun k j e' x' he hx' => by
                      obtain ⟨cc, h1, h2⟩ := hnews.get k j e' x' he hx'
                      refine ⟨cc, ?_, h2⟩
                      have hlt := (List.getElem?_eq_some_iff.1 h1).1
                      rw [Array.getElem?_append_left (by simpa using hlt)]
                      simpa using h1)
                  refine OpGoes.value (append_run ho hcal hat hargs hrun) ⟨g.new N ⟨w.heap.size, 0, i.size, grownCap w (0 + new.length) 0 e⟩, ?_⟩
                  have := hrow
                  simp only [Nat.zero_add] at this ⊢
                  exact this
                · cases h
            · -- an empty slice that is frozen
              split at h
              · rename_i hne
                simp only [Option.some.injEq, Prod.mk.injEq] at h
                obtain ⟨rfl, rfl⟩ := h
                obtain ⟨a1, b, o', z', k, hcx, hk, _⟩ := hx
                exact OpGoes.value (append_run ho hcal hat hargs (nothing _ k ⟨_, hcx, hk⟩ (List.isEmpty_iff.1 hne))) ⟨g, hp.poor gam E ⟨a1, b, o', z', k, hcx, hk, .inl rfl, trivial⟩⟩
              · cases h
            · rename_i r p _ _ _ _
              split at h
              · rename_i es0 cap0 hget0
                by_cases hc0 : (if es0.isEmpty = true then cap0 == some 0 else wide (E.P.cellsOf e) es0) = true
                · rw [if_pos hc0] at h
                  cases htk : takeS m0 (.als r p _ _ _ _) with
                  | none => rw [htk] at h; cases h
                  | some y1 =>
                    obtain ⟨es, cap, m1⟩ := y1
                    rw [htk] at h
                    simp only at h
                    split at h
                    · rename_i hlen
                      simp only [Option.some.injEq, Prod.mk.injEq] at h
                      obtain ⟨rfl, rfl⟩ := h
                      obtain ⟨c', w', h1, g', h2⟩ := append_own_ok gam E hp hx hget0 hc0 htk hlen hut hi hz hzs hby hsrc hnews o.type
                      exact OpGoes.value (append_run ho hcal hat hargs h1) ⟨g', h2⟩
                    · cases h
                · rw [if_neg hc0] at h; cases h
              · cases h
            · cases h
        · cases h
    · cases h
  · cases h
end
end Go.Bv
/- What a store of one cell comes to. -/
namespace Go.Bv
open Go

theorem setKid_self {v : V} {s : Nat × Nat} {c : V} (h : v.kid s = some c) : v.setKid s c = v := by
  obtain ⟨i, j⟩ := s
  have hset : ∀ {l : List V} {j : Nat}, l[j]? = some c → l.set j c = l := by
    intro l j h
    obtain ⟨h1, h2⟩ := List.getElem?_eq_some_iff.1 h
    rw [← h2, List.set_getElem_self]
  cases v with
  | own es cap =>
    simp only [V.kid, V.setKid] at h ⊢
    cases he : es[i]? with
    | none => rfl
    | some e =>
      simp only [he] at h ⊢
      rw [hset h]
      obtain ⟨h1, h2⟩ := List.getElem?_eq_some_iff.1 he
      rw [← h2, List.set_getElem_self]
  | box cs => simp only [V.kid, V.setKid] at h ⊢; split at h; rw [hset h]; cases h
  | tup cs => simp only [V.kid, V.setKid] at h ⊢; split at h; rw [hset h]; cases h
  | agg cs => simp only [V.kid, V.setKid] at h ⊢; split at h; rw [hset h]; cases h
  | fn f pre cs => simp only [V.kid, V.setKid] at h ⊢; split at h; rw [hset h]; cases h
  | _ => simp [V.kid] at h

theorem put_self : ∀ {p : Path} {v x : V}, v.get p = some x → V.put x v p = some v
  | [], v, x, h => by rw [get_nil] at h; cases h; rfl
  | s :: p, v, x, h => by
    rw [get_cons] at h
    rw [put_cons]
    cases hk : v.kid s with
    | none => simp [hk] at h
    | some c =>
      simp only [hk] at h ⊢
      rw [put_self h]
      simp only
      rw [setKid_self hk]

theorem lay_self : ∀ {rs : List (Nat × V)} {r : Nat} {t : V}, look rs r = some t → lay t rs r = rs
  | [], _, _, h => by cases h
  | (r0, v) :: l, r, t, h => by
    simp only [look] at h
    simp only [lay]
    split at h
    · rename_i e; cases h; rw [if_pos e, beq_iff_eq.1 e]
    · rename_i e; rw [if_neg e, lay_self h]

section
variable (gam : Nat → Option (Nat × Nat))

/-- Whose cell is stored: an owner at a place, its base. -/
structure Par (g : Gh) (R : Roots) (m : M) (r : Nat) (p : Path) (s : Nat × Nat) (B : Base) : Prop where
  ow : ∃ t u old, look m.rs r = some t ∧ t.get p = some u ∧ u.owner = true ∧ u.kid s = some old
  bs : g.base r p = some B

theorem par_of_put {g : Gh} {R : Roots} {m m' : M} {X : Nat → Path → Prop} {r : Nat} {p : Path} {s : Nat × Nat} {x : V} {B : Base} (hput : m.put r (p ++ [s]) x = some m') (hB : g.base r p = some B) (hT : Tight g (over R m.rs) X) (hX : ¬ X r p) : Par g R m r p s B := by
  obtain ⟨t, t', h1, h2, _⟩ := M.put_look hput
  obtain ⟨u, k, k', h3, h4, h5, _⟩ := put_get_above h2
  refine ⟨⟨t, u, k, h1, h3, ?_, h4⟩, hB⟩
  rcases hT r p B hB with ⟨v, hv, ho⟩ | h
  · simp only [rget, over_look h1, h3] at hv
    cases hv; exact ho
  · exact (hX h).elim

/-- What floats at a cell's place is laid there, and the cell says so. -/
theorem put_cell {g : Gh} {w : World} {R : Roots} {m m' : M} {cs : List Value} {r : Nat} {p : Path} {s : Nat × Nat} {x : V} {c : Value} {B : Base} (hS : MS gam g w R m cs) (hput : m.put r (p ++ [s]) x = some m') (hP : Par g R m r p s B)
    (hx : PartOk gam g w r (p ++ [s]) x c) (hT : Tight g (over R m.rs) (fun y q => At r (p ++ [s]) (y, q))) :
    MS gam g (w.setCell ⟨B.b, B.o + s.1 * B.z + s.2, none⟩ c) R m' cs ∧ MT gam g w m g (w.setCell ⟨B.b, B.o + s.1 * B.z + s.2, none⟩ c) m' ∧ Tight g (over R m'.rs) (fun _ _ => False) := by
  obtain ⟨⟨t, u, old, h1, h2, h3, h4⟩, hB⟩ := hP
  obtain ⟨t0, t', h10, h5, e1⟩ := M.put_look hput
  rw [h1] at h10; cases h10
  have hR' : ∀ y, over R m'.rs y = if y = r then some t' else over R m.rs y := by intro y; rw [e1]; exact over_lay h1 y
  obtain ⟨a1, a2, a3⟩ := store_at gam hS.cl hS.wf hS.gl (over_look h1) h2 h3 h4 hB h5 hR' hx.fl hx.ck
  refine ⟨⟨by rw [e1]; exact hS.vs, a1, hS.wf.over_put hput (.inr hx.ol) hx.wf, a2⟩, ⟨a3, ⟨[], by rw [e1]; simp, fun v c h => h⟩, by rw [e1], ?_, fun y hy => by rw [e1]; exact hy, fun _ _ _ _ h => .inr h⟩, ?_⟩
  · intro y
    rw [e1]
    show (look (lay t' m.rs r) y).isSome = _
    rw [look_lay h1]
    split
    · rename_i e; rw [e, h1]; rfl
    · rfl
  · refine (hT.land hput hx.ex).weaken ?_
    rintro y q ⟨h1, h2⟩
    exact h2 h1

/-- An owner goes from its place to a cell. -/
theorem take_cell {g : Gh} {w : World} {R : Roots} {m m1 m' : M} {cs : List Value} {r r2 : Nat} {p p2 : Path} {s : Nat × Nat} {v old : V} {c : Value} {B : Base} (hS : MS gam g w R m cs) (hT : Tight g (over R m.rs) (fun _ _ => False)) (hB : g.base r p = some B)
    (ht : m.take r2 p2 (some (r, p ++ [s])) = some (v, m1)) (hput : m1.put r (p ++ [s]) v = some m') (hold : m.get r (p ++ [s]) = some old) (hoo : old.owner = false)
    (hck : ∀ g' : Gh, g'.base r (p ++ [s]) = g.base r2 p2 → Ck gam g' r (p ++ [s]) v c) :
    ∃ g', MS gam g' (w.setCell ⟨B.b, B.o + s.1 * B.z + s.2, none⟩ c) R m' cs ∧ MT gam g w m g' (w.setCell ⟨B.b, B.o + s.1 * B.z + s.2, none⟩ c) m' ∧ Tight g' (over R m'.rs) (fun _ _ => False) ∧ g'.base r p = some B := by
  obtain ⟨t0, ht0, hg0⟩ := M.get_look hold
  have hol : Leaf old := by
    intro s'
    cases hk : old.kid s' with
    | none => rfl
    | some y =>
      have h1 := (hS.wf r t0 (over_look ht0)).mid hg0 hoo hk
      simp at h1
  have hfree : FreeAt g (over R m.rs) r (p ++ [s]) := by
    refine hT.freeAt (fun q ⟨u, hu, ho⟩ => ?_) (fun _ h => h)
    simp only [rget, over_look ht0, get_append t0 (p ++ [s]) q, hg0] at hu
    cases q with
    | nil => rw [get_nil] at hu; cases hu; rw [hoo] at ho; cases ho
    | cons s' q => rw [get_cons, hol s'] at hu; cases hu
  obtain ⟨hget, ho, hwf, _, hS1, hM1, hF⟩ := take_ok gam hS ht r (p ++ [s]) (fun y e => by cases e; rfl) (fun e => by cases e) hfree
  obtain ⟨_, _, m2, st, hput2, em, _, hfr⟩ := take_shape ht
  obtain ⟨_, hfar⟩ := hfr r (p ++ [s]) rfl
  have hna : ¬ At r2 p2 (r, p) := by
    rintro ⟨e, q, e2⟩
    simp only at e e2
    subst e
    rcases hfar with h | h
    · exact h rfl
    · exact h.1 (q ++ [s]) (by rw [e2, List.append_assoc])
  have hnb : ¬ At r (p ++ [s]) (r, p) := by
    rintro ⟨_, q, e2⟩
    simp only at e2
    have := congrArg List.length e2
    simp at this
  have hB1 : (g.move r2 p2 r (p ++ [s])).base r p = some B := by rw [move_base_other g hnb hna]; exact hB
  have hT1 : Tight (g.move r2 p2 r (p ++ [s])) (over R m1.rs) (fun y q => At r (p ++ [s]) (y, q)) := by
    have := hT.move (r2 := r) (p2 := p ++ [s]) hput2
    rw [em]
    show Tight _ (over R (m2.mark r2 p2).rs) _
    rw [mark_rs]
    exact this.weaken fun y q h => h.elim False.elim id
  obtain ⟨t2, ht2, hg2⟩ := M.get_look hget
  have hpart : PartOk gam (g.move r2 p2 r (p ++ [s])) w r (p ++ [s]) v c := by
    refine ⟨hF, hck _ ?_, hwf, .inl ho, fun q B' hB' => ?_⟩
    · have := move_base_to g r2 p2 r (p ++ [s]) []
      simpa using this
    · rw [move_base_to] at hB'
      rcases hT _ _ _ hB' with ⟨u, hu, huo⟩ | hh
      · refine ⟨u, ?_, huo⟩
        simp only [rget, over_look ht2, get_append, hg2] at hu
        exact hu
      · exact hh.elim
  have hP := par_of_put hput hB1 hT1 hnb
  obtain ⟨a1, a2, a3⟩ := put_cell gam hS1 hput hP hpart hT1
  exact ⟨_, a1, hM1.trans gam a2, a3, hB1⟩

/-- A slice, as long as its name says, goes to a cell. -/
theorem takeS_cell {g : Gh} {w : World} {R : Roots} {m m1 m' : M} {cs : List Value} {r : Nat} {p : Path} {s : Nat × Nat} {x : V} {es : List (List V)} {cap : Option Nat} {c : Value} {B : Base} (N : Nat) (hN : over R m.rs N = none) (hS : MS gam g w R m cs)
    (hT : Tight g (over R m.rs) (fun _ _ => False)) (hB : g.base r p = some B)
    (ht : takeS m x = some (es, cap, m1)) (hx : Sv gam g x c) (hput : m1.put r (p ++ [s]) (.own es cap) = some m') (hold : ∀ old, m1.get r (p ++ [s]) = some old → old.owner = false) :
    ∃ g', MS gam g' (w.setCell ⟨B.b, B.o + s.1 * B.z + s.2, none⟩ c) R m' (cs) ∧ MT gam g w m g' (w.setCell ⟨B.b, B.o + s.1 * B.z + s.2, none⟩ c) m' ∧ Tight g' (over R m'.rs) (fun _ _ => False) ∧ g'.base r p = some B := by
  have hlkN : ∀ u, look m.rs N ≠ some u := fun u hu => by simp only [over, hu] at hN; cases hN
  have hrN : ∀ r p, (∃ u, m.get r p = some u) → r ≠ N := by
    rintro r p ⟨u, hu⟩ rfl
    obtain ⟨t, ht, _⟩ := M.get_look hu
    exact hlkN t ht
  have hnb : ∀ q, g.base N q = none := by
    intro q
    cases hB : g.base N q with
    | none => rfl
    | some B =>
      rcases hT N q B hB with ⟨u, hu, _⟩ | h
      · simp only [rget, hN] at hu; cases hu
      · exact h.elim
  obtain ⟨g1, hS1, hM1, hFl, hCk, hWf, hEx, r2, p2, i2, n2, es0, cap0, m2, hv, hget, hput2, hrs, hlg, hvs, hbo, hlam, hrho, _⟩ :=
    takeS_ok gam hS ht hx N [] ⟨fun q => by simpa using hnb q, fun q hq ⟨e1, _⟩ => by
      obtain ⟨y, q⟩ := q
      simp only at e1
      subst e1
      exact still_none hN q hq⟩ (fun r p hu => .inl (hrN r p hu))
  have hr2 : r2 ≠ N := hrN r2 p2 ⟨_, hget⟩
  have hNm : over R m1.rs N = none := over_ks gam hM1 hN
  have hT1 : Tight g1 (over R m1.rs) (fun y _ => y = N) := by
    intro x q B' hB'
    by_cases hx : x = N
    · exact .inr hx
    · left
      rw [hbo x q (fun h => hx h.1)] at hB'
      rw [show over R m1.rs = over R m2.rs by rw [hrs]]
      rcases hT.move (r2 := N) (p2 := []) hput2 x q B' hB' with h | h | h
      · exact h
      · exact h.elim
      · exact (hx h.1).elim
  obtain ⟨t, t', h1, h2, e1⟩ := M.put_look hput
  have hrn : r ≠ N := by
    rintro rfl
    simp only [over, h1] at hNm; cases hNm
  have hB1 : g1.base r p = some B := by
    rw [hbo r p (fun h => hrn h.1), move_base_other]
    · exact hB
    · exact fun h => hrn h.1
    · rintro ⟨e, q, e2⟩
      simp only at e e2
      subst e
      -- the way to the cell is cut
      obtain ⟨u, k, k', h3, h4, h5, _⟩ := put_get_above h2
      have hlk2 : look m2.rs r = some t := by rw [← hrs]; exact h1
      obtain ⟨t3, t3', h6, h7, e3⟩ := M.put_look hput2
      rw [e3] at hlk2
      have hlk2 : look (lay t3' m.rs r) r = some t := hlk2
      rw [look_lay h6, if_pos rfl] at hlk2
      cases hlk2
      have := put_get_below h7 q
      rw [← e2, h3] at this
      cases q with
      | nil => rw [get_nil] at this; cases this; rw [any_leaf] at h4; cases h4
      | cons a q => rw [get_cons, any_leaf] at this; cases this
  obtain ⟨old, hgo⟩ := put_get_some h2
  have holdo := hold old (by simp only [M.get, h1]; exact hgo)
  have hol : Leaf old := by
    intro s'
    cases hk : old.kid s' with
    | none => rfl
    | some y =>
      have := (hS1.wf r t (over_look h1)).mid hgo holdo hk
      simp at this
  have hnl : ∀ q, ¬ Live (over R m1.rs) (r, p ++ [s] ++ q) := by
    rintro q ⟨u, hu, ho⟩
    simp only [rget, over_look h1, get_append t (p ++ [s]) q, hgo] at hu
    cases q with
    | nil => rw [get_nil] at hu; cases hu; rw [holdo] at ho; cases ho
    | cons s' q => rw [get_cons, hol s'] at hu; cases hu
  have hfree : FreeAt g1 (over R m1.rs) r (p ++ [s]) := hT1.freeAt hnl (fun _ h => hrn h)
  have hStill : Still (over R m1.rs) N := still_none hNm
  let g2 := g1.move N [] r (p ++ [s])
  have hb2 : ∀ y q B, y ≠ N → g1.base y q = some B → g2.base y q = some B := by
    intro y q B' hy hB'
    show (g1.move N [] r (p ++ [s])).base y q = _
    rw [move_base_other]
    · exact hB'
    · rintro ⟨e, q', e2⟩
      simp only at e e2
      subst e; subst e2
      rw [hfree.base] at hB'; cases hB'
    · exact fun h => hy h.1
  have hNs : N ∉ stepRoots [Step.drop r2 p2] := by
    simp only [stepRoots, Step.roots, List.append_nil, List.mem_singleton]
    exact fun e => hr2 e.symm
  have hM2 : MT gam g w m g2 w m1 := MT.reg gam hM1 hlg hNs hnb (Fr.move g1 w N [] r (p ++ [s])) hb2
  have hS2 : MS gam g2 w R m1 cs := by
    refine ⟨?_, ?_, hS1.wf, hS1.gl.move _ _ _ _⟩
    · refine Svs.keepR gam (N := N) (g := g1) (g' := g2) (Grows.refl _) hb2 _ _ ?_ hS1.vs
      rw [hvs]
      exact roots_sweeps (by simpa [stepRoots] using hNs) _ (Svs.noRoot gam hnb _ _ hS.vs)
    · refine Claims.keep gam (g := g1) (g' := g2) (Grows.refl _) (fun y q B' hl hB' => hb2 y q B' (fun e => hStill q (e ▸ hl)) hB') (fun b k q hl hq => ?_) (fun _ _ _ _ _ _ h => h) hS1.cl
      refine move_lam_other g1 hq ?_
      rintro ⟨e, _⟩
      obtain ⟨y, q⟩ := q
      simp only at e; subst e
      exact hStill q hl
  have hto : ∀ q, g2.base r (p ++ [s] ++ q) = g1.base N q := fun q => by
    have := move_base_to g1 N [] r (p ++ [s]) q
    simpa using this
  have hT2 : Tight g2 (over R m1.rs) (fun y q => At r (p ++ [s]) (y, q)) := by
    intro y q B' hB'
    by_cases hat : At r (p ++ [s]) (y, q)
    · exact .inr hat
    · left
      by_cases hy : y = N
      · subst hy
        have : g2.base y q = none := by
          show (g1.move y [] r (p ++ [s])).base y q = none
          simp only [Gh.move, if_neg (fun h => hrn h.symm : ¬ y = r), if_pos]
          rfl
        rw [this] at hB'; cases hB'
      · have : g2.base y q = g1.base y q := move_base_other g1 hat (fun h => hy h.1)
        rw [this] at hB'
        rcases hT1 y q B' hB' with h | h
        · exact h
        · exact (hy h).elim
  have hpart : PartOk gam g2 w r (p ++ [s]) (.own es cap) c := by
    refine ⟨hFl.moved gam, ?_, hWf, .inl rfl, fun q B' hB' => ?_⟩
    · obtain ⟨B', hB', e⟩ := hCk
      exact ⟨B', by have := hto []; rw [List.append_nil] at this; rw [this]; exact hB', e⟩
    · rw [hto] at hB'
      exact hEx q B' (by simpa using hB')
  have hnb2 : ¬ At r (p ++ [s]) (r, p) := by
    rintro ⟨_, q, e2⟩
    simp only at e2
    have := congrArg List.length e2
    simp at this
  have hB2 : g2.base r p = some B := hb2 r p B hrn hB1
  obtain ⟨a1, a2, a3⟩ := put_cell gam hS2 hput (par_of_put hput hB2 hT2 hnb2) hpart hT2
  exact ⟨g2, a1, hM2.trans gam a2, a3, hB2⟩
end
end Go.Bv
/- What a store comes to. -/
namespace Go.Bv
open Go

section
variable (gam : Nat → Option (Nat × Nat)) (E : Env)

/-- A value that names a place. -/
def NamesAt (x : V) (r : Nat) (p : Path) : Prop := (∃ i j, x = .al r p i j) ∨ ∃ i j n z, x = .als r p i j n z

theorem get_any {m m' : M} {r : Nat} {p : Path} (h : m.put r p .any = some m') : m'.get r p = some .any := by
  obtain ⟨t, t', h1, h2, e⟩ := M.put_look h
  have := put_get_below h2 []
  rw [List.append_nil, get_nil] at this
  simp only [M.get, e]
  rw [look_lay h1, if_pos rfl]
  exact this

theorem live_get {R : Roots} {m : M} {r : Nat} {p : Path} {u : V} (h : m.get r p = some u) (ho : u.owner = true) : Live (over R m.rs) (r, p) := by
  obtain ⟨t, h1, h2⟩ := M.get_look h
  exact ⟨u, by simp only [rget, over_look h1]; exact h2, ho⟩

theorem get_live {R : Roots} {m : M} {r : Nat} {p : Path} (h : ∃ t, look m.rs r = some t) (hl : Live (over R m.rs) (r, p)) : ∃ u, m.get r p = some u ∧ u.owner = true := by
  obtain ⟨t, ht⟩ := h
  obtain ⟨u, hu, ho⟩ := hl
  simp only [rget, over_look ht] at hu
  exact ⟨u, by simp only [M.get, ht]; exact hu, ho⟩

theorem free_cell {g : Gh} {w : World} {R : Roots} {m : M} {cs : List Value} {r : Nat} {p : Path} {s : Nat × Nat} {old : V} (hS : MS gam g w R m cs) (hT : Tight g (over R m.rs) (fun _ _ => False)) (hold : m.get r (p ++ [s]) = some old) (hoo : old.owner = false) :
    FreeAt g (over R m.rs) r (p ++ [s]) := by
  obtain ⟨t0, ht0, hg0⟩ := M.get_look hold
  have hol : Leaf old := by
    intro s'
    cases hk : old.kid s' with
    | none => rfl
    | some y =>
      have h1 := (hS.wf r t0 (over_look ht0)).mid hg0 hoo hk
      simp at h1
  refine hT.freeAt (fun q ⟨u, hu, ho⟩ => ?_) (fun _ h => h)
  simp only [rget, over_look ht0, get_append t0 (p ++ [s]) q, hg0] at hu
  cases q with
  | nil => rw [get_nil] at hu; cases hu; rw [hoo] at ho; cases ho
  | cons s' q => rw [get_cons, hol s'] at hu; cases hu

theorem storeCell_ok {g : Gh} {w : World} {R : Roots} {m m' : M} {cs : List Value} {r : Nat} {p : Path} {s : Nat × Nat} {x : V} {c : Value} {B : Base} {N : Nat} (hN : over R m.rs N = none) (hS : MS gam g w R m cs)
    (hT : Tight g (over R m.rs) (fun _ _ => False)) (hB : g.base r p = some B) (h : storeCell m r (p ++ [s]) x = some m') (hx : Sv gam g x c)
    (hold : ∀ old, m.get r (p ++ [s]) = some old → old.owner = false ∨ NamesAt x r (p ++ [s])) (hget : ∃ old, m.get r (p ++ [s]) = some old) :
    ∃ g', MS gam g' (w.setCell ⟨B.b, B.o + s.1 * B.z + s.2, none⟩ c) R m' cs ∧ MT gam g w m g' (w.setCell ⟨B.b, B.o + s.1 * B.z + s.2, none⟩ c) m' ∧ Tight g' (over R m'.rs) (fun _ _ => False) ∧ g'.base r p = some B ∧ c.oneCell' = true := by
  have plain : x.one = true → m.put r (p ++ [s]) x = some m' → ∃ g', MS gam g' (w.setCell ⟨B.b, B.o + s.1 * B.z + s.2, none⟩ c) R m' cs ∧ MT gam g w m g' (w.setCell ⟨B.b, B.o + s.1 * B.z + s.2, none⟩ c) m' ∧
      Tight g' (over R m'.rs) (fun _ _ => False) ∧ g'.base r p = some B ∧ c.oneCell' = true := by
    intro ho hput
    have hpv := plain_pv gam (one_plain ho) hx
    obtain ⟨old, hgo⟩ := hget
    have hoo : old.owner = false := by
      rcases hold old hgo with h1 | ⟨i, j, rfl⟩ | ⟨i, j, n, z, rfl⟩
      · exact h1
      · cases ho
      · cases ho
    have hfree := free_cell gam hS hT hgo hoo
    obtain ⟨a1, a2, a3⟩ := put_cell gam hS hput (par_of_put hput hB hT (fun h => h)) (part_plain gam (one_plain ho) hpv hfree.base) (hT.weaken fun _ _ h => h.elim)
    exact ⟨g, a1, a2, a3, hB, one_cell gam ho hpv⟩
  cases x with
  | als r2 p2 i j n z =>
    simp only [storeCell] at h
    split at h
    · rename_i hc
      simp only [Bool.and_eq_true, Bool.not_eq_true', beq_iff_eq] at hc
      obtain ⟨⟨⟨⟨hns, rfl⟩, rfl⟩, rfl⟩, hfn⟩ := hc
      cases ht : m.take r2 p2 (some (r, p ++ [s])) with
      | none => rw [ht] at h; cases h
      | some y =>
        obtain ⟨v, m1⟩ := y
        rw [ht] at h
        obtain ⟨old, hgo⟩ := hget
        have hoo : old.owner = false := by
          rcases hold old hgo with h1 | ⟨i, j, e⟩ | ⟨i, j, n, z, e⟩
          · exact h1
          · cases e
          · cases e; simp at hns
        obtain ⟨hg2, _⟩ := take_shape ht
        unfold fullName at hfn
        rw [hg2] at hfn
        obtain ⟨B2, k, hB2, hc2, hnk, hk⟩ := hx
        obtain ⟨_, hkC⟩ := hk rfl
        obtain ⟨g', a1, a2, a3, a4⟩ := take_cell gam (c := c) hS hT hB ht h hgo hoo (fun g' hg' => by
          cases v with
          | own es cap =>
            simp only [beq_iff_eq] at hfn
            refine ⟨B2, by rw [hg']; exact hB2, ?_⟩
            rw [hc2, hfn, show k = B2.C by omega]
            simp
          | _ => cases hfn)
        exact ⟨g', a1, a2, a3, a4, by rw [hc2]; rfl⟩
    · rename_i hc
      cases ht : takeS m (.als r2 p2 i j n z) with
      | none => rw [ht] at h; cases h
      | some y =>
        obtain ⟨es, cap, m1⟩ := y
        rw [ht] at h
        simp only at h
        have hc2 : ∃ b k, c = slc b k n (c.cells.size) ∨ c.oneCell' = true := by
          obtain ⟨B2, k, _, hc2, _⟩ := hx
          exact ⟨0, 0, .inr (by rw [hc2]; rfl)⟩
        have hone : c.oneCell' = true := by
          obtain ⟨B2, k, _, hc2, _⟩ := hx
          rw [hc2]; rfl
        obtain ⟨g', a1, a2, a3, a4⟩ := takeS_cell gam N hN hS hT hB ht hx h (by
          intro old' hgo'
          -- the shape of the taking
          cases j with
          | succ j => simp [takeS] at ht
          | zero =>
          cases z with
          | succ z => simp [takeS] at ht
          | zero =>
            simp only [takeS] at ht
            cases htk : m.take r2 p2 none with
            | none => simp [htk] at ht
            | some y =>
              obtain ⟨u, m2⟩ := y
              simp only [htk] at ht
              split at ht
              · rename_i es0 cap0 m3 e0
                cases e0
                split at ht
                · simp only [Option.some.injEq, Prod.mk.injEq] at ht
                  obtain ⟨_, _, rfl⟩ := ht
                  obtain ⟨_, _, m4, st, hput4, em, _⟩ := take_shape htk
                  have hrs : m2.rs = m4.rs := by rw [em]; show (m4.mark r2 p2).rs = _; rw [mark_rs]
                  have hgo4 : m4.get r (p ++ [s]) = some old' := by
                    simp only [M.get, hrs] at hgo' ⊢; exact hgo'
                  cases hoo : old'.owner with
                  | false => rfl
                  | true =>
                    have hl := live_over hput4 (by rfl) any_leaf (live_get (R := R) hgo4 hoo)
                    obtain ⟨old, hgo⟩ := hget
                    obtain ⟨t, ht1, _⟩ := M.get_look hgo
                    obtain ⟨u2, hu2, ho2⟩ := get_live ⟨t, ht1⟩ hl
                    rw [hgo] at hu2; cases hu2
                    rcases hold old hgo with h1 | ⟨i, j, e⟩ | ⟨i, j, n, z, e⟩
                    · rw [h1] at ho2; cases ho2
                    · cases e
                    · cases e
                      have := get_any hput4
                      rw [hgo4] at this
                      cases this; cases hoo
                · cases ht
              · cases ht)
        exact ⟨g', a1, a2, a3, a4, hone⟩
  | al r2 p2 i j =>
    simp only [storeCell] at h
    split at h
    · rename_i hc
      simp only [Bool.and_eq_true, beq_iff_eq] at hc
      obtain ⟨rfl, rfl⟩ := hc
      split at h
      · rename_i bs hbox
        obtain ⟨B2, hB2, hc2⟩ := hx
        split at h
        · rename_i hsame
          simp only [Bool.and_eq_true, beq_iff_eq] at hsame
          obtain ⟨rfl, rfl⟩ := hsame
          simp only [Option.some.injEq] at h
          subst h
          obtain ⟨t, h1, h2⟩ := M.get_look hbox
          have hput : m.put r2 (p ++ [s]) (.box bs) = some m := by
            simp only [M.put, h1, put_self h2, lay_self h1]
          have hpart : PartOk gam g w r2 (p ++ [s]) (.box bs) c := by
            refine ⟨fun q u hu => hS.cl r2 (p ++ [s] ++ q) u (by simp only [rget, over_look h1]; rw [get_append t (p ++ [s]) q, h2]; exact hu), ⟨B2, hB2, by rw [hc2]; simp⟩, (hS.wf r2 t (over_look h1)).sub h2, .inl rfl, fun q B' hB' => ?_⟩
            rcases hT _ _ _ hB' with ⟨u, hu, ho⟩ | hh
            · simp only [rget, over_look h1, get_append t (p ++ [s]) q, h2] at hu
              exact ⟨u, hu, ho⟩
            · exact hh.elim
          obtain ⟨a1, a2, a3⟩ := put_cell gam hS hput (par_of_put hput hB hT (fun h => h)) hpart (hT.weaken fun _ _ h => h.elim)
          exact ⟨g, a1, a2, a3, hB, by rw [hc2]; rfl⟩
        · rename_i hns
          cases ht : m.take r2 p2 (some (r, p ++ [s])) with
          | none => rw [ht] at h; cases h
          | some y =>
            obtain ⟨v, m1⟩ := y
            rw [ht] at h
            obtain ⟨old, hgo⟩ := hget
            have hoo : old.owner = false := by
              rcases hold old hgo with h1 | ⟨i, j, e⟩ | ⟨i, j, n, z, e⟩
              · exact h1
              · cases e; simp at hns
              · cases e
            obtain ⟨hg2, _⟩ := take_shape ht
            rw [hbox] at hg2; cases hg2
            obtain ⟨g', a1, a2, a3, a4⟩ := take_cell gam (c := c) hS hT hB ht h hgo hoo (fun g' hg' => ⟨B2, by rw [hg']; exact hB2, by rw [hc2]; simp⟩)
            exact ⟨g', a1, a2, a3, a4, by rw [hc2]; rfl⟩
      · cases h
    · cases h
  | fn f pre caps => simp only [storeCell] at h; split at h; exact plain (by assumption) h; cases h
  | sc y => simp only [storeCell] at h; split at h; exact plain (by assumption) h; cases h
  | int k n => simp only [storeCell] at h; split at h; exact plain (by assumption) h; cases h
  | bool b => simp only [storeCell] at h; split at h; exact plain (by assumption) h; cases h
  | str b => simp only [storeCell] at h; split at h; exact plain (by assumption) h; cases h
  | ifc t y => simp only [storeCell] at h; split at h; exact plain (by assumption) h; cases h
  | ro es => simp only [storeCell] at h; split at h; exact plain (by assumption) h; cases h
  | rop es j => simp only [storeCell] at h; split at h; exact plain (by assumption) h; cases h
  | gp a j => simp only [storeCell] at h; split at h; exact plain (by assumption) h; cases h
  | any => simp [storeCell, V.one] at h
  | agg _ => simp [storeCell, V.one] at h
  | tup _ => simp [storeCell, V.one] at h
  | box _ => simp [storeCell, V.one] at h
  | own _ _ => simp [storeCell, V.one] at h

/-- What a store lays over is set aside. -/
theorem clear_ok {g : Gh} {w : World} {R : Roots} {m m' : M} {cs : List Value} {r : Nat} {p : Path} {s : Nat × Nat} {x : V} {B : Base} (hS : MS gam g w R m cs) (hn : 0 < m.n) (hT : Tight g (over R m.rs) (fun _ _ => False)) (hB : g.base r p = some B)
    (h : clearCell m r (p ++ [s]) x = some m') :
    ∃ g', MS gam g' w R m' cs ∧ MT gam g w m g' w m' ∧ Tight g' (over R m'.rs) (fun _ _ => False) ∧ g'.base r p = some B ∧ (∃ old, m'.get r (p ++ [s]) = some old) ∧
      ((∀ old, m'.get r (p ++ [s]) = some old → old.owner = false) ∨ (m' = m ∧ NamesAt x r (p ++ [s]))) := by
  unfold clearCell at h
  cases hg : m.get r (p ++ [s]) with
  | none => rw [hg] at h; cases h
  | some old =>
    rw [hg] at h
    simp only at h
    have aside : setAside m r (p ++ [s]) = some m' → ∃ g', MS gam g' w R m' cs ∧ MT gam g w m g' w m' ∧ Tight g' (over R m'.rs) (fun _ _ => False) ∧ g'.base r p = some B ∧ (∃ old, m'.get r (p ++ [s]) = some old) ∧
        ((∀ old, m'.get r (p ++ [s]) = some old → old.owner = false) ∨ (m' = m ∧ NamesAt x r (p ++ [s]))) := by
      intro h
      unfold setAside at h
      cases hl : look m.rs (m.n - 1) with
      | none => rw [hl] at h; cases h
      | some t0 =>
        rw [hl] at h
        simp only at h
        obtain ⟨a1, a2, a3, a4, a5⟩ := anew_ok gam hS hl (by omega)
        have hnn : (anew (m.n - 1) m).n = m.n := rfl
        rw [hnn] at h
        cases ht : (anew (m.n - 1) m).take r (p ++ [s]) (some (m.n - 1, [])) with
        | none => rw [ht] at h; cases h
        | some y =>
          obtain ⟨v, m1⟩ := y
          rw [ht] at h
          simp only at h
          obtain ⟨hgt, ho, hwf, _, hS1, hM1, hF⟩ := take_ok gam a1 ht (m.n - 1) [] (fun y e => by cases e; rfl) (fun e => by cases e) a3
          have hn1 : m1.n = m.n := hM1.n
          rw [hn1] at h
          obtain ⟨_, _, m2, st, hput2, em, _, hfr⟩ := take_shape ht
          obtain ⟨t1, h1, h2⟩ := M.get_look hgt
          have hrd : r ≠ m.n - 1 := by
            rintro e
            have : Live (over R (anew (m.n - 1) m).rs) (r, p ++ [s]) := live_get hgt ho
            rw [e] at this
            exact a4 _ this
          have hT0 := (a5 _ hT).weaken (Y := fun _ _ => False) (fun _ _ h => h.1)
          have hrs1 : m1.rs = m2.rs := by rw [em]; show (m2.mark r (p ++ [s])).rs = _; rw [mark_rs]
          have hT1 : Tight ((g.free (m.n - 1)).move r (p ++ [s]) (m.n - 1) []) (over R m1.rs) (fun y q => At (m.n - 1) [] (y, q)) := by
            have := hT0.move (r2 := m.n - 1) (p2 := []) hput2
            rw [hrs1]
            exact this.weaken fun y q h => h.elim False.elim id
          -- the root that was made free
          obtain ⟨t2, t2', h3, h4, e4⟩ := M.put_look h
          rw [put_nil] at h4; cases h4
          have hR' : ∀ y, over R m'.rs y = if y = m.n - 1 then some v else over R m1.rs y := by intro y; rw [e4]; exact over_lay h3 y
          have hF' : Float gam ((g.free (m.n - 1)).move r (p ++ [s]) (m.n - 1) []) w (m.n - 1) [] v := hF
          have hcl : Claims gam ((g.free (m.n - 1)).move r (p ++ [s]) (m.n - 1) []) w (over R m'.rs) := root_at gam hS1.cl (over_look h3) hR' hF'
          have hMp : MT gam ((g.free (m.n - 1)).move r (p ++ [s]) (m.n - 1) []) w m1 ((g.free (m.n - 1)).move r (p ++ [s]) (m.n - 1) []) w m' := by
            refine ⟨Fr.refl _ _, ⟨[], by rw [e4]; simp, fun v c h => h⟩, by rw [e4], ?_, fun y hy => by rw [e4]; exact hy, fun _ _ _ _ h => .inr h⟩
            intro y
            rw [e4]
            show (look (lay v m1.rs (m.n - 1)) y).isSome = _
            rw [look_lay h3]
            split
            · rename_i e; rw [e, h3]; rfl
            · rfl
          have hgm : m'.get r (p ++ [s]) = some .any := by
            have := get_any hput2
            simp only [M.get, e4] at this ⊢
            rw [look_lay h3, if_neg hrd, hrs1]
            exact this
          refine ⟨_, ⟨by rw [e4]; exact hS1.vs, hcl, hS1.wf.over_put h (.inl rfl) hwf, hS1.gl⟩, a2.trans gam (hM1.trans gam hMp), ?_, ?_, ⟨_, hgm⟩, .inl fun old ho => by rw [hgm] at ho; cases ho; rfl⟩
          · refine (hT1.land h (fun q B' hB' => ?_)).weaken (fun y q h => h.2 h.1)
            rw [move_base_to] at hB'
            rcases hT0 _ _ _ hB' with ⟨u, hu, huo⟩ | hh
            · refine ⟨u, ?_, huo⟩
              simp only [rget, over_look h1, get_append t1 (p ++ [s]) q, h2] at hu
              exact hu
            · exact hh.elim
          · rw [move_base_other]
            · simp only [Gh.free]; rw [if_neg hrd]; exact hB
            · rintro ⟨e, _⟩; exact hrd e
            · rintro ⟨_, q, e2⟩
              simp only at e2
              have := congrArg List.length e2
              simp at this
    have keep : NamesAt x r (p ++ [s]) → some m = some m' → ∃ g', MS gam g' w R m' cs ∧ MT gam g w m g' w m' ∧ Tight g' (over R m'.rs) (fun _ _ => False) ∧ g'.base r p = some B ∧ (∃ old, m'.get r (p ++ [s]) = some old) ∧
        ((∀ old, m'.get r (p ++ [s]) = some old → old.owner = false) ∨ (m' = m ∧ NamesAt x r (p ++ [s]))) := by
      intro hx e
      cases e
      exact ⟨g, hS, MT.refl gam g w m, hT, hB, ⟨old, hg⟩, .inr ⟨rfl, hx⟩⟩
    split at h
    · split at h
      · rename_i r2 p2 i j n z
        split at h
        · rename_i e
          simp only [Bool.and_eq_true, beq_iff_eq] at e
          obtain ⟨rfl, rfl⟩ := e
          exact keep (.inr ⟨i, j, n, z, rfl⟩) h
        · exact aside h
      · rename_i r2 p2 i j
        split at h
        · rename_i e
          simp only [Bool.and_eq_true, beq_iff_eq] at e
          obtain ⟨rfl, rfl⟩ := e
          exact keep (.inl ⟨i, j, rfl⟩) h
        · exact aside h
      · exact aside h
    · rename_i hno
      cases h
      refine ⟨g, hS, MT.refl gam g w m, hT, hB, ⟨old, hg⟩, .inl fun o ho => ?_⟩
      rw [hg] at ho; cases ho
      simpa using hno
end
end Go.Bv
