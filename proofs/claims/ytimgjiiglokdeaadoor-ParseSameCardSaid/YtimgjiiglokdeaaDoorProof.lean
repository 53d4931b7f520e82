/- ParseSame returns true for every input, and its arguments read afterwards as they read before: for inputs of a weight that the row's own condition allows. -/
import Derived.Test.YtimgjiiglokdeaaDoorPart5
import Derived.Test.YtimgjiiglokdeaaDoorTie
import Derived.Test.YtimgjiiglokdeaaDoorCards
import Derived.SevenTiedAt
import Derived.JoinedOf
import Derived.ProofKit
import Derived.LaidMore
import Derived.Stop.Joined
namespace Go.Proofs.YtimgjiiglokdeaaDoor
open Go Go.Bv Go.Bv.P31
set_option maxRecDepth 100000

def gam0 (g : Nat) : Option (Nat × Nat) := some (g, 0)

theorem noGor : (Tryd.prog.funcs.toList.all fun fn => !(fn.name == "runtime.NumGoroutine")) = true := by kernel_rfl

theorem envOk : EnvOk gam0 E0 := ⟨fun w a b h => (by cases h), fun f fn h => by
  have h1 : fn ∈ Tryd.prog.funcs.toList := List.mem_of_getElem? (by rw [Array.getElem?_toList]; exact h)
  have := List.all_eq_true.1 noGor fn h1
  simpa using this⟩

theorem sound (fuel : Nat) : FunOk gam0 E0 (run E0 fuel) := run_sound gam0 E0 envOk (fun _ => rfl) (by kernel_rfl) (fun f p h => by cases h) fuel

def plainS : List TypeId := [22, 40, 37, 35, 61, 38, 50, 3, 4, 9]
theorem plainOk : plainSet Tryd.prog plainS = true := by kernel_rfl

theorem g4 : Tryd.prog.globalNamed "truchman/codes.words" = some 4 := by kernel_rfl
theorem g6 : Tryd.prog.globalNamed "truchman/glob.words" = some 6 := by kernel_rfl
theorem t4 : (Tryd.prog.globals[4]?).map (·.type) = some 110 := by kernel_rfl
theorem t6 : (Tryd.prog.globals[6]?).map (·.type) = some 136 := by kernel_rfl
def wsC : List (List UInt8) := [[115, 101],[110, 111, 112],[100, 109],[98, 114, 107],[105, 112],[97, 111],[97, 121, 116],[101, 99],[101, 108],[103, 97],[115, 98],[119, 105, 108, 108],[119, 111, 110, 116],[100, 111],[100, 111, 110, 116],[105, 97, 99]]
def wsG : List (List UInt8) := [[],[101, 120, 97, 99, 116],[103, 108, 111, 98],[114, 101, 103, 101, 120]]

theorem globOk {W : World} (h : laidMetH Tryd.prog Rows.parseSameRow.laid W) : GlobOk gam0 E0 (ghostOf W) := by
  rw [MakeChecks.laidMetH_plain _ _ _ (by kernel_rfl)] at h
  obtain ⟨ps, hv, _⟩ := h
  have h4 := glob_strs gam0 hv (n := "truchman/codes.words") (ws := wsC) (List.mem_of_getElem? (i := 8) (by kernel_rfl)) g4 t4 Tryd.underlying110 Tryd.underlying9 (by kernel_rfl)
  have h6 := glob_strs gam0 hv (n := "truchman/glob.words") (ws := wsG) (List.mem_of_getElem? (i := 9) (by kernel_rfl)) g6 t6 Tryd.underlying136 Tryd.underlying9 (by kernel_rfl)
  intro a cs hg
  have hg : (if a == 4 then some (wordsOf wsC) else if a == 6 then some (wordsOf wsG) else none) = some cs := hg
  split at hg
  · rename_i ha
    cases hg
    obtain rfl : a = 4 := by simpa using ha
    exact ⟨4, 0, rfl, h4⟩
  · split at hg
    · rename_i ha
      cases hg
      obtain rfl : a = 6 := by simpa using ha
      exact ⟨6, 0, rfl, h6⟩
    · cases hg

theorem own : ownKnob Tryd.prog.godebug = none := by kernel_rfl

theorem door_met (os : Os) (args : Array Value) : laidMetH Tryd.prog Rows.parseSameRow.laid ((World.doorLaid Tryd.prog 400 os).forCall (fun _ _ => 0) ⟨#[], args, []⟩).memory :=
  laidMetH_of_parts3 (fuel := 8) (laidMet_of_run' 8 (by kernel_rfl) (by kernel_rfl)) (by kernel_rfl) (by kernel_rfl)

theorem lifted (os : Os) (started : os.Started) (H : Type) (enc : TypeId × Value → H) :
    ReturnsInHanded {} Tryd.checked os 3 .any (fun w args => (Rows.parseSameSpec.pre enc Tryd.prog Tryd.f3 [] false w args ∧ laidMetH Tryd.prog Rows.parseSameRow.laid w) ∧ sizedMet enc Tryd.prog Tryd.f3 (OpenSpec.ofChange Rows.parseSameSpec) false w args)
      (Rows.parseSameSpec.post enc Tryd.prog Tryd.f3 false true false false) := by
  refine returnsInHanded_of_change_and (C := Tryd.checked) (X := fun w _ => laidMetH Tryd.prog Rows.parseSameRow.laid w) (fun _ _ _ hh h => h.of_heap hh) own started (by kernel_rfl) Tryd.func3
    (ChangeSpec.witness_shaped (enc := enc) (C := Tryd.checked) (os := os) (X := fun w _ => laidMetH Tryd.prog Rows.parseSameRow.laid w) false (World.doorLaid Tryd.prog 400 os) #[.slice none 0 0, .slice none 0 0] 8 rfl (World.shaped_of_RefB (by kernel_rfl) (by kernel_rfl)) (by kernel_rfl) (by kernel_rfl) (by kernel_rfl) (door_met os _)) ?_
  intro W base args ds gs before hval hW _ hwt hL _
  have hW' := hW
  obtain ⟨p, q, hA, hV, rfl, hfz, hnd⟩ := hW
  have hgs : gs = [] := by
    cases gs with
    | nil => rfl
    | cons _ _ => exact hV.elim
  subst hgs
  have hwt2 : (DataW.weightsEach E0.P Tryd.f3.params.toList ds).all (· ≤ reachBytes) = true := by
    have : Rows.parseSameSpec.plain.varTypes Tryd.checked.prog = [] := by kernel_rfl
    rw [this, List.append_nil, List.append_nil] at hwt
    exact hwt
  have hts : ∀ t, t ∈ Tryd.f3.params.toList → t ∈ plainS ∧ oneT E0.P t = true := by
    rw [Tryd.params3]
    intro t ht
    have : t = 22 := by simpa using ht
    subst this
    exact ⟨by decide, by kernel_rfl⟩
  obtain ⟨vs, h1, h2, h3⟩ := argsOk_of gam0 E0 (enc := enc) (S := plainS) plainOk (globOk hL) hts hval hwt2 hA
  rw [Tryd.params3] at h1 h2
  obtain ⟨v1, n1, e1, i1⟩ := h2 0 22 rfl
  obtain ⟨v2, n2, e2, i2⟩ := h2 1 22 rfl
  obtain ⟨a, ea, ga⟩ := is22 i1
  obtain ⟨b, eb, gb⟩ := is22 i2
  cases ea; cases eb
  have hvs : vs = [.ro a, .ro b] := by
    match vs, h1, e1, e2 with
    | [x, y], _, e1, e2 => simp at e1 e2; rw [e1, e2]
  subst hvs
  obtain ⟨N, hN⟩ := same3 ga gb
  refine (law_calls gam0 E0 (c := bodyOf E0 3) (sound N) Tryd.func3 (by kernel_rfl) (by kernel_rfl) h3 (hN N (Nat.le_refl _)) rfl).mono fun e W' ⟨he, hs⟩ => ?_
  subst he
  exact ⟨_, rfl, post_true (S := plainS) plainOk (fun t ht => (hts t ht).1) hW' rfl (tb := 4) (by kernel_rfl) Tryd.underlying4 (by
    have : ∃ d1 d2, ds = [d1, d2] := by
      have hlen : ∀ (ts : List TypeId) (vs : List Value) (ds : List (DataW H)) (ps : List MemPlace), DataW.TrodAll enc Tryd.checked.prog W 0 (fun _ => true) true ts vs ds ps → ds.length = ts.length := by
        intro ts
        induction ts with
        | nil => intro vs ds ps h; cases vs <;> cases ds <;> first | rfl | exact h.elim
        | cons t ts ih =>
          intro vs ds ps h
          cases vs with
          | nil => cases ds <;> exact h.elim
          | cons v vs =>
            cases ds with
            | nil => exact h.elim
            | cons d ds => obtain ⟨p, q, _, h2, _⟩ := h; simp [ih vs ds q h2]
      have hl := hlen _ _ _ _ hA
      rw [Tryd.params3] at hl
      match ds, hl with
      | [d1, d2], _ => exact ⟨d1, d2, rfl⟩
    obtain ⟨d1, d2, rfl⟩ := this
    exact ⟨rfl, rfl, rfl⟩) hs⟩

theorem parseSame_holds : Rows.ParseSameSaid :=
  OpenClaim.holds_of_wide 3 Tryd.f3 rfl rfl rfl rfl rfl rfl rfl ⟨rfl, rfl, rfl, rfl, rfl⟩ rfl rfl rfl rfl rfl (by kernel_rfl) Tryd.func3 (by kernel_rfl)
    (of_decide_eq_true (by kernel_rfl)) (by unfold Func.isWrapper; first | (rw [if_pos (by decide +kernel)]; kernel_rfl) | (rw [if_neg (by decide +kernel)]; exact ⟨rfl, rfl⟩))
    (fun os started H enc _ => lifted os started H enc)
/-- THE ROW's CARD. -/
theorem parseSame_card : Rows.ParseSameCardSaid :=
  Claim7.holds_tied_plain_at .later [] [.data, .data, .data, .sentinel, .sentinel, .sentinel, .sentinel, .sentinel, .widerDeep, .widerDeep] true (true, "ba5ec3925640a165db8739a8a08546a9b98efeeeb0c6cfe4f5b67614ebdfe4a7") false
    parseSame_holds (fun _ h => by cases h) (by kernel_rfl) (fun _ h => by cases h) parseSame_row_tie rfl ⟨rfl, rfl⟩ (by kernel_rfl) rfl
    (fun f fn hf hfn => by
      obtain rfl : f = 3 := Option.some.inj ((show Tryd.prog.funcNamed "truchman/truchmanlaw31.ParseSame" = some 3 by kernel_rfl).symm.trans hf) |>.symm
      obtain rfl : fn = Tryd.f3 := (Option.some.inj (Tryd.func3.symm.trans hfn)).symm
      exact ⟨by kernel_rfl, fun j t ht => by
        rw [Tryd.params3] at ht
        have hm : t ∈ [22] := by
          have := Array.mem_of_getElem? ht
          simpa using this
        have hall : ([22].all fun u => !Tryd.prog.wantsStandIn u) = true := by kernel_rfl
        exact (show Tryd.prog.wantsStandIn t = false by simpa using List.all_eq_true.1 hall t hm)⟩)
    (by kernel_rfl)
#print axioms parseSame_card
end Go.Proofs.YtimgjiiglokdeaaDoor
