/-
  RecordChecks holds for every input: the law returns true, and what came in reads as it did (the row; and the card, with the listed tables tied to the program's text).
-/
import Derived.Test.YtjnlmmjadlidlaaDoorRows
import Derived.Test.YtjnlmmjadlidlaaDoorCards
import Derived.Test.YtjnlmmjadlidlaaDoorTie
import Derived.Test.YtjnlmmjadlidlaaDoorPureRecordChecks
import Derived.Test.YtjnlmmjadlidlaaDoorRLaid
import Derived.Test.YtjnlmmjadlidlaaDoorWSized
import Derived.Test.YtjnlmmjadlidlaaDoorROpen
import Derived.WalkKit
import Derived.ProofKit
import Derived.OpenShut
import Derived.ShutString
import Derived.ChangeOld
import Derived.Below
import Derived.SizedLaws
import Derived.SevenTiedAt
import Derived.LaidMore
import Derived.Stop.Joined
namespace Go.Proofs.YtjnlmmjadlidlaaDoor.recordChecks
open Go.ChangeShapes Go.WideShapes Go.ChangeAt Go.RowKit Go.Proofs.YtjnlmmjadlidlaaDoorW.PrintWords
open Go.ChangeMaps (open_string shut_string)
open Go.Proofs.YtjnlmmjadlidlaaDoor.R3
set_option linter.unusedVariables false
theorem laidOut : laidOutB Tryd.prog = true := by kernel_rfl
def IsRow (k : IntKind) (w : World) (a : Option Addr) (len cap : Nat) (zs : List Int) : Prop :=
  (a = none ∧ len = 0 ∧ cap = 0 ∧ zs = []) ∨
  ∃ x, a = some x ∧ len ≤ cap ∧ cap ≤ maxLen ∧ zs.length = cap ∧ (∀ i, i < zs.length → w.cell? (x.add i) = some (.int k (zs.getD i 0))) ∧ ∀ n ∈ zs, (Lit.int k n).wf = true
set_option maxRecDepth 100000 in
theorem lifted (os : Os) (started : os.Started) (H : Type) (enc : TypeId × Value → H) :
    ReturnsInHanded {} Tryd.checked os 6 .any (fun w args => (Rows.recordChecksSpec.pre enc Tryd.prog Tryd.f6 [] false w args ∧ laidMetH Tryd.prog Rows.recordChecksRow.laid w) ∧ sizedMet enc Tryd.prog Tryd.f6 (OpenSpec.ofChange Rows.recordChecksSpec) false w args)
      (Rows.recordChecksSpec.post enc Tryd.prog Tryd.f6 false true false false) := by
  refine returnsInHanded_of_change_and (C := Tryd.checked) (X := fun w _ => laidMetH Tryd.prog Rows.recordChecksRow.laid w) (fun _ _ _ hh h => h.of_heap hh) own started (by kernel_rfl) Tryd.func6
    (ChangeSpec.witness_shaped (enc := enc) (C := Tryd.checked) (os := os) (X := fun w _ => laidMetH Tryd.prog Rows.recordChecksRow.laid w) false (World.doorLaid Tryd.prog 400 os) #[.agg #[.int .i64 0, .int .i64 0, .int .i64 0, .slice none 0 0]] 8 rfl (World.shaped_of_RefB (by kernel_rfl) (by kernel_rfl)) (by kernel_rfl) (by kernel_rfl) (by kernel_rfl) (door_met03 os _)) ?_
  intro W base args ds gs before hval0 hW _ hsz0 hL _
  have hsz : (DataW.weightsEach Tryd.prog (Tryd.f6.params.toList ++ Rows.recordChecksSpec.plain.varTypes Tryd.prog) (ds ++ gs)).all (· ≤ reachBytes) = true := hsz0
  have hval : ∀ (j : Nat) t v, Tryd.f6.params[j]? = some t → args[j]? = some v → Value.okWide Tryd.prog W .any base t v := hval0
  have hW' := hW
  obtain ⟨p, q, hA0, hV, rfl, hfz, hnd⟩ := hW
  have hA : DataW.TrodAll enc Tryd.prog W 0 (fun _ => true) true Tryd.f6.params.toList args.toList ds p := hA0
  rw [Tryd.params6] at hA hval hsz
  obtain ⟨v0, vs0, d0, ds0, p0, q0, hargs, rfl, rfl, h0, r0⟩ := trodAll_cons hA
  obtain ⟨rfl, rfl, rfl⟩ := trodAll_nil r0
  obtain rfl : args = #[v0] := by cases args; simp_all
  obtain ⟨rfl, rfl⟩ := trodVars_none hV
  have hG := gl_of_laid03 hL
  have k0 := h0
  have lt0 : ∀ x ∈ p0, x.block < W.heap.size := by obtain ⟨m, hm⟩ := k0; exact DataW.trod_lt m _ _ _ hm
  obtain ⟨cs0, a0, rfl, hK0, hq0⟩ := Open.opens_agg Tryd.underlying50 (hval 0 50 v0 rfl rfl) Open3.opens50 h0
  obtain ⟨A0_3, c0_3, hK0, hl0_3, hC0_3⟩ := PRec.k50_open hK0
  obtain rfl : cs0 = #[.int .i64 a0.f0, .int .i64 a0.f1, .int .i64 a0.f2, .slice A0_3 a0.f3.length c0_3] := by apply Array.ext'; rw [hK0]
  clear hA0 hval0 hsz0 hsz
  obtain ⟨k, h⟩ := Pure3.RecordChecks a0 hq0
  refine (PRec.kauditlaw03_RecordChecks.calls k a0.f0 a0.f1 a0.f2 _ _ a0.f3 true W hC0_3 hl0_3 hG h).mono fun e W' ⟨he, bel⟩ => ?_
  subst he
  exact ⟨_, rfl, _, _, _, [], _, [], hW', trodAll_mk1 (shut_bool Tryd.underlying4 _), (trodAll_cons_mk (Below.trod laidOut (by kernel_rfl) (of_decide_eq_true (by kernel_rfl)) k0 bel lt0) trodAll_mk0), rfl, bel.frame _, fun h => by cases h⟩
theorem proved : Rows.RecordChecksSaid :=
  OpenClaim.holds_of_wide 6 Tryd.f6 rfl rfl rfl rfl rfl rfl rfl ⟨rfl, rfl, rfl, rfl, rfl⟩ rfl rfl rfl rfl rfl (by kernel_rfl) Tryd.func6 (by kernel_rfl)
    (of_decide_eq_true (by kernel_rfl)) (by unfold Func.isWrapper; first | (rw [if_pos (by decide +kernel)]; kernel_rfl) | (rw [if_neg (by decide +kernel)]; exact ⟨rfl, rfl⟩))
    (fun os started H enc _ => lifted os started H enc)
theorem card : Rows.RecordChecksCardSaid :=
  Claim7.holds_tied_plain_at .later [] [.data, .data, .data, .data, .data] true (true, "e99c802acb091b7429fdd6175d77c14e59691182feb54cb1d251167ec7657fcc") false
    proved (fun _ h => by cases h) (by kernel_rfl) (fun _ h => by cases h) recordChecks_row_tie rfl ⟨rfl, rfl⟩ (by kernel_rfl) rfl
    (fun f fn hf hfn => by
      obtain rfl : f = 6 := Option.some.inj ((show Tryd.prog.funcNamed "kaudit/kauditlaw03.RecordChecks" = some 6 by kernel_rfl).symm.trans hf) |>.symm
      obtain rfl : fn = Tryd.f6 := (Option.some.inj (Tryd.func6.symm.trans hfn)).symm
      exact ⟨by kernel_rfl, fun j t ht => by
        rw [Tryd.params6] at ht
        have hm : t ∈ [50] := by simpa using Array.mem_of_getElem? ht
        have hall : ([50].all fun u => !Tryd.prog.wantsStandIn u) = true := by kernel_rfl
        exact (show Tryd.prog.wantsStandIn t = false by simpa using List.all_eq_true.1 hall t hm)⟩)
    (by kernel_rfl)
#print axioms card
end Go.Proofs.YtjnlmmjadlidlaaDoor.recordChecks
namespace Go.Proofs.YtjnlmmjadlidlaaDoor
/-- The card, under a short name, for the claim. -/
theorem recordChecks_card_holds : Rows.RecordChecksCardSaid := recordChecks.card
end Go.Proofs.YtjnlmmjadlidlaaDoor
