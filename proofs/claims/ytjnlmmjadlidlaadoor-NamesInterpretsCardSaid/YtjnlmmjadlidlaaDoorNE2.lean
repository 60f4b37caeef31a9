/-
  names.ErrorName: what it returns is what its table says (the map that it makes, looked up at the number).
-/
import Derived.Test.YtjnlmmjadlidlaaDoorNGL
import Derived.Maps.Own
import Derived.Maps.OwnOps
import Derived.Maps.StringElems
import Derived.Maps.Views
import Derived.WalkKit
import Derived.Outline
namespace Go.Proofs.YtjnlmmjadlidlaaDoor.PNames
open Go.RowKit Go.Maps

section
variable {H : Type} {P : Program}

/-- An entry of a map's literal. -/
theorem wpList_insert_own (w : World) {ops : Array Oper} {rest : List Oper} {o : Oper} {a : Act} {Q : Exit → Act → World → Prop}
    (hg : o.guard = none) (m x v : Operand) (t : TypeId) (hop : o.op = Op.insert t m x v)
    (k e : TypeId) (K : Keyed P k) (ht : P.underlying t = some (.map k e)) (R : Value → Option (DataW H × List MemPlace)) (b n : Nat) (D : DataW H)
    (hm : a.eval m = .map (some b)) (hown : w.ownsMap P k R b n D) (hn : n < maxLen) (key val : Value) (kl : Lit) (hx : a.eval x = key) (hv : a.eval v = val) (hkey : keyOf P k key = some kl)
    (d : DataW H) (ps : List MemPlace) (hval : R val = some (d, ps))
    (hK : ∀ w', w'.ownsMap P k R b (n + 1) (D.put kl d) → w.grownBy w' (some b) → wpList P ops Q rest (a.put o.dst undef) w') :
    wpList P ops Q (o :: rest) a w := by
  refine wpList_plain hg fun K' hK' => ?_
  obtain ⟨w', hrun, r1, r2⟩ := hown.update K ht hn hkey hval
  unfold Oper.wp
  simp [execOp, hop, hm, hx, hv, hrun, Result.andThen]
  exact hK' _ _ (hK w' r1 r2)

/-- A look-up of a string in a map of the call's own. -/
theorem wpList_lookup_own_string (w : World) {ops : Array Oper} {rest : List Oper} {o : Oper} {a : Act} {Q : Exit → Act → World → Prop}
    (hg : o.guard = none) (m x : Operand) (t : TypeId) (hop : o.op = Op.lookup t m x false)
    (k e : TypeId) (K : Keyed P k) (ht : P.underlying t = some (.map k e)) (he : P.underlying e = some .string) (hz : (zeroValue e).run P w = .ok (.string ⟨#[]⟩) w) (b n : Nat) (D : DataW H)
    (hm : a.eval m = .map (some b)) (hown : w.ownsMap P k (plainElem P e) b n D) (key : Value) (kl : Lit) (hx : a.eval x = key) (hkey : keyOf P k key = some kl)
    (hK : ∀ s : ByteArray, D.atKey kl (.lit (.string [])) = .lit (.string s.data.toList) → wpList P ops Q rest (a.put o.dst (.string s)) w) :
    wpList P ops Q (o :: rest) a w := by
  refine wpList_plain hg fun K' hK' => ?_
  obtain ⟨v, ps, hrun, hv⟩ := hown.lookup K ht hz (plainElem_string he (by decide)) hkey
  obtain ⟨s, rfl, hc, _⟩ := plainElem_string_inv he hv
  simp only [Prod.mk.injEq] at hc
  unfold Oper.wp
  simp [execOp, hop, hm, hx, hrun, Result.andThen]
  exact hK' _ _ (hK s hc.1)
end

def errTab : List (Int × List UInt8) := [(1, [69, 80, 69, 82, 77]), (2, [69, 78, 79, 69, 78, 84]), (3, [69, 83, 82, 67, 72]), (4, [69, 73, 78, 84, 82]), (9, [69, 66, 65, 68, 70]), (11, [69, 65, 71, 65, 73, 78]), (13, [69, 65, 67, 67, 69, 83]), (16, [69, 66, 85, 83, 89]), (17, [69, 69, 88, 73, 83, 84]), (18, [69, 88, 68, 69, 86]), (20, [69, 78, 79, 84, 68, 73, 82]), (21, [69, 73, 83, 68, 73, 82]), (22, [69, 73, 78, 86, 65, 76]), (24, [69, 77, 70, 73, 76, 69]), (28, [69, 78, 79, 83, 80, 67]), (36, [69, 78, 65, 77, 69, 84, 79, 79, 76, 79, 78, 71]), (39, [69, 78, 79, 84, 69, 77, 80, 84, 89]), (40, [69, 76, 79, 79, 80]), (111, [69, 67, 79, 78, 78, 82, 69, 70, 85, 83, 69, 68])]

theorem keyI (n : Int) (hn : (Lit.int .i64 n).wf = true) : keyOf Tryd.prog 102 (.int .i64 n) = some (.int .i64 n) := keyOf_int_mk Tryd.underlying102 hn
theorem zero9 (w : World) : (zeroValue 9).run Tryd.prog w = .ok (.string ⟨#[]⟩) w := by kernel_rfl

def errDatum : DataW Unit := errTab.foldl (fun D x => D.put (.int .i64 x.1) (.lit (.string x.2))) (.map [])

set_option maxHeartbeats 4000000 in
set_option maxRecDepth 100000 in
theorem errorName_walk (n : Int) (hn : (Lit.int .i64 n).wf = true) (w : World) :
    Calls Tryd.prog 27 #[.int .i64 n] w fun e w' => ∃ s : ByteArray, e = .returned (.string s) ∧ errDatum.atKey (.int .i64 n) (.lit (.string [])) = .lit (.string s.data.toList) ∧ Below w.heap.size w w' := by
  have hmm := @run_makeMap Tryd.prog
  have hown := World.ownsMap_made (H := Unit) w Tryd.prog 102 (plainElem Tryd.prog 9)
  have hb : Below w.heap.size w (w.alloc (.map #[] 0)) := (Below.refl _ w).alloc (Nat.le_refl _) _
  have hK : Keyed Tryd.prog 102 := int_keyed Tryd.underlying102
  go_enter Tryd.func27, Tryd.ntmps27
  go_wp2_with (first | (refine wpList_insert_own _ rfl _ _ _ 103 rfl 102 9 hK Tryd.underlying103 (plainElem Tryd.prog 9) _ _ _ rfl hown (by unfold maxLen; omega) _ _ _ rfl rfl (keyI _ (by decide)) _ _ (plainElem_string Tryd.underlying9 (by decide)) ?_; intro w1 hown1 hg1; replace hb := hb.grown hg1 hb.size (fun k e => by cases e; exact Nat.le_refl _); clear hown hg1; have hown := hown1; clear hown1) | (refine wpList_lookup_own_string _ rfl _ _ 103 rfl 102 9 hK Tryd.underlying103 Tryd.underlying9 (zero9 _) _ _ _ rfl hown _ _ rfl (keyI n hn) ?_; intro s hat))
  have hat' : errDatum.atKey (.int .i64 n) (.lit (.string [])) = .lit (.string s.data.toList) := hat
  clear hat
  go_ret
  exact ⟨s, rfl, hat', hb⟩

/-- The name that the table has for a number, or none. -/
def errName (n : Int) : List UInt8 := ((errTab.find? fun x => x.1 == n).map (·.2)).getD []

theorem fold_atKey (n : Int) : ∀ (l : List (Int × List UInt8)) (D : DataW Unit), IsMap D → l.Pairwise (fun x y => x.1 ≠ y.1) →
    (l.foldl (fun D x => D.put (.int .i64 x.1) (.lit (.string x.2))) D).atKey (.int .i64 n) (.lit (.string [])) =
      match l.find? (fun x => x.1 == n) with | some x => .lit (.string x.2) | none => D.atKey (.int .i64 n) (.lit (.string []))
  | [], _, _, _ => rfl
  | x :: l, D, hD, hp => by
    rw [List.foldl_cons, fold_atKey n l (D.put _ _) (hD.put _ _) (List.pairwise_cons.1 hp).2, List.find?_cons]
    by_cases h : x.1 = n
    · have hn : l.find? (fun x => x.1 == n) = none := List.find?_eq_none.2 fun y hy e => (List.pairwise_cons.1 hp).1 y hy (by simp at e; omega)
      rw [hn, h]
      simp only [beq_self_eq_true]
      exact atKey_put_same hD (show WideAt.IsKeyLit (.int .i64 n) from trivial) _ _
    · rw [show (x.1 == n) = false by simpa using h]
      cases hf : l.find? (fun x => x.1 == n) with
      | some y => rfl
      | none => exact atKey_put_other (by intro e; injection e with _ e; exact h e.symm) _ _

theorem errDatum_at (n : Int) : errDatum.atKey (.int .i64 n) (.lit (.string [])) = .lit (.string (errName n)) := by
  unfold errDatum errName
  rw [fold_atKey n errTab (.map []) isMap_empty (by decide)]
  cases errTab.find? (fun x => x.1 == n) <;> rfl

def names_ErrorName.f (a0 : Int) : Option ByteArray := if (Lit.int .i64 a0).wf = true then some ⟨(errName a0).toArray⟩ else none

theorem names_ErrorName.calls (a0 : Int) (r : ByteArray) (w : World) (h : names_ErrorName.f a0 = some r) :
    Calls Tryd.prog 27 #[.int .i64 a0] w fun e w' => e = .returned (.string r) ∧ Below w.heap.size w w' := by
  unfold names_ErrorName.f at h
  split at h
  · rename_i hw
    obtain rfl := Option.some.inj h
    refine (errorName_walk a0 hw w).mono ?_
    rintro e w' ⟨s, rfl, hs, hb⟩
    refine ⟨?_, hb⟩
    rw [errDatum_at] at hs
    simp only [DataW.lit.injEq, Lit.string.injEq] at hs
    rw [hs]
  · cases h

end Go.Proofs.YtjnlmmjadlidlaaDoor.PNames
