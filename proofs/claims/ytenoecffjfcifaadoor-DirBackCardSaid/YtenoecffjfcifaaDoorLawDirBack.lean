-- The row of the law DirBack, out of its walk.
import Derived.Test.YtenoecffjfcifaaDoorCards
import Derived.Test.YtenoecffjfcifaaDoorTie
import Derived.Test.YtenoecffjfcifaaDoorDrX
import Derived.Test.YtenoecffjfcifaaDoorPvT
import Derived.WalkKit
import Derived.ProofKit
import Derived.OpenShut
import Derived.ShutString
import Derived.ChangeOld
import Derived.Below
import Derived.SizedLaws
import Derived.ChangeSame
import Derived.ChangeVars
import Derived.JoinedOf
import Derived.RowKitTokens
import Derived.LaidLaws
import Derived.LaidHandle
import Derived.Stop.Joined
import Derived.SevenTiedAt
namespace Go.Proofs.YtenoecffjfcifaaDoor.dirBack
open Go.ChangeShapes Go.WideShapes Go.ChangeAt Go.RowKit Go.Proofs.YtenoecffjfcifaaDoor.Pv
open Go.ChangeMaps (open_string shut_string)
set_option linter.all false
theorem own : ownKnob Tryd.prog.godebug = none := by kernel_rfl
theorem laidOut : laidOutB Tryd.prog = true := by kernel_rfl
mutual
/-- A datum's cells. -/
def flatD : DataW Unit → List Value
  | .lit (.int k n) => [.int k n]
  | .agg l => flatL l
  | _ => []
def flatL : List (DataW Unit) → List Value
  | [] => []
  | d :: l => flatD d ++ flatL l
end
def listed : List (String × DataW Unit) := [("unicode/utf8.acceptRanges", Rows.laid_unicode_utf8_acceptRanges), ("unicode/utf8.first", Rows.laid_unicode_utf8_first)]
def layOne (P : Program) (w : World) (x : String × DataW Unit) : World := match P.globalNamed x.1 with
  | some g => { w with heap := w.heap.modify g fun
      | .cells _ t frozen => .cells (flatD x.2).toArray t frozen
      | o => o }
  | _ => w
/-- A world where the listed tables lie. -/
noncomputable def laidWorld (os : Os) : World := listed.foldl (layOne Tryd.prog) (World.holding Tryd.prog os ⟨#[], #[], []⟩)
set_option maxRecDepth 100000 in
theorem laidWorld_met (os : Os) (args : Array Value) : laidMetH Tryd.prog listed ((laidWorld os).forCall (fun _ _ => 0) ⟨#[], args, []⟩).memory :=
  laidMetH_of_parts (laidMet_of_run' 8 (by kernel_rfl) (by kernel_rfl)) (by kernel_rfl)
set_option maxRecDepth 100000 in
theorem lifted (os : Os) (started : os.Started) (H : Type) (enc : TypeId × Value → H) :
    ReturnsInHanded {} Tryd.checked os 5 .any (fun w args => (Rows.dirBackSpec.pre enc Tryd.prog Tryd.f5 Rows.dirBackRow.domain false w args ∧ laidMetH Tryd.prog listed w) ∧ sizedMet enc Tryd.prog Tryd.f5 (OpenSpec.ofChange Rows.dirBackSpec) false w args) (Rows.dirBackSpec.post enc Tryd.prog Tryd.f5 false true false false) := by
  refine returnsInHanded_of_change_and (C := Tryd.checked) (X := fun w _ => laidMetH Tryd.prog listed w) (fun _ _ _ hh h => h.of_heap hh) own started (by kernel_rfl) Tryd.func5
    (ChangeSpec.witness_at (enc := enc) (C := Tryd.checked) (os := os) (X := fun w _ => laidMetH Tryd.prog listed w) false (laidWorld os) #[.slice none 0 0, .slice none 0 0, .agg #[.int .i64 0, .int .i64 0]] 8 rfl (by kernel_rfl) (by kernel_rfl) (by kernel_rfl) (by kernel_rfl) (by kernel_rfl) (laidWorld_met os _)) ?_
  intro W base args ds gs before hval0 hW hcnd hsz0 _ _
  have hsz : (DataW.weightsEach Tryd.prog (Tryd.f5.params.toList ++ Rows.dirBackSpec.plain.varTypes Tryd.prog) (ds ++ gs)).all (· ≤ reachBytes) = true := hsz0
  have hval : ∀ (j : Nat) t v, Tryd.f5.params[j]? = some t → args[j]? = some v → Value.okWide Tryd.prog W .any base t v := hval0
  have hW' := hW
  obtain ⟨p, q, hA0, hV, rfl, hfz, hnd⟩ := hW
  have hA : DataW.TrodAll enc Tryd.prog W 0 (fun _ => true) true Tryd.f5.params.toList args.toList ds p := hA0
  rw [Tryd.params5] at hA hval hsz
  obtain ⟨v0, vs0, d0, ds0, p0, q0, hargs, rfl, rfl, h0, r0⟩ := trodAll_cons hA
  obtain ⟨v1, vs1, d1, ds1, p1, q1, rfl, rfl, rfl, h1, r1⟩ := trodAll_cons r0
  obtain ⟨v2, vs2, d2, ds2, p2, q2, rfl, rfl, rfl, h2, r2⟩ := trodAll_cons r1
  obtain ⟨rfl, rfl, rfl⟩ := trodAll_nil r2
  obtain rfl : args = #[v0, v1, v2] := by cases args; simp_all
  obtain ⟨rfl, rfl⟩ := trodVars_none hV
  have k0 := h0
  have lt0 : ∀ x ∈ p0, x.block < W.heap.size := by obtain ⟨m, hm⟩ := k0; exact DataW.trod_lt m _ _ _ hm
  have g0 := Pv.weight_at hsz (j := 0) (t := 43) (d := d0) rfl rfl
  obtain ⟨x0, hp0, hr0, hs0⟩ := ParT.h (P := Tryd.prog) (t := 43) (hval 0 43 v0 rfl rfl) h0 g0
  have k1 := h1
  have lt1 : ∀ x ∈ p1, x.block < W.heap.size := by obtain ⟨m, hm⟩ := k1; exact DataW.trod_lt m _ _ _ hm
  have g1 := Pv.weight_at hsz (j := 1) (t := 23) (d := d1) rfl rfl
  obtain ⟨x1, hp1, hr1, hs1⟩ := ParT.h (P := Tryd.prog) (t := 23) (hval 1 23 v1 rfl rfl) h1 g1
  have k2 := h2
  have lt2 : ∀ x ∈ p2, x.block < W.heap.size := by obtain ⟨m, hm⟩ := k2; exact DataW.trod_lt m _ _ _ hm
  have g2 := Pv.weight_at hsz (j := 2) (t := 54) (d := d2) rfl rfl
  obtain ⟨x2, hp2, hr2, hs2⟩ := ParT.h (P := Tryd.prog) (t := 54) (hval 2 54 v2 rfl rfl) h2 g2
  clear hA0 hval0 hsz0 hsz
  refine (law_end (dback15 hs0 hs1 hs2) W [v0, v1, v2] (.cons hr0 (.cons hr1 (.cons hr2 .nil)))).mono fun e W' ⟨he, bel⟩ => ?_
  subst he
  exact ⟨_, rfl, _, _, _, [], _, [], hW', trodAll_mk1 (shut_bool Tryd.underlying4 _), (trodAll_cons_mk (Below.trod laidOut (by kernel_rfl) (of_decide_eq_true (by kernel_rfl)) k0 bel lt0) (trodAll_cons_mk (Below.trod laidOut (by kernel_rfl) (of_decide_eq_true (by kernel_rfl)) k1 bel lt1) (trodAll_cons_mk (Below.trod laidOut (by kernel_rfl) (of_decide_eq_true (by kernel_rfl)) k2 bel lt2) trodAll_mk0))), rfl, bel.frame _, fun h => by cases h⟩
theorem over : Rows.dirBackRow.holds Tryd.pinned (OpenSpec.ofChange Rows.dirBackSpec) :=
  OpenClaim.holds_of_wide 5 Tryd.f5 rfl rfl rfl rfl rfl rfl rfl ⟨rfl, rfl, rfl, rfl, rfl⟩ rfl rfl rfl rfl rfl (by kernel_rfl) Tryd.func5 (by kernel_rfl)
    (of_decide_eq_true (by kernel_rfl)) (by unfold Func.isWrapper; first | (rw [if_pos (by decide +kernel)]; kernel_rfl) | (rw [if_neg (by decide +kernel)]; exact ⟨rfl, rfl⟩))
    (fun os started H enc _ => lifted os started H enc)
set_option maxRecDepth 100000 in
theorem card : Rows.DirBackCardSaid :=
  Claim7.holds_tied_plain_at .later [] [.data, .pinned] true (true, "3069d2918e5e2d5bbdb4f12e8f7ceb7e5352faa6ae0e00314eb68e323c822b05") false
    over (fun _ h => by cases h) (by kernel_rfl) (fun _ h => by cases h) dirBack_row_tie rfl ⟨rfl, rfl⟩ (by kernel_rfl) rfl
    (fun f fn hf hfn => by
      obtain rfl : f = 5 := Option.some.inj ((show Tryd.prog.funcNamed "carapace/carapacelaw15.DirBack" = some 5 by kernel_rfl).symm.trans hf) |>.symm
      obtain rfl : fn = Tryd.f5 := (Option.some.inj (Tryd.func5.symm.trans hfn)).symm
      refine ⟨by kernel_rfl, fun j t ht => ?_⟩
      rw [Tryd.params5] at ht
      have all : ∀ (j : Nat) (t : TypeId), (#[43, 23, 54] : Array TypeId)[j]? = some t → Tryd.prog.wantsStandIn t = false := by
        intro j t ht
        rcases j with _ | j
        · obtain rfl : 43 = t := by simpa using ht
          kernel_rfl
        rcases j with _ | j
        · obtain rfl : 23 = t := by simpa using ht
          kernel_rfl
        rcases j with _ | j
        · obtain rfl : 54 = t := by simpa using ht
          kernel_rfl
        · simp at ht
      exact all j t ht)
    (by kernel_rfl)
#print axioms card
end Go.Proofs.YtenoecffjfcifaaDoor.dirBack
namespace Go.Proofs.YtenoecffjfcifaaDoor
/-- The card, under a short name, for the claim. -/
theorem dirBack_holds : Rows.DirBackCardSaid := dirBack.card
end Go.Proofs.YtenoecffjfcifaaDoor
