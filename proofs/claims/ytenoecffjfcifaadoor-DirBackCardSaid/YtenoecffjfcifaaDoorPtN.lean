-- carapaceref06.Sorted.
import Derived.Test.YtenoecffjfcifaaDoorPtM
import Derived.Test.YtenoecffjfcifaaDoorIfc
namespace Go.Proofs.YtenoecffjfcifaaDoor.Pv
set_option linter.all false
set_option linter.unusedVariables false
open Go.RowKit Go.Proofs
set_option maxRecDepth 100000
set_option maxHeartbeats 4000000
theorem insF_split (x : List Int) : ∀ (out : List (List Int)) (k : Nat), k ≤ out.length → (∀ j y, j < k → out[j]? = some y → lessF x y = false) → (∀ y, out[k]? = some y → lessF x y = true) → insF x out = out.take k ++ x :: out.drop k
  | [], k, hk, _, _ => by simp at hk; subst hk; rfl
  | y :: out, 0, _, _, h2 => by rw [insF, if_pos (h2 y rfl)]; rfl
  | y :: out, k + 1, hk, h1, h2 => by
    rw [insF, if_neg (by rw [h1 0 y (by omega) rfl]; simp), insF_split x out k (by simpa using hk) (fun j z hj hz => h1 (j + 1) z (by omega) (by simpa using hz)) (fun z hz => h2 z (by simpa using hz))]
    rfl
theorem rsortF_app (L : List (List Int)) (x : List Int) : rsortF (L ++ [x]) = insF x (rsortF L) := by
  unfold rsortF
  rw [List.foldl_append]
  rfl
theorem rsortF_length (L : List (List Int)) : (rsortF L).length = L.length := (rsort_perm L).length_eq
theorem strRows_app (a b : List (List Int)) : strRows (a ++ b) = strRows a ++ strRows b := by simp [strRows]
theorem strRows_take (a : List (List Int)) (k : Nat) : (strRows a).take k = strRows (a.take k) := by simp [strRows, List.map_take]
theorem strRows_drop (a : List (List Int)) (k : Nat) : (strRows a).drop k = strRows (a.drop k) := by simp [strRows, List.map_drop]
theorem lend_strs {S : List Blk} {T : List Nat} {τ g gg len : Nat} {o : Bool} {L : List (List Int)} (hT : τ ∈ T) (hb : S[τ]? = some ⟨gg, o, 1, strRows L⟩) (hg : gg = g) (hl : L.length = len) : Lend S T (.vw τ g 0 len) (.ro 1 false (strRows L)) := by
  refine .vw hT hb hg ?_ (strRows_pure L)
  simp only [List.drop_zero]
  rw [← hl, ← strRows_length L, List.take_length]
theorem rsorted_ok (L : List (List Int)) (ho : ∀ x ∈ L, Oct x) (hl : L.length ≤ 1000000) (hs : ∀ x ∈ L, x.length ≤ 1000000000) : PCall Tryd.prog 34 [.ro 1 false (strRows L)] (.ro 1 false (strRows (rsortF L))) := by
  have la := strRows_length L
  haveI : ∀ M, PureC (.ro 1 false (strRows M)) := fun M => ⟨.ro (strRows_pure M)⟩
  refine pcall_mk Tryd.func34 rfl [.tmp 2] Tryd.results34 46 rfl (tk_start ?_)
  (repeat refine ka ?_); refine kr ?_ ?_ (pops_end ?_)
  (repeat refine ka ?_); refine kr ?_ ?_ (pops_end ?_)
  (repeat refine ka ?_); refine kr ?_ ?_ (pops_end ?_)
  (repeat refine ka ?_)
  refine kfzT 3 [] (y := .ro 1 false (strRows [])) ?_ .nil (by intro τ hτ; cases hτ)
  (repeat refine ka ?_); refine kb ?_
  refine kw (fun i : Nat => [(0, .ro 1 false (strRows L)), (3, .ro 1 false (strRows (rsortF (L.take i)))), (4, .v (.int .i64 i))]) (fun _ => []) (fun i => i ≤ L.length) (fun i => L.length - i) 0 (Nat.zero_le _) ?_ ?_
  · rw [show rsortF (L.take 0) = [] from rfl]
    exact (holds 0 (by repeat (first | exact .nil | refine has1 ?_)))
  intro i hi
  have lo := rsortF_length (L.take i)
  rw [List.length_take, Nat.min_eq_left hi] at lo
  have lr := strRows_length (rsortF (L.take i))
  have hpm : ∀ y ∈ rsortF (L.take i), y ∈ L := fun y hy => List.mem_of_mem_take ((rsort_perm _).mem_iff.1 hy)
  by_cases h : i < L.length
  · obtain ⟨x, hx⟩ : ∃ x, L[i]? = some x := ⟨L[i], by simp [h]⟩
    have r1 := strRows_get hx
    have hm := List.mem_of_getElem? hx
    have ox := ho x hm
    have htk : L.take (i + 1) = L.take i ++ [x] := by
      obtain ⟨h1, h2⟩ := List.getElem?_eq_some_iff.1 hx
      rw [List.take_succ_eq_append_getElem h1, h2]
    generalize hO : rsortF (L.take i) = O at lo lr hpm
    have hnext : rsortF (L.take (i + 1)) = insF x O := by rw [htk, rsortF_app, hO]
    (repeat refine ka ?_); refine kr ?_ ?_ (pops_end ?_)
    (repeat refine ka ?_); refine kct ?_
    (repeat refine ka ?_); refine ksk ?_
    (repeat refine ka ?_); refine kb ?_
    (repeat refine ka ?_); refine kr ?_ ?_ (pops_end ?_)
    (repeat refine ka ?_); refine kb ?_
    refine kw (fun k : Nat => [(0, .ro 1 false (strRows L)), (3, .ro 1 false (strRows O)), (4, .v (.int .i64 i)), (5, .v (.int .i64 k))]) (fun _ => []) (fun k => k ≤ O.length ∧ ∀ j y, j < k → O[j]? = some y → lessF x y = false) (fun k => O.length - k) 0 ⟨Nat.zero_le _, by intro j y hj; omega⟩ (holds 0 (by repeat (first | exact .nil | refine has1 ?_))) ?_
    rintro k ⟨hk, hj⟩
    have fin : (∀ y, O[k]? = some y → lessF x y = true) → insF x O = O.take k ++ x :: O.drop k := insF_split x O k hk hj
    have e : ((k : Nat) : Int).toNat = k := Int.toNat_natCast k
    have hpp : ∀ row ∈ [[PV.v (.string (str x))]], ∀ z ∈ row, PV.Pure z := strRows_pure [x]
    have last : (∀ y, O[k]? = some y → lessF x y = true) → True := fun _ => trivial
    by_cases g : k < O.length
    · obtain ⟨y, hy⟩ : ∃ y, O[k]? = some y := ⟨O[k], by simp [g]⟩
      have r2 := strRows_get hy
      have hym := hpm y (List.mem_of_getElem? hy)
      have c := less_ok x y ox (ho y hym) (hs x hm) (hs y hym)
      by_cases q : lessF x y = true
      · rw [q] at c
        (repeat refine ka ?_); refine kd ?_ ?_ ?_
        refine pd_pcall_g c ?_
        refine pstl_go ?_ ?_ (pstl_end ?_)
        (repeat refine ka ?_); refine kcf ?_
        (repeat refine ka ?_); refine kx ?_; (repeat (first | with_reducible refine beh_x ?_ | with_reducible refine blk_up rfl ?_)); refine blk_here ?_; refine beh_n ?_
        have hins := fin (fun z hz => by rw [hy] at hz; cases hz; exact q)
        have hlt : (O.take k).length = k := by rw [List.length_take]; omega
        have hld : (O.drop k).length = O.length - k := List.length_drop
        have hall : (O.take k ++ x :: O.drop k).length = O.length + 1 := by rw [List.length_append, List.length_cons, hlt, hld]; omega
        have s1 : (strRows O).take ((k : Nat) : Int).toNat = strRows (O.take k) := by rw [e, strRows_take]
        have s2 : (strRows O).drop ((k : Nat) : Int).toNat = strRows (O.drop k) := by rw [e, strRows_drop]
        (repeat refine ka ?_); refine kds [1, 2, 3, 5, 6, 7, 8, 9, 11, 12, 13] [0, 4, 10, 14, 15] ?_
        refine pstl_go ?_ ?_ ?_; refine pd_litg (rows := [[.v (.string (str x))]]) ?_ hpp; refine pstl_go ?_ ?_ (pstl_end ?_)
        refine hs_w [] [1, 2, 3, 5, 6, 7, 8, 9, 11, 12, 13] ?_ (by refine pstl_go ?_ ?_ ?_; refine pd_litg (rows := [[.v (.string (str x))]]) ?_ hpp; refine pstl_go ?_ ?_ (pstl_end ?_); exact rfl); refine pstl_nil ?_; refine ⟨rfl, ?_⟩
        refine ps_lit fun g1 => ?_
        refine pops_nil ?_
        refine hs_w [1, 2, 3] [5, 6, 7, 8, 9, 11, 12, 13] ?_ (by refine pstl_go ?_ ?_ ?_; refine pd_litg (rows := [[.v (.string (str x))]]) ?_ hpp; refine pstl_go ?_ ?_ (pstl_end ?_); exact rfl); refine pstl_go ?_ ?_ (pstl_end ?_); refine ⟨rfl, ?_⟩
        refine ps_app_vw (rows' := strRows (O.take k)) (m := k) (fun g2 => ?_) (hsrc := rfl) (hrows := by rfl) (hlen := by rfl) (hm := by rw [strRows_length, hlt]; omega)
        refine pops_nil ?_
        refine hs_w [5, 6, 7, 8, 9] [11, 12, 13] ?_ (by refine pstl_go ?_ ?_ ?_; refine pd_litg (rows := [[.v (.string (str x))]]) ?_ hpp; refine pstl_go ?_ ?_ (pstl_end ?_); exact rfl); refine pstl_go ?_ ?_ ?_; refine pd_litg (rows := [[.v (.string (str x))]]) ?_ hpp; refine pstl_nil ?_; refine ⟨rfl, ?_⟩
        refine ps_app_vw (rows' := strRows (O.take k ++ [x])) (m := k + 1) (fun g4 => ?_) (hsrc := rfl) (hrows := by rw [strRows_app]; rfl) (hlen := by rw [strRows_length, hlt]) (hm := by rfl)
        refine pops_nil ?_
        refine hs_w [11, 12, 13] [] ?_ (by refine pstl_go ?_ ?_ (pstl_end ?_); exact rfl); refine pstl_go ?_ ?_ (pstl_end ?_); refine ⟨rfl, ?_⟩
        refine ps_app_vw (rows' := strRows (O.take k ++ x :: O.drop k)) (m := O.length + 1) (fun g5 => ?_) (hsrc := rfl) (hrows := by rw [← strRows_app, List.append_assoc]; rfl) (hlen := by rw [strRows_length, List.length_append, hlt]; rfl) (hm := by rw [strRows_length, hld]; omega)
        refine pops_nil ?_
        refine hs_w [] [] ?_ (by refine pstl_nil ?_; exact rfl); refine pstl_nil ?_; refine ⟨rfl, ?_⟩
        refine ps_ev (p := .vw 0 g5 0 (O.length + 1)) ?_ rfl
        refine pops_nil ?_
        refine hs_end ?_; refine pstl_nil ?_; refine ⟨rfl, ?_⟩
        refine kn ?_; repeat (first | with_reducible refine blk_n ?_ | with_reducible refine beh_n ?_)
        refine kfreeze 0 ?_
        refine kfzT 3 [0] (y := .ro 1 false (strRows (O.take k ++ x :: O.drop k))) ?_ (lend_strs (List.mem_singleton.2 rfl) rfl rfl hall) (by intro τ hτ blk hb; cases List.mem_singleton.1 hτ; cases hb; rfl)
        (repeat refine ka ?_); refine kr ?_ ?_ (pops_end ?_)
        refine kn ?_; repeat (first | with_reducible refine blk_n ?_ | with_reducible refine beh_n ?_)
        refine ⟨i + 1, by omega, by omega, ?_⟩
        rw [hnext, hins]
        exact (holds 0 (by repeat (first | exact .nil | refine has1 ?_)))
      · have q : lessF x y = false := by simpa using q
        rw [q] at c
        (repeat refine ka ?_); refine kd ?_ ?_ ?_
        refine pd_pcall_g c ?_
        refine pstl_go ?_ ?_ (pstl_end ?_)
        (repeat refine ka ?_); refine kct ?_
        (repeat refine ka ?_); refine ksk ?_
        (repeat refine ka ?_); refine kb ?_
        (repeat refine ka ?_); refine kr ?_ ?_ (pops_end ?_)
        refine kn ?_; repeat (first | with_reducible refine blk_n ?_ | with_reducible refine beh_n ?_)
        refine ⟨k + 1, ⟨by omega, fun j z hj' hz => ?_⟩, by omega, (holds 0 (by repeat (first | exact .nil | refine has1 ?_)))⟩
        by_cases ejk : j = k
        · subst ejk
          rw [hy] at hz
          cases hz
          exact q
        · exact hj j z (by omega) hz
    · (repeat refine ka ?_); refine kd ?_ ?_ (pstl_end ?_)
      (repeat refine ka ?_); refine kcf ?_
      (repeat refine ka ?_); refine kx ?_; (repeat (first | with_reducible refine beh_x ?_ | with_reducible refine blk_up rfl ?_)); refine blk_here ?_; refine beh_n ?_
      have hins := fin (fun z hz => by have := (List.getElem?_eq_some_iff.1 hz).1; omega)
      have hlt : (O.take k).length = k := by rw [List.length_take]; omega
      have hld : (O.drop k).length = O.length - k := List.length_drop
      have hall : (O.take k ++ x :: O.drop k).length = O.length + 1 := by rw [List.length_append, List.length_cons, hlt, hld]; omega
      have s1 : (strRows O).take ((k : Nat) : Int).toNat = strRows (O.take k) := by rw [e, strRows_take]
      have s2 : (strRows O).drop ((k : Nat) : Int).toNat = strRows (O.drop k) := by rw [e, strRows_drop]
      (repeat refine ka ?_); refine kds [1, 2, 3, 5, 6, 7, 8, 9, 11, 12, 13] [0, 4, 10, 14, 15] ?_
      refine pstl_go ?_ ?_ ?_; refine pd_litg (rows := [[.v (.string (str x))]]) ?_ hpp; refine pstl_go ?_ ?_ (pstl_end ?_)
      refine hs_w [] [1, 2, 3, 5, 6, 7, 8, 9, 11, 12, 13] ?_ (by refine pstl_go ?_ ?_ ?_; refine pd_litg (rows := [[.v (.string (str x))]]) ?_ hpp; refine pstl_go ?_ ?_ (pstl_end ?_); exact rfl); refine pstl_nil ?_; refine ⟨rfl, ?_⟩
      refine ps_lit fun g1 => ?_
      refine pops_nil ?_
      refine hs_w [1, 2, 3] [5, 6, 7, 8, 9, 11, 12, 13] ?_ (by refine pstl_go ?_ ?_ ?_; refine pd_litg (rows := [[.v (.string (str x))]]) ?_ hpp; refine pstl_go ?_ ?_ (pstl_end ?_); exact rfl); refine pstl_go ?_ ?_ (pstl_end ?_); refine ⟨rfl, ?_⟩
      refine ps_app_vw (rows' := strRows (O.take k)) (m := k) (fun g2 => ?_) (hsrc := rfl) (hrows := by rfl) (hlen := by rfl) (hm := by rw [strRows_length, hlt]; omega)
      refine pops_nil ?_
      refine hs_w [5, 6, 7, 8, 9] [11, 12, 13] ?_ (by refine pstl_go ?_ ?_ ?_; refine pd_litg (rows := [[.v (.string (str x))]]) ?_ hpp; refine pstl_go ?_ ?_ (pstl_end ?_); exact rfl); refine pstl_go ?_ ?_ ?_; refine pd_litg (rows := [[.v (.string (str x))]]) ?_ hpp; refine pstl_nil ?_; refine ⟨rfl, ?_⟩
      refine ps_app_vw (rows' := strRows (O.take k ++ [x])) (m := k + 1) (fun g4 => ?_) (hsrc := rfl) (hrows := by rw [strRows_app]; rfl) (hlen := by rw [strRows_length, hlt]) (hm := by rfl)
      refine pops_nil ?_
      refine hs_w [11, 12, 13] [] ?_ (by refine pstl_go ?_ ?_ (pstl_end ?_); exact rfl); refine pstl_go ?_ ?_ (pstl_end ?_); refine ⟨rfl, ?_⟩
      refine ps_app_vw (rows' := strRows (O.take k ++ x :: O.drop k)) (m := O.length + 1) (fun g5 => ?_) (hsrc := rfl) (hrows := by rw [← strRows_app, List.append_assoc]; rfl) (hlen := by rw [strRows_length, List.length_append, hlt]; rfl) (hm := by rw [strRows_length, hld]; omega)
      refine pops_nil ?_
      refine hs_w [] [] ?_ (by refine pstl_nil ?_; exact rfl); refine pstl_nil ?_; refine ⟨rfl, ?_⟩
      refine ps_ev (p := .vw 0 g5 0 (O.length + 1)) ?_ rfl
      refine pops_nil ?_
      refine hs_end ?_; refine pstl_nil ?_; refine ⟨rfl, ?_⟩
      refine kn ?_; repeat (first | with_reducible refine blk_n ?_ | with_reducible refine beh_n ?_)
      refine kfreeze 0 ?_
      refine kfzT 3 [0] (y := .ro 1 false (strRows (O.take k ++ x :: O.drop k))) ?_ (lend_strs (List.mem_singleton.2 rfl) rfl rfl hall) (by intro τ hτ blk hb; cases List.mem_singleton.1 hτ; cases hb; rfl)
      (repeat refine ka ?_); refine kr ?_ ?_ (pops_end ?_)
      refine kn ?_; repeat (first | with_reducible refine blk_n ?_ | with_reducible refine beh_n ?_)
      refine ⟨i + 1, by omega, by omega, ?_⟩
      rw [hnext, hins]
      exact (holds 0 (by repeat (first | exact .nil | refine has1 ?_)))
  · obtain rfl : i = L.length := by omega
    rw [List.take_length]
    (repeat refine ka ?_); refine kr ?_ ?_ (pops_end ?_)
    (repeat refine ka ?_); refine kcf ?_
    (repeat refine ka ?_); refine kx ?_; (repeat (first | with_reducible refine beh_x ?_ | with_reducible refine blk_up rfl ?_)); refine blk_here ?_; refine beh_n ?_
    (repeat refine ka ?_); refine kr ?_ ?_ (pops_end ?_)
    (repeat refine ka ?_); refine kret ?_; repeat (first | with_reducible refine beh_r ?_ | with_reducible refine blk_r ?_)
    refine ends_ret ?_ retPV_one
    rfl
end Go.Proofs.YtenoecffjfcifaaDoor.Pv
