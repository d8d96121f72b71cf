-- LinkElsewhere.
import Derived.Test.YtjbbomchmacdjaaLkN
import Derived.Test.YtjbbomchmacdjaaLkJ
namespace Go.Proofs.Ytjbbomchmacdjaa.Pv
set_option linter.all false
open Go.RowKit Go.Proofs
set_option maxRecDepth 100000
set_option maxHeartbeats 1000000
def bools (T : List Bool) : List (List PV) := T.map fun b => [.v (.bool b)]
theorem bools_length (T : List Bool) : (bools T).length = T.length := by simp [bools]
theorem bools_get {T : List Bool} {i : Nat} (h : i < T.length) : (bools T)[i]? = some [.v (.bool (T.getD i false))] := by
  simp [bools, List.getElem?_map, List.getD_eq_getElem?_getD, List.getElem?_eq_getElem h]
theorem bools_set (T : List Bool) (i : Nat) (b : Bool) : (bools T).set i [.v (.bool b)] = bools (T.set i b) := by
  simp [bools, List.map_set]
section
variable {P : Program} {ops : List Oper} {Q : PS → Prop} {rest : List Oper} {n : Nat} {tm : List (Nat × PV)} {S S' : List Blk} {ty : TypeId} {pos : String} {af : Array Edge} {t : TypeId} {x y : Operand}
theorem ps_setb {T : List Bool} {b : Bool} [hc : Cel P t 1] {bb : Bool} [ha : AggT P t bb] {τ g i gg : Nat} (j : Nat) (k : Pops P ops Q rest ⟨n, tm, S'⟩) (hlt : j < T.length) (hx : PS.get ⟨n, tm, S⟩ x = .ptr τ g i 0 := by ((conv => lhs; whnf) <;> fail "no")) (hj : i = j := by first | rfl | (simp only [Nat.zero_add, Nat.mul_one, Nat.add_zero, Int.toNat_natCast]; done) | omega) (hb : S[τ]? = some ⟨gg, true, 1, bools T⟩ := by first | ((conv => lhs; whnf) <;> fail "no") | exact rfl | assumption) (hg : gg = g := by rfl)
    (hv : PS.get ⟨n, tm, S⟩ y = .v (.bool b) := by ((conv => lhs; whnf) <;> fail "no")) (hS : S.set τ ⟨gg, true, 1, bools (T.set j b)⟩ = S' := by first | (simp only [List.set_cons_zero, List.set_cons_succ]; exact rfl) | exact rfl) :
    Pops P ops Q (⟨none, .store t x y, ty, pos, af, none⟩ :: rest) ⟨n, tm, S⟩ := by
  subst hj
  exact ps_store (P := P) (sz := 1) (bb := bb) (row := [.v (.bool (T.getD i false))]) (cs := [.v (.bool b)]) (row' := [.v (.bool b)]) k hx hb hg rfl (bools_get hlt) hv rfl rfl (by simp) rfl (by rw [← hS, ← bools_set])
end
theorem turn_sub (t x y : Int) : ((t + y) % 4294967296 - (t + x) % 4294967296) % 4294967296 = (y - x) % 4294967296 := by
  rw [← Int.sub_emod]
  congr 1
  omega
theorem loadF_bad {c : Cd} {b : Int} (h : c.right = false ∨ b % 4 ≠ 0) : loadF c b = ([], 1) := by unfold loadF; rw [if_pos h]
theorem loadF_good {c : Cd} {b : Int} (h : ¬ (c.right = false ∨ b % 4 ≠ 0)) : loadF c b = (bytesF (turnGo b c.W c.R), 0) := by unfold loadF; rw [if_neg h]
theorem elsewhere14 {x0 x1 x2 : PV} (h0 : ∃ xs, x0 = .agg xs ∧ SFs [SSl 1 4 (SInt .u32), SSl 2 16 (SFs [SInt .i64, SBool])] xs) (h1 : SInt .u32 [x1]) (h2 : SInt .u32 [x2]) : PCall Try.prog 7 [x0, x1, x2] (.v (.bool true)) := by
  obtain ⟨base, rfl, hb⟩ := one_int h1
  obtain ⟨oth, rfl, ho⟩ := one_int h2
  have hb := wfu32 hb
  have ho := wfu32 ho
  obtain ⟨xs, rfl, h0⟩ := h0
  obtain ⟨c, rfl, hca⟩ := code_of h0
  clear h0 h1 h2
  have c1 := small14b c hca
  refine pcall_mk Try.func7 rfl [.tmp 6] Try.results7 195 rfl (tk_start ?_)
  unfold Cd.row
  by_cases hsm : c.W.length ≤ 300 ∧ c.R.length ≤ 300
  rotate_left
  · rw [decide_eq_false hsm] at c1
    unfold Cd.pv Cd.row at c1
    (repeat refine ka ?_); refine kr ?_ ?_ ?_
    refine ps_box fun g0 => ?_
    refine pops_go ?_ ?_ (pops_end ?_)
    (repeat refine ka ?_); refine kr ?_ ?_ ?_
    refine ps_pcall awake14 ?_
    refine pops_go ?_ ?_ (pops_end ?_)
    (repeat refine ka ?_); refine kr ?_ ?_ ?_
    refine ps_pcall c1 ?_
    refine pops_go ?_ ?_ (pops_end ?_)
    (repeat refine ka ?_); refine kr ?_ ?_ (pops_end ?_)
    (repeat refine ka ?_); refine kct ?_
    (repeat refine ka ?_); refine kr ?_ ?_ (pops_end ?_)
    (repeat refine ka ?_); refine kret ?_; repeat (first | with_reducible refine beh_r ?_ | with_reducible refine blk_r ?_)
    refine ends_ret ?_ retPV_one
    rfl
  rw [decide_eq_true hsm] at c1
  have hok := hca.ok hsm
  have c2 := lk_load c hok base hb.1 hb.2
  have c3 := lk_load c hok oth ho.1 ho.2
  by_cases k1 : c.right = false ∨ base % 4 ≠ 0
  · rw [loadF_bad k1] at c2
    generalize loadF c oth = X at *
    obtain ⟨X, e⟩ := X
    unfold Cd.pv Cd.row at c1 c2 c3
    dsimp only at c1 c2 c3
    (repeat refine ka ?_); refine kr ?_ ?_ ?_
    refine ps_box fun g0 => ?_
    refine pops_go ?_ ?_ (pops_end ?_)
    (repeat refine ka ?_); refine kr ?_ ?_ ?_
    refine ps_pcall awake14 ?_
    refine pops_go ?_ ?_ (pops_end ?_)
    (repeat refine ka ?_); refine kr ?_ ?_ ?_
    refine ps_pcall c1 ?_
    refine pops_go ?_ ?_ (pops_end ?_)
    (repeat refine ka ?_); refine kr ?_ ?_ (pops_end ?_)
    (repeat refine ka ?_); refine kcf ?_
    (repeat refine ka ?_); refine ksk ?_
    (repeat refine ka ?_); refine kr ?_ ?_ ?_
    refine ps_pcall c2 ?_
    refine pops_go ?_ ?_ (pops_end ?_)
    (repeat refine ka ?_); refine kr ?_ ?_ ?_
    refine ps_pcall c3 ?_
    refine pops_go ?_ ?_ (pops_end ?_)
    (repeat refine ka ?_); refine kr ?_ ?_ (pops_end ?_)
    (repeat refine ka ?_); refine kct ?_
    (repeat refine ka ?_); refine kr ?_ ?_ (pops_end ?_)
    (repeat refine ka ?_); refine kret ?_; repeat (first | with_reducible refine beh_r ?_ | with_reducible refine blk_r ?_)
    refine ends_ret ?_ retPV_one
    rfl
  rw [loadF_good k1] at c2
  by_cases k2 : c.right = false ∨ oth % 4 ≠ 0
  · rw [loadF_bad k2] at c3
    unfold Cd.pv Cd.row at c1 c2 c3
    dsimp only at c1 c2 c3
    (repeat refine ka ?_); refine kr ?_ ?_ ?_
    refine ps_box fun g0 => ?_
    refine pops_go ?_ ?_ (pops_end ?_)
    (repeat refine ka ?_); refine kr ?_ ?_ ?_
    refine ps_pcall awake14 ?_
    refine pops_go ?_ ?_ (pops_end ?_)
    (repeat refine ka ?_); refine kr ?_ ?_ ?_
    refine ps_pcall c1 ?_
    refine pops_go ?_ ?_ (pops_end ?_)
    (repeat refine ka ?_); refine kr ?_ ?_ (pops_end ?_)
    (repeat refine ka ?_); refine kcf ?_
    (repeat refine ka ?_); refine ksk ?_
    (repeat refine ka ?_); refine kr ?_ ?_ ?_
    refine ps_pcall c2 ?_
    refine pops_go ?_ ?_ (pops_end ?_)
    (repeat refine ka ?_); refine kr ?_ ?_ ?_
    refine ps_pcall c3 ?_
    refine pops_go ?_ ?_ (pops_end ?_)
    (repeat refine ka ?_); refine kr ?_ ?_ (pops_end ?_)
    (repeat refine ka ?_); refine kct ?_
    (repeat refine ka ?_); refine kr ?_ ?_ (pops_end ?_)
    (repeat refine ka ?_); refine kret ?_; repeat (first | with_reducible refine beh_r ?_ | with_reducible refine blk_r ?_)
    refine ends_ret ?_ retPV_one
    rfl
  rw [loadF_good k2] at c3
  have hrt : c.right = true := by
    cases h : c.right with
    | true => rfl
    | false => exact absurd (.inl h) k1
  have hW := hca.w
  have hin := right_in c.W c.R 0 (by decide) hrt
  have hord := ord_of hrt
  have hlen : ∀ b, (bytesF (turnGo b c.W c.R)).length = 4 * c.W.length := fun b => by rw [bytesF_length, turnGo_length]
  have hval : ∀ b, ∀ r ∈ c.R, _ := fun b r hr => val_told (turnGo_wd b c.R c.W hW) (r := r) (by have := (hin r hr).1; exact ⟨this.1, by rw [turnGo_length]; exact this.2⟩) (hin r hr).2
  have htt : ∀ b, ∀ r ∈ c.R, toldF (turnGo b c.W c.R) r = (toldF c.W r + b) % 4294967296 := fun b => told_turned b c.R 0 c.W (by decide) hW hord (fun r hr => (hin r hr).1)
  have hoct : ∀ b, ∀ x ∈ bytesF (turnGo b c.W c.R), 0 ≤ x ∧ x < 256 := fun b => bytes_oct (turnGo_wd b c.R c.W hW)
  have hun : ∀ j : Nat, j < 4 * c.W.length → (touchGo (List.replicate (4 * c.W.length) false) c.R).getD j false = false → (bytesF (turnGo base c.W c.R)).getD j 0 = (bytesF (turnGo oth c.W c.R)).getD j 0 := fun j hj h => by
    rw [untouched base c.R 0 c.W _ j (by decide) hW hord (fun r hr => (hin r hr).1) (by simp) hj h, untouched oth c.R 0 c.W _ j (by decide) hW hord (fun r hr => (hin r hr).1) (by simp) hj h]
  have hlA := hlen base
  have hlB := hlen oth
  have hvA := hval base
  have hvB := hval oth
  have htA := htt base
  have htB := htt oth
  have hoA := hoct base
  have hoB := hoct oth
  clear hlen hval htt hoct
  generalize turnGo base c.W c.R = WA at *
  generalize turnGo oth c.W c.R = WB at *
  generalize bytesF WA = A at *
  generalize bytesF WB = B at *
  have gA : ∀ k : Nat, 0 ≤ A.getD k 0 ∧ A.getD k 0 < 256 := fun k => by
    rw [List.getD_eq_getElem?_getD]
    rcases Nat.lt_or_ge k A.length with hk | hk
    · rw [List.getElem?_eq_getElem hk]; exact hoA _ (List.getElem_mem hk)
    · rw [List.getElem?_eq_none hk]; decide
  have gB : ∀ k : Nat, 0 ≤ B.getD k 0 ∧ B.getD k 0 < 256 := fun k => by
    rw [List.getD_eq_getElem?_getD]
    rcases Nat.lt_or_ge k B.length with hk | hk
    · rw [List.getElem?_eq_getElem hk]; exact hoB _ (List.getElem_mem hk)
    · rw [List.getElem?_eq_none hk]; decide
  have hrl := relRows_length c.R
  obtain ⟨W, R⟩ := c
  unfold Cd.pv Cd.row at c1 c2 c3
  dsimp only at c1 c2 c3 hsm hlA hlB hvA hvB htA htB hin hun hrl ⊢
  clear hok k1 k2 hrt hord hca hoA hoB hW
  (repeat refine ka ?_); refine kr ?_ ?_ ?_
  refine ps_box fun g0 => ?_
  refine pops_go ?_ ?_ (pops_end ?_)
  (repeat refine ka ?_); refine kr ?_ ?_ ?_
  refine ps_pcall awake14 ?_
  refine pops_go ?_ ?_ (pops_end ?_)
  (repeat refine ka ?_); refine kr ?_ ?_ ?_
  refine ps_pcall c1 ?_
  refine pops_go ?_ ?_ (pops_end ?_)
  (repeat refine ka ?_); refine kr ?_ ?_ (pops_end ?_)
  (repeat refine ka ?_); refine kcf ?_
  (repeat refine ka ?_); refine ksk ?_
  (repeat refine ka ?_); refine kr ?_ ?_ ?_
  refine ps_pcall c2 ?_
  refine pops_go ?_ ?_ (pops_end ?_)
  (repeat refine ka ?_); refine kr ?_ ?_ ?_
  refine ps_pcall c3 ?_
  refine pops_go ?_ ?_ (pops_end ?_)
  (repeat refine ka ?_); refine kr ?_ ?_ (pops_end ?_)
  (repeat refine ka ?_); refine kcf ?_
  (repeat refine ka ?_); refine ksk ?_
  (repeat refine ka ?_); refine kr ?_ ?_ (pops_end ?_)
  (repeat refine ka ?_); refine kcf ?_
  (repeat refine ka ?_); refine ksk ?_
  (repeat refine ka ?_); refine kr ?_ ?_ ?_
  refine ps_make (4 * W.length) (l := (A.length : Int)) (rows := bools (List.replicate (4 * W.length) false)) (fun g1 => ?_) (by omega) (hr := by simp [bools])
  refine pops_go ?_ ?_ (pops_end ?_)
  (repeat refine ka ?_); refine kr ?_ ?_ (pops_end ?_)
  (repeat refine ka ?_); refine kb ?_
  refine kw (fun s : Nat => [(1, .v (.int .u32 base)), (2, .v (.int .u32 oth)), (3, .ptr 0 g0 0 0), (7, .v (.bool true)), (9, .ro 1 false (ints .u8 A)), (11, .ro 1 false (ints .u8 B)), (13, .vw 1 g1 0 (4 * W.length)), (14, .v (.int .i64 s))])
    (fun s => [⟨g0, true, 2, [[.ro 1 false (ints .u32 W), .ro 2 false (relRows R)]]⟩, ⟨g1, true, 1, bools (touchGo (List.replicate (4 * W.length) false) (R.take s))⟩]) (fun s => s ≤ R.length) (fun s => R.length - s) 0 (by simp) (holds 2 (by repeat (first | exact .nil | refine has1 ?_))) ?_
  rintro i hi
  have hTl := touchGo_length (R.take i) (List.replicate (4 * W.length) false)
  rw [List.length_replicate] at hTl
  by_cases h : i < R.length
  · obtain ⟨r, hr⟩ : ∃ r, R[i]? = some r := ⟨R[i], by simp [h]⟩
    have hrow := relRows_get hr
    have hrm := List.mem_of_getElem? hr
    have hri := hin r hrm
    have v1 := hvA r hrm
    have v2 := hvB r hrm
    rw [htA r hrm] at v1
    rw [htB r hrm] at v2
    have htk := touchGo_take (List.replicate (4 * W.length) false) R i r hr
    generalize touchGo (List.replicate (4 * W.length) false) (R.take i) = T at *
    obtain ⟨a, p⟩ := r
    obtain ⟨⟨g2, g3⟩, g4⟩ := hri
    simp only at g2 g3 g4 v1 v2
    dsimp only at hrow htk
    obtain ⟨D, hD⟩ : ∃ D, D = (oth - base) % 4294967296 := ⟨_, rfl⟩
    have w0 : IntKind.u32.wrap (oth - base) = D := (wrap_u32m _).trans hD.symm
    have a0 := gA a.toNat
    have a1 := gA (a + 1).toNat
    have b0 := gB a.toNat
    have b1 := gB (a + 1).toNat
    cases p with
    | false =>
      simp only [Bool.false_eq_true, if_false] at g3 v1 v2
      have a2 := gA (a + 2).toNat
      have a3 := gA (a + 2 + 1).toNat
      have b2 := gB (a + 2).toNat
      have b3 := gB (a + 2 + 1).toNat
      obtain ⟨X, hX⟩ : ∃ X, X = A.getD a.toNat 0 + 256 * A.getD (a + 1).toNat 0 + 65536 * (A.getD (a + 2).toNat 0 + 256 * A.getD (a + 2 + 1).toNat 0) := ⟨_, rfl⟩
      obtain ⟨Y, hY⟩ : ∃ Y, Y = B.getD a.toNat 0 + 256 * B.getD (a + 1).toNat 0 + 65536 * (B.getD (a + 2).toNat 0 + 256 * B.getD (a + 2 + 1).toNat 0) := ⟨_, rfl⟩
      have w1 : IntKind.u32.wrap (Y - X) = D := (wrap_u32m _).trans ((congrArg (fun z => z % 4294967296) (congr (congrArg HSub.hSub (hY.trans v2)) (hX.trans v1))).trans ((turn_sub _ _ _).trans hD.symm))
      have hX1 : 0 ≤ X ∧ X < 4294967296 := by clear w1 w0 hD v1 v2 hY; omega
      have hY1 : 0 ≤ Y ∧ Y < 4294967296 := by clear w1 w0 hD v1 v2 hX; omega
      have wx : IntKind.u32.wrap (A.getD a.toNat 0 + 256 * A.getD (a + 1).toNat 0 + 65536 * (A.getD (a + 2).toNat 0 + 256 * A.getD (a + 2 + 1).toNat 0)) = X := by rw [← hX]; exact (wrap_u32m _).trans (Int.emod_eq_of_lt hX1.1 hX1.2)
      have wy : IntKind.u32.wrap (B.getD a.toNat 0 + 256 * B.getD (a + 1).toNat 0 + 65536 * (B.getD (a + 2).toNat 0 + 256 * B.getD (a + 2 + 1).toNat 0)) = Y := by rw [← hY]; exact (wrap_u32m _).trans (Int.emod_eq_of_lt hY1.1 hY1.2)
      clear hX hY
      clear v1 v2 hD hvA hvB htA htB hin hun gA gB hrm
      have g5 : a + 3 < 4 * (W.length : Int) := by clear w1 w0; omega
      clear g3 g4
      (repeat refine ka ?_); refine kr ?_ ?_ (pops_end ?_)
      (repeat refine ka ?_); refine kct ?_
      (repeat refine ka ?_); refine ksk ?_
      (repeat refine ka ?_); refine kb ?_
      (repeat refine ka ?_); refine kr ?_ ?_ (pops_end ?_)
      (repeat refine ka ?_); refine kd ?_ ?_ (pstl_end ?_)
      (repeat refine ka ?_); refine kd ?_ ?_ (pstl_end ?_)
      (repeat refine ka ?_); refine kr ?_ ?_ (pops_end ?_)
      (repeat refine ka ?_); refine kr ?_ ?_ (pops_end ?_)
      (repeat refine ka ?_); refine kcf ?_
      (repeat refine ka ?_); refine ksk ?_
      (repeat refine ka ?_); refine kd ?_ ?_ (pstl_end ?_)
      (repeat refine ka ?_); refine kd ?_ ?_ (pstl_end ?_)
      (repeat refine ka ?_); refine kr ?_ ?_ (pops_end ?_)
      (repeat refine ka ?_); refine kcf ?_
      (repeat refine ka ?_); refine ksk ?_
      (repeat refine ka ?_); refine kr ?_ ?_ ?_
      refine ps_setb (T := T) a.toNat ?_ (by (try simp only [List.length_set]); omega)
      refine pops_nil ?_
      (repeat refine ka ?_); refine kr ?_ ?_ ?_
      refine ps_setb (T := T.set a.toNat true) (a + 1).toNat ?_ (by (try simp only [List.length_set]); omega)
      refine pops_nil ?_
      (repeat refine ka ?_); refine kr ?_ ?_ ?_
      refine ps_setb (T := (T.set a.toNat true).set (a + 1).toNat true) (a + 2).toNat ?_ (by (try simp only [List.length_set]); omega)
      refine pops_nil ?_
      (repeat refine ka ?_); refine kr ?_ ?_ ?_
      refine ps_setb (T := ((T.set a.toNat true).set (a + 1).toNat true).set (a + 2).toNat true) (a + 2 + 1).toNat ?_ (by (try simp only [List.length_set]); omega)
      refine pops_nil ?_
      refine kn ?_; repeat (first | with_reducible refine blk_n ?_ | with_reducible refine beh_n ?_)
      (repeat refine ka ?_); refine kr ?_ ?_ (pops_end ?_)
      refine kn ?_; repeat (first | with_reducible refine blk_n ?_ | with_reducible refine beh_n ?_)
      refine ⟨i + 1, by omega, by omega, ?_⟩
      rw [htk]
      exact (holds 2 (by repeat (first | exact .nil | refine has1 ?_)))
    | true =>
      simp only [if_true] at g3 v1 v2
      have a2 := gA (a + 4).toNat
      have a3 := gA (a + 4 + 1).toNat
      have b2 := gB (a + 4).toNat
      have b3 := gB (a + 4 + 1).toNat
      obtain ⟨X, hX⟩ : ∃ X, X = A.getD a.toNat 0 + 256 * A.getD (a + 1).toNat 0 + 65536 * (A.getD (a + 4).toNat 0 + 256 * A.getD (a + 4 + 1).toNat 0) := ⟨_, rfl⟩
      obtain ⟨Y, hY⟩ : ∃ Y, Y = B.getD a.toNat 0 + 256 * B.getD (a + 1).toNat 0 + 65536 * (B.getD (a + 4).toNat 0 + 256 * B.getD (a + 4 + 1).toNat 0) := ⟨_, rfl⟩
      have w1 : IntKind.u32.wrap (Y - X) = D := (wrap_u32m _).trans ((congrArg (fun z => z % 4294967296) (congr (congrArg HSub.hSub (hY.trans v2)) (hX.trans v1))).trans ((turn_sub _ _ _).trans hD.symm))
      have hX1 : 0 ≤ X ∧ X < 4294967296 := by clear w1 w0 hD v1 v2 hY; omega
      have hY1 : 0 ≤ Y ∧ Y < 4294967296 := by clear w1 w0 hD v1 v2 hX; omega
      have wx : IntKind.u32.wrap (A.getD a.toNat 0 + 256 * A.getD (a + 1).toNat 0 + 65536 * (A.getD (a + 4).toNat 0 + 256 * A.getD (a + 4 + 1).toNat 0)) = X := by rw [← hX]; exact (wrap_u32m _).trans (Int.emod_eq_of_lt hX1.1 hX1.2)
      have wy : IntKind.u32.wrap (B.getD a.toNat 0 + 256 * B.getD (a + 1).toNat 0 + 65536 * (B.getD (a + 4).toNat 0 + 256 * B.getD (a + 4 + 1).toNat 0)) = Y := by rw [← hY]; exact (wrap_u32m _).trans (Int.emod_eq_of_lt hY1.1 hY1.2)
      clear hX hY
      clear v1 v2 hD hvA hvB htA htB hin hun gA gB hrm
      have g5 : a + 7 < 4 * (W.length : Int) := by clear w1 w0; omega
      clear g3 g4
      (repeat refine ka ?_); refine kr ?_ ?_ (pops_end ?_)
      (repeat refine ka ?_); refine kct ?_
      (repeat refine ka ?_); refine ksk ?_
      (repeat refine ka ?_); refine kb ?_
      (repeat refine ka ?_); refine kr ?_ ?_ (pops_end ?_)
      (repeat refine ka ?_); refine kd ?_ ?_ (pstl_end ?_)
      (repeat refine ka ?_); refine kd ?_ ?_ (pstl_end ?_)
      (repeat refine ka ?_); refine kr ?_ ?_ (pops_end ?_)
      (repeat refine ka ?_); refine kr ?_ ?_ (pops_end ?_)
      (repeat refine ka ?_); refine kct ?_
      (repeat refine ka ?_); refine kr ?_ ?_ (pops_end ?_)
      (repeat refine ka ?_); refine kd ?_ ?_ (pstl_end ?_)
      (repeat refine ka ?_); refine kd ?_ ?_ (pstl_end ?_)
      (repeat refine ka ?_); refine kr ?_ ?_ (pops_end ?_)
      (repeat refine ka ?_); refine kcf ?_
      (repeat refine ka ?_); refine ksk ?_
      (repeat refine ka ?_); refine kr ?_ ?_ ?_
      refine ps_setb (T := T) a.toNat ?_ (by (try simp only [List.length_set]); omega)
      refine pops_nil ?_
      (repeat refine ka ?_); refine kr ?_ ?_ ?_
      refine ps_setb (T := T.set a.toNat true) (a + 1).toNat ?_ (by (try simp only [List.length_set]); omega)
      refine pops_nil ?_
      (repeat refine ka ?_); refine kr ?_ ?_ ?_
      refine ps_setb (T := (T.set a.toNat true).set (a + 1).toNat true) (a + 4).toNat ?_ (by (try simp only [List.length_set]); omega)
      refine pops_nil ?_
      (repeat refine ka ?_); refine kr ?_ ?_ ?_
      refine ps_setb (T := ((T.set a.toNat true).set (a + 1).toNat true).set (a + 4).toNat true) (a + 4 + 1).toNat ?_ (by (try simp only [List.length_set]); omega)
      refine pops_nil ?_
      refine kn ?_; repeat (first | with_reducible refine blk_n ?_ | with_reducible refine beh_n ?_)
      (repeat refine ka ?_); refine kr ?_ ?_ (pops_end ?_)
      refine kn ?_; repeat (first | with_reducible refine blk_n ?_ | with_reducible refine beh_n ?_)
      refine ⟨i + 1, by omega, by omega, ?_⟩
      rw [htk]
      exact (holds 2 (by repeat (first | exact .nil | refine has1 ?_)))
  obtain rfl : i = R.length := by omega
  rw [List.take_length] at hTl ⊢
  (repeat refine ka ?_); refine kr ?_ ?_ (pops_end ?_)
  (repeat refine ka ?_); refine kcf ?_
  (repeat refine ka ?_); refine kx ?_; (repeat (first | with_reducible refine beh_x ?_ | with_reducible refine blk_up rfl ?_)); refine blk_here ?_; refine beh_n ?_
  (repeat refine ka ?_); refine kr ?_ ?_ (pops_end ?_)
  (repeat refine ka ?_); refine kb ?_
  generalize touchGo (List.replicate (4 * W.length) false) R = T at *
  refine kw (fun s : Nat => [(7, .v (.bool true)), (9, .ro 1 false (ints .u8 A)), (11, .ro 1 false (ints .u8 B)), (13, .vw 1 g1 0 (4 * W.length)), (19, .v (.int .i64 s))])
    (fun s => [⟨g0, true, 2, [[.ro 1 false (ints .u32 W), .ro 2 false (relRows R)]]⟩, ⟨g1, true, 1, bools T⟩]) (fun s => s ≤ 4 * W.length) (fun s => 4 * W.length - s) 0 (by simp) (holds 2 (by repeat (first | exact .nil | refine has1 ?_))) ?_
  rintro j hj
  by_cases h : (j : Int) < A.length
  · have hrow : (bools T)[0 + (j : Int).toNat]? = some [.v (.bool (T.getD j false))] := by rw [Int.toNat_natCast, Nat.zero_add]; exact bools_get (by omega)
    have hu := hun j (by omega)
    cases ht : T.getD j false with
    | false =>
      rw [ht] at hrow
      have hu' : A.getD (j : Int).toNat 0 = B.getD (j : Int).toNat 0 := by rw [Int.toNat_natCast]; exact hu ht
      (repeat refine ka ?_); refine kr ?_ ?_ (pops_end ?_)
      (repeat refine ka ?_); refine kct ?_
      (repeat refine ka ?_); refine ksk ?_
      (repeat refine ka ?_); refine kb ?_
      (repeat refine ka ?_); refine kd ?_ ?_ (pstl_end ?_)
      (repeat refine ka ?_); refine kcf ?_
      (repeat refine ka ?_); refine ksk ?_
      refine kn ?_; repeat (first | with_reducible refine blk_n ?_ | with_reducible refine beh_n ?_)
      (repeat refine ka ?_); refine kr ?_ ?_ (pops_end ?_)
      refine kn ?_; repeat (first | with_reducible refine blk_n ?_ | with_reducible refine beh_n ?_)
      exact ⟨j + 1, by omega, by omega, (holds 2 (by repeat (first | exact .nil | refine has1 ?_)))⟩
    | true =>
      rw [ht] at hrow
      (repeat refine ka ?_); refine kr ?_ ?_ (pops_end ?_)
      (repeat refine ka ?_); refine kct ?_
      (repeat refine ka ?_); refine ksk ?_
      (repeat refine ka ?_); refine kb ?_
      (repeat refine ka ?_); refine kd ?_ ?_ (pstl_end ?_)
      (repeat refine ka ?_); refine kcf ?_
      (repeat refine ka ?_); refine ksk ?_
      refine kn ?_; repeat (first | with_reducible refine blk_n ?_ | with_reducible refine beh_n ?_)
      (repeat refine ka ?_); refine kr ?_ ?_ (pops_end ?_)
      refine kn ?_; repeat (first | with_reducible refine blk_n ?_ | with_reducible refine beh_n ?_)
      exact ⟨j + 1, by omega, by omega, (holds 2 (by repeat (first | exact .nil | refine has1 ?_)))⟩
  · (repeat refine ka ?_); refine kr ?_ ?_ (pops_end ?_)
    (repeat refine ka ?_); refine kcf ?_
    (repeat refine ka ?_); refine kx ?_; (repeat (first | with_reducible refine beh_x ?_ | with_reducible refine blk_up rfl ?_)); refine blk_here ?_; refine beh_n ?_
    (repeat refine ka ?_); refine kr ?_ ?_ (pops_end ?_)
    (repeat refine ka ?_); refine kret ?_; repeat (first | with_reducible refine beh_r ?_ | with_reducible refine blk_r ?_)
    refine ends_ret ?_ retPV_one
    rfl
end Go.Proofs.Ytjbbomchmacdjaa.Pv
