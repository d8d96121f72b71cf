-- lz.Back.
import Derived.Test.YteocmeidkdhmiaaLzC
namespace Go.Proofs.Yteocmeidkdhmiaa.Pv
set_option linter.all false
open Go.RowKit Go.Proofs
set_option maxRecDepth 100000
set_option maxHeartbeats 4000000
def Bytes (l : List Int) : Prop := ∀ x ∈ l, 0 ≤ x ∧ x < 256
theorem Bytes.getD {l : List Int} (h : Bytes l) (i : Nat) : 0 ≤ l.getD i 0 ∧ l.getD i 0 < 256 := by
  rcases Nat.lt_or_ge i l.length with hi | hi
  · have : l.getD i 0 = l[i] := by simp [hi]
    rw [this]; exact h _ (List.getElem_mem hi)
  · have : l.getD i 0 = 0 := by simp [hi]
    rw [this]; decide
theorem Bytes.drop {l : List Int} (h : Bytes l) (i : Nat) : Bytes (l.drop i) := fun x hx => h x (List.mem_of_mem_drop hx)
theorem Bytes.take {l : List Int} (h : Bytes l) (i : Nat) : Bytes (l.take i) := fun x hx => h x (List.mem_of_mem_take hx)
theorem getD_take {l : List Int} {i k : Nat} (h : i < k) : (l.take k).getD i 0 = l.getD i 0 := by
  simp [List.getD, List.getElem?_take, h]

/-- A repetition, written. -/
def rep (far : Nat) : Nat → List Int → List Int
  | 0, out => out
  | k + 1, out => rep far k (out ++ [out.getD (out.length - far) 0])
theorem rep_length (far k : Nat) (out : List Int) : (rep far k out).length = out.length + k := by
  induction k generalizing out with
  | zero => rfl
  | succ k ih => rw [rep, ih]; simp; omega
def fin (b out : List Int) : List Int × Int := if 0 < b.length then ([], 2) else (out, 0)
def farOf (b : List Int) : Int := b.getD 0 0 + b.getD 1 0 % 16 * 256 + 1
def longOf (b : List Int) : Int := b.getD 1 0 / 16 + 3
def unit1 (n : Int) (go : List Int → List Int → Int → Nat → List Int × Int) (b out : List Int) (fl : Int) (many : Nat) : List Int × Int :=
  if (b.length : Int) < fl % 2 + 1 then ([], 3)
  else if fl % 2 = 0 then go (b.drop 1) (out ++ [b.getD 0 0]) (fl / 2) (many + 1)
  else if (out.length : Int) < farOf b ∨ n - out.length < longOf b then ([], 2)
  else go (b.drop 2) (rep (farOf b).toNat (longOf b).toNat out) (fl / 2) (many + 1)
def backF (n : Int) : Nat → List Int → List Int → Int → Nat → List Int × Int
  | 0, b, out, fl, many => fin b out
  | q + 1, b, out, fl, many =>
    if n ≤ out.length then fin b out
    else if (many : Int) % 8 = 0 then (if (b.length : Int) < 1 then ([], 3) else unit1 n (backF n q) (b.drop 1) out (b.getD 0 0) many)
    else unit1 n (backF n q) b out fl many
def back (b : List Int) (n : Int) : List Int × Int := if n < 0 ∨ 65536 < n then ([], 1) else backF n n.toNat b [] 0 0
theorem backF_end {n : Int} {q : Nat} {b out : List Int} {fl : Int} {many : Nat} (h : n ≤ out.length) : backF n q b out fl many = fin b out := by
  cases q with
  | zero => rfl
  | succ q => rw [backF, if_pos h]

structure BS where
  b : List Int
  out : List Int
  fl : Int
  many : Nat
  ov : PV
  X : List Blk
def OutV (out : List Int) (ov : PV) (X : List Blk) : Prop := (out = [] ∧ ov = .v (.slice none 0 0) ∧ X = []) ∨ (∃ g L, ov = .vw 2 g 0 out.length ∧ X = [L, ⟨g, true, 1, ints .u8 out⟩])
def boxB (gb : Nat) (b : List Int) : Blk := ⟨gb, true, 1, [[.ro 1 false (ints .u8 b)]]⟩

theorem back_ok (b0 : List Int) (n : Int) (hb : Bytes b0) (hl : b0.length ≤ 1000000) : PCall Try.prog 38 [.ro 1 false (ints .u8 b0), .v (.int .i64 n)] (.tup [.ro 1 false (ints .u8 (back b0 n).1), .v (.int .i64 (back b0 n).2)]) := by
  refine pcall_mkg Try.func38 rfl [.tmp 4, .tmp 5] Try.results38 104 rfl (tk_start ?_)
  (repeat refine ka ?_); refine kr ?_ ?_ ?_
  refine ps_box fun gb => ?_
  refine pops_go ?_ ?_ (pops_end ?_)
  by_cases h1 : n < 0
  · (repeat refine ka ?_); refine kr ?_ ?_ (pops_end ?_)
    (repeat refine ka ?_); refine kct ?_
    (repeat refine ka ?_); refine kr ?_ ?_ (pops_end ?_)
    (repeat refine ka ?_); refine kret ?_; repeat (first | with_reducible refine beh_r ?_ | with_reducible refine blk_r ?_)
    refine ends_ret ?_ retPV_two
    rw [back, if_pos (.inl h1)]
    exact gives_two .nil (.same (.v _))
  by_cases h2 : 65536 < n
  · (repeat refine ka ?_); refine kr ?_ ?_ (pops_end ?_)
    (repeat refine ka ?_); refine kct ?_
    (repeat refine ka ?_); refine kr ?_ ?_ (pops_end ?_)
    (repeat refine ka ?_); refine kret ?_; repeat (first | with_reducible refine beh_r ?_ | with_reducible refine blk_r ?_)
    refine ends_ret ?_ retPV_two
    rw [back, if_pos (.inr h2)]
    exact gives_two .nil (.same (.v _))
  have hback : back b0 n = backF n n.toNat b0 [] 0 0 := by rw [back, if_neg (by omega)]
  (repeat refine ka ?_); refine kr ?_ ?_ (pops_end ?_)
  (repeat refine ka ?_); refine kcf ?_
  (repeat refine ka ?_); refine ksk ?_
  (repeat refine ka ?_); refine kr ?_ ?_ (pops_end ?_)
  (repeat refine ka ?_); refine kr ?_ ?_ (pops_end ?_)
  (repeat refine ka ?_); refine kr ?_ ?_ (pops_end ?_)
  (repeat refine ka ?_); refine kr ?_ ?_ (pops_end ?_)
  (repeat refine ka ?_); refine kb ?_
  refine kw (fun a : BS => [(1, .v (.int .i64 n)), (2, .ptr 0 gb 0 0), (6, a.ov), (7, .fn (.func 57) [] [.ptr 0 gb 0 0]), (8, .v (.int .u8 a.fl)), (9, .v (.int .i64 a.many))]) (fun a => ⟨gb, true, 1, [[.ro 1 false (ints .u8 a.b)]]⟩ :: a.X)
    (fun a => OutV a.out a.ov a.X ∧ Bytes a.b ∧ (0 ≤ a.fl ∧ a.fl < 256) ∧ (a.out.length : Int) ≤ n ∧ a.many ≤ a.out.length ∧ ∃ q : Nat, n ≤ a.out.length + q ∧ backF n q a.b a.out a.fl a.many = back b0 n) (fun a => n.toNat - a.out.length)
    ⟨b0, [], 0, 0, .v (.slice none 0 0), []⟩ ⟨.inl ⟨rfl, rfl, rfl⟩, hb, ⟨Int.le_refl 0, by show (0 : Int) < 256; decide⟩, by simp; omega, by simp, n.toNat, by simp; omega, hback.symm⟩ (holds 1 (by repeat (first | exact .nil | refine has1 ?_))) ?_
  rintro ⟨b, out, fl, many, ov, X⟩ ⟨hov, hbb, hfl, hon, hmo, q, hq, he⟩
  simp only at hov hbb hfl hon hmo hq he ⊢
  (repeat refine ka ?_)
  refine kcut (fun _ : Unit => [(1, .v (.int .i64 n)), (2, .ptr 0 gb 0 0), (6, ov), (7, .fn (.func 57) [] [.ptr 0 gb 0 0]), (8, .v (.int .u8 fl)), (9, .v (.int .i64 many)), (24, .v (.bool (decide ((out.length : Int) < n))))]) (fun _ => ⟨gb, true, 1, [[.ro 1 false (ints .u8 b)]]⟩ :: X) (fun _ => True) ?_ ?_ (by simp)
  · rcases hov with ⟨rfl, rfl, rfl⟩ | ⟨g, L, rfl, rfl⟩
    · (repeat refine ka ?_); refine kr ?_ ?_ (pops_end ?_)
      refine kn ?_; repeat (first | with_reducible refine blk_n ?_ | with_reducible refine beh_n ?_)
      exact ⟨(), trivial, (holds 1 (by repeat (first | exact .nil | refine has1 ?_)))⟩
    · (repeat refine ka ?_); refine kr ?_ ?_ (pops_end ?_)
      refine kn ?_; repeat (first | with_reducible refine blk_n ?_ | with_reducible refine beh_n ?_)
      exact ⟨(), trivial, (holds 3 (by repeat (first | exact .nil | refine has1 ?_)))⟩
  rintro - -
  by_cases g1 : (out.length : Int) < n
  rotate_left
  · (repeat refine ka ?_); refine kcf ?_
    (repeat refine ka ?_); refine kx ?_; (repeat (first | with_reducible refine beh_x ?_ | with_reducible refine blk_up rfl ?_)); refine blk_here ?_; refine beh_n ?_
    rw [backF_end (by omega)] at he
    by_cases g2 : (0 : Int) < b.length
    · (repeat refine ka ?_); refine kr ?_ ?_ (pops_end ?_)
      (repeat refine ka ?_); refine kct ?_
      (repeat refine ka ?_); refine kr ?_ ?_ (pops_end ?_)
      (repeat refine ka ?_); refine kret ?_; repeat (first | with_reducible refine beh_r ?_ | with_reducible refine blk_r ?_)
      refine ends_ret ?_ retPV_two
      rw [← he, fin, if_pos (by omega)]
      exact gives_two .nil (.same (.v _))
    · (repeat refine ka ?_); refine kr ?_ ?_ (pops_end ?_)
      (repeat refine ka ?_); refine kcf ?_
      (repeat refine ka ?_); refine ksk ?_
      (repeat refine ka ?_); refine kr ?_ ?_ (pops_end ?_)
      (repeat refine ka ?_); refine kret ?_; repeat (first | with_reducible refine beh_r ?_ | with_reducible refine blk_r ?_)
      refine ends_ret ?_ retPV_two
      rw [← he, fin, if_neg (by omega)]
      refine gives_two ?_ (.same (.v _))
      rcases hov with ⟨rfl, rfl, rfl⟩ | ⟨g, L, rfl, rfl⟩
      · exact .nil
      · exact gives_ints rfl rfl rfl
  obtain ⟨q, rfl⟩ : ∃ q', q = q' + 1 := ⟨q - 1, by omega⟩
  rw [backF, if_neg (by omega)] at he
  (repeat refine ka ?_); refine kct ?_
  (repeat refine ka ?_); refine ksk ?_
  (repeat refine ka ?_); refine kb ?_
  (repeat refine ka ?_); refine kr ?_ ?_ (pops_end ?_)
  (repeat refine ka ?_)
  refine kcut (fun a : List Int × Int => [(1, .v (.int .i64 n)), (2, .ptr 0 gb 0 0), (6, ov), (7, .fn (.func 57) [] [.ptr 0 gb 0 0]), (8, .v (.int .u8 a.2)), (9, .v (.int .i64 many))]) (fun a => ⟨gb, true, 1, [[.ro 1 false (ints .u8 a.1)]]⟩ :: X)
    (fun a => Bytes a.1 ∧ (0 ≤ a.2 ∧ a.2 < 256) ∧ unit1 n (backF n q) a.1 out a.2 many = back b0 n) ?_ ?_ (by simp)
  · by_cases g2 : (many : Int) % 8 = 0
    · rw [if_pos g2] at he
      (repeat refine ka ?_); refine kct ?_
      (repeat refine ka ?_); refine kr ?_ ?_ ?_
      refine ps_vcall (first := []) (us := [.v (.int .i64 1)]) (captured := [.ptr 0 gb 0 0]) (take_ok 1 b (by decide) gb X) ?_
      rintro x S' (⟨h, rfl, rfl⟩ | ⟨h, rfl, rfl⟩)
      · rw [if_pos h] at he
        refine pops_go ?_ ?_ (pops_end ?_)
        (repeat refine ka ?_); refine kr ?_ ?_ (pops_end ?_)
        (repeat refine ka ?_); refine kct ?_
        (repeat refine ka ?_); refine kr ?_ ?_ (pops_end ?_)
        (repeat refine ka ?_); refine kret ?_; repeat (first | with_reducible refine beh_r ?_ | with_reducible refine blk_r ?_)
        refine ends_ret ?_ retPV_two
        rw [← he]
        exact gives_two .nil (.same (.v _))
      · rw [if_neg (by omega)] at he
        refine pops_go ?_ ?_ (pops_end ?_)
        (repeat refine ka ?_); refine kr ?_ ?_ (pops_end ?_)
        (repeat refine ka ?_); refine kcf ?_
        (repeat refine ka ?_); refine ksk ?_
        have e1 : (b.take (1 : Int).toNat).length = 1 := by rw [List.length_take]; omega
        (repeat refine ka ?_); refine kr ?_ ?_ (pops_end ?_)
        refine kn ?_; repeat (first | with_reducible refine blk_n ?_ | with_reducible refine beh_n ?_)
        refine ⟨(b.drop 1, b.getD 0 0), ⟨hbb.drop 1, hbb.getD 0, he⟩, ?_⟩
        rw [← getD_take (l := b) (i := 0) (k := 1) (by decide)]
        exact (holdsA (by repeat (first | exact .nil | refine has1 ?_)))
    · rw [if_neg g2] at he
      (repeat refine ka ?_); refine kcf ?_
      (repeat refine ka ?_); refine ksk ?_
      refine kn ?_; repeat (first | with_reducible refine blk_n ?_ | with_reducible refine beh_n ?_)
      exact ⟨(b, fl), ⟨hbb, hfl, he⟩, (holdsA (by repeat (first | exact .nil | refine has1 ?_)))⟩
  rintro ⟨b', fl'⟩ ⟨hb', hf', he'⟩
  simp only at hb' hf' he' ⊢
  clear he hbb hfl
  rw [unit1] at he'
  have hodd := and1_u8 fl' hf'.1 hf'.2
  (repeat refine ka ?_); refine kr ?_ ?_ ?_
  try rw [hodd]
  refine pops_go ?_ ?_ ?_
  refine ps_vcall (first := []) (us := [.v (.int .i64 (fl' % 2 + 1))]) (captured := [.ptr 0 gb 0 0]) (take_ok (fl' % 2 + 1) b' (by omega) gb X) ?_
  rintro x S' (⟨h, rfl, rfl⟩ | ⟨h, rfl, rfl⟩)
  · rw [if_pos h] at he'
    refine pops_go ?_ ?_ (pops_end ?_)
    (repeat refine ka ?_); refine kr ?_ ?_ (pops_end ?_)
    (repeat refine ka ?_); refine kct ?_
    (repeat refine ka ?_); refine kr ?_ ?_ (pops_end ?_)
    (repeat refine ka ?_); refine kret ?_; repeat (first | with_reducible refine beh_r ?_ | with_reducible refine blk_r ?_)
    refine ends_ret ?_ retPV_two
    rw [← he']
    exact gives_two .nil (.same (.v _))
  rw [if_neg (by omega)] at he'
  have hlen : (b'.take (fl' % 2 + 1).toNat).length = (fl' % 2 + 1).toNat := by rw [List.length_take]; omega
  refine pops_go ?_ ?_ (pops_end ?_)
  (repeat refine ka ?_); refine kr ?_ ?_ (pops_end ?_)
  (repeat refine ka ?_); refine kcf ?_
  (repeat refine ka ?_); refine ksk ?_
  by_cases g3 : fl' % 2 = 0
  · rw [if_pos g3] at he'
    (repeat refine ka ?_); refine kr ?_ ?_ ?_
    try rw [hodd]
    refine pops_go ?_ ?_ (pops_end ?_)
    (repeat refine ka ?_); refine kct ?_
    have hd : (b'.take (fl' % 2 + 1).toNat).getD (0 : Int).toNat 0 = b'.getD 0 0 := getD_take (by show 0 < _; omega)
    have h1' : (fl' % 2 + 1).toNat = 1 := by omega
    rcases hov with ⟨rfl, rfl, rfl⟩ | ⟨g, L, rfl, rfl⟩
    · simp only [List.length_nil] at hon hmo g1 hq
      (repeat refine ka ?_); refine kr ?_ ?_ ?_
      refine ps_lit fun w1 => ?_
      refine ps_app_nil fun w2 => ?_
      refine pops_go ?_ ?_ (pops_end ?_)
      (repeat refine ka ?_); refine kr ?_ ?_ (pops_end ?_)
      refine kn ?_; repeat (first | with_reducible refine blk_n ?_ | with_reducible refine beh_n ?_)
      (repeat refine ka ?_); refine kr ?_ ?_ (pops_end ?_)
      refine kn ?_; repeat (first | with_reducible refine blk_n ?_ | with_reducible refine beh_n ?_)
      rw [hd]
      refine ⟨⟨b'.drop 1, [b'.getD 0 0], fl' / 2, many + 1, .vw 2 w2 0 1, [⟨w1, true, 1, ints .u8 [b'.getD 0 0]⟩, ⟨w2, true, 1, ints .u8 [b'.getD 0 0]⟩]⟩, ⟨.inr ⟨w2, _, rfl, rfl⟩, hb'.drop 1, by simp only; omega, by simp only [List.length_singleton]; omega, by simp only [List.length_singleton]; omega, q, by simp only [List.length_singleton]; omega, he'⟩, by simp only [List.length_singleton, List.length_nil]; omega, ?_⟩
      rw [h1']
      exact (holdsA (by repeat (first | exact .nil | refine has1 ?_)))
    · (repeat refine ka ?_); refine kr ?_ ?_ ?_
      refine ps_lit fun w1 => ?_
      refine ps_app_vw fun w2 => ?_
      refine pops_go ?_ ?_ (pops_end ?_)
      (repeat refine ka ?_); refine kr ?_ ?_ (pops_end ?_)
      refine kn ?_; repeat (first | with_reducible refine blk_n ?_ | with_reducible refine beh_n ?_)
      (repeat refine ka ?_); refine kr ?_ ?_ (pops_end ?_)
      refine kn ?_; repeat (first | with_reducible refine blk_n ?_ | with_reducible refine beh_n ?_)
      rw [hd]
      refine ⟨⟨b'.drop 1, out ++ [b'.getD 0 0], fl' / 2, many + 1, .vw 2 w2 0 (out ++ [b'.getD 0 0]).length, [L, ⟨w2, true, 1, ints .u8 (out ++ [b'.getD 0 0])⟩]⟩, ⟨.inr ⟨w2, _, rfl, rfl⟩, hb'.drop 1, by simp only; omega, by simp only [List.length_append, List.length_singleton]; omega, by simp only [List.length_append, List.length_singleton]; omega, q, by simp only [List.length_append, List.length_singleton]; omega, he'⟩, by simp only [List.length_append, List.length_singleton]; omega, ?_⟩
      rw [h1']
      exact (holds 3 (by repeat (first | exact .nil | refine has1 ?_)))
  · rw [if_neg g3] at he'
    have h2' : (fl' % 2 + 1).toNat = 2 := by omega
    rw [h2'] at hlen ⊢
    have hr0 := (hb'.take 2).getD (Int.toNat 0)
    have hr1 := (hb'.take 2).getD (Int.toNat 1)
    have hd0 : (b'.take 2).getD (0 : Int).toNat 0 = b'.getD 0 0 := getD_take (by decide)
    have hd1 : (b'.take 2).getD (1 : Int).toNat 0 = b'.getD 1 0 := getD_take (by decide)
    have hA := and15_u8 _ hr1.1 hr1.2
    have hO := or_add_256 _ (Go.bits .and .u8 ((b'.take 2).getD (Int.toNat 1) 0) 15) hr0.1 hr0.2 (by omega) (by omega)
    rw [hA] at hO
    (repeat refine ka ?_); refine kr ?_ ?_ ?_
    try rw [hodd]
    refine pops_go ?_ ?_ (pops_end ?_)
    (repeat refine ka ?_); refine kcf ?_
    (repeat refine ka ?_); refine kd ?_ ?_ (pstl_end ?_)
    have hfar : farOf b' = (b'.take 2).getD (Int.toNat 0) 0 + (b'.take 2).getD (Int.toNat 1) 0 % 16 * 256 + 1 := by rw [hd0, hd1]; rfl
    have hlong : longOf b' = (b'.take 2).getD (Int.toNat 1) 0 / 16 + 3 := by rw [hd1]; rfl
    rw [← hfar, ← hlong]
    have hf1 : 1 ≤ farOf b' ∧ farOf b' ≤ 4096 := by omega
    have hl1 : 3 ≤ longOf b' ∧ longOf b' ≤ 18 := by omega
    clear hr0 hr1 hd0 hd1 hA hO hfar hlong
    rcases hov with ⟨rfl, rfl, rfl⟩ | ⟨g, L, rfl, rfl⟩
    · simp only [List.length_nil] at hon hmo g1 hq
      rw [if_pos (.inl (by simp only [List.length_nil]; omega))] at he'
      (repeat refine ka ?_); refine kr ?_ ?_ (pops_end ?_)
      (repeat refine ka ?_); refine kct ?_
      (repeat refine ka ?_); refine kr ?_ ?_ (pops_end ?_)
      (repeat refine ka ?_); refine kret ?_; repeat (first | with_reducible refine beh_r ?_ | with_reducible refine blk_r ?_)
      refine ends_ret ?_ retPV_two
      rw [← he']
      exact gives_two .nil (.same (.v _))
    by_cases e1 : (out.length : Int) < farOf b'
    · rw [if_pos (.inl e1)] at he'
      (repeat refine ka ?_); refine kr ?_ ?_ (pops_end ?_)
      (repeat refine ka ?_); refine kct ?_
      (repeat refine ka ?_); refine kr ?_ ?_ (pops_end ?_)
      (repeat refine ka ?_); refine kret ?_; repeat (first | with_reducible refine beh_r ?_ | with_reducible refine blk_r ?_)
      refine ends_ret ?_ retPV_two
      rw [← he']
      exact gives_two .nil (.same (.v _))
    by_cases e2 : n - out.length < longOf b'
    · rw [if_pos (.inr e2)] at he'
      (repeat refine ka ?_); refine kr ?_ ?_ (pops_end ?_)
      (repeat refine ka ?_); refine kct ?_
      (repeat refine ka ?_); refine kr ?_ ?_ (pops_end ?_)
      (repeat refine ka ?_); refine kret ?_; repeat (first | with_reducible refine beh_r ?_ | with_reducible refine blk_r ?_)
      refine ends_ret ?_ retPV_two
      rw [← he']
      exact gives_two .nil (.same (.v _))
    rw [if_neg (by omega)] at he'
    (repeat refine ka ?_); refine kr ?_ ?_ (pops_end ?_)
    (repeat refine ka ?_); refine kcf ?_
    (repeat refine ka ?_); refine ksk ?_
    (repeat refine ka ?_); refine kr ?_ ?_ (pops_end ?_)
    (repeat refine ka ?_); refine kb ?_
    generalize hF : farOf b' = F at *
    generalize hG : longOf b' = G at *
    refine kw (fun a : Nat × List Int × Nat => [(1, .v (.int .i64 n)), (2, .ptr 0 gb 0 0), (6, .vw 2 a.2.2 0 a.2.1.length), (7, .fn (.func 57) [] [.ptr 0 gb 0 0]), (8, .v (.int .u8 fl')), (9, .v (.int .i64 many)), (12, .v (.int .i64 F)), (84, .v (.int .i64 G)), (85, .v (.int .i64 a.1))]) (fun a => [⟨gb, true, 1, [[.ro 1 false (ints .u8 (b'.drop 2))]]⟩, L, ⟨a.2.2, true, 1, ints .u8 a.2.1⟩])
      (fun a => a.1 ≤ G.toNat ∧ a.2.1.length = out.length + a.1 ∧ rep F.toNat (G.toNat - a.1) a.2.1 = rep F.toNat G.toNat out) (fun a => G.toNat - a.1) (0, out, g) ⟨by simp, by simp, by simp⟩ (holds 3 (by repeat (first | exact .nil | refine has1 ?_))) ?_
    rintro ⟨i, o, w⟩ ⟨hi, ho, hr⟩
    simp only at hi ho hr ⊢
    by_cases g4 : (i : Int) < G
    · (repeat refine ka ?_); refine kr ?_ ?_ (pops_end ?_)
      (repeat refine ka ?_); refine kct ?_
      (repeat refine ka ?_); refine ksk ?_
      (repeat refine ka ?_); refine kb ?_
      (repeat refine ka ?_); refine kr ?_ ?_ ?_
      refine ps_lit fun w1 => ?_
      refine ps_app_vw fun w2 => ?_
      refine pops_go ?_ ?_ (pops_end ?_)
      refine kn ?_; repeat (first | with_reducible refine blk_n ?_ | with_reducible refine beh_n ?_)
      (repeat refine ka ?_); refine kr ?_ ?_ (pops_end ?_)
      refine kn ?_; repeat (first | with_reducible refine blk_n ?_ | with_reducible refine beh_n ?_)
      refine ⟨(i + 1, o ++ [o.getD (o.length - F.toNat) 0], w2), ⟨by simp only; omega, by simp only [List.length_append, List.length_singleton]; omega, ?_⟩, by simp only; omega, ?_⟩
      · rw [← hr, show G.toNat - i = (G.toNat - (i + 1)) + 1 by omega]; rfl
      · rw [show o.length - F.toNat = ((o.length : Int) - F).toNat by omega]
        exact (holds 3 (by repeat (first | exact .nil | refine has1 ?_)))
    · (repeat refine ka ?_); refine kr ?_ ?_ (pops_end ?_)
      (repeat refine ka ?_); refine kcf ?_
      (repeat refine ka ?_); refine kx ?_; (repeat (first | with_reducible refine beh_x ?_ | with_reducible refine blk_up rfl ?_)); refine blk_here ?_; refine beh_n ?_
      have hi2 : i = G.toNat := by omega
      subst hi2
      rw [Nat.sub_self, rep] at hr
      (repeat refine ka ?_); refine kr ?_ ?_ (pops_end ?_)
      refine kn ?_; repeat (first | with_reducible refine blk_n ?_ | with_reducible refine beh_n ?_)
      (repeat refine ka ?_); refine kr ?_ ?_ (pops_end ?_)
      refine kn ?_; repeat (first | with_reducible refine blk_n ?_ | with_reducible refine beh_n ?_)
      refine ⟨⟨b'.drop 2, o, fl' / 2, many + 1, .vw 2 w 0 o.length, [L, ⟨w, true, 1, ints .u8 o⟩]⟩, ⟨.inr ⟨w, _, rfl, rfl⟩, hb'.drop 2, by simp only; omega, by simp only; omega, by simp only; omega, q, by simp only; omega, by rw [hr]; exact he'⟩, by simp only; omega, (holds 3 (by repeat (first | exact .nil | refine has1 ?_)))⟩
end Go.Proofs.Yteocmeidkdhmiaa.Pv
