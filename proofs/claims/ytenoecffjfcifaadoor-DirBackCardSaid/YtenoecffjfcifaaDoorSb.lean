-- The bytes of a string: a block of its own.
import Derived.Test.YtenoecffjfcifaaDoorFz
import Derived.Test.YtenoecffjfcifaaDoorIfc
import Derived.Lib.ConvBytes
namespace Go.Proofs.YtenoecffjfcifaaDoor.Pv
set_option linter.all false
set_option linter.unusedVariables false
open Go.RowKit Go.Proofs
set_option maxRecDepth 100000
set_option maxHeartbeats 4000000
theorem str_data {l : List Int} (h : Oct l) {i : Nat} {z : Int} (hz : l[i]? = some z) : (str l).data[i]? = some (UInt8.ofNat z.toNat) ∧ ((UInt8.ofNat z.toNat).toNat : Int) = z := by
  have hb := h z (List.mem_of_getElem? hz)
  constructor
  · simp [str, hz]
  · simp only [UInt8.toNat_ofNat']
    rw [Nat.mod_eq_of_lt (by omega)]
    omega
theorem pop_sb {P : Program} {σ : PS} {o : Oper} {K : PV → List Blk → Prop} {t t' e : TypeId} {x : Operand} {l : List Int} (ho : o.op = .convert t t' x) (ht : P.underlying t = some .string) (ht' : P.underlying t' = some (.slice e)) (he : P.underlying e = some (.int .u8))
    (hx : σ.get x = .v (.string (str l))) (hO : Oct l) (hl : l.length ≤ 1000000000) (hK : ∀ g, K (.vw σ.S.length g 0 l.length) (σ.S ++ [⟨g, true, 1, ints .u8 l⟩])) : PopSem P σ o K :=
  pop_of_run fun c a r => by
    have h1 := r.get x
    rw [hx] at h1
    generalize hax : a.eval x = vx at h1
    cases h1 with
    | v _ =>
      have hsz : (str l).size = l.length := str_size l
      have hcs : l.length ≤ (Go.Lib.bytesCells c.w e (str l)).size := by
        simp only [Go.Lib.bytesCells, Array.size_append, Array.size_map, Array.size_replicate]
        have : (str l).data.size = l.length := hsz
        omega
      have hcap := grownCap_ge c.w l.length 0 e
      obtain ⟨i1, i2⟩ := pushBlk r.inv (Go.Lib.bytesWorld c.w e (str l)) ⟨c.N, true, 1, ints .u8 l⟩ (some (c.w.heap.size, 0)) rfl rfl rfl (by rw [Go.Lib.bytesWorld_size]; omega) (fun b hb => Go.Lib.bytesWorld_at_old c.w e _ b hb) rfl
        (fun i row hr => by obtain ⟨z, _, rfl⟩ := List.mem_map.1 (List.mem_of_getElem? hr); rfl) (fun h => by cases h)
        (fun q hq => by
          cases hq
          refine ⟨Nat.le_refl _, _, _, _, Go.Lib.bytesWorld_at_new c.w e _, by simpa [ints_length] using hcs, fun i row j z hr hz => ?_, fun _ => .inr (Nat.le_refl _)⟩
          rw [ints, List.getElem?_map] at hr
          obtain ⟨y, hy, rfl⟩ := Option.map_eq_some_iff.1 hr
          have hj : j = 0 := by
            have := (List.getElem?_eq_some_iff.1 hz).1
            simp at this
            omega
          subst hj
          simp at hz
          subst hz
          obtain ⟨k1, k2⟩ := str_data hO hy
          refine ⟨.int .u8 y, ?_, rfl, .v _⟩
          have hlt : i < (str l).data.size := (Array.getElem?_eq_some_iff.1 k1).1
          rw [Go.Lib.bytesCells, Nat.zero_add, Nat.mul_one, Nat.add_zero, Array.getElem?_append_left (by simpa using hlt), Array.getElem?_map, k1]
          simp only [Option.map_some]
          rw [k2])
      have hlg := ints_length .u8 l
      refine ⟨.vw c.S.length c.N 0 l.length, _, .slice (some ⟨c.w.heap.size, 0, none⟩) l.length (grownCap c.w l.length 0 e), ?_, by rw [← r.S] at hK; exact hK _, i1, i2, .vw _ _ _ _ _ ⟨_, _, rfl⟩ (Nat.lt_succ_self _) (fun blk hb _ => ?_)⟩
      · simp only [execOp, ho, hax]
        refine mk_run ?_
        rw [← hsz]
        exact Go.Lib.run_convert_string_bytes c.w t t' e (str l) ht ht' he
      · simp at hb
        subst hb
        refine ⟨by simp [hlg], some ⟨c.w.heap.size, 0, none⟩, _, rfl, hcap, grownCap_le_maxLen c.w _ 0 e (by simp only [maxLen]; omega), .inl ⟨(c.w.heap.size, 0), by simp, by simp, ?_⟩⟩
        have hcs2 : grownCap c.w l.length 0 e ≤ (Go.Lib.bytesCells c.w e (str l)).size := by
          simp only [Go.Lib.bytesCells, Array.size_append, Array.size_map, Array.size_replicate, hsz]
          rw [show (str l).data.size = l.length from hsz]
          omega
        exact ⟨_, _, _, Go.Lib.bytesWorld_at_new c.w e _, by simpa using hcs2⟩
section
variable {P : Program} {ops : List Oper} {Q : PS → Prop} {rest : List Oper} {n : Nat} {tm : List (Nat × PV)} {S S' : List Blk} {d : Tmp} {ty : TypeId} {pos : String} {af : Array Edge} {t t' e : TypeId} {x y s : Operand}
theorem ps_sb {l : List Int} {m : Nat} {S' : Nat → List Blk} [ht : Und P t .string] [ht' : Und P t' (.slice e)] [he : Und P e (.int .u8)] (hO : Oct l) (k : ∀ g, Pops P ops Q rest ⟨n, (d, .vw m g 0 l.length) :: tm, S' g⟩) (hl : l.length ≤ 1000000000 := by omega)
    (hx : PS.get ⟨n, tm, S⟩ x = .v (.string (str l)) := by ((conv => lhs; whnf) <;> fail "no")) (hm : S.length = m := by first | (simp only [List.length_cons, List.length_nil, Nat.reduceAdd, Nat.zero_add]; exact rfl) | exact rfl)
    (hS : ∀ g, S ++ [⟨g, true, 1, ints .u8 l⟩] = S' g := by intro g_; first | (simp only [List.cons_append, List.nil_append]; exact rfl) | exact rfl) : Pops P ops Q (⟨some d, .convert t t' x, ty, pos, af, none⟩ :: rest) ⟨n, tm, S⟩ := by
  subst hm
  exact pops_one rfl (pop_sb rfl ht.h ht'.h he.h hx hO hl fun g => by rw [hS g]; exact k g)
/-- Bytes that nobody writes. -/
theorem pd_sb {l : List Int} [ht : Und P t .string] [ht' : Und P t' (.slice e)] [he : Und P e (.int .u8)] (hO : Oct l) (k : PStL P ops Q rest ⟨n, (d, .ro 1 false (ints .u8 l)) :: tm, S⟩) (hl : l.length ≤ 1000000000 := by omega)
    (hx : PS.get ⟨n, tm, S⟩ x = .v (.string (str l)) := by ((conv => lhs; whnf) <;> fail "no")) : PStL P ops Q (⟨some d, .convert t t' x, ty, pos, af, none⟩ :: rest) ⟨n, tm, S⟩ := by
  refine ⟨.ro 1 false (ints .u8 l), ?_, k⟩
  unfold GSt
  refine .sem fun σ' hg hS => pop_litg (pop_sb rfl ht.h ht'.h he.h ?_ hO hl fun g => ⟨g, rfl, rfl⟩) (ints_length _ _) ?_ ⟨rfl, rfl⟩
  · rw [← hg x (by simp [Op.operands])]
    exact hx
  · intro row hr z hz
    obtain ⟨y, _, rfl⟩ := List.mem_map.1 hr
    rw [List.mem_singleton] at hz
    subst hz
    exact .v _
end
end Go.Proofs.YtenoecffjfcifaaDoor.Pv
