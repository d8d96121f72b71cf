-- stub: what is written down.
import Derived.Test.YtgbfbcbblndnoaaAsP
import Derived.Test.YtgbfbcbblndnoaaIfc
namespace Go.Proofs.Ytgbfbcbblndnoaa.Pv
set_option linter.all false
open Go.RowKit Go.Proofs
set_option maxRecDepth 100000
set_option maxHeartbeats 4000000
section
variable {P : Program} {ops : List Oper} {Q : PS → Prop} {rest : List Oper} {n : Nat} {tm : List (Nat × PV)} {S S' : List Blk} {d : Tmp} {ty : TypeId} {pos : String} {af : Array Edge} {t t' e : TypeId}
theorem ps_lith {len sz : Nat} {parts : Array (Nat × Operand)} {ps : List (Nat × PV)} {zr : List PV} {bb : Bool} {rows : List (List PV)} [ht : Und P t (.slice e)] [hz : Zer P e zr] [hk : AggT P e bb] [hc : Cel P e sz] (k : Pops P ops Q rest ⟨n, (d, .ro sz false rows) :: tm, S⟩)
    (hpure : ∀ row ∈ rows, ∀ x ∈ row, PV.Pure x) (hsz : sz = zr.length := by rfl) (hpos : 0 < zr.length := by decide) (hb : len * zr.length ≤ 16777216 := by decide) (hl : rows.length = len := by rfl) (hp : (parts.toList.map fun p => (p.1, PS.get ⟨n, tm, S⟩ p.2)) = ps := by first | (simp only [List.map_cons, List.map_nil, PS.get, look, ofValue, ↓reduceIte, Nat.reduceEqDiff, reduceCtorEq]; exact rfl) | rfl) (hf : fillRows sz (List.replicate len zr) ps = some rows := by first | (simp only [List.replicate_succ, List.replicate_zero, fillRows, cellsPV, Value.oneCell', List.length_cons, List.length_nil, List.set_cons_zero, List.set_cons_succ, Nat.reduceAdd, Nat.zero_add, Nat.reduceLT, Nat.reduceSub, Bool.and_self, decide_true, if_true, ↓reduceIte]; exact rfl) | rfl) :
    Pops P ops Q (⟨some d, .buildSlice t len parts, ty, pos, af, none⟩ :: rest) ⟨n, tm, S⟩ := by
  subst hp hsz
  exact pops_one rfl (pop_litg (pop_lit rfl ht.h hz.h hk.h.2 hc.h hpos hb hf fun g => ⟨g, rfl, rfl⟩) hl hpure k)
end
def lnB (L : List It) (gb gl : Nat) : List Blk := [⟨gb, true, 1, [[.vw 1 gl 0 L.length]]⟩, ⟨gl, true, 8, itRows L⟩]
/-- What a method that writes lines down does. -/
def LCall (f : FuncId) (xs : List PV) (L L' : List It) : Prop := ∀ gb gl, GCall Try.prog f (.ptr 0 gb 0 0 :: xs) (lnB L gb gl) fun x S' => ∃ gl', S' = lnB L' gb gl' ∧ x = .tup []
theorem ren_its (f : Nat → Nat) (L : List It) : (itRows L).map (renL f) = itRows L := by
  unfold itRows
  rw [List.map_map]
  rfl
theorem ren_lnB (p0 p1 m : Nat) (L : List It) (gb gl : Nat) : (lnB L gb gl).map (renB (sg [p0, p1] m)) = [⟨gb, true, 1, [[.vw p1 gl 0 L.length]]⟩, ⟨gl, true, 8, itRows L⟩] := by
  simp only [lnB, List.map_cons, List.map_nil, renB, ren_its]
  rfl
section
variable {ops : List Oper} {Q : PS → Prop} {rest : List Oper} {n : Nat} {tm : List (Nat × PV)} {d : Tmp} {ty : TypeId} {pos : String} {af : Array Edge}
/-- A call that writes lines down, by its name or by a function value. -/
theorem ps_lat {f : FuncId} [hf : FnOk Try.prog f] {fo : Operand} {args : Array Operand} {ats : Array TypeId} {first captured us xs : List PV} {L L' : List It} {gb gl : Nat} {S : List Blk} {S' : Nat → List Blk} (p0 p1 : Nat) (h : LCall f xs L L')
    (k : ∀ gl', Pops Try.prog ops Q rest ⟨n, (d, .tup []) :: tm, S' gl'⟩)
    (hS' : ∀ gl', (S.set p0 ⟨gb, true, 1, [[.vw p1 gl' 0 L'.length]]⟩).set p1 ⟨gl', true, 8, itRows L'⟩ = S' gl' := by intro _; first | (simp only [List.set_cons_zero, List.set_cons_succ]; exact rfl) | exact rfl)
    (h0 : S[p0]? = some ⟨gb, true, 1, [[.vw p1 gl 0 L.length]]⟩ := by rfl) (h1 : S[p1]? = some ⟨gl, true, 8, itRows L⟩ := by rfl)
    (hv : PS.get ⟨n, tm, S⟩ fo = .fn (.func f) first captured := by rfl) (ha : args.toList.map (PS.get ⟨n, tm, S⟩) = us := by first | rfl | (simp only [List.map_cons, List.map_nil, PS.get, look, ↓reduceIte, Nat.reduceEqDiff, reduceCtorEq]; exact rfl))
    (he : first ++ us ++ captured = .ptr p0 gb 0 0 :: xs := by rfl) (hx : ∀ f, renL f xs = xs := by intro _; rfl) (hn : [p0, p1].Nodup := by decide) :
    Pops Try.prog ops Q (⟨some d, .call ⟨.value fo, args, ats⟩, ty, pos, af, none⟩ :: rest) ⟨n, tm, S⟩ := by
  have hfr := gcall_frame (Sb := S) (h gb gl) [p0, p1] hn rfl (by
    intro a ha
    simp only [List.mem_cons, List.not_mem_nil, or_false] at ha
    rcases ha with rfl | rfl
    · exact (List.getElem?_eq_some_iff.1 h0).1
    · exact (List.getElem?_eq_some_iff.1 h1).1) (by
    intro i a hi
    have e2 := congrArg (fun l : List Blk => l[i]?) (ren_lnB p0 p1 S.length L gb gl)
    simp only [List.getElem?_map] at e2
    rw [e2]
    have : i = 0 ∨ i = 1 := by
      have := (List.getElem?_eq_some_iff.1 hi).1
      simp only [List.length_cons, List.length_nil] at this
      omega
    rcases this with rfl | rfl <;> (cases hi; first | exact h0 | exact h1)) (by
    rintro x S' ⟨gl', rfl, rfl⟩
    exact Nat.le_refl _)
  refine ps_vcall (first := first) (captured := captured) (us := us) (R := fun x' Sb' => ∃ gl', x' = .tup [] ∧ Sb' = putB [p0, p1] ((lnB L' gb gl').map (renB (sg [p0, p1] S.length))) S) ?_ ?_ hv ha
  · rw [he]
    have e : renL (sg [p0, p1] S.length) (.ptr 0 gb 0 0 :: xs) = .ptr p0 gb 0 0 :: xs := by
      show .ptr p0 gb 0 0 :: renL _ xs = _
      rw [hx]
    rw [← e]
    refine hfr.mono ?_
    rintro x S' ⟨x0, S0', ⟨gl', rfl, rfl⟩, rfl, rfl⟩
    exact ⟨gl', rfl, rfl⟩
  · rintro x S1 ⟨gl', rfl, rfl⟩
    rw [ren_lnB]
    simp only [putB, List.append_nil]
    rw [hS']
    exact k gl'
end

def thL (L : List It) (op : Int) (x : Int) (y : Int) (z : Int) : List It := L ++ [⟨1, [], op, x, y, z, 0, 0⟩]
theorem thL_le {L : List It} {op : Int} {x : Int} {y : Int} {z : Int} {c B : Nat} (h : L.length + (c + 1) ≤ B) : (thL L op x y z).length + c ≤ B := by
  rw [thL, List.length_append, List.length_singleton]
  omega
theorem three_ok (L : List It) (hL : L.length + 1 ≤ 3000) (op : Int) (x : Int) (y : Int) (z : Int) : LCall 29 [.v (.int .i64 op), .v (.int .i64 x), .v (.int .i64 y), .v (.int .i64 z)] L (thL L op x y z) := by
  intro gb gl
  have hcl := itRows_length L
  have hcl2 : (L ++ [(⟨1, [], op, x, y, z, 0, 0⟩ : It)]).length = L.length + 1 := by rw [List.length_append, List.length_singleton]
  unfold thL
  rw [lnB]
  refine gcall_of_tr Try.func29 rfl [] Try.results29 25 rfl (tk_start ?_)
  (repeat refine ka ?_); refine kr ?_ ?_ ?_
  refine ps_lith (rows := itRows [(⟨1, [], op, x, y, z, 0, 0⟩ : It)]) ?_ (itRows_pure _)
  refine ps_app_vw (m := (L ++ [(⟨1, [], op, x, y, z, 0, 0⟩ : It)]).length) (rows' := itRows (L ++ [(⟨1, [], op, x, y, z, 0, 0⟩ : It)])) (fun g => ?_) (hlen := (itRows_length _).symm) (hrows := by simp [itRows])
  refine pops_go ?_ ?_ ?_
  refine ps_store ?_
  refine pops_nil ?_
  refine kn ?_; repeat (first | with_reducible refine blk_n ?_ | with_reducible refine beh_n ?_)
  refine ends_normal ?_
  exact ⟨g, rfl, rfl⟩

def imL (L : List It) (op : Int) (x : Int) (y : Int) (n : Int) : List It := L ++ [⟨1, [], op, x, y, 0, n, 0⟩]
theorem imL_le {L : List It} {op : Int} {x : Int} {y : Int} {n : Int} {c B : Nat} (h : L.length + (c + 1) ≤ B) : (imL L op x y n).length + c ≤ B := by
  rw [imL, List.length_append, List.length_singleton]
  omega
theorem imm_ok (L : List It) (hL : L.length + 1 ≤ 3000) (op : Int) (x : Int) (y : Int) (n : Int) : LCall 27 [.v (.int .i64 op), .v (.int .i64 x), .v (.int .i64 y), .v (.int .i64 n)] L (imL L op x y n) := by
  intro gb gl
  have hcl := itRows_length L
  have hcl2 : (L ++ [(⟨1, [], op, x, y, 0, n, 0⟩ : It)]).length = L.length + 1 := by rw [List.length_append, List.length_singleton]
  unfold imL
  rw [lnB]
  refine gcall_of_tr Try.func27 rfl [] Try.results27 25 rfl (tk_start ?_)
  (repeat refine ka ?_); refine kr ?_ ?_ ?_
  refine ps_lith (rows := itRows [(⟨1, [], op, x, y, 0, n, 0⟩ : It)]) ?_ (itRows_pure _)
  refine ps_app_vw (m := (L ++ [(⟨1, [], op, x, y, 0, n, 0⟩ : It)]).length) (rows' := itRows (L ++ [(⟨1, [], op, x, y, 0, n, 0⟩ : It)])) (fun g => ?_) (hlen := (itRows_length _).symm) (hrows := by simp [itRows])
  refine pops_go ?_ ?_ ?_
  refine ps_store ?_
  refine pops_nil ?_
  refine kn ?_; repeat (first | with_reducible refine blk_n ?_ | with_reducible refine beh_n ?_)
  refine ends_normal ?_
  exact ⟨g, rfl, rfl⟩

def laL (L : List It) (s : List Int) : List It := L ++ [⟨0, s, 0, 0, 0, 0, 0, 0⟩]
theorem laL_le {L : List It} {s : List Int} {c B : Nat} (h : L.length + (c + 1) ≤ B) : (laL L s).length + c ≤ B := by
  rw [laL, List.length_append, List.length_singleton]
  omega
theorem label_ok (L : List It) (hL : L.length + 1 ≤ 3000) (s : List Int) : LCall 30 [.v (.string (str s))] L (laL L s) := by
  intro gb gl
  have hcl := itRows_length L
  have hcl2 : (L ++ [(⟨0, s, 0, 0, 0, 0, 0, 0⟩ : It)]).length = L.length + 1 := by rw [List.length_append, List.length_singleton]
  unfold laL
  rw [lnB]
  refine gcall_of_tr Try.func30 rfl [] Try.results30 15 rfl (tk_start ?_)
  (repeat refine ka ?_); refine kr ?_ ?_ ?_
  refine ps_lith (rows := itRows [(⟨0, s, 0, 0, 0, 0, 0, 0⟩ : It)]) ?_ (itRows_pure _)
  refine ps_app_vw (m := (L ++ [(⟨0, s, 0, 0, 0, 0, 0, 0⟩ : It)]).length) (rows' := itRows (L ++ [(⟨0, s, 0, 0, 0, 0, 0, 0⟩ : It)])) (fun g => ?_) (hlen := (itRows_length _).symm) (hrows := by simp [itRows])
  refine pops_go ?_ ?_ ?_
  refine ps_store ?_
  refine pops_nil ?_
  refine kn ?_; repeat (first | with_reducible refine blk_n ?_ | with_reducible refine beh_n ?_)
  refine ends_normal ?_
  exact ⟨g, rfl, rfl⟩

def juL (L : List It) (op : Int) (x : Int) (y : Int) (s : List Int) : List It := L ++ [⟨2, s, op, x, y, 0, 0, 0⟩]
theorem juL_le {L : List It} {op : Int} {x : Int} {y : Int} {s : List Int} {c B : Nat} (h : L.length + (c + 1) ≤ B) : (juL L op x y s).length + c ≤ B := by
  rw [juL, List.length_append, List.length_singleton]
  omega
theorem jump_ok (L : List It) (hL : L.length + 1 ≤ 3000) (op : Int) (x : Int) (y : Int) (s : List Int) : LCall 31 [.v (.int .i64 op), .v (.int .i64 x), .v (.int .i64 y), .v (.string (str s))] L (juL L op x y s) := by
  intro gb gl
  have hcl := itRows_length L
  have hcl2 : (L ++ [(⟨2, s, op, x, y, 0, 0, 0⟩ : It)]).length = L.length + 1 := by rw [List.length_append, List.length_singleton]
  unfold juL
  rw [lnB]
  refine gcall_of_tr Try.func31 rfl [] Try.results31 25 rfl (tk_start ?_)
  (repeat refine ka ?_); refine kr ?_ ?_ ?_
  refine ps_lith (rows := itRows [(⟨2, s, op, x, y, 0, 0, 0⟩ : It)]) ?_ (itRows_pure _)
  refine ps_app_vw (m := (L ++ [(⟨2, s, op, x, y, 0, 0, 0⟩ : It)]).length) (rows' := itRows (L ++ [(⟨2, s, op, x, y, 0, 0, 0⟩ : It)])) (fun g => ?_) (hlen := (itRows_length _).symm) (hrows := by simp [itRows])
  refine pops_go ?_ ?_ ?_
  refine ps_store ?_
  refine pops_nil ?_
  refine kn ?_; repeat (first | with_reducible refine blk_n ?_ | with_reducible refine beh_n ?_)
  refine ends_normal ?_
  exact ⟨g, rfl, rfl⟩

def moF (L : List It) (x : Int) (y : Int) : List It := (imL L 11 x y 0)
theorem moF_le {L : List It} {x : Int} {y : Int} {c B : Nat} (h : L.length + (c + 1) ≤ B) : (moF L x y).length + c ≤ B := by
  unfold moF
  repeat (first | with_reducible refine thL_le ?_ | with_reducible refine imL_le ?_ | with_reducible refine laL_le ?_ | with_reducible refine juL_le ?_)
  omega
theorem move_ok (L : List It) (hL : L.length + 1 ≤ 3000) (x : Int) (y : Int) : LCall 28 [.v (.int .i64 x), .v (.int .i64 y)] L (moF L x y) := by
  intro gb gl
  unfold moF
  rw [lnB]
  refine gcall_of_tr Try.func28 rfl [] Try.results28 10 rfl (tk_start ?_)
  (repeat refine ka ?_); refine kr ?_ ?_ ?_
  refine ps_lat 0 1 (imm_ok L (by omega) 11 x y 0) fun g0 => ?_
  refine pops_go ?_ ?_ (pops_end ?_)
  refine kn ?_; repeat (first | with_reducible refine blk_n ?_ | with_reducible refine beh_n ?_)
  refine ends_normal ?_
  exact ⟨_, rfl, rfl⟩
def syF (L : List It) (n : Int) : List It := (imL L 0 0 0 n)
theorem syF_le {L : List It} {n : Int} {c B : Nat} (h : L.length + (c + 1) ≤ B) : (syF L n).length + c ≤ B := by
  unfold syF
  repeat (first | with_reducible refine thL_le ?_ | with_reducible refine imL_le ?_ | with_reducible refine laL_le ?_ | with_reducible refine juL_le ?_ | with_reducible refine moF_le ?_)
  omega
theorem sys_ok (L : List It) (hL : L.length + 1 ≤ 3000) (n : Int) : LCall 32 [.v (.int .i64 n)] L (syF L n) := by
  intro gb gl
  unfold syF
  rw [lnB]
  refine gcall_of_tr Try.func32 rfl [] Try.results32 7 rfl (tk_start ?_)
  (repeat refine ka ?_); refine kr ?_ ?_ ?_
  refine ps_lat 0 1 (imm_ok L (by omega) 0 0 0 n) fun g0 => ?_
  refine pops_go ?_ ?_ (pops_end ?_)
  refine kn ?_; repeat (first | with_reducible refine blk_n ?_ | with_reducible refine beh_n ?_)
  refine ends_normal ?_
  exact ⟨_, rfl, rfl⟩
def toF (L : List It) (s : List Int) : List It := (juL L 20 0 0 s)
theorem toF_le {L : List It} {s : List Int} {c B : Nat} (h : L.length + (c + 1) ≤ B) : (toF L s).length + c ≤ B := by
  unfold toF
  repeat (first | with_reducible refine thL_le ?_ | with_reducible refine imL_le ?_ | with_reducible refine laL_le ?_ | with_reducible refine juL_le ?_ | with_reducible refine moF_le ?_ | with_reducible refine syF_le ?_)
  omega
theorem to_ok (L : List It) (hL : L.length + 1 ≤ 3000) (s : List Int) : LCall 33 [.v (.string (str s))] L (toF L s) := by
  intro gb gl
  unfold toF
  rw [lnB]
  refine gcall_of_tr Try.func33 rfl [] Try.results33 7 rfl (tk_start ?_)
  (repeat refine ka ?_); refine kr ?_ ?_ ?_
  refine ps_lat 0 1 (jump_ok L (by omega) 20 0 0 s) fun g0 => ?_
  refine pops_go ?_ ?_ (pops_end ?_)
  refine kn ?_; repeat (first | with_reducible refine blk_n ?_ | with_reducible refine beh_n ?_)
  refine ends_normal ?_
  exact ⟨_, rfl, rfl⟩
def seF (L : List It) (x n : Int) : List It := if n / 65536 = 0 then imL L 1 x 0 (n % 65536) else imL (imL L 1 x 0 (n % 65536)) 2 x 0 (n / 65536)
theorem seF_le {L : List It} {x n : Int} {c B : Nat} (h : L.length + (c + 2) ≤ B) : (seF L x n).length + c ≤ B := by
  unfold seF
  split
  · refine imL_le ?_
    omega
  · repeat (refine imL_le ?_)
    omega
theorem set_ok (L : List It) (hL : L.length + 2 ≤ 3000) (x n : Int) (hn : 0 ≤ n ∧ n < 4294967296) : LCall 34 [.v (.int .i64 x), .v (.int .u32 n)] L (seF L x n) := by
  intro gb gl
  have e1 : Go.bits .and .u32 n 65535 = n % 65536 := and16_u32' n
  have e2 : IntKind.i64.wrap (n % 65536) = n % 65536 := wrap_i64 _ (by omega) (by omega)
  have e3 : IntKind.i64.wrap (n / 65536) = n / 65536 := wrap_i64 _ (by omega) (by omega)
  unfold seF
  rw [lnB]
  by_cases h : n / 65536 = 0
  · rw [if_pos h]
    refine gcall_of_tr Try.func34 rfl [] Try.results34 21 rfl (tk_start ?_)
    (repeat refine ka ?_); refine kr ?_ ?_ ?_
    refine ps_lat 0 1 (imm_ok L (by omega) 1 x 0 (n % 65536)) fun g0 => ?_
    refine pops_go ?_ ?_ (pops_end ?_)
    (repeat refine ka ?_); refine kr ?_ ?_ (pops_end ?_)
    (repeat refine ka ?_); refine kcf ?_
    (repeat refine ka ?_); refine ksk ?_
    refine kn ?_; repeat (first | with_reducible refine blk_n ?_ | with_reducible refine beh_n ?_)
    refine ends_normal ?_
    exact ⟨_, rfl, rfl⟩
  · rw [if_neg h]
    refine gcall_of_tr Try.func34 rfl [] Try.results34 21 rfl (tk_start ?_)
    (repeat refine ka ?_); refine kr ?_ ?_ ?_
    refine ps_lat 0 1 (imm_ok L (by omega) 1 x 0 (n % 65536)) fun g0 => ?_
    refine pops_go ?_ ?_ (pops_end ?_)
    (repeat refine ka ?_); refine kr ?_ ?_ (pops_end ?_)
    (repeat refine ka ?_); refine kct ?_
    (repeat refine ka ?_); refine kr ?_ ?_ ?_
    refine ps_lat 0 1 (imm_ok (imL L 1 x 0 (n % 65536)) (imL_le (by omega)) 2 x 0 (n / 65536)) fun g1 => ?_
    refine pops_go ?_ ?_ (pops_end ?_)
    refine kn ?_; repeat (first | with_reducible refine blk_n ?_ | with_reducible refine beh_n ?_)
    refine ends_normal ?_
    exact ⟨_, rfl, rfl⟩
def slF (L : List It) (x k : Int) : List It := imL L 14 x 13 (1024 + 4 * k)
theorem slF_le {L : List It} {x k : Int} {c B : Nat} (h : L.length + (c + 1) ≤ B) : (slF L x k).length + c ≤ B := imL_le h
theorem slot_ok (L : List It) (hL : L.length + 1 ≤ 3000) (x k : Int) (hk : 0 ≤ k ∧ k ≤ 100) : LCall 35 [.v (.int .i64 x), .v (.int .i64 k)] L (slF L x k) := by
  intro gb gl
  have e1 : IntKind.i64.wrap (4 * k) = 4 * k := wrap_i64 _ (by omega) (by omega)
  have e2 : IntKind.i64.wrap (1024 + 4 * k) = 1024 + 4 * k := wrap_i64 _ (by omega) (by omega)
  unfold slF
  rw [lnB]
  refine gcall_of_tr Try.func35 rfl [] Try.results35 12 rfl (tk_start ?_)
  (repeat refine ka ?_); refine kr ?_ ?_ ?_
  refine ps_lat 0 1 (imm_ok L (by omega) 14 x 13 (1024 + 4 * k)) fun g0 => ?_
  refine pops_go ?_ ?_ (pops_end ?_)
  refine kn ?_; repeat (first | with_reducible refine blk_n ?_ | with_reducible refine beh_n ?_)
  refine ends_normal ?_
  exact ⟨_, rfl, rfl⟩
def shF (L : List It) (op : Int) (x : Int) (y : Int) (n : Int) : List It := (thL (seF L 10 n) op x y 10)
theorem shF_le {L : List It} {op : Int} {x : Int} {y : Int} {n : Int} {c B : Nat} (h : L.length + (c + 3) ≤ B) : (shF L op x y n).length + c ≤ B := by
  unfold shF
  repeat (first | with_reducible refine thL_le ?_ | with_reducible refine imL_le ?_ | with_reducible refine laL_le ?_ | with_reducible refine juL_le ?_ | with_reducible refine moF_le ?_ | with_reducible refine syF_le ?_ | with_reducible refine toF_le ?_ | with_reducible refine seF_le ?_ | with_reducible refine slF_le ?_)
  omega
theorem shift_ok (L : List It) (hL : L.length + 3 ≤ 3000) (op : Int) (x : Int) (y : Int) (n : Int) (hn : 0 ≤ n ∧ n < 4294967296) : LCall 38 [.v (.int .i64 op), .v (.int .i64 x), .v (.int .i64 y), .v (.int .u32 n)] L (shF L op x y n) := by
  intro gb gl
  unfold shF
  rw [lnB]
  refine gcall_of_tr Try.func38 rfl [] Try.results38 18 rfl (tk_start ?_)
  (repeat refine ka ?_); refine kr ?_ ?_ ?_
  refine ps_lat 0 1 (set_ok L (by omega) 10 n (by omega)) fun g0 => ?_
  refine pops_go ?_ ?_ (pops_end ?_)
  (repeat refine ka ?_); refine kr ?_ ?_ ?_
  refine ps_lat 0 1 (three_ok (seF L 10 n) (by with_reducible (repeat (first | refine seF_le ?_)); (try simp only [Nat.zero_add]); omega) op x y 10) fun g1 => ?_
  refine pops_go ?_ ?_ (pops_end ?_)
  refine kn ?_; repeat (first | with_reducible refine blk_n ?_ | with_reducible refine beh_n ?_)
  refine ends_normal ?_
  exact ⟨_, rfl, rfl⟩
def neF (L : List It) (x : Int) : List It := (imL (imL (juL L 19 1 2 [98, 97, 100, 32, 99, 111, 100, 101]) 12 x 1 0) 11 1 1 1)
theorem neF_le {L : List It} {x : Int} {c B : Nat} (h : L.length + (c + 3) ≤ B) : (neF L x).length + c ≤ B := by
  unfold neF
  repeat (first | with_reducible refine thL_le ?_ | with_reducible refine imL_le ?_ | with_reducible refine laL_le ?_ | with_reducible refine juL_le ?_ | with_reducible refine moF_le ?_ | with_reducible refine syF_le ?_ | with_reducible refine toF_le ?_ | with_reducible refine seF_le ?_ | with_reducible refine slF_le ?_ | with_reducible refine shF_le ?_)
  omega
theorem next_ok (L : List It) (hL : L.length + 3 ≤ 3000) (x : Int) : LCall 39 [.v (.int .i64 x)] L (neF L x) := by
  intro gb gl
  unfold neF
  rw [lnB]
  refine gcall_of_tr Try.func39 rfl [] Try.results39 11 rfl (tk_start ?_)
  (repeat refine ka ?_); refine kr ?_ ?_ ?_
  refine ps_lat 0 1 (jump_ok L (by omega) 19 1 2 [98, 97, 100, 32, 99, 111, 100, 101]) fun g0 => ?_
  refine pops_go ?_ ?_ (pops_end ?_)
  (repeat refine ka ?_); refine kr ?_ ?_ ?_
  refine ps_lat 0 1 (imm_ok (juL L 19 1 2 [98, 97, 100, 32, 99, 111, 100, 101]) (by with_reducible (repeat (first | refine juL_le ?_)); (try simp only [Nat.zero_add]); omega) 12 x 1 0) fun g1 => ?_
  refine pops_go ?_ ?_ (pops_end ?_)
  (repeat refine ka ?_); refine kr ?_ ?_ ?_
  refine ps_lat 0 1 (imm_ok (imL (juL L 19 1 2 [98, 97, 100, 32, 99, 111, 100, 101]) 12 x 1 0) (by with_reducible (repeat (first | refine imL_le ?_ | refine juL_le ?_)); (try simp only [Nat.zero_add]); omega) 11 1 1 1) fun g2 => ?_
  refine pops_go ?_ ?_ (pops_end ?_)
  refine kn ?_; repeat (first | with_reducible refine blk_n ?_ | with_reducible refine beh_n ?_)
  refine ends_normal ?_
  exact ⟨_, rfl, rfl⟩
def puF (L : List It) (x : Int) : List It := (imL (imL L 13 x 3 0) 11 3 3 1)
theorem puF_le {L : List It} {x : Int} {c B : Nat} (h : L.length + (c + 2) ≤ B) : (puF L x).length + c ≤ B := by
  unfold puF
  repeat (first | with_reducible refine thL_le ?_ | with_reducible refine imL_le ?_ | with_reducible refine laL_le ?_ | with_reducible refine juL_le ?_ | with_reducible refine moF_le ?_ | with_reducible refine syF_le ?_ | with_reducible refine toF_le ?_ | with_reducible refine seF_le ?_ | with_reducible refine slF_le ?_ | with_reducible refine shF_le ?_ | with_reducible refine neF_le ?_)
  omega
theorem put_ok (L : List It) (hL : L.length + 2 ≤ 3000) (x : Int) : LCall 40 [.v (.int .i64 x)] L (puF L x) := by
  intro gb gl
  unfold puF
  rw [lnB]
  refine gcall_of_tr Try.func40 rfl [] Try.results40 9 rfl (tk_start ?_)
  (repeat refine ka ?_); refine kr ?_ ?_ ?_
  refine ps_lat 0 1 (imm_ok L (by omega) 13 x 3 0) fun g0 => ?_
  refine pops_go ?_ ?_ (pops_end ?_)
  (repeat refine ka ?_); refine kr ?_ ?_ ?_
  refine ps_lat 0 1 (imm_ok (imL L 13 x 3 0) (by with_reducible (repeat (first | refine imL_le ?_)); (try simp only [Nat.zero_add]); omega) 11 3 3 1) fun g1 => ?_
  refine pops_go ?_ ?_ (pops_end ?_)
  refine kn ?_; repeat (first | with_reducible refine blk_n ?_ | with_reducible refine beh_n ?_)
  refine ends_normal ?_
  exact ⟨_, rfl, rfl⟩
def reF (L : List It) (far : Int) : List It := (syF (imL L 11 14 5 far) 1)
theorem reF_le {L : List It} {far : Int} {c B : Nat} (h : L.length + (c + 2) ≤ B) : (reF L far).length + c ≤ B := by
  unfold reF
  repeat (first | with_reducible refine thL_le ?_ | with_reducible refine imL_le ?_ | with_reducible refine laL_le ?_ | with_reducible refine juL_le ?_ | with_reducible refine moF_le ?_ | with_reducible refine syF_le ?_ | with_reducible refine toF_le ?_ | with_reducible refine seF_le ?_ | with_reducible refine slF_le ?_ | with_reducible refine shF_le ?_ | with_reducible refine neF_le ?_ | with_reducible refine puF_le ?_)
  omega
theorem read_ok (L : List It) (hL : L.length + 2 ≤ 3000) (far : Int) : LCall 42 [.v (.int .i64 far)] L (reF L far) := by
  intro gb gl
  unfold reF
  rw [lnB]
  refine gcall_of_tr Try.func42 rfl [] Try.results42 9 rfl (tk_start ?_)
  (repeat refine ka ?_); refine kr ?_ ?_ ?_
  refine ps_lat 0 1 (imm_ok L (by omega) 11 14 5 far) fun g0 => ?_
  refine pops_go ?_ ?_ (pops_end ?_)
  (repeat refine ka ?_); refine kr ?_ ?_ ?_
  refine ps_lat 0 1 (sys_ok (imL L 11 14 5 far) (by with_reducible (repeat (first | refine imL_le ?_)); (try simp only [Nat.zero_add]); omega) 1) fun g1 => ?_
  refine pops_go ?_ ?_ (pops_end ?_)
  refine kn ?_; repeat (first | with_reducible refine blk_n ?_ | with_reducible refine beh_n ?_)
  refine ends_normal ?_
  exact ⟨_, rfl, rfl⟩
def haF (L : List It) (n : Int) : List It := (syF (seF L 1 n) 0)
theorem haF_le {L : List It} {n : Int} {c B : Nat} (h : L.length + (c + 3) ≤ B) : (haF L n).length + c ≤ B := by
  unfold haF
  repeat (first | with_reducible refine thL_le ?_ | with_reducible refine imL_le ?_ | with_reducible refine laL_le ?_ | with_reducible refine juL_le ?_ | with_reducible refine moF_le ?_ | with_reducible refine syF_le ?_ | with_reducible refine toF_le ?_ | with_reducible refine seF_le ?_ | with_reducible refine slF_le ?_ | with_reducible refine shF_le ?_ | with_reducible refine neF_le ?_ | with_reducible refine puF_le ?_ | with_reducible refine reF_le ?_)
  omega
theorem halt_ok (L : List It) (hL : L.length + 3 ≤ 3000) (n : Int) (hn : 0 ≤ n ∧ n < 4294967296) : LCall 43 [.v (.int .u32 n)] L (haF L n) := by
  intro gb gl
  unfold haF
  rw [lnB]
  refine gcall_of_tr Try.func43 rfl [] Try.results43 9 rfl (tk_start ?_)
  (repeat refine ka ?_); refine kr ?_ ?_ ?_
  refine ps_lat 0 1 (set_ok L (by omega) 1 n (by omega)) fun g0 => ?_
  refine pops_go ?_ ?_ (pops_end ?_)
  (repeat refine ka ?_); refine kr ?_ ?_ ?_
  refine ps_lat 0 1 (sys_ok (seF L 1 n) (by with_reducible (repeat (first | refine seF_le ?_)); (try simp only [Nat.zero_add]); omega) 0) fun g1 => ?_
  refine pops_go ?_ ?_ (pops_end ?_)
  refine kn ?_; repeat (first | with_reducible refine blk_n ?_ | with_reducible refine beh_n ?_)
  refine ends_normal ?_
  exact ⟨_, rfl, rfl⟩
def spF (L : List It) (k : Int) : List It := (thL (slF (moF (thL (slF (moF L 1 11) 2 2) 3 2 1 2) 3 12) 4 k) 3 4 3 4)
theorem spF_le {L : List It} {k : Int} {c B : Nat} (h : L.length + (c + 6) ≤ B) : (spF L k).length + c ≤ B := by
  unfold spF
  repeat (first | with_reducible refine thL_le ?_ | with_reducible refine imL_le ?_ | with_reducible refine laL_le ?_ | with_reducible refine juL_le ?_ | with_reducible refine moF_le ?_ | with_reducible refine syF_le ?_ | with_reducible refine toF_le ?_ | with_reducible refine seF_le ?_ | with_reducible refine slF_le ?_ | with_reducible refine shF_le ?_ | with_reducible refine neF_le ?_ | with_reducible refine puF_le ?_ | with_reducible refine reF_le ?_ | with_reducible refine haF_le ?_)
  omega
theorem spans_ok (L : List It) (hL : L.length + 6 ≤ 3000) (k : Int) (hk : 0 ≤ k ∧ k ≤ 100) : LCall 37 [.v (.int .i64 k)] L (spF L k) := by
  intro gb gl
  unfold spF
  rw [lnB]
  refine gcall_of_tr Try.func37 rfl [] Try.results37 17 rfl (tk_start ?_)
  (repeat refine ka ?_); refine kr ?_ ?_ ?_
  refine ps_lat 0 1 (move_ok L (by omega) 1 11) fun g0 => ?_
  refine pops_go ?_ ?_ (pops_end ?_)
  (repeat refine ka ?_); refine kr ?_ ?_ ?_
  refine ps_lat 0 1 (slot_ok (moF L 1 11) (by with_reducible (repeat (first | refine moF_le ?_)); (try simp only [Nat.zero_add]); omega) 2 2 (by omega)) fun g1 => ?_
  refine pops_go ?_ ?_ (pops_end ?_)
  (repeat refine ka ?_); refine kr ?_ ?_ ?_
  refine ps_lat 0 1 (three_ok (slF (moF L 1 11) 2 2) (by with_reducible (repeat (first | refine moF_le ?_ | refine slF_le ?_)); (try simp only [Nat.zero_add]); omega) 3 2 1 2) fun g2 => ?_
  refine pops_go ?_ ?_ (pops_end ?_)
  (repeat refine ka ?_); refine kr ?_ ?_ ?_
  refine ps_lat 0 1 (move_ok (thL (slF (moF L 1 11) 2 2) 3 2 1 2) (by with_reducible (repeat (first | refine thL_le ?_ | refine moF_le ?_ | refine slF_le ?_)); (try simp only [Nat.zero_add]); omega) 3 12) fun g3 => ?_
  refine pops_go ?_ ?_ (pops_end ?_)
  (repeat refine ka ?_); refine kr ?_ ?_ ?_
  refine ps_lat 0 1 (slot_ok (moF (thL (slF (moF L 1 11) 2 2) 3 2 1 2) 3 12) (by with_reducible (repeat (first | refine thL_le ?_ | refine moF_le ?_ | refine slF_le ?_)); (try simp only [Nat.zero_add]); omega) 4 k (by omega)) fun g4 => ?_
  refine pops_go ?_ ?_ (pops_end ?_)
  (repeat refine ka ?_); refine kr ?_ ?_ ?_
  refine ps_lat 0 1 (three_ok (slF (moF (thL (slF (moF L 1 11) 2 2) 3 2 1 2) 3 12) 4 k) (by with_reducible (repeat (first | refine thL_le ?_ | refine moF_le ?_ | refine slF_le ?_)); (try simp only [Nat.zero_add]); omega) 3 4 3 4) fun g5 => ?_
  refine pops_go ?_ ?_ (pops_end ?_)
  refine kn ?_; repeat (first | with_reducible refine blk_n ?_ | with_reducible refine beh_n ?_)
  refine ends_normal ?_
  exact ⟨_, rfl, rfl⟩
def tuF (L : List It) (k : Int) : List It := (imL (slF (moF (moF (moF L 14 11) 11 12) 12 14) 14 k) 15 14 13 1032)
theorem tuF_le {L : List It} {k : Int} {c B : Nat} (h : L.length + (c + 5) ≤ B) : (tuF L k).length + c ≤ B := by
  unfold tuF
  repeat (first | with_reducible refine thL_le ?_ | with_reducible refine imL_le ?_ | with_reducible refine laL_le ?_ | with_reducible refine juL_le ?_ | with_reducible refine moF_le ?_ | with_reducible refine syF_le ?_ | with_reducible refine toF_le ?_ | with_reducible refine seF_le ?_ | with_reducible refine slF_le ?_ | with_reducible refine shF_le ?_ | with_reducible refine neF_le ?_ | with_reducible refine puF_le ?_ | with_reducible refine reF_le ?_ | with_reducible refine haF_le ?_ | with_reducible refine spF_le ?_)
  omega
theorem turned_ok (L : List It) (hL : L.length + 5 ≤ 3000) (k : Int) (hk : 0 ≤ k ∧ k ≤ 100) : LCall 41 [.v (.int .i64 k)] L (tuF L k) := by
  intro gb gl
  unfold tuF
  rw [lnB]
  refine gcall_of_tr Try.func41 rfl [] Try.results41 15 rfl (tk_start ?_)
  (repeat refine ka ?_); refine kr ?_ ?_ ?_
  refine ps_lat 0 1 (move_ok L (by omega) 14 11) fun g0 => ?_
  refine pops_go ?_ ?_ (pops_end ?_)
  (repeat refine ka ?_); refine kr ?_ ?_ ?_
  refine ps_lat 0 1 (move_ok (moF L 14 11) (by with_reducible (repeat (first | refine moF_le ?_)); (try simp only [Nat.zero_add]); omega) 11 12) fun g1 => ?_
  refine pops_go ?_ ?_ (pops_end ?_)
  (repeat refine ka ?_); refine kr ?_ ?_ ?_
  refine ps_lat 0 1 (move_ok (moF (moF L 14 11) 11 12) (by with_reducible (repeat (first | refine moF_le ?_)); (try simp only [Nat.zero_add]); omega) 12 14) fun g2 => ?_
  refine pops_go ?_ ?_ (pops_end ?_)
  (repeat refine ka ?_); refine kr ?_ ?_ ?_
  refine ps_lat 0 1 (slot_ok (moF (moF (moF L 14 11) 11 12) 12 14) (by with_reducible (repeat (first | refine moF_le ?_)); (try simp only [Nat.zero_add]); omega) 14 k (by omega)) fun g3 => ?_
  refine pops_go ?_ ?_ (pops_end ?_)
  (repeat refine ka ?_); refine kr ?_ ?_ ?_
  refine ps_lat 0 1 (imm_ok (slF (moF (moF (moF L 14 11) 11 12) 12 14) 14 k) (by with_reducible (repeat (first | refine moF_le ?_ | refine slF_le ?_)); (try simp only [Nat.zero_add]); omega) 15 14 13 1032) fun g4 => ?_
  refine pops_go ?_ ?_ (pops_end ?_)
  refine kn ?_; repeat (first | with_reducible refine blk_n ?_ | with_reducible refine beh_n ?_)
  refine ends_normal ?_
  exact ⟨_, rfl, rfl⟩
end Go.Proofs.Ytgbfbcbblndnoaa.Pv
