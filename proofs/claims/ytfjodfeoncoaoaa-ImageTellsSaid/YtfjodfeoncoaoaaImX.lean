-- carapacelaw17.awake.
import Derived.Test.YtfjodfeoncoaoaaImS
import Derived.Test.YtfjodfeoncoaoaaImW
import Derived.Test.YtfjodfeoncoaoaaImT
import Derived.Test.YtfjodfeoncoaoaaImY
namespace Go.Proofs.Ytfjodfeoncoaoaa.Pv
set_option linter.all false
open Go.RowKit Go.Proofs
set_option maxRecDepth 100000
set_option maxHeartbeats 4000000
theorem lends_z (S : List Blk) (T : List Nat) : Lends S T zrow Img.zero.cells :=
  .cons (.same (.v _)) (.cons (.same (.v _)) (.cons (.same (.v _)) (.cons (.same (.v _)) (.cons (.same (.v _)) (.cons (.same (.v _)) (.cons (.same (.v _)) (.cons (.same (.v _)) (.cons (.same (.v _)) (.cons (.same (.v _)) (.cons (.same (.v _)) (.cons .nil (.cons .nil (.cons .nil .nil)))))))))))))
def zneg : Img := ⟨⟨false, 0, false, false, false⟩, -1, 0, 0, 0, 0, 0, [], [], []⟩
def znegr : List PV := [.v (.bool false), .v (.int .i64 0), .v (.bool false), .v (.bool false), .v (.bool false), .v (.int .i64 (-1)), .v (.int .i64 0), .v (.int .i64 0), .v (.int .u32 0), .v (.int .u32 0), .v (.int .u32 0), .v (.slice none 0 0), .v (.slice none 0 0), .v (.slice none 0 0)]
theorem lends_n (S : List Blk) (T : List Nat) : Lends S T znegr zneg.cells :=
  .cons (.same (.v _)) (.cons (.same (.v _)) (.cons (.same (.v _)) (.cons (.same (.v _)) (.cons (.same (.v _)) (.cons (.same (.v _)) (.cons (.same (.v _)) (.cons (.same (.v _)) (.cons (.same (.v _)) (.cons (.same (.v _)) (.cons (.same (.v _)) (.cons .nil (.cons .nil (.cons .nil .nil)))))))))))))
theorem lend_zimg (S : List Blk) (T : List Nat) : Lend S T (.agg zrow) (.agg Img.zero.cells) := .agg (lends_z S T).get.1 (lends_z S T).get.2
theorem lend_nimg (S : List Blk) (T : List Nat) : Lend S T (.agg znegr) (.agg zneg.cells) := .agg (lends_n S T).get.1 (lends_n S T).get.2
theorem zero_ok : Img.zero.Ok := ⟨by decide, by decide, by decide, (fun x h => by cases h), (fun x h => by cases h), (fun x h => by cases h)⟩
theorem zneg_ok : zneg.Ok := ⟨by decide, by decide, by decide, (fun x h => by cases h), (fun x h => by cases h), (fun x h => by cases h)⟩
theorem Img.bytes_oct (x : Img) (hx : x.Ok) {p : List Int} (hp : Oct p) : Oct (x.bytes p) := by
  intro y hy
  simp only [Img.bytes, List.mem_append] at hy
  rcases hy with h | h | h | h | h
  · exact hp y h
  · exact x.all_oct hx y h
  · exact le4_oct _ y h
  · exact le4_oct _ y h
  · exact (by decide : Oct [49, 88, 70, 83]) y h
theorem im_awake : PCall Try.prog 7 [] (.v (.bool true)) := by
  have hby := bytes_own [9] Img.zero zero_ok rfl (by decide) (by decide) (by decide) (by decide) (by decide)
  have hrl : readF (Img.zero.bytes [9] ++ [1, 2]) = (Img.zero, ⟨1, 45, 45, 45, 45⟩, 0) := (read_bytes Img.zero zero_ok rfl [9] [1, 2] (fun i h => by simp at h; omega) (by decide)).1 (by decide)
  have hBo := Img.zero.bytes_oct zero_ok (p := [9]) (by decide)
  have hBl : (Img.zero.bytes [9]).length = 57 := rfl
  generalize Img.zero.bytes [9] = B at *
  rw [hBl] at hby
  have hrd := read_ok (B ++ [1, 2]) (fun x hx => by rcases List.mem_append.1 hx with h | h; exact hBo x h; exact (by decide : Oct [1, 2]) x h) (by simp; omega)
  unfold readP at hrd
  rw [hrl] at hrd
  unfold Wh.cells at hrd
  simp only at hrd
  have hr0 := read_ok [] (fun x h => by cases h) (by decide)
  have hp0 : readP [] = .tup [.agg Img.zero.cells, .agg Wh.zero.cells, .v (.int .i64 5)] := rfl
  rw [hp0] at hr0
  have hbn := bytes_ok [] zneg zneg_ok (by decide) (by decide) (by decide) (by decide)
  have hbe : bytesF [] zneg = ([], 1) := rfl
  rw [hbe] at hbn
  simp only at hbn
  have hsm := isame_ok Img.zero Img.zero zero_ok zero_ok (by decide) (by decide) (by decide) (by decide) (by decide) (by decide)
  have hsz : sameF Img.zero Img.zero = true := by decide
  rw [hsz] at hsm
  have hrt := iright_ok Img.zero (by decide) (by decide)
  have hrz : Img.zero.right = true := rfl
  rw [hrz] at hrt
  refine pcall_mk Try.func7 rfl [.tmp 0] Try.results7 73 rfl (tk_start ?_)
  (repeat refine ka ?_); refine kr ?_ ?_ (pops_end ?_)
  (repeat refine ka ?_); refine kr ?_ ?_ ?_
  refine ps_litg (rows := ints .u8 [9]) ?_ (fun row hr x hx => by obtain ⟨b, _, rfl⟩ := List.mem_map.1 hr; rw [List.mem_singleton] at hx; subst hx; exact .v _)
  refine ps_bldf (cs := zrow) (ds := Img.zero.cells) [] ?_ (lends_z _ _) (by simp)
  refine ps_gcall hby ?_
  rintro x S' ⟨gx, gA, g, rfl, rfl⟩
  refine pops_go ?_ ?_ (pops_end ?_)
  (repeat refine ka ?_); refine kr ?_ ?_ ?_
  refine ps_lit (fun g1 => ?_)
  refine pops_go ?_ ?_ ?_
  refine ps_app_vw (rows' := ints .u8 (B ++ [1, 2])) (m := 59) (fun g2 => ?_) (hrows := by rw [← ints_append]; rfl) (hlen := by rw [ints_length, hBl])
  refine ps_freeze 2 ?_
  refine ps_rcall [2] hrd (.cons (lend_ints (List.mem_singleton.2 rfl) rfl rfl (by rw [List.length_append, hBl])) .nil) ?_ (.inr (frozen_one rfl rfl))
  refine pops_go ?_ ?_ ?_
  refine ps_alloc fun g3 => ?_
  refine pops_go ?_ ?_ ?_
  refine ps_alloc fun g4 => ?_
  refine pops_go ?_ ?_ ?_
  refine ps_st_row ?_
  refine ps_st_row ?_
  refine pops_go ?_ ?_ (pops_end ?_)
  (repeat refine ka ?_); refine kr ?_ ?_ ?_
  refine ps_rcall [] hr0 (.cons .nil .nil) ?_ (.inr (by simp))
  refine pops_go ?_ ?_ ?_
  refine ps_alloc fun g5 => ?_
  refine pops_go ?_ ?_ ?_
  refine ps_alloc fun g6 => ?_
  refine pops_go ?_ ?_ ?_
  refine ps_st_row ?_
  refine ps_st_row ?_
  refine pops_go ?_ ?_ (pops_end ?_)
  (repeat refine ka ?_); refine kr ?_ ?_ ?_
  refine ps_rcall [] hbn (.cons .nil (.cons (lend_nimg _ _) .nil)) ?_ (.inr (by simp))
  refine pops_go ?_ ?_ (pops_end ?_)
  (repeat refine ka ?_); refine kr ?_ ?_ ?_
  refine ps_ug ?_
  refine ps_lens ?_
  refine pops_go ?_ ?_ ?_
  refine ps_ug ?_
  refine ps_rcall [] hsm (.cons (.same (Img.cells_pure _)) (.cons (lend_zimg _ _) .nil)) ?_ (.inl (.v _))
  refine pops_go ?_ ?_ ?_
  refine ps_ug ?_
  refine ps_pcall hrt ?_
  refine pops_go ?_ ?_ (pops_end ?_)
  (repeat refine ka ?_); refine kret ?_; repeat (first | with_reducible refine beh_r ?_ | with_reducible refine blk_r ?_)
  refine ends_ret ?_ retPV_one
  rfl
end Go.Proofs.Ytfjodfeoncoaoaa.Pv
