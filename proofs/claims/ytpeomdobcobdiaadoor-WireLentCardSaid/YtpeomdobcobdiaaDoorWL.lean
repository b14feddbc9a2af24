/- The walk of WireLong. No condition. -/
import Derived.Test.YtpeomdobcobdiaaDoorWF
import Derived.Test.YtpeomdobcobdiaaDoorW13
import Derived.Test.YtpeomdobcobdiaaDoorLaw1
import Derived.Test.YtpeomdobcobdiaaDoorLibS
namespace Go.Proofs.YtpeomdobcobdiaaDoor
open Go.RowKit
set_option linter.unusedVariables false
set_option linter.unusedSimpArgs false
theorem zero_bytes (n : Nat) : (madeCells (Value.int .u8 0).cells (n * 1)).toList = (List.replicate n (0 : UInt8)).map uB := by
  rw [show (Value.int .u8 0).cells = #[Value.int .u8 0] from rfl, made_one, Nat.mul_one]; simp [uB]
theorem zero_room (n : Nat) : (Builtin.zeroCells (Value.int .u8 0).cells n).toList = (List.replicate n (0 : UInt8)).map uB := by
  apply List.ext_getElem
  · simp [Builtin.zeroCells, Value.cells]
  · intro j h1 h2; simp [Builtin.zeroCells, Value.cells, Nat.mod_one, uB]
theorem ReadFrameN_calls (A : Option Addr) (n c : Nat) (l : List UInt8) (at_ : Int) (w : World) {ok : Nat → Prop} (h1 : RdE w ok uB A l) (hn : n = l.length) (hb : l.length ≤ 140737488355328) (hc : l.length ≤ c) :
    Calls Tryd.prog 42 ⟨[.slice A n c, .int .i64 at_]⟩ w fun e w' => ∃ A' c', e = .returned (.tuple #[.slice A' (readFrameV l at_).1.length c', .int .i64 (readFrameV l at_).2.1, .int .i64 (readFrameV l at_).2.2]) ∧
      Owns w' w.heap.size A' c' 5 1 (readFrameV l at_).1.length ((readFrameV l at_).1.map uB) ∧ Below w.heap.size w w' := by
  subst hn; exact ReadFrame_calls A c l at_ w h1 hb hc
theorem WireLong_calls (n0 : Int) (hn0 : -9223372036854775808 ≤ n0 ∧ n0 ≤ 9223372036854775807) (w : World) (hU : Tabs w) :
    Calls Tryd.prog 9 ⟨[.int .i64 n0]⟩ w fun e w' => e = .returned (.bool true) ∧ Below w.heap.size w w' := by
  refine gc_enter (N := 88) Tryd.func9 rfl rfl rfl [(0, _)] rfl ?_
  have hS := St.start w
  refine gc_seq fun K1 hK1 => ?_
  refine gc_region ?_
  refine gl_op rfl rfl rfl (op_pure hT rfl) ?_
  refine gl_nil ?_
  refine hK1 _ _ ?_
  clear hK1; try clear K1
  refine gc_seq fun K2 hK2 => ?_
  refine gc_seq fun K3 hK3 => ?_
  refine gc_region ?_
  refine gl_callf rfl rfl rfl rfl Tryd.func15 rfl rfl rfl (told_calls _ hU) ?_
  rintro _ w13 ⟨rfl, hb13⟩
  refine ⟨_, rfl, ?_⟩
  have hS := hS.grown hb13
  refine gl_op rfl rfl rfl (op_pure hT rfl) ?_
  refine gl_nil ?_
  refine hK3 _ _ ?_
  clear hK3; try clear K3
  refine gc_cond_f rfl ?_
  refine gc_skip ?_
  refine hK2 _ _ ?_
  clear hK2; try clear K2
  refine gc_seq fun K4 hK4 => ?_
  refine gc_region ?_
  refine gl_op rfl rfl rfl (op_pure hT rfl) ?_
  refine gl_op rfl rfl rfl (op_pure hT rfl) ?_
  have hr1 := Int.tmod_lt_of_pos n0 (show (0 : Int) < 10 by decide)
  have hr2 := Int.lt_tmod_of_pos n0 (show (0 : Int) < 10 by decide)
  generalize n0.tmod 10 = n at hr1 hr2
  refine gl_op rfl rfl rfl (op_pure hT rfl) ?_
  refine gl_nil ?_
  refine hK4 _ _ ?_
  clear hK4; try clear K4
  refine gc_seq fun K5 hK5 => ?_
  refine gc_region ?_
  refine gl_op rfl rfl rfl (op_pure hT rfl) ?_
  refine gl_fit hT rfl rfl rfl rfl (by omega) ?_
  obtain ⟨m, hm⟩ : ∃ m : Nat, (1048576 - n : Int) = m := ⟨(1048576 - n).toNat, by omega⟩
  refine gl_spell 18 (v := .int .i64 m) rfl (by rw [hm]) ?_
  refine gl_make (n := m) hT hS el5 rfl rfl rfl rfl rfl rfl rfl (by omega) (by omega) fun g19 w19 hS => ?_
  refine gl_op rfl rfl rfl (op_pure hT rfl) ?_
  refine gl_nil ?_
  refine hK5 _ _ ?_
  clear hK5; try clear K5
  refine gc_seq fun K6 hK6 => ?_
  refine gc_region ?_
  refine gl_op rfl rfl rfl (op_pure hT rfl) ?_
  rw [zero_bytes] at hS
  have hbl : (List.replicate m (0 : UInt8)).length = m := by simp
  generalize hbody : List.replicate m (0 : UInt8) = body at hS hbl
  refine gl_callf rfl rfl rfl rfl Tryd.func40 rfl rfl (by rw [← hbl]; rfl) (Frame_calls (some ⟨g19, 0, none⟩) m body _ (hS.rdE (i := 0) rfl) (by omega)) ?_
  rintro _ w22 ⟨A22, c22, rfl, hr22, hb22⟩
  refine ⟨_, rfl, ?_⟩
  have hS := hS.addRow hb22 hr22
  refine gl_op rfl rfl rfl (op_pure hT rfl) ?_
  refine gl_op rfl rfl rfl (op_pure hT rfl) ?_
  refine gl_op rfl rfl rfl (op_pure hT rfl) ?_
  refine gl_op rfl rfl rfl (op_pure hT rfl) ?_
  refine gl_op rfl rfl rfl (op_pure hT rfl) ?_
  refine gl_nil ?_
  refine hK6 _ _ ?_
  clear hK6; try clear K6
  refine gc_seq fun K7 hK7 => ?_
  refine gc_seq fun K8 hK8 => ?_
  refine gc_region ?_
  refine gl_op rfl rfl rfl (op_pure hT rfl) ?_
  refine gl_op rfl rfl rfl (op_pure hT rfl) ?_
  refine gl_nil ?_
  refine hK8 _ _ ?_
  clear hK8; try clear K8
  refine gc_cond rfl rfl (fun c26 => ?_) (fun c26 => ?_)
  · try simp only [decide_eq_true_eq, decide_eq_false_iff_not, Bool.not_eq_true', Bool.not_eq_false', Int.not_lt, Int.not_le, Nat.not_lt, Nat.not_le, Bool.true_eq, Bool.false_eq, reduceCtorEq] at c26
    refine gc_seq fun K9 hK9 => ?_
    refine gc_region ?_
    refine gl_lit hT hS el5 rfl rfl rfl rfl rfl rfl rfl rfl rfl fun g27 w27 hS => ?_
    refine gl_op rfl rfl rfl (op_pure hT rfl) ?_
    refine gl_nil ?_
    refine hK9 _ _ ?_
    clear hK9; try clear K9
    refine gc_seq fun K10 hK10 => ?_
    refine gc_region ?_
    refine gl_op rfl rfl rfl (op_pure hT rfl) ?_
    refine gl_op rfl rfl rfl (op_pure hT rfl) ?_
    refine gl_op rfl rfl rfl (op_pure hT rfl) ?_
    refine gl_op rfl rfl rfl (op_pure hT rfl) ?_
    obtain ⟨k, hk⟩ : ∃ k : Nat, (-n : Int) = k := ⟨(-n).toNat, by omega⟩
    refine gl_spell 31 (v := uB (UInt8.ofNat k)) rfl (by rw [wrap_i64 (by omega), show (0 - n : Int) = (k : Int) by omega, u8_wrap]) ?_
    have hfv : frameV body = ([], 2) := by unfold frameV; rw [if_pos (by omega)]
    refine gl_ixR 2 hT hS rfl rfl rfl rfl rfl el5.cellsOf.1 el5.cellsOf.2 rfl rfl rfl (by omega) (by first | omega | (simp; omega)) (by first | exact Nat.le_refl _ | omega | (simp; omega)) fun g32 hg32 => ?_
    cases hg32
    refine gl_storeR 2 hS el5.cellsOf.1 el5.cellsOf.2 rfl rfl rfl rfl rfl rfl (by first | omega | (simp; omega)) rfl fun ws32 hS => ?_
    refine gl_nil ?_
    refine hK10 _ _ ?_
    clear hK10; try clear K10
    refine gc_seq fun K11 hK11 => ?_
    have hS : St w.heap.size w ws32 [.row (some ⟨g19, 0, none⟩) m 5 1 m (body.map uB), .row A22 c22 5 1 (frameV body).1.length ((frameV body).1.map uB), .row (some ⟨g27, 0, none⟩) 8 5 1 8 ((([UInt8.ofNat k, 0, 16, 0] : List UInt8) ++ [0, 0, 0, 0]).map uB)] := hS
    have hbig := readFrame_big k (by omega) (by omega) (List.replicate 20 0)
    have hPl : ([UInt8.ofNat k, 0, 16, 0] : List UInt8).length = 4 := rfl
    generalize ([UInt8.ofNat k, 0, 16, 0] : List UInt8) = P4 at hS hbig hPl
    have hSl := le4_len (crcV P4)
    refine gc_grow_end (e0 := [(0, .int .i64 n), (4, .slice A22 (frameV body).1.length c22), (5, .int .i64 (frameV body).2), (6, .slice (some ⟨g27, 0, none⟩) 8 8)]) (by kernel_rfl) ⟨rfl, rfl, rfl, rfl, trivial⟩ rfl (by kernel_rfl) (by kernel_rfl) (by kernel_rfl) (by kernel_rfl) ?_
    refine gg_op [] rfl rfl rfl (by kernel_rfl) (fun w1 hw1 => by have hS := hS.grown hw1; exact op_pure hT rfl) ?_
    refine gg_op [33] rfl rfl rfl (by kernel_rfl) (fun w1 hw1 => by have hS := hS.grown hw1; exact op_slice_l hT el5 rfl rfl rfl rfl (by first | omega | (simp; omega)) (by first | omega | (simp; omega))) ?_
    refine gg_spell (v := .slice (some ⟨g27, 4, none⟩) 4 4) (rfl) ?_
    refine gg_op [] rfl rfl rfl (by kernel_rfl) (fun w1 hw1 => by have hS := hS.grown hw1; exact op_pure hT rfl) ?_
    refine gg_op [35] rfl rfl rfl (by kernel_rfl) (fun w1 hw1 => by have hS := hS.grown hw1; exact op_slice_h hT el5 rfl rfl rfl rfl (by first | omega | (simp; omega)) (by first | omega | (simp; omega))) ?_
    refine gg_call [36] (.nd (leG (le4 (crcV P4)))) (leG_stays _) rfl rfl rfl (by kernel_rfl) rfl Tryd.func44 rfl rfl rfl (fun w1 hw1 => ?_) ?_
    · have hS := hS.grown hw1
      exact SealedN_calls _ 4 8 P4 w1 (hS.rdE (l := P4 ++ [0, 0, 0, 0]) (i := 2) rfl).left hPl.symm (by omega)
    refine gg_last1 37 [34] rfl fun wr9 u hwr9 hu => ?_
    have hS := hS.grown hwr9
    obtain ⟨A37, c37, rfl, hr37⟩ := hu
    generalize le4 (crcV P4) = S4 at hr37 hbig hSl
    refine gl_copyR (m := 4) 2 hT hS el5 (by have h := hr37; unfold RdE at h; rw [hSl] at h; exact h) (allOne_uB _) rfl rfl rfl rfl rfl rfl (by rw [hSl]; rfl) rfl (by decide) fun w38 hS => ?_
    have e1 : ((P4 ++ [0, 0, 0, 0]).map uB).take 4 ++ S4.map uB ++ ((P4 ++ [0, 0, 0, 0]).map uB).drop (4 + 4) = (P4 ++ S4).map uB := by
      rw [List.map_append, take_len _ _ 4 (by simpa using hPl), List.drop_eq_nil_of_le (by simp [hPl])]; simp
    have hS : St w.heap.size w w38 [.row (some ⟨g19, 0, none⟩) m 5 1 m (body.map uB), .row A22 c22 5 1 (frameV body).1.length ((frameV body).1.map uB), .row (some ⟨g27, 0, none⟩) 8 5 1 8 (((P4 ++ [0, 0, 0, 0]).map uB).take 4 ++ S4.map uB ++ ((P4 ++ [0, 0, 0, 0]).map uB).drop (4 + 4))] := hS
    rw [e1] at hS
    refine gl_nil ?_
    refine hK11 _ _ ?_
    clear hK11; try clear K11
    refine gc_seq fun K12 hK12 => ?_
    refine gc_region ?_
    refine gl_op rfl rfl rfl (op_pure hT rfl) ?_
    refine gl_roomG (k := 20) 2 hT hS el5 rfl rfl rfl rfl rfl rfl rfl rfl rfl (by decide) (by decide) (by decide) (by decide) (by decide) fun A41 c41 w41 hS => ?_
    rw [zero_room, ← List.map_append] at hS
    have hcap := (hS.cap (i := 3) rfl).1
    refine gl_callf rfl rfl rfl rfl Tryd.func42 rfl rfl rfl (ReadFrameN_calls A41 28 c41 (P4 ++ S4 ++ List.replicate 20 0) 0 _ (hS.rdE (i := 3) rfl) (by simp [hPl, hSl]) (by simp [hPl, hSl]) (by simp [hPl, hSl]; omega)) ?_
    rw [hbig]
    rintro _ w42 ⟨A42, c42, rfl, hr42, hb42⟩
    refine ⟨_, rfl, ?_⟩
    have hS := hS.addRow hb42 hr42
    refine gl_op rfl rfl rfl (op_pure hT rfl) ?_
    refine gl_op rfl rfl rfl (op_pure hT rfl) ?_
    refine gl_op rfl rfl rfl (op_pure hT rfl) ?_
    refine gl_op rfl rfl rfl (op_pure hT rfl) ?_
    refine gl_op rfl rfl rfl (op_pure hT rfl) ?_
    refine gl_op rfl rfl rfl (op_pure hT rfl) ?_
    refine gl_op rfl rfl rfl (op_pure hT rfl) ?_
    refine gl_nil ?_
    refine hK12 _ _ ?_
    clear hK12; try clear K12
    refine gc_seq fun K13 hK13 => ?_
    refine gc_region ?_
    refine gl_op rfl rfl rfl (op_pure hT rfl) ?_
    rw [hfv]
    refine gl_op rfl rfl rfl (op_pure hT rfl) ?_
    refine gl_op rfl rfl rfl (op_pure hT rfl) ?_
    refine gl_un rfl rfl rfl rfl ?_
    refine gl_op rfl rfl rfl (op_pure hT rfl) ?_
    refine gl_un rfl rfl rfl rfl ?_
    refine gl_op rfl rfl rfl (op_pure hT rfl) ?_
    refine gl_un rfl rfl rfl rfl ?_
    refine gl_op rfl rfl rfl (op_pure hT rfl) ?_
    refine gl_op rfl rfl rfl (op_pure hT rfl) ?_
    refine gl_op rfl rfl rfl (op_pure hT rfl) ?_
    refine gl_un rfl rfl rfl rfl ?_
    refine gl_op rfl rfl rfl (op_pure hT rfl) ?_
    refine gl_un rfl rfl rfl rfl ?_
    refine gl_op rfl rfl rfl (op_pure hT rfl) ?_
    refine gl_op rfl rfl rfl (op_pure hT rfl) ?_
    refine gl_op rfl rfl rfl (op_pure hT rfl) ?_
    refine gl_nil ?_
    refine hK13 _ _ ?_
    clear hK13; try clear K13
    refine gc_ret ?_
    try simp only [x_then_ret, x_block_ret]
    refine gk_ret1 rfl rfl ?_
    exact ⟨rfl, hS.below⟩
  · try simp only [decide_eq_true_eq, decide_eq_false_iff_not, Bool.not_eq_true', Bool.not_eq_false', Int.not_lt, Int.not_le, Nat.not_lt, Nat.not_le, Bool.true_eq, Bool.false_eq, reduceCtorEq] at c26
    refine gc_skip ?_
    refine hK7 _ _ ?_
    clear hK7; try clear K7
    refine gc_seq fun K14 hK14 => ?_
    refine gc_region ?_
    refine gl_op rfl rfl rfl (op_pure hT rfl) ?_
    have hfv : frameV body = (frameB body, 0) := by unfold frameV; rw [if_neg (by omega)]
    rw [hfv] at hS ⊢
    have hfl := frameB_len body
    have hrf := readFrame_frame [] body [] (by omega)
    simp only [List.nil_append, List.append_nil, List.length_nil, Nat.zero_add] at hrf
    have hcap := (hS.cap (i := 1) rfl).1
    refine gl_callf rfl rfl rfl rfl Tryd.func42 rfl rfl rfl (ReadFrame_calls A22 c22 (frameB body) 0 _ (hS.rdE (i := 1) rfl) (by omega) hcap) ?_
    rw [show (0 : Int) = ((0 : Nat) : Int) from rfl, hrf]
    rintro _ w59 ⟨A59, c59, rfl, hr59, hb59⟩
    refine ⟨_, rfl, ?_⟩
    have hS := hS.addRow hb59 hr59
    refine gl_op rfl rfl rfl (op_pure hT rfl) ?_
    refine gl_op rfl rfl rfl (op_pure hT rfl) ?_
    refine gl_op rfl rfl rfl (op_pure hT rfl) ?_
    refine gl_op rfl rfl rfl (op_pure hT rfl) ?_
    refine gl_op rfl rfl rfl (op_pure hT rfl) ?_
    refine gl_op rfl rfl rfl (op_pure hT rfl) ?_
    refine gl_op rfl rfl rfl (op_pure hT rfl) ?_
    refine gl_nil ?_
    refine hK14 _ _ ?_
    clear hK14; try clear K14
    refine gc_seq fun K15 hK15 => ?_
    refine gc_region ?_
    refine gl_op rfl rfl rfl (op_pure hT rfl) ?_
    refine gl_op rfl rfl rfl (op_pure hT rfl) ?_
    refine gl_op rfl rfl rfl (op_pure hT rfl) ?_
    refine gl_un rfl rfl rfl rfl ?_
    refine gl_op rfl rfl rfl (op_pure hT rfl) ?_
    refine gl_un rfl rfl rfl rfl ?_
    refine gl_op rfl rfl rfl (op_pure hT rfl) ?_
    refine gl_op rfl rfl rfl (op_pure hT rfl) ?_
    refine gl_op rfl rfl rfl (op_pure hT rfl) ?_
    refine gl_un rfl rfl rfl rfl ?_
    refine gl_op rfl rfl rfl (op_pure hT rfl) ?_
    refine gl_un rfl rfl rfl rfl ?_
    refine gl_op rfl rfl rfl (op_pure hT rfl) ?_
    refine gl_un rfl rfl rfl rfl ?_
    refine gl_op rfl rfl rfl (op_pure hT rfl) ?_
    refine gl_un rfl rfl rfl rfl ?_
    refine gl_op rfl rfl rfl (op_pure hT rfl) ?_
    refine gl_un rfl rfl rfl rfl ?_
    first | refine gl_fit hT rfl rfl rfl rfl (by omega) ?_ | refine gl_op rfl rfl rfl (op_pure hT rfl) ?_
    refine gl_un rfl rfl rfl rfl ?_
    refine gl_op rfl rfl rfl (op_pure hT rfl) ?_
    refine gl_spell 75 (v := .bool true) rfl (by simp; omega) ?_
    refine gl_op rfl rfl rfl (op_pure hT rfl) ?_
    refine gl_op rfl rfl rfl (op_pure hT rfl) ?_
    refine gl_un rfl rfl rfl rfl ?_
    refine gl_op rfl rfl rfl (op_pure hT rfl) ?_
    refine gl_un rfl rfl rfl rfl ?_
    refine gl_op rfl rfl rfl (op_pure hT rfl) ?_
    refine gl_un rfl rfl rfl rfl ?_
    refine gl_op rfl rfl rfl (op_pure hT rfl) ?_
    refine gl_un rfl rfl rfl rfl ?_
    refine gl_op rfl rfl rfl (op_pure hT rfl) ?_
    refine gl_spell 81 (v := .bool true) rfl (by simp; omega) ?_
    refine gl_op rfl rfl rfl (op_pure hT rfl) ?_
    refine gl_op rfl rfl rfl (op_pure hT rfl) ?_
    refine gl_un rfl rfl rfl rfl ?_
    refine gl_op rfl rfl rfl (op_pure hT rfl) ?_
    refine gl_un rfl rfl rfl rfl ?_
    refine gl_op rfl rfl rfl (op_pure hT rfl) ?_
    refine gl_un rfl rfl rfl rfl ?_
    refine gl_callf rfl rfl rfl rfl Tryd.func18 rfl rfl (by rw [← hbl]; rfl) (Same_calls _ _ _ m body body _ (hS.rdE (i := 2) rfl) (hS.rdE (i := 0) rfl) (by omega)) ?_
    rintro _ _ ⟨rfl, n86, rfl⟩
    refine ⟨_, rfl, ?_⟩
    have hS := hS.dr n86
    refine gl_spell 86 (v := .bool true) rfl (by simp) ?_
    refine gl_op rfl rfl rfl (op_pure hT rfl) ?_
    refine gl_op rfl rfl rfl (op_pure hT rfl) ?_
    refine gl_nil ?_
    refine hK15 _ _ ?_
    clear hK15; try clear K15
    refine gc_ret ?_
    try simp only [x_then_ret, x_block_ret]
    refine gk_ret1 rfl rfl ?_
    exact ⟨rfl, hS.below⟩
end Go.Proofs.YtpeomdobcobdiaaDoor
