/- Contracts of the functions of this seat: what each call computes, as a plain Lean function. Made by this session's own generator. -/
import Derived.Test.YtogkaifcelooaaaGx0
import Derived.Test.YtogkaifcelooaaaGx2
import Derived.Test.YtogkaifcelooaaaGx3
namespace Go.Proofs.Ytogkaifcelooaaa.G
open Go.RowKit Go.Proofs.YtogkaifcelooaaaMy Go.Proofs.YtogkaifcelooaaaW.PrintWords Go.Proofs.YtogkaifcelooaaaW.PrintLast Go.Proofs.YtogkaifcelooaaaW.PrintMore
attribute [local go_sem] max2_int min2_int max_two min_two max_three min_three max_four min_four   -- for this text's walks alone
set_option linter.unusedVariables false
set_option linter.unusedSimpArgs false

/-! ### shape_down_1: function 21 -/
-- by hand
/-- What comes, in order: the lines from 200 down to 1, each with what is left of it. -/
def shape_down_1.all (g : Int → Int × Int) : List (Int × Int × Int) := (List.range 200).map fun j : Nat => (200 - (j : Int), g (200 - (j : Int)))
theorem shape_down_1.take_succ (g : Int → Int × Int) (k : Nat) (h : k < 200) : (shape_down_1.all g).take (k + 1) = (shape_down_1.all g).take k ++ [(200 - (k : Int), g (200 - (k : Int)))] := by
  have hl : k < (shape_down_1.all g).length := by simp [shape_down_1.all]; omega
  rw [List.take_succ_eq_append_getElem hl]
  simp [shape_down_1.all]
def shape_down_1.encs (x : Int × Int × Int) : Array Value := #[.int .i64 x.1, .agg #[.int .i64 x.2.1, .int .i64 x.2.2]]
set_option maxHeartbeats 4000000 in
set_option maxRecDepth 100000 in
theorem shape_down_1.stops (a0_0 a0_1 a0_2 a0_3 : Int) (A0_4 : Option Addr) (c0_4 : Nat) (l0_4 : List (S27)) (a0_5 a0_6 a0_7 a0_8 a0_9 a0_10 a0_11 a0_12 a0_13 a0_14 a0_15 a0_16 a0_17 a0_18 a0_19 a0_20 : Int) (g : Int → Int × Int) (n B : Nat) (w W0 : World)
    (hW0 : Below w.heap.size w W0) (hB : W0.heap[B]? = some (.cells #[.int .i64 a0_0, .int .i64 a0_1, .int .i64 a0_2, .int .i64 a0_3, .slice A0_4 l0_4.length c0_4, .int .i64 a0_5, .int .i64 a0_6, .int .i64 a0_7, .int .i64 a0_8, .int .i64 a0_9, .int .i64 a0_10, .int .i64 a0_11, .int .i64 a0_12, .int .i64 a0_13, .int .i64 a0_14, .int .i64 a0_15, .int .i64 a0_16, .int .i64 a0_17, .int .i64 a0_18, .int .i64 a0_19, .int .i64 a0_20] 24 (0, 0))) (hr0_4 : Kd.C k27 w A0_4 l0_4.length l0_4) (hc0_4 : l0_4.length ≤ c0_4)
    (hg : ∀ k : Int, 1 ≤ k → k ≤ 200 → shape_left.f a0_0 a0_1 a0_2 a0_3 l0_4 a0_5 a0_6 a0_7 a0_8 a0_9 a0_10 a0_11 a0_12 a0_13 a0_14 a0_15 a0_16 a0_17 a0_18 a0_19 a0_20 k = some (g k)) :
    SeqStopsK Fence.wide n Try.prog 21 #[.pointer (some ⟨B, 0, none⟩)] shape_down_1.encs (KpB w.heap.size B) (fun ys => ys = shape_down_1.all g) (fun pre => pre <+: shape_down_1.all g) 200 W0 := by
  intro l J Jx W hW hJ _ hY h0
  have HR := Aside0.mk hr0_4
  have hBk := Aside0.mk ((hW.block B (Array.getElem?_eq_some_iff.1 hB).1).trans hB)
  have HW := Aside0.mk (hW0.trans (hW.mono hW0.size))
  have HC := Aside0.mk (fun (k : Int) (h1 : 1 ≤ k) (h2 : k ≤ 200) (W : World) (hb : Below w.heap.size w W) => shape_left.calls a0_0 a0_1 a0_2 a0_3 A0_4 c0_4 l0_4 a0_5 a0_6 a0_7 a0_8 a0_9 a0_10 a0_11 a0_12 a0_13 a0_14 a0_15 a0_16 a0_17 a0_18 a0_19 a0_20 k (g k).1 (g k).2 W (Kd.C_below HR.out hb) hc0_4 (hg k h1 h2))
  clear hr0_4 hB hW hg hc0_4 hW0
  have hu := Try.underlying24
  refine callsIn_of_wp Try.func21 rfl trivial ?_ rfl
  simp only [Try.ntmps21, List.size_toArray, List.length_cons, List.length_nil, Nat.reduceAdd, Nat.reduceSub, Array.replicate_succ, Array.replicate_zero, List.push_toArray, List.append_toArray, List.nil_append, List.cons_append]
  gi_wp2
  gi_loopw [3] (fun p wr => ∃ k : Nat, k ≤ 200 ∧ p = .int .i64 (200 - (k : Int)) ∧ J ((shape_down_1.all g).take k) wr ∧ Aside0 (Below w.heap.size w wr) ∧ Aside0 (wr.heap[B]? = some (.cells #[.int .i64 a0_0, .int .i64 a0_1, .int .i64 a0_2, .int .i64 a0_3, .slice A0_4 l0_4.length c0_4, .int .i64 a0_5, .int .i64 a0_6, .int .i64 a0_7, .int .i64 a0_8, .int .i64 a0_9, .int .i64 a0_10, .int .i64 a0_11, .int .i64 a0_12, .int .i64 a0_13, .int .i64 a0_14, .int .i64 a0_15, .int .i64 a0_16, .int .i64 a0_17, .int .i64 a0_18, .int .i64 a0_19, .int .i64 a0_20] 24 (0, 0)))) (fun p _ => (intOf p).toNat)
  case atStart =>
    exact ⟨0, by omega, rfl, h0, HW, hBk⟩
  case round =>
    obtain ⟨k, hk, rfl, hJs, HB, HK⟩ := hrel
    by_cases hlt : k < 200
    · have hpos : decide (0 < (200 : Int) - (k : Int)) = true := decide_eq_true (by omega)
      have hpos2 : (0 : Int) < 200 - (k : Int) := by omega
      have HY := Aside0.mk (fun (W1 : World) (h1 : J ((shape_down_1.all g).take k) W1) => hY ((shape_down_1.all g).take k) (200 - (k : Int), g (200 - (k : Int))) W1 h1 (by simp [shape_down_1.all]; omega))
      have HC1 := Aside0.mk (HC.out (200 - (k : Int)) (by omega) (by omega))
      have HJ1 := Aside0.mk (fun (W1 : World) (hb : Below wr.heap.size wr W1) => abides_below hJ hJs hb)
      clear hY HC hJ
      gi_wp2_with (first | ((with_reducible refine gateIn_load (T := 24) rfl ?_); refine oneIn open_wide (by rintro ⟨_, _, ⟨_, h⟩, _⟩; cases h) rfl ?_; refine load_row_event (by first | rfl | (go_simp; done)) 24 _ rfl B rfl 24 _ (0, 0) _ HK.out hu rfl (by kernel_rfl) ?_; refine oneEnd ?_) | (refine ⟨open_wide.fn _, open_wide.deep, ?_⟩; gi_at_call 13; (with_reducible refine (callsIn_open open_wide (HC1.out wr HB.out)).mono ?_); rintro e w1 ⟨rfl, hb⟩; obtain ⟨fn, tmps, assign, body, hy, hR⟩ := HY.out w1 (HJ1.out w1 hb); dsimp only [shape_down_1.encs] at hy))
      have HS := Aside0.mk (shape_down_1.take_succ g k hlt)
      refine ⟨open_wide.deep, hR.mono ?_⟩
      rintro e W3 (⟨rfl, hJ3, hk3⟩ | ⟨rfl, hJx3⟩)
      · gi_wp2
        go_roundw
        case rel => exact ⟨k + 1, by omega, by first | go_num | (simp; omega), by rw [HS.out]; exact hJ3, ⟨(below_step HB.out hb).trans hk3.1⟩, ⟨hk3.2.trans (blk_below HK.out hb)⟩⟩
        case measure => simp [intOf]; omega
      · gi_wp2
        refine bodyPost_ret (results_none rfl _ _ _) rfl ?_
        exact ⟨⟨_, rfl⟩, .inr ⟨(shape_down_1.all g).take k ++ [(200 - (k : Int), g (200 - (k : Int)))], by rw [← HS.out]; exact List.take_prefix _ _, hJx3⟩⟩
    · have hpos : decide (0 < (200 : Int) - (k : Int)) = false := decide_eq_false (by omega)
      have hpos2 : ¬ (0 : Int) < 200 - (k : Int) := by omega
      have hJe := Aside0.mk (show J (shape_down_1.all g) wr from by rw [← List.take_of_length_le (l := shape_down_1.all g) (i := k) (by simp [shape_down_1.all]; omega)]; exact hJs)
      gi_wp2
      go_end0
      exact ⟨⟨_, rfl⟩, .inl hJe.out⟩

/-! ### shape_down: function 15 -/
-- by hand
theorem shape_down.calls (a0_0 a0_1 a0_2 a0_3 : Int) (A0_4 : Option Addr) (c0_4 : Nat) (l0_4 : List (S27)) (a0_5 a0_6 a0_7 a0_8 a0_9 a0_10 a0_11 a0_12 a0_13 a0_14 a0_15 a0_16 a0_17 a0_18 a0_19 a0_20 : Int) (w : World) :
    Calls Try.prog 15 #[.agg #[.int .i64 a0_0, .int .i64 a0_1, .int .i64 a0_2, .int .i64 a0_3, .slice A0_4 l0_4.length c0_4, .int .i64 a0_5, .int .i64 a0_6, .int .i64 a0_7, .int .i64 a0_8, .int .i64 a0_9, .int .i64 a0_10, .int .i64 a0_11, .int .i64 a0_12, .int .i64 a0_13, .int .i64 a0_14, .int .i64 a0_15, .int .i64 a0_16, .int .i64 a0_17, .int .i64 a0_18, .int .i64 a0_19, .int .i64 a0_20]] w fun e w' => e = .returned (.func (.func 21) #[] #[.pointer (some ⟨w.heap.size, 0, none⟩)]) ∧ w' = w.alloc (.cells #[.int .i64 a0_0, .int .i64 a0_1, .int .i64 a0_2, .int .i64 a0_3, .slice A0_4 l0_4.length c0_4, .int .i64 a0_5, .int .i64 a0_6, .int .i64 a0_7, .int .i64 a0_8, .int .i64 a0_9, .int .i64 a0_10, .int .i64 a0_11, .int .i64 a0_12, .int .i64 a0_13, .int .i64 a0_14, .int .i64 a0_15, .int .i64 a0_16, .int .i64 a0_17, .int .i64 a0_18, .int .i64 a0_19, .int .i64 a0_20] 24) := by
  have hu := Try.underlying24
  go_enter Try.func15, Try.ntmps15
  go_wp2
  go_ret
  exact ⟨rfl, rfl⟩

/-! ### shape_From: function 9 -/
-- by hand
attribute [local go_sem] Oper.semAt_some
/-- Behind pre, all of which are as the last one: the first of them. -/
def shape_From.scan (last : Int × Int) : List (Int × Int × Int) → Int → Int
  | [], from_ => from_
  | x :: l, from_ => if x.2 = last then shape_From.scan last l x.1 else from_
theorem shape_From.scan_app (last : Int × Int) (l m : List (Int × Int × Int)) (d : Int) (h : ∀ x ∈ l, x.2 = last) : shape_From.scan last (l ++ m) d = shape_From.scan last m ((l.map (·.1)).getLast?.getD d) := by
  induction l generalizing d with
  | nil => rfl
  | cons x l ih =>
    rw [List.cons_append, shape_From.scan, if_pos (h x (by simp)), ih x.1 (fun y hy => h y (by simp [hy]))]
    congr 1
    cases l with
    | nil => rfl
    | cons y l => simp only [List.map_cons, List.getLast?_cons, Option.getD_some]
def shape_From.left (a0_0 a0_1 a0_2 a0_3 : Int) (l0_4 : List (S27)) (a0_5 a0_6 a0_7 a0_8 a0_9 a0_10 a0_11 a0_12 a0_13 a0_14 a0_15 a0_16 a0_17 a0_18 a0_19 a0_20 : Int) (k : Int) : Int × Int := (shape_left.f a0_0 a0_1 a0_2 a0_3 l0_4 a0_5 a0_6 a0_7 a0_8 a0_9 a0_10 a0_11 a0_12 a0_13 a0_14 a0_15 a0_16 a0_17 a0_18 a0_19 a0_20 k).getD (0, 0)
def shape_From.f (a0_0 a0_1 a0_2 a0_3 : Int) (l0_4 : List (S27)) (a0_5 a0_6 a0_7 a0_8 a0_9 a0_10 a0_11 a0_12 a0_13 a0_14 a0_15 a0_16 a0_17 a0_18 a0_19 a0_20 : Int) : Option Int :=
  (param_Check.f a0_0 a0_1 a0_2 a0_3 l0_4 a0_5 a0_6 a0_7 a0_8 a0_9 a0_10 a0_11 a0_12 a0_13 a0_14 a0_15 a0_16 a0_17 a0_18 a0_19 a0_20).bind fun b =>
    if b = true then
      if ((List.range 200).all fun j => (shape_left.f a0_0 a0_1 a0_2 a0_3 l0_4 a0_5 a0_6 a0_7 a0_8 a0_9 a0_10 a0_11 a0_12 a0_13 a0_14 a0_15 a0_16 a0_17 a0_18 a0_19 a0_20 ((j : Int) + 1)).isSome) = true then
        some (shape_From.scan (shape_From.left a0_0 a0_1 a0_2 a0_3 l0_4 a0_5 a0_6 a0_7 a0_8 a0_9 a0_10 a0_11 a0_12 a0_13 a0_14 a0_15 a0_16 a0_17 a0_18 a0_19 a0_20 200) (shape_down_1.all (shape_From.left a0_0 a0_1 a0_2 a0_3 l0_4 a0_5 a0_6 a0_7 a0_8 a0_9 a0_10 a0_11 a0_12 a0_13 a0_14 a0_15 a0_16 a0_17 a0_18 a0_19 a0_20)) 200)
      else none
    else some 0
set_option maxHeartbeats 4000000 in
set_option maxRecDepth 100000 in
theorem shape_From.calls (a0_0 a0_1 a0_2 a0_3 : Int) (A0_4 : Option Addr) (c0_4 : Nat) (l0_4 : List (S27)) (a0_5 a0_6 a0_7 a0_8 a0_9 a0_10 a0_11 a0_12 a0_13 a0_14 a0_15 a0_16 a0_17 a0_18 a0_19 a0_20 : Int) (r : Int) (w : World) (hr0_4 : Kd.C k27 w A0_4 l0_4.length l0_4) (hc0_4 : l0_4.length ≤ c0_4) (h : shape_From.f a0_0 a0_1 a0_2 a0_3 l0_4 a0_5 a0_6 a0_7 a0_8 a0_9 a0_10 a0_11 a0_12 a0_13 a0_14 a0_15 a0_16 a0_17 a0_18 a0_19 a0_20 = some r) :
    Calls Try.prog 9 #[.agg #[.int .i64 a0_0, .int .i64 a0_1, .int .i64 a0_2, .int .i64 a0_3, .slice A0_4 l0_4.length c0_4, .int .i64 a0_5, .int .i64 a0_6, .int .i64 a0_7, .int .i64 a0_8, .int .i64 a0_9, .int .i64 a0_10, .int .i64 a0_11, .int .i64 a0_12, .int .i64 a0_13, .int .i64 a0_14, .int .i64 a0_15, .int .i64 a0_16, .int .i64 a0_17, .int .i64 a0_18, .int .i64 a0_19, .int .i64 a0_20]] w fun e w' => e = .returned (.int .i64 r) ∧ Below w.heap.size w w' := by
  have HR := Aside0.mk hr0_4
  have HC := Aside0.mk hc0_4
  have HB := Aside0.mk (Below.refl w.heap.size w)
  have hu := Try.underlying24
  have hu2 := Try.underlying27
  obtain ⟨b, hb, h⟩ := Option.bind_eq_some_iff.mp h
  have L1 := Aside0.mk (fun (W : World) (hB : Below w.heap.size w W) => param_Check.calls a0_0 a0_1 a0_2 a0_3 A0_4 c0_4 l0_4 a0_5 a0_6 a0_7 a0_8 a0_9 a0_10 a0_11 a0_12 a0_13 a0_14 a0_15 a0_16 a0_17 a0_18 a0_19 a0_20 b W (Kd.C_below HR.out hB) HC.out hb)
  clear hr0_4 hc0_4 hb
  cases b with
  | false =>
    obtain rfl : 0 = r := Option.some.inj h
    clear h
    refine (callsIn_wide (n := 8)).1 ?_
    refine callsIn_of_wp Try.func9 rfl trivial ?_ rfl
    simp only [Try.ntmps9, List.size_toArray, List.length_cons, List.length_nil, Nat.reduceAdd, Nat.reduceSub, Array.replicate_succ, Array.replicate_zero, List.push_toArray, List.append_toArray, List.nil_append, List.cons_append]
    refine wpIn_wide.2 ?_
    go_wp2_with (first | ((with_reducible refine gate_dst (N := 1) rfl ?_); refine box_event ?hg (N := 1) ?hd (cs := #[.int .i64 a0_0, .int .i64 a0_1, .int .i64 a0_2, .int .i64 a0_3, .slice A0_4 l0_4.length c0_4, .int .i64 a0_5, .int .i64 a0_6, .int .i64 a0_7, .int .i64 a0_8, .int .i64 a0_9, .int .i64 a0_10, .int .i64 a0_11, .int .i64 a0_12, .int .i64 a0_13, .int .i64 a0_14, .int .i64 a0_15, .int .i64 a0_16, .int .i64 a0_17, .int .i64 a0_18, .int .i64 a0_19, .int .i64 a0_20]) (t := 24) ?hr ?_; (case hd => rfl); (case hg => rfl); (case hr => first | (go_simp; done) | (go_simp; rfl)); intro ga hg wa hbox hb; have GEga := Aside0.mk (show w.heap.size ≤ ga from hg ▸ below_size (by repeat (first | (with_reducible first | exact HB.out | apply below_alloc | apply pw_below_drewN | apply below_drew1) | exact HB.out))); have n0_ := Aside0.mk (below_step (by repeat (first | (with_reducible first | exact HB.out | apply below_alloc | apply pw_below_drewN | apply below_drew1) | exact HB.out)) hb); have BKga := Aside0.mk hbox; have hxga := blk_cell hbox; have hyga := blk_frozen hbox; clear HB; have HB := n0_; clear n0_ hb hbox hg))
    go_step3
    go_wp2_with (first | ((with_reducible refine gate_ (.load 24 (.tmp 1)) rfl ?_); refine wpList_load_row rfl 24 (.tmp 1) rfl ga rfl 24 _ (0, 0) _ BKga.out hu rfl (by kernel_rfl) ?_) | (go_at_call 12; (with_reducible refine (L1.out _ HB.out).mono ?_); rintro e wz ⟨rfl, hb⟩; have n0_ := Aside0.mk (below_step HB.out hb); clear HB hb; have HB := n0_; clear n0_ L1))
    rw [Exit.noGoto_ret]
    go_ret
    exact ⟨rfl, HB.out⟩
  | true =>
    rw [if_pos rfl] at h
    split at h
    case isFalse => cases h
    rename_i hall
    obtain rfl := Option.some.inj h
    clear h
    obtain ⟨g, hge⟩ : ∃ g : Int → Int × Int, g = shape_From.left a0_0 a0_1 a0_2 a0_3 l0_4 a0_5 a0_6 a0_7 a0_8 a0_9 a0_10 a0_11 a0_12 a0_13 a0_14 a0_15 a0_16 a0_17 a0_18 a0_19 a0_20 := ⟨_, rfl⟩
    have hg : ∀ k : Int, 1 ≤ k → k ≤ 200 → shape_left.f a0_0 a0_1 a0_2 a0_3 l0_4 a0_5 a0_6 a0_7 a0_8 a0_9 a0_10 a0_11 a0_12 a0_13 a0_14 a0_15 a0_16 a0_17 a0_18 a0_19 a0_20 k = some (g k) := by
      intro k h1 h2
      have := List.all_eq_true.1 hall (k - 1).toNat (List.mem_range.2 (by omega))
      rw [show (((k - 1).toNat : Nat) : Int) + 1 = k by omega] at this
      obtain ⟨x, hx⟩ := Option.isSome_iff_exists.1 this
      rw [hge, shape_From.left, hx]
      rfl
    rw [← hge]
    have L2 := Aside0.mk (fun (W : World) (hB : Below w.heap.size w W) => shape_left.calls a0_0 a0_1 a0_2 a0_3 A0_4 c0_4 l0_4 a0_5 a0_6 a0_7 a0_8 a0_9 a0_10 a0_11 a0_12 a0_13 a0_14 a0_15 a0_16 a0_17 a0_18 a0_19 a0_20 200 (g 200).1 (g 200).2 W (Kd.C_below HR.out hB) HC.out (hg 200 (by omega) (by omega)))
    have HG := Aside0.mk hg
    clear hall hge hg
    refine (callsIn_wide (n := 8)).1 ?_
    refine callsIn_of_wp_marks Try.func9 rfl trivial ?_ rfl
    simp only [Try.ntmps9, List.size_toArray, List.length_cons, List.length_nil, Nat.reduceAdd, Nat.reduceSub, Array.replicate_succ, Array.replicate_zero, List.push_toArray, List.append_toArray, List.nil_append, List.cons_append]
    refine wpIn_wide.2 ?_
    go_wp2_with (first | ((with_reducible refine gate_dst (N := 1) rfl ?_); refine box_event ?hg (N := 1) ?hd (cs := #[.int .i64 a0_0, .int .i64 a0_1, .int .i64 a0_2, .int .i64 a0_3, .slice A0_4 l0_4.length c0_4, .int .i64 a0_5, .int .i64 a0_6, .int .i64 a0_7, .int .i64 a0_8, .int .i64 a0_9, .int .i64 a0_10, .int .i64 a0_11, .int .i64 a0_12, .int .i64 a0_13, .int .i64 a0_14, .int .i64 a0_15, .int .i64 a0_16, .int .i64 a0_17, .int .i64 a0_18, .int .i64 a0_19, .int .i64 a0_20]) (t := 24) ?hr ?_; (case hd => rfl); (case hg => rfl); (case hr => first | (go_simp; done) | (go_simp; rfl)); intro ga hg wa hbox hb; have GEga := Aside0.mk (show w.heap.size ≤ ga from hg ▸ below_size (by repeat (first | (with_reducible first | exact HB.out | apply below_alloc | apply pw_below_drewN | apply below_drew1) | exact HB.out))); have n0_ := Aside0.mk (below_step (by repeat (first | (with_reducible first | exact HB.out | apply below_alloc | apply pw_below_drewN | apply below_drew1) | exact HB.out)) hb); have BKga := Aside0.mk hbox; have hxga := blk_cell hbox; have hyga := blk_frozen hbox; clear HB; have HB := n0_; clear n0_ hb hbox hg))
    refine wp_scope_jumps 0 (fun a' w' => ∃ (D gbx : Nat) (v0 v1 v2 v4 v5 v6 v7 v8 v9 v10 v11 v12 v13 v14 v15 v16 v17 v18 v19 v20 : Value), a' = { tmps := #[v0, v1, v2, .pointer (some ⟨gbx, 0, none⟩), v4, v5, v6, v7, v8, v9, v10, v11, v12, v13, v14, v15, v16, v17, v18, v19, v20], defers := [{ target := .collected D, args := #[] }] } ∧ w'.heap[gbx]? = some (.cells #[.int .i64 (shape_From.scan (g 200) (shape_down_1.all g) 200)] 3 (0, 0)) ∧ w'.heap[D]? = some (.deferred (some [])) ∧ Aside0 (Below w.heap.size w w') ∧ w.heap.size ≤ D) (fun _ _ => 0) rfl ?first ?pass
    case first =>
      go_wp2_with (first | ((with_reducible refine gate_ (.load 24 (.tmp 1)) rfl ?_); refine wpList_load_row rfl 24 (.tmp 1) rfl ga rfl 24 _ (0, 0) _ BKga.out hu rfl (by kernel_rfl) ?_) | ((with_reducible refine gate_dst (N := 3) rfl ?_); refine box_event ?hg (N := 3) ?hd (cs := #[.int .i64 0]) (t := 3) ?hr ?_; (case hd => rfl); (case hg => rfl); (case hr => first | (go_simp; done) | (go_simp; rfl)); intro gb hg wb hbox hb; have NBgb_ga := Aside0.mk (show gb ≠ ga from by have z_ := (Array.getElem?_eq_some_iff.1 BKga.out).1; omega); have NBga_gb := Aside0.mk (Ne.symm NBgb_ga.out); have GEgb := Aside0.mk (show w.heap.size ≤ gb from hg ▸ below_size (by repeat (first | (with_reducible first | exact HB.out | apply below_alloc | apply pw_below_drewN | apply below_drew1) | exact HB.out))); have n0_ := Aside0.mk (below_step (by repeat (first | (with_reducible first | exact HB.out | apply below_alloc | apply pw_below_drewN | apply below_drew1) | exact HB.out)) hb); have BKgb := Aside0.mk hbox; have hxgb := blk_cell hbox; have hygb := blk_frozen hbox; have zga := Aside0.mk (blk_below BKga.out hb); clear BKga hxga hyga; have BKga := zga; clear zga; have hxga := blk_cell BKga.out; have hyga := blk_frozen BKga.out; clear HB; have HB := n0_; clear n0_ hb hbox hg) | ((with_reducible refine gate_dst (N := 4) rfl ?_); refine box_event ?hg (N := 4) ?hd (cs := #[.int .i64 0, .int .i64 0]) (t := 27) ?hr ?_; (case hd => rfl); (case hg => rfl); (case hr => first | (go_simp; done) | (go_simp; rfl)); intro gc hg wc hbox hb; have NBgc_ga := Aside0.mk (show gc ≠ ga from by have z_ := (Array.getElem?_eq_some_iff.1 BKga.out).1; omega); have NBga_gc := Aside0.mk (Ne.symm NBgc_ga.out); have NBgc_gb := Aside0.mk (show gc ≠ gb from by have z_ := (Array.getElem?_eq_some_iff.1 BKgb.out).1; omega); have NBgb_gc := Aside0.mk (Ne.symm NBgc_gb.out); have GEgc := Aside0.mk (show w.heap.size ≤ gc from hg ▸ below_size (by repeat (first | (with_reducible first | exact HB.out | apply below_alloc | apply pw_below_drewN | apply below_drew1) | exact HB.out))); have n0_ := Aside0.mk (below_step (by repeat (first | (with_reducible first | exact HB.out | apply below_alloc | apply pw_below_drewN | apply below_drew1) | exact HB.out)) hb); have BKgc := Aside0.mk hbox; have hxgc := blk_cell hbox; have hygc := blk_frozen hbox; have zga := Aside0.mk (blk_below BKga.out hb); clear BKga hxga hyga; have BKga := zga; clear zga; have hxga := blk_cell BKga.out; have hyga := blk_frozen BKga.out; have zgb := Aside0.mk (blk_below BKgb.out hb); clear BKgb hxgb hygb; have BKgb := zgb; clear zgb; have hxgb := blk_cell BKgb.out; have hygb := blk_frozen BKgb.out; clear HB; have HB := n0_; clear n0_ hb hbox hg) | ((with_reducible refine gate_store (t := 3) rfl ?_); refine store_one_event (base := w.heap.size) rfl rfl 3 _ _ rfl (g := gb) rfl rfl BKgb.out (by kernel_rfl) rfl GEgb.out ?_; intro ws_ hs_ hk_ hb_; have n0_ := Aside0.mk (HB.out.trans hb_); clear HB; have HB := n0_; clear n0_; have z_ := Aside0.mk ((hk_ ga NBga_gb.out).trans BKga.out); clear BKga hxga hyga; have BKga := z_; clear z_; have hxga := blk_cell BKga.out; have hyga := blk_frozen BKga.out; have z_ := Aside0.mk ((hk_ gc NBgc_gb.out).trans BKgc.out); clear BKgc hxgc hygc; have BKgc := z_; clear z_; have hxgc := blk_cell BKgc.out; have hygc := blk_frozen BKgc.out; clear BKgb hxgb hygb; have BKgb := Aside0.mk hs_; have hxgb := blk_cell BKgb.out; have hygb := blk_frozen BKgb.out; clear hs_ hk_ hb_) | ((with_reducible refine gate_store (t := 27) rfl ?_); refine store_row_event (base := w.heap.size) rfl rfl 27 _ _ rfl (g := gc) (by rfl) (by rfl) BKgc.out (by kernel_rfl) (by rfl) (by rfl) GEgc.out ?_; intro ws_ hs_ hk_ hb_; have n0_ := Aside0.mk (HB.out.trans hb_); clear HB; have HB := n0_; clear n0_; have z_ := Aside0.mk ((hk_ ga NBga_gc.out).trans BKga.out); clear BKga hxga hyga; have BKga := z_; clear z_; have hxga := blk_cell BKga.out; have hyga := blk_frozen BKga.out; have z_ := Aside0.mk ((hk_ gb NBgb_gc.out).trans BKgb.out); clear BKgb hxgb hygb; have BKgb := z_; clear z_; have hxgb := blk_cell BKgb.out; have hygb := blk_frozen BKgb.out; clear BKgc hxgc hygc; have BKgc := Aside0.mk hs_; have hxgc := blk_cell BKgc.out; have hygc := blk_frozen BKgc.out; clear hs_ hk_ hb_) | (go_at_call 12; (with_reducible refine (L1.out _ HB.out).mono ?_); rintro e wz ⟨rfl, hb⟩; have z_ := Aside0.mk (blk_below BKga.out hb); clear BKga hxga hyga; have BKga := z_; clear z_; have hxga := blk_cell BKga.out; have hyga := blk_frozen BKga.out; have n0_ := Aside0.mk (below_step HB.out hb); clear HB hb; have HB := n0_; clear n0_; clear L1) | (go_at_call 13; (with_reducible refine (L2.out _ HB.out).mono ?_); rintro e wy ⟨rfl, hb⟩; have z_ := Aside0.mk (blk_below BKga.out hb); clear BKga hxga hyga; have BKga := z_; clear z_; have hxga := blk_cell BKga.out; have hyga := blk_frozen BKga.out; have n0_ := Aside0.mk (below_step HB.out hb); clear HB hb; have HB := n0_; clear n0_; clear L2))
      refine (shape_down.calls a0_0 a0_1 a0_2 a0_3 A0_4 c0_4 l0_4 a0_5 a0_6 a0_7 a0_8 a0_9 a0_10 a0_11 a0_12 a0_13 a0_14 a0_15 a0_16 a0_17 a0_18 a0_19 a0_20 ws_).mono ?_
      rintro e wd ⟨rfl, rfl⟩
      obtain ⟨Bd, hBd⟩ : ∃ Bd, Bd = ws_.heap.size := ⟨_, rfl⟩
      obtain ⟨W0, hW0⟩ : ∃ W0, W0 = ws_.alloc (.cells #[.int .i64 a0_0, .int .i64 a0_1, .int .i64 a0_2, .int .i64 a0_3, .slice A0_4 l0_4.length c0_4, .int .i64 a0_5, .int .i64 a0_6, .int .i64 a0_7, .int .i64 a0_8, .int .i64 a0_9, .int .i64 a0_10, .int .i64 a0_11, .int .i64 a0_12, .int .i64 a0_13, .int .i64 a0_14, .int .i64 a0_15, .int .i64 a0_16, .int .i64 a0_17, .int .i64 a0_18, .int .i64 a0_19, .int .i64 a0_20] 24) := ⟨_, rfl⟩
      have hb0 : Below ws_.heap.size ws_ W0 := by rw [hW0]; exact (Below.refl _ ws_).alloc (Nat.le_refl _) _
      have hd0 : W0.heap[Bd]? = some (.cells #[.int .i64 a0_0, .int .i64 a0_1, .int .i64 a0_2, .int .i64 a0_3, .slice A0_4 l0_4.length c0_4, .int .i64 a0_5, .int .i64 a0_6, .int .i64 a0_7, .int .i64 a0_8, .int .i64 a0_9, .int .i64 a0_10, .int .i64 a0_11, .int .i64 a0_12, .int .i64 a0_13, .int .i64 a0_14, .int .i64 a0_15, .int .i64 a0_16, .int .i64 a0_17, .int .i64 a0_18, .int .i64 a0_19, .int .i64 a0_20] 24 (0, 0)) := by rw [hW0, hBd]; exact World.alloc_heap_new ws_ _
      have hgbd : gb < Bd := by rw [hBd]; exact (Array.getElem?_eq_some_iff.1 BKgb.out).1
      have hgcd : gc < Bd := by rw [hBd]; exact (Array.getElem?_eq_some_iff.1 BKgc.out).1
      have hBd0 : Bd < W0.heap.size := (Array.getElem?_eq_some_iff.1 hd0).1
      have hwd : w.heap.size ≤ Bd := by rw [hBd]; exact HB.out.size
      have HB0 := Aside0.mk (below_step HB.out hb0)
      have KB := Aside0.mk (blk_below BKgb.out hb0)
      have KC := Aside0.mk (blk_below BKgc.out hb0)
      have KD := Aside0.mk hd0
      have HB0s := Aside0.mk HB0.out.size
      rw [← hW0, ← hBd]
      have GB := Aside0.mk hgbd
      have GC := Aside0.mk hgcd
      have GD := Aside0.mk hBd0
      have GW := Aside0.mk hwd
      clear hW0 hb0 hd0 hgbd hgcd hBd0 hwd hBd BKgb BKgc BKga HB hxga hyga hxgb hygb hxgc hygc
      go_wp2
      refine (wpIn_wide (n := 8)).1 ?_
      refine wpIn_rangeFunc_ownH rfl (by decide) (gf := 21) (lb := #[.pointer (some ⟨Bd, 0, none⟩)]) rfl trivial (enters_of Try.func21 (by kernel_rfl) rfl)
        (shape_down_1.stops a0_0 a0_1 a0_2 a0_3 A0_4 c0_4 l0_4 a0_5 a0_6 a0_7 a0_8 a0_9 a0_10 a0_11 a0_12 a0_13 a0_14 a0_15 a0_16 a0_17 a0_18 a0_19 a0_20 g _ Bd w W0 HB0.out KD.out HR.out HC.out HG.out) kpB_t (kpB_b HB0.out.size GD.out) (Below.refl _ _) (fun _ => rfl)
        (fun pre W => ((W.heap[gb]? = some (.cells #[.int .i64 (((pre.map (·.1)).getLast?).getD 200)] 3 (0, 0)) ∧ W.heap[gc]? = some (.cells #[.int .i64 (g 200).1, .int .i64 (g 200).2] 27 (0, 0)) ∧ W.heap[Bd]? = some (.cells #[.int .i64 a0_0, .int .i64 a0_1, .int .i64 a0_2, .int .i64 a0_3, .slice A0_4 l0_4.length c0_4, .int .i64 a0_5, .int .i64 a0_6, .int .i64 a0_7, .int .i64 a0_8, .int .i64 a0_9, .int .i64 a0_10, .int .i64 a0_11, .int .i64 a0_12, .int .i64 a0_13, .int .i64 a0_14, .int .i64 a0_15, .int .i64 a0_16, .int .i64 a0_17, .int .i64 a0_18, .int .i64 a0_19, .int .i64 a0_20] 24 (0, 0))) ∧ Below w.heap.size w W) ∧ ∀ x ∈ pre, x.2 = g 200)
        (fun c pre W => (∃ pre' x, pre = pre' ++ [x] ∧ c = .goto 0 ∧ (∀ y ∈ pre', y.2 = g 200) ∧ x.2 ≠ g 200 ∧ W.heap[gb]? = some (.cells #[.int .i64 (((pre'.map (·.1)).getLast?).getD 200)] 3 (0, 0))) ∧ Below w.heap.size w W)
        (OwnFrom.and (OwnFrom.and (OwnFrom.and (Own.from (row_own gb _ (fun pre : List (Int × Int × Int) => #[.int .i64 (((pre.map (·.1)).getLast?).getD 200)])) _) (OwnFrom.and (Own.from (row_own gc _ (fun _ => #[.int .i64 (g 200).1, .int .i64 (g 200).2])) _) (Own.from (row_own Bd _ (fun _ => #[.int .i64 a0_0, .int .i64 a0_1, .int .i64 a0_2, .int .i64 a0_3, .slice A0_4 l0_4.length c0_4, .int .i64 a0_5, .int .i64 a0_6, .int .i64 a0_7, .int .i64 a0_8, .int .i64 a0_9, .int .i64 a0_10, .int .i64 a0_11, .int .i64 a0_12, .int .i64 a0_13, .int .i64 a0_14, .int .i64 a0_15, .int .i64 a0_16, .int .i64 a0_17, .int .i64 a0_18, .int .i64 a0_19, .int .i64 a0_20])) _))) (ownFrom_below (Nat.le_refl _) HB0.out.size)) (ownFrom_pure _ _))
        (fun c => OwnFrom.and (fun s X Y row hs hg hr => by obtain ⟨pre', x, h1, h2, h3, h4, h5⟩ := hs; exact ⟨pre', x, h1, h2, h3, h4, Own.from (row_own gb _ (fun _ : Unit => #[.int .i64 (((pre'.map (·.1)).getLast?).getD 200)])) _ () X Y row h5 hg hr⟩) (ownFrom_below (Nat.le_refl _) HB0.out.size))
        ⟨⟨⟨KB.out, KC.out, KD.out⟩, HB0.out⟩, fun x hx => by cases hx⟩
        (fun x a' W => ∃ Bx, Bd < Bx ∧ W.heap[Bx]? = some (.cells #[.int .i64 x.2.1, .int .i64 x.2.2] 27 (0, 0)) ∧ a' = { tmps := #[.agg #[.int .i64 a0_0, .int .i64 a0_1, .int .i64 a0_2, .int .i64 a0_3, .slice A0_4 l0_4.length c0_4, .int .i64 a0_5, .int .i64 a0_6, .int .i64 a0_7, .int .i64 a0_8, .int .i64 a0_9, .int .i64 a0_10, .int .i64 a0_11, .int .i64 a0_12, .int .i64 a0_13, .int .i64 a0_14, .int .i64 a0_15, .int .i64 a0_16, .int .i64 a0_17, .int .i64 a0_18, .int .i64 a0_19, .int .i64 a0_20], .pointer (some ⟨ga, 0, none⟩), .int .i64 0, .pointer (some ⟨gb, 0, none⟩), .pointer (some ⟨gc, 0, none⟩), .int .i64 x.1, .pointer (some ⟨Bx, 0, none⟩), .agg #[.int .i64 a0_0, .int .i64 a0_1, .int .i64 a0_2, .int .i64 a0_3, .slice A0_4 l0_4.length c0_4, .int .i64 a0_5, .int .i64 a0_6, .int .i64 a0_7, .int .i64 a0_8, .int .i64 a0_9, .int .i64 a0_10, .int .i64 a0_11, .int .i64 a0_12, .int .i64 a0_13, .int .i64 a0_14, .int .i64 a0_15, .int .i64 a0_16, .int .i64 a0_17, .int .i64 a0_18, .int .i64 a0_19, .int .i64 a0_20], .bool true, .bool false, .agg #[.int .i64 a0_0, .int .i64 a0_1, .int .i64 a0_2, .int .i64 a0_3, .slice A0_4 l0_4.length c0_4, .int .i64 a0_5, .int .i64 a0_6, .int .i64 a0_7, .int .i64 a0_8, .int .i64 a0_9, .int .i64 a0_10, .int .i64 a0_11, .int .i64 a0_12, .int .i64 a0_13, .int .i64 a0_14, .int .i64 a0_15, .int .i64 a0_16, .int .i64 a0_17, .int .i64 a0_18, .int .i64 a0_19, .int .i64 a0_20], .agg #[.int .i64 (g 200).1, .int .i64 (g 200).2], .agg #[.int .i64 a0_0, .int .i64 a0_1, .int .i64 a0_2, .int .i64 a0_3, .slice A0_4 l0_4.length c0_4, .int .i64 a0_5, .int .i64 a0_6, .int .i64 a0_7, .int .i64 a0_8, .int .i64 a0_9, .int .i64 a0_10, .int .i64 a0_11, .int .i64 a0_12, .int .i64 a0_13, .int .i64 a0_14, .int .i64 a0_15, .int .i64 a0_16, .int .i64 a0_17, .int .i64 a0_18, .int .i64 a0_19, .int .i64 a0_20], .func (.func 21) #[] #[.pointer (some ⟨Bd, 0, none⟩)], .int .i64 x.1, .agg #[.int .i64 x.2.1, .int .i64 x.2.2], undef, undef, undef, undef, undef], defers := [] })
        (fun x a' s X Y row hs hg hr => by obtain ⟨Bx, h1, h2, h3⟩ := hs; exact ⟨Bx, h1, Own.from (row_own Bx _ (fun _ : Unit => #[.int .i64 x.2.1, .int .i64 x.2.2])) _ () X Y row h2 hg hr, h3⟩)
        ?assign ?body ?done ?stop
      case assign =>
        rintro l pre x W K ⟨⟨⟨hb1, hc1, hd1⟩, hB1⟩, hpre⟩ hK
        dsimp only [shape_down_1.encs]
        gi_wp2
        have hlt := (Array.getElem?_eq_some_iff.1 hd1).1
        refine hK _ _ ((KeepsOthers.alloc _ _).from _) ⟨(Below.refl _ W).alloc hB1.size _, Below.heap_alloc W _ Bd hlt⟩ ⟨⟨⟨?_, ?_, ?_⟩, hB1.alloc hB1.size _⟩, hpre⟩ ⟨W.heap.size, hlt, World.alloc_heap_new W _, rfl⟩
        · exact (Below.heap_alloc W _ gb (Array.getElem?_eq_some_iff.1 hb1).1).trans hb1
        · exact (Below.heap_alloc W _ gc (Array.getElem?_eq_some_iff.1 hc1).1).trans hc1
        · exact (Below.heap_alloc W _ Bd hlt).trans hd1
      case body =>
        rintro l pre x a' W hl ⟨r, hr⟩ ⟨⟨⟨hb1, hc1, hd1⟩, hB1⟩, hpre⟩ ⟨Bx, hBx, bX, rfl⟩ hlt
        have HL := Aside0.mk hlt
        have HP := Aside0.mk hpre
        have HB1 := Aside0.mk hB1
        have X1 := Aside0.mk hb1
        have X2 := Aside0.mk hd1
        have X3 := Aside0.mk hc1
        have cb := blk_cell hb1
        have fb := blk_frozen hb1
        have cc := blk_cell hc1
        have cx := blk_cell bX
        clear hlt hpre hB1 hb1 hc1 hd1 bX hr KB KC KD HB0 HG h
        obtain ⟨x0, x1, x2⟩ := x
        by_cases e1 : x1 = (g 200).1
        · by_cases e2 : x2 = (g 200).2
          · subst e1 e2
            gi_wp2
            show KeepsFrom _ _ _ ∧ KpB _ _ _ _ ∧ _
            refine ⟨(KeepsOthers.setCell _ _ _).from _, ⟨(Below.refl _ W).setCell (p := ⟨gb, 0, none⟩) GEgb.out _, Below.heap_setCell W ⟨gb, 0, none⟩ _ Bd (Nat.ne_of_gt GB.out)⟩, ⟨⟨?_, ?_, ?_⟩, ?_⟩, ?_⟩
            · have := blk_put (cs' := #[.int .i64 x0]) X1.out 0 (.int .i64 x0) rfl
              simpa using this
            · exact (Below.heap_setCell W ⟨gb, 0, none⟩ _ gc NBgc_gb.out).trans X3.out
            · exact (Below.heap_setCell W ⟨gb, 0, none⟩ _ Bd (Nat.ne_of_gt GB.out)).trans X2.out
            · exact HB1.out.setCell (p := ⟨gb, 0, none⟩) GEgb.out _
            · intro a b c hm
              rcases List.mem_append.1 hm with hm | hm
              · exact HP.out _ hm
              · simp only [List.mem_singleton, Prod.mk.injEq] at hm
                rw [hm.2.1, hm.2.2]
          · have e3 : (x2 == (g 200).2) = false := by simpa using e2
            have HN := Aside0.mk (show ¬ ((x1, x2) = g 200) from fun e => e2 (by rw [← e]))
            subst e1
            gi_wp2
            refine wpIn_goto ?_
            show KeepsFrom _ _ _ ∧ _
            refine ⟨KeepsFrom.refl _ _, ⟨pre, (x0, _, _), rfl, rfl, HP.out, HN.out, X1.out⟩, HB1.out⟩
        · have e3 : (x1 == (g 200).1) = false := by simpa using e1
          have HN := Aside0.mk (show ¬ ((x1, x2) = g 200) from fun e => e1 (by rw [← e]))
          gi_wp2
          refine wpIn_goto ?_
          show KeepsFrom _ _ _ ∧ _
          refine ⟨KeepsFrom.refl _ _, ⟨pre, (x0, _, _), rfl, rfl, HP.out, HN.out, X1.out⟩, HB1.out⟩
      case done =>
        rintro D xs W hD rfl ⟨⟨⟨hb1, hc1, hd1⟩, hB1⟩, hpre⟩ hK
        have cb := blk_cell hb1
        have HK := Aside0.mk hK
        have HB1 := Aside0.mk hB1
        have HP := Aside0.mk hpre
        have HE := Aside0.mk hD
        clear hK hb1 hc1 hd1 hB1 hpre hD KB KC KD HB0 HG h
        have HV := Aside0.mk (show (((shape_down_1.all g).map (·.1)).getLast?).getD 200 = shape_From.scan (g 200) (shape_down_1.all g) 200 from by
          have := shape_From.scan_app (g 200) (shape_down_1.all g) [] 200 HP.out
          rw [List.append_nil] at this
          rw [this]
          rfl)
        rw [HV.out] at cb
        gi_wp2
        go_wp2
        go_step3
        go_wp2
        simp only [Exit.jump]
        refine ⟨by simp, .inl ⟨_, _, rfl, run_takeDeferred HK.out, ?_⟩⟩
        exact ⟨_, results_tmp rfl _ _ _, rfl, HB1.out.trans (belowK_b (w := w) (Nat.le_refl _) W D _ _ (Nat.le_trans HB0s.out HE.out) HK.out rfl rfl)⟩
      case stop =>
        rintro D c pre W hD hpre ⟨⟨pre', x, rfl, rfl, h3, h4, h5⟩, hB1⟩ hK
        obtain ⟨rest, hrest⟩ := hpre
        have e : shape_From.scan (g 200) (shape_down_1.all g) 200 = ((pre'.map (·.1)).getLast?).getD 200 := by
          rw [← hrest, List.append_assoc, shape_From.scan_app (g 200) pre' _ 200 h3, List.singleton_append, shape_From.scan, if_neg h4]
        refine wpIn_goto ?_
        show _ ∧ _
        rw [e]
        exact ⟨rfl, D, gb, _, _, _, _, _, _, _, _, _, _, _, _, _, _, _, _, _, _, _, _, rfl, h5, hK, ⟨hB1⟩, Nat.le_trans HB0s.out hD⟩
    case pass =>
      rintro a' w' ⟨D, gbx, v0, v1, v2, v4, v5, v6, v7, v8, v9, v10, v11, v12, v13, v14, v15, v16, v17, v18, v19, v20, rfl, h1, h2, h3, h4⟩
      have hx := blk_cell h1
      have HD := Aside0.mk h2
      have HE := Aside0.mk h4
      clear h1 h2 h4 L1 L2 HG h GEga BKga hxga hyga HB
      go_wp2
      simp only [Exit.jump]
      refine ⟨by simp, .inl ⟨_, _, rfl, run_takeDeferred HD.out, ?_⟩⟩
      exact ⟨_, results_tmp rfl _ _ _, rfl, h3.out.trans (belowK_b (w := w) (Nat.le_refl _) w' D _ _ HE.out HD.out rfl rfl)⟩


end Go.Proofs.Ytogkaifcelooaaa.G
