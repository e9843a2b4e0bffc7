/- Contracts of the functions of this seat: what each call computes, as a plain Lean function. Made by this session's own generator. -/
import Derived.Test.YtanhafkoohnjhaaGx0
import Derived.Test.YtanhafkoohnjhaaGx1
namespace Go.Proofs.Ytanhafkoohnjhaa.G
open Go.RowKit Go.Proofs.YtanhafkoohnjhaaMy Go.Proofs.YtanhafkoohnjhaaW.PrintWords Go.Proofs.YtanhafkoohnjhaaW.PrintLast Go.Proofs.YtanhafkoohnjhaaW.PrintMore
attribute [local go_sem] max2_int min2_int max_two min_two max_three min_three max_four min_four   -- for this text's walks alone
set_option linter.unusedVariables false
set_option linter.unusedSimpArgs false

/-! ### slices_IndexFunc_byte_byte: function 29 -/
-- by hand
set_option maxHeartbeats 4000000 in
theorem slices_IndexFunc_byte_byte.calls {g : Nat} {lb : Array Value} (eg : ∀ args w, (callFunc g args).run Try.prog w = .ok (.enter g args) w) (p : Int → Bool) (A0 : Option Addr) (c0 : Nat) (l0 : List Int) (w : World) (hr0 : Kd.C (Kd.int .u8) w A0 l0.length l0) (hp : PredK Try.prog g lb one1 (Kd.int .u8) p w l0) :
  Calls Try.prog 29 #[.slice A0 l0.length c0, .func (.func g) #[] lb] w fun e w' => e = .returned (.int .i64 (idxOf p l0)) ∧ Below w.heap.size w w' := by
 have hm := hr0.2.1
 have HR := Aside0.mk hr0
 have HP := Aside0.mk hp
 clear hr0 hp
 go_enter Try.func29, Try.ntmps29
 go_wp2
 go_loopg [5, 8] l0.length (fun gg _ s8 wr => ∃ kk : Nat, kk ≤ l0.length ∧ l0.length - kk ≤ gg ∧ s8 = .int .i64 kk ∧ Aside0 (Below w.heap.size w wr) ∧ Aside0 (∀ x ∈ l0.take kk, p x = false))
 case atStart => exact ⟨0, Nat.zero_le _, by omega, rfl, ⟨Below.refl _ w⟩, ⟨fun x hx => by simp at hx⟩⟩
 case round =>
  obtain ⟨kk, hkk, hg, rfl, HB, HN⟩ := hrel
  by_cases hlt : kk < l0.length
  ·have hltz : (kk : Int) < (l0.length : Int) := by omega
   obtain ⟨ad, c, rfl, hcl, hK, hc⟩ := C_elem (Kd.C_below HR.out HB.out) kk hlt
   have HC := Aside0.mk (HP.out l0[kk] (List.getElem_mem hlt) wr c HB.out hK)
   obtain rfl : c = [.int .u8 l0[kk]] := hK
   have hcell : wr.cell? (ad.add kk) = some (.int .u8 l0[kk]) := by simpa [Kd.int, Kd.scalar] using hc 0 _ rfl
   clear hc hcl
   have HX := Aside0.mk (show ∀ x ∈ l0.take kk, p x = false from HN.out)
   clear HN
   cases hq : p l0[kk] with
   | true =>
    have HQ := Aside0.mk hq
    rw [hq] at HC
    clear hq
    go_wp2_with (go_at_fn g; refine HC.out.mono ?_; rintro e w' ⟨rfl, hb'⟩)
    go_ret
    refine ⟨?_, below_step HB.out hb'⟩
    rw [idxOf_hit hlt HX.out HQ.out]
    rfl
   | false =>
    have HQ := Aside0.mk hq
    rw [hq] at HC
    clear hq
    go_wp2_with (go_at_fn g; refine HC.out.mono ?_; rintro e w' ⟨rfl, hb'⟩)
    go_roundg (l0.length - (kk + 1))
    case measure => omega
    case rel =>
     refine ⟨kk + 1, by omega, by omega, by go_num, ⟨below_step HB.out hb'⟩, ⟨fun x hx => ?_⟩⟩
     rw [List.take_succ_eq_append_getElem hlt] at hx
     rcases List.mem_append.1 hx with hx | hx
     ·exact HX.out x hx
     ·rw [List.mem_singleton.1 hx]; exact HQ.out
  ·have HX := Aside0.mk (show ∀ x ∈ l0, p x = false from fun x hx => HN.out x (by rw [List.take_of_length_le (by omega)]; exact hx))
   have hge : decide ((kk : Int) < (l0.length : Int)) = false := decide_eq_false (by omega)
   have hge' : decide (kk < l0.length) = false := decide_eq_false hlt
   clear HN
   go_wp2
   go_ret
   exact ⟨by rw [idxOf_none HX.out]; rfl, HB.out⟩


/-! ### text_words_2: function 28 -/
-- by hand
/-- Is a byte a gap? -/
def text_words_2.gap (b : Int) : Bool := text_words_1.f b == some true
/-- How many bytes stand ahead of the first gap. -/
def text_words_2.cut (l : List Int) : Nat := match l.findIdx? text_words_2.gap with | some i => i | none => l.length
def text_words_2.split : Nat → List Int → List (List Int)
 | 0, _ => []
 | k + 1, l => if l.length = 0 then [] else (if 0 < text_words_2.cut l then [l.take (text_words_2.cut l)] else []) ++ text_words_2.split k (l.drop (min (text_words_2.cut l + 1) l.length))
/-- The words of a text. -/
def text_words_2.all (l : List Int) : List (List Int) := text_words_2.split l.length l
theorem text_words_2.cut_le (l : List Int) : text_words_2.cut l ≤ l.length := by
 unfold text_words_2.cut
 split
 ·rename_i i h
  obtain ⟨hi, _⟩ := List.findIdx?_eq_some_iff_getElem.1 h
  omega
 ·exact Nat.le_refl _
theorem text_words_2.cut_idx (l : List Int) : (idxOf text_words_2.gap l = -1 ∧ text_words_2.cut l = l.length) ∨ (idxOf text_words_2.gap l = (text_words_2.cut l : Int) ∧ text_words_2.cut l < l.length) := by
 unfold idxOf text_words_2.cut
 cases h : l.findIdx? text_words_2.gap with
 | none => exact .inl ⟨rfl, rfl⟩
 | some i =>
  obtain ⟨hi, _⟩ := List.findIdx?_eq_some_iff_getElem.1 h
  exact .inr ⟨rfl, hi⟩
theorem text_words_2.split_more : ∀ (k : Nat) (l : List Int), l.length ≤ k → text_words_2.split (k + 1) l = text_words_2.split k l := by
 intro k
 induction k with
 | zero =>
  intro l h
  have : l.length = 0 := by omega
  simp [text_words_2.split, this]
 | succ k ih =>
  intro l h
  rw [text_words_2.split]
  conv => rhs; rw [text_words_2.split]
  by_cases h0 : l.length = 0
  ·simp [h0]
  ·rw [if_neg h0, if_neg h0, ih _ (by rw [List.length_drop]; omega)]
theorem text_words_2.split_any (k : Nat) (l : List Int) (h : l.length ≤ k) : text_words_2.split k l = text_words_2.all l := by
 obtain ⟨d, rfl⟩ : ∃ d, k = l.length + d := ⟨k - l.length, by omega⟩
 clear h
 induction d with
 | zero => rfl
 | succ d ih => rw [← Nat.add_assoc, text_words_2.split_more _ _ (by omega)]; exact ih
theorem text_words_2.all_step (l : List Int) (h : l.length ≠ 0) : text_words_2.all l = (if 0 < text_words_2.cut l then [l.take (text_words_2.cut l)] else []) ++ text_words_2.all (l.drop (min (text_words_2.cut l + 1) l.length)) := by
 obtain ⟨k, hk⟩ : ∃ k, l.length = k + 1 := ⟨l.length - 1, by omega⟩
 unfold text_words_2.all
 rw [hk, text_words_2.split, if_neg h, text_words_2.split_any k _ (by rw [List.length_drop]; omega), hk]
 rfl
theorem text_words_2.all_nil (l : List Int) (h : l.length = 0) : text_words_2.all l = [] := by
 unfold text_words_2.all
 rw [h]
 rfl
/-- A word as it comes: a slice of the text's own bytes. -/
structure text_words_2.Piece (w : World) where
 A : Option Addr
 c : Nat
 xs : List Int
 hC : Kd.C (Kd.int .u8) w A xs.length xs
 hc : xs.length ≤ c
 hl : xs.length < 1000000000000
def text_words_2.encs {w : World} (p : text_words_2.Piece w) : Array Value := #[.slice p.A p.xs.length p.c]
/-- What a round is to keep: what lay ahead of the call, and both captured cells. -/
def text_words_2.Kp (n B G : Nat) (W W' : World) : Prop := Below n W W' ∧ W'.heap[B]? = W.heap[B]? ∧ W'.heap[G]? = W.heap[G]?
def text_words_2.left (B : Nat) (W : World) : Nat := match W.heap[B]? with | some (.cells #[.slice _ n _] _ _) => n | _ => 0
theorem text_words_2.left_of {B n c : Nat} {A : Option Addr} {W : World} {t : TypeId} {fr : Nat × Nat} (h : W.heap[B]? = some (.cells #[.slice A n c] t fr)) : text_words_2.left B W = n := by
 unfold text_words_2.left
 rw [h]
 rfl
theorem text_words_2.pred (w : World) (l : List Int) : PredK Try.prog 27 #[] one1 (Kd.int .u8) text_words_2.gap w l := by
 intro x _ W cs _ hK
 obtain rfl : cs = [.int .u8 x] := hK
 have hs : ∃ b, text_words_1.f x = some b := by
  unfold text_words_1.f
  repeat' split
  all_goals exact ⟨_, rfl⟩
 obtain ⟨b, hb⟩ := hs
 have hbb : text_words_2.gap x = b := by unfold text_words_2.gap; rw [hb]; cases b <;> rfl
 exact (text_words_1.calls x b W hb).mono (fun e w' ⟨he, hw⟩ => ⟨by rw [he, ← hbb], by first | exact hw.below | exact hw⟩)
set_option maxHeartbeats 4000000 in
set_option maxRecDepth 100000 in
theorem text_words_2.stops (A0 : Option Addr) (c0 : Nat) (l0 : List Int) (n B G : Nat) (w W0 : World) (hr0 : Kd.C (Kd.int .u8) w A0 l0.length l0) (hc0 : l0.length ≤ c0) (hl0 : l0.length < 1000000000000)
  (hW0 : Below w.heap.size w W0) (hBG : B ≠ G) (hT : W0.heap[B]? = some (.cells #[.slice A0 l0.length c0] 22 (0, 0))) (hG : W0.heap[G]? = some (.cells #[.func (.func 27) #[] #[]] 46 (0, 0))) (hB : w.heap.size ≤ B) :
  SeqStopsB Fence.wide n Try.prog 28 #[.pointer (some ⟨B, 0, none⟩), .pointer (some ⟨G, 0, none⟩)] (text_words_2.encs (w := w)) (text_words_2.Kp w.heap.size B G) (fun ys => ys.map (·.xs) = text_words_2.all l0) (fun pre => pre.map (·.xs) <+: text_words_2.all l0) l0.length W0 B := by
 intro l J Jx W hW hJ hJB hJxB hY h0
 have HT := Aside0.mk ((hW.block B (Array.getElem?_eq_some_iff.1 hT).1).trans hT)
 have HG := Aside0.mk ((hW.block G (Array.getElem?_eq_some_iff.1 hG).1).trans hG)
 have HW := Aside0.mk (hW0.trans (hW.mono hW0.size))
 have HR := Aside0.mk hr0
 have HE := Aside0.mk hc0
 have HY := Aside0.mk hY
 have HJ := Aside0.mk hJ
 have HJB := Aside0.mk hJB
 have HN := Aside0.mk hBG
 have HLB := Aside0.mk hB
 clear hr0 hT hG hW hW0 hc0 hY hJ hJB hJxB hBG hB
 refine callsIn_of_wp Try.func28 rfl trivial ?_ rfl
 simp only [Try.ntmps28, List.size_toArray, List.length_cons, List.length_nil, Nat.reduceAdd, Nat.reduceSub, Array.replicate_succ, Array.replicate_zero, List.push_toArray, List.append_toArray, List.nil_append, List.cons_append]
 gi_wp2
 gi_loopw [4] (fun _ wr => ∃ (pre : List (text_words_2.Piece w)) (rest : List Int) (A : Option Addr) (c : Nat), J pre wr ∧ Aside0 (Below w.heap.size w wr) ∧ Aside0 (wr.heap[B]? = some (.cells #[.slice A rest.length c] 22 (0, 0))) ∧ Aside0 (wr.heap[G]? = some (.cells #[.func (.func 27) #[] #[]] 46 (0, 0))) ∧ Aside0 (Kd.C (Kd.int .u8) w A rest.length rest) ∧ rest.length ≤ c ∧ pre.length + rest.length ≤ l0.length ∧ Aside0 (text_words_2.all l0 = pre.map (·.xs) ++ text_words_2.all rest)) (fun _ wr => text_words_2.left B wr)
 case atStart => exact ⟨[], l0, A0, c0, h0, HW, HT, HG, HR, HE.out, by simp, ⟨rfl⟩⟩
 case round =>
  obtain ⟨pre, rest, A, c, hJs, HB, HK, HL, HC, hc, hlen, HX⟩ := hrel
  have hx := blk_cell HK.out 0
  have hf := blk_frozen HK.out 0
  have hxg := blk_cell HL.out 0
  by_cases hpos : 0 < rest.length
  ·have hcl := text_words_2.cut_le rest
   have HS := Aside0.mk (text_words_2.all_step rest (by omega))
   have hposz : decide (0 < (rest.length : Int)) = true := decide_eq_true (by omega)
   have hCI := Aside0.mk (slices_IndexFunc_byte_byte.calls (enters_of Try.func27 (by kernel_rfl) rfl) text_words_2.gap A c rest wr (Kd.C_below HC.out HB.out) (text_words_2.pred wr rest))
   -- what stands ahead of the gap, and what behind it
   obtain ⟨m, hm⟩ : ∃ m, m = text_words_2.cut rest := ⟨_, rfl⟩
   have hid := text_words_2.cut_idx rest
   rw [← hm] at hcl hid HS
   obtain ⟨y, hy⟩ : ∃ y, y = rest.take m := ⟨_, rfl⟩
   obtain ⟨q, hq⟩ : ∃ q : Nat, q = min (m + 1) rest.length := ⟨_, rfl⟩
   obtain ⟨z, hz⟩ : ∃ z, z = rest.drop q := ⟨_, rfl⟩
   obtain ⟨i0, hi0, _, hsz0, _⟩ := info_parts info5
   obtain ⟨T1, T2, T3⟩ := print_take_of (P := Try.prog) (Value.int .u8) 0 22 5 .i64 Try.underlying22 hi0 hsz0 A c rest (m : Int) (by omega) (by omega) hc
   obtain ⟨A2, D1, D2, D3⟩ := print_drop_of (P := Try.prog) (Value.int .u8) 0 22 5 .i64 Try.underlying22 hi0 hsz0 A c rest (q : Int) (by omega) (by omega) hc
   simp only [Int.toNat_natCast] at T1 T2 T3 D1 D2 D3
   rw [← hy] at T1 T2 T3
   rw [← hz] at D1 D2 D3
   have hyl : y.length = m := by rw [hy, List.length_take]; omega
   have hzl : z.length = rest.length - q := by rw [hz, List.length_drop]
   have hql : 1 ≤ q ∧ q ≤ rest.length := by omega
   have HCy := Aside0.mk (show Kd.C (Kd.int .u8) w A y.length y from Kd.C_of_reads (h1 := fun _ => rfl) (T2 _ (Kd.reads_of_C HC.out)))
   have HCz := Aside0.mk (show Kd.C (Kd.int .u8) w A2 z.length z from Kd.C_of_reads (h1 := fun _ => rfl) (D2 _ (Kd.reads_of_C HC.out)))
   have HT3 := Aside0.mk T3
   have HD3 := Aside0.mk D3
   have HXs := Aside0.mk (show text_words_2.all l0 = pre.map (·.xs) ++ ((if 0 < m then [y] else []) ++ text_words_2.all z) from by rw [HX.out, HS.out, ← hq, ← hy, ← hz])
   have HZ := Aside0.mk (show z.length < rest.length ∧ pre.length + 1 + z.length ≤ l0.length ∧ pre.length < l0.length from by omega)
   have HYL := Aside0.mk hyl
   have HYB := Aside0.mk (show y.length < 1000000000000 from by omega)
   have HJ1 := Aside0.mk (fun (W1 : World) (hb : Below wr.heap.size wr W1) => abides_below HJ.out hJs hb)
   have hw1 : wrap64 ((m : Int) + 1) = (m : Int) + 1 := by unfold wrap64; omega
   have hmq : (if (rest.length : Int) < (m : Int) + 1 then (rest.length : Int) else (m : Int) + 1) = (q : Int) := by clear hw1; split <;> omega
   clear hmq
   have HQ := Aside0.mk hw1
   clear hw1
   have HZL := Aside0.mk (And.intro hq hql)
   clear hi0 hsz0 hyl hzl hcl hlen
   rcases hid with ⟨hid, hm2⟩ | ⟨hid, hm2⟩
   ·subst hm2
    obtain rfl : q = rest.length := by omega
    have HCI0 := hCI.out
    rw [hid] at HCI0
    have HCI := Aside0.mk HCI0
    have HM0 := Aside0.mk hpos
    have hnl : (rest.length : Int) < (rest.length : Int) + 1 := by omega
    clear HCI0 hCI hid hm HS hq hql hy hz hJs
    have hw1 : wrap64 ((rest.length : Int) + 1) = (rest.length : Int) + 1 := HQ.out
    gi_wp2_with (first | (refine ⟨open_wide.fn _, open_wide.deep, ?_⟩; gi_at_call 29; (with_reducible refine (callsIn_open open_wide HCI.out).mono ?_); rintro e w1 ⟨rfl, hb⟩; have HK1 := Aside0.mk (blk_below HK.out hb); have HL1 := Aside0.mk (blk_below HL.out hb); have hx1 := blk_cell HK1.out 0; have hf1 := blk_frozen HK1.out 0; have HB1 := Aside0.mk (below_step HB.out hb); obtain ⟨fn, tmps, assign, body, hy_, hR⟩ := HY.out pre ⟨A, c, y, HCy.out, HT3.out, HYB.out⟩ w1 (HJ1.out w1 hb) HZ.out.2.2; dsimp only [text_words_2.encs] at hy_; clear hx hf hxg))
    refine ⟨open_wide.deep, hR.mono ?_⟩
    rintro e W3 (⟨rfl, hJ3, hk3⟩ | ⟨rfl, hJx3⟩)
    ·have HK3 := Aside0.mk (hk3.2.1.trans HK1.out)
     have HL3 := Aside0.mk (hk3.2.2.trans HL1.out)
     have HB3 := Aside0.mk (HB1.out.trans hk3.1)
     have hx3 := blk_cell HK3.out 0
     have hf3 := blk_frozen HK3.out 0
     clear hk3 hx1 hf1 hR hy_
     gi_wp2
     go_roundw
     case rel =>
      clear hw1
      refine ⟨pre ++ [⟨A, c, y, HCy.out, HT3.out, HYB.out⟩], z, A2, c - rest.length, HJB.out _ _ _ hJ3 (grownBy_setCell' W3 B _), ⟨HB3.out.setCell (p := ⟨B, 0, none⟩) HLB.out _⟩, ⟨?_⟩, ⟨(Below.heap_setCell W3 ⟨B, 0, none⟩ _ G HN.out.symm).trans HL3.out⟩, HCz, HD3.out, ?_, ⟨?_⟩⟩
      ·have := blk_put (cs' := #[.slice A2 z.length (c - rest.length)]) HK3.out 0 (.slice A2 z.length (c - rest.length)) rfl
       simpa using this
      ·have := HZ.out.2.1; simp; omega
      ·rw [HXs.out, if_pos HM0.out]; simp
     case measure =>
      have hm3 := blk_put (cs' := #[.slice A2 z.length (c - rest.length)]) HK3.out 0 (.slice A2 z.length (c - rest.length)) rfl
      rw [text_words_2.left_of HK.out]
      have hm4 : (W3.setCell ⟨B, 0, none⟩ (.slice A2 z.length (c - rest.length))).heap[B]? = some (.cells #[.slice A2 z.length (c - rest.length)] 22 (0, 0)) := by simpa using hm3
      rw [text_words_2.left_of hm4]
      exact HZ.out.1
    ·gi_wp2
     refine bodyPost_ret (results_none rfl _ _ _) rfl ?_
     exact ⟨⟨_, rfl⟩, .inr ⟨pre ++ [⟨A, c, y, HCy.out, HT3.out, HYB.out⟩], ⟨text_words_2.all z, by rw [HXs.out, if_pos HM0.out]; simp⟩, hJx3⟩⟩
   ·obtain rfl : q = m + 1 := by omega
    have HCI0 := hCI.out
    rw [hid] at HCI0
    have HCI := Aside0.mk HCI0
    have hneg : decide ((m : Int) < 0) = false := decide_eq_false (by omega)
    have hnl : ¬ ((rest.length : Int) < (m : Int) + 1) := by omega
    have hnl2 : ¬ ((rest.length : Int) ≤ (m : Int)) := by omega
    have hnl3 : ¬ (rest.length ≤ m) := by omega
    have hcast : ((m + 1 : Nat) : Int) = (m : Int) + 1 := by omega
    simp only [hcast] at D1
    have HNL := Aside0.mk hm2
    by_cases h0 : 0 < m
    ·have HM0 := Aside0.mk h0
     have h0z : decide (0 < (m : Int)) = true := decide_eq_true (by omega)
     clear HCI0 hCI hid hm HS hq hql hy hz hJs hcast hm2
     have hw1 : wrap64 ((m : Int) + 1) = (m : Int) + 1 := HQ.out
     gi_wp2_with (first | (refine ⟨open_wide.fn _, open_wide.deep, ?_⟩; gi_at_call 29; (with_reducible refine (callsIn_open open_wide HCI.out).mono ?_); rintro e w1 ⟨rfl, hb⟩; have HK1 := Aside0.mk (blk_below HK.out hb); have HL1 := Aside0.mk (blk_below HL.out hb); have hx1 := blk_cell HK1.out 0; have hf1 := blk_frozen HK1.out 0; have HB1 := Aside0.mk (below_step HB.out hb); obtain ⟨fn, tmps, assign, body, hy_, hR⟩ := HY.out pre ⟨A, c, y, HCy.out, HT3.out, HYB.out⟩ w1 (HJ1.out w1 hb) HZ.out.2.2; dsimp only [text_words_2.encs] at hy_; clear hx hf hxg))
     refine ⟨open_wide.deep, hR.mono ?_⟩
     rintro e W3 (⟨rfl, hJ3, hk3⟩ | ⟨rfl, hJx3⟩)
     ·have HK3 := Aside0.mk (hk3.2.1.trans HK1.out)
      have HL3 := Aside0.mk (hk3.2.2.trans HL1.out)
      have HB3 := Aside0.mk (HB1.out.trans hk3.1)
      have hx3 := blk_cell HK3.out 0
      have hf3 := blk_frozen HK3.out 0
      clear hk3 hx1 hf1 hR hy_
      gi_wp2
      go_roundw
      case rel =>
       clear hw1
       refine ⟨pre ++ [⟨A, c, y, HCy.out, HT3.out, HYB.out⟩], z, A2, c - (m + 1), HJB.out _ _ _ hJ3 (grownBy_setCell' W3 B _), ⟨HB3.out.setCell (p := ⟨B, 0, none⟩) HLB.out _⟩, ⟨?_⟩, ⟨(Below.heap_setCell W3 ⟨B, 0, none⟩ _ G HN.out.symm).trans HL3.out⟩, HCz, HD3.out, ?_, ⟨?_⟩⟩
       ·have := blk_put (cs' := #[.slice A2 z.length (c - (m + 1))]) HK3.out 0 (.slice A2 z.length (c - (m + 1))) rfl
        simpa using this
       ·have := HZ.out.2.1; simp; omega
       ·rw [HXs.out, if_pos HM0.out]; simp
      case measure =>
       have hm3 := blk_put (cs' := #[.slice A2 z.length (c - (m + 1))]) HK3.out 0 (.slice A2 z.length (c - (m + 1))) rfl
       rw [text_words_2.left_of HK.out]
       have hm4 : (W3.setCell ⟨B, 0, none⟩ (.slice A2 z.length (c - (m + 1)))).heap[B]? = some (.cells #[.slice A2 z.length (c - (m + 1))] 22 (0, 0)) := by simpa using hm3
       rw [text_words_2.left_of hm4]
       exact HZ.out.1
     ·gi_wp2
      refine bodyPost_ret (results_none rfl _ _ _) rfl ?_
      exact ⟨⟨_, rfl⟩, .inr ⟨pre ++ [⟨A, c, y, HCy.out, HT3.out, HYB.out⟩], ⟨text_words_2.all z, by rw [HXs.out, if_pos HM0.out]; simp⟩, hJx3⟩⟩
    ·obtain rfl : m = 0 := by omega
     have HM0 := Aside0.mk h0
     simp only [Int.natCast_zero, Int.zero_add, Nat.zero_add] at D1
     clear HCI0 hCI hid hm HS hq hql hy hz hcast hm2 hJs
     gi_wp2_with (first | (refine ⟨open_wide.fn _, open_wide.deep, ?_⟩; gi_at_call 29; (with_reducible refine (callsIn_open open_wide HCI.out).mono ?_); rintro e w1 ⟨rfl, hb⟩; have HK1 := Aside0.mk (blk_below HK.out hb); have HL1 := Aside0.mk (blk_below HL.out hb); have hx1 := blk_cell HK1.out 0; have hf1 := blk_frozen HK1.out 0; have HB1 := Aside0.mk (below_step HB.out hb); have hJ3 := HJ1.out w1 hb; obtain ⟨W3, rfl⟩ : ∃ W3, W3 = w1 := ⟨_, rfl⟩; clear hx hf hxg))
     refine ⟨fun _ h => (by cases h), ?_⟩
     have hw1 : wrap64 1 = 1 := by unfold wrap64; omega
     gi_wp2
     go_roundw
     case rel =>
      clear hw1
      refine ⟨pre, z, A2, c - 1, HJB.out _ _ _ hJ3 (grownBy_setCell' W3 B _), ⟨HB1.out.setCell (p := ⟨B, 0, none⟩) HLB.out _⟩, ⟨?_⟩, ⟨(Below.heap_setCell W3 ⟨B, 0, none⟩ _ G HN.out.symm).trans HL1.out⟩, HCz, HD3.out, ?_, ⟨?_⟩⟩
      ·have := blk_put (cs' := #[.slice A2 z.length (c - 1)]) HK1.out 0 (.slice A2 z.length (c - 1)) rfl
       simpa using this
      ·have := HZ.out.2.1; omega
      ·rw [HXs.out, if_neg HM0.out]; simp
     case measure =>
      have hm3 := blk_put (cs' := #[.slice A2 z.length (c - 1)]) HK1.out 0 (.slice A2 z.length (c - 1)) rfl
      rw [text_words_2.left_of HK.out]
      have hm4 : (W3.setCell ⟨B, 0, none⟩ (.slice A2 z.length (c - 1))).heap[B]? = some (.cells #[.slice A2 z.length (c - 1)] 22 (0, 0)) := by simpa using hm3
      rw [text_words_2.left_of hm4]
      exact HZ.out.1
  ·have hl0 : rest.length = 0 := by omega
   have hXe := Aside0.mk (show J pre wr ∧ pre.map (·.xs) = text_words_2.all l0 from ⟨hJs, by rw [HX.out, text_words_2.all_nil rest hl0, List.append_nil]⟩)
   have hl0z : decide (0 < (rest.length : Int)) = false := decide_eq_false (by omega)
   clear hJs
   gi_wp2
   go_end0
   exact ⟨⟨_, rfl⟩, .inl ⟨pre, hXe.out.2, hXe.out.1⟩⟩

/-! ### text_words: function 20 -/
-- by hand
theorem text_words.calls (A0 : Option Addr) (n0 c0 : Nat) (w : World) :
  Calls Try.prog 20 #[.slice A0 n0 c0] w fun e w' => e = .returned (.func (.func 28) #[] #[.pointer (some ⟨w.heap.size, 0, none⟩), .pointer (some ⟨w.heap.size + 1, 0, none⟩)]) ∧ w' = (w.alloc (.cells #[.slice A0 n0 c0] 22)).alloc (.cells #[.func (.func 27) #[] #[]] 46) := by
 go_enter Try.func20, Try.ntmps20
 go_wp2
 go_ret
 exact ⟨rfl, rfl⟩

/-! ### text_reader_take: function 21 -/
-- by hand
/-- A word that is being taken: its codes, its soft hyphens, was half of one taken, was there a bad byte. -/
structure text_reader_take.St where
 codes : List Int
 soft : List Int
 half : Bool
 bad : Bool
def text_reader_take.next (s : text_reader_take.St) (b : Int) : text_reader_take.St :=
 if s.half = true then ⟨s.codes, s.soft ++ [(s.codes.length : Int)], false, s.bad || (b != 173)⟩
 else if b = 194 then ⟨s.codes, s.soft, true, s.bad⟩ else ⟨s.codes ++ [wrap64 b], s.soft, s.half, s.bad⟩
/-- Block g holds it; both rows are made from base on, and are two. -/
def text_reader_take.Holds (W : World) (base g : Nat) (s : text_reader_take.St) : Prop :=
 ∃ v0 v1, W.heap[g]? = some (.cells #[v0, v1, .bool s.half, .bool s.bad] 44 (0, 0)) ∧ base ≤ g ∧ Kd.R (Kd.int .i64) 3 W base (fun k => some k = v0.ownBlock) v0 s.codes ∧ Kd.R (Kd.int .i64) 3 W base (fun k => some k = v1.ownBlock) v1 s.soft ∧ (∀ k, v0.ownBlock = some k → v1.ownBlock ≠ some k)
theorem text_reader_take.holds_of {W W2 : World} {base g : Nat} {s : text_reader_take.St} {v0 v1 : Value} {cs : Array Value} (h0 : W.heap[g]? = some (.cells cs 44 (0, 0))) (hg : W2.heap[g]? = some (.cells #[v0, v1, .bool s.half, .bool s.bad] 44 (0, 0))) (hb : base ≤ g)
  (hr0 : Kd.R (Kd.int .i64) 3 W base (fun k => some k = v0.ownBlock) v0 s.codes) (hr1 : Kd.R (Kd.int .i64) 3 W base (fun k => some k = v1.ownBlock) v1 s.soft) (hne : ∀ k, v0.ownBlock = some k → v1.ownBlock ≠ some k)
  (hk : ∀ k, k ≠ g → k < W.heap.size → W2.heap[k]? = W.heap[k]?) : text_reader_take.Holds W2 base g s := by
 have n0 := Kd.R_ne hr0 h0 (by decide)
 have n1 := Kd.R_ne hr1 h0 (by decide)
 exact ⟨v0, v1, hg, hb, Kd.R_step hr0 (fun k e hl => hk k (fun e2 => n0 (by rw [← e2, e])) hl), Kd.R_step hr1 (fun k e hl => hk k (fun e2 => n1 (by rw [← e2, e])) hl), hne⟩
theorem text_reader_take.turned {w w2 : World} {base g : Nat} {cs : Array Value} {v0 v1 v2 : Value} {xs ys zs : List Int} (hg : w.heap[g]? = some (.cells cs 44 (0, 0))) (hr0 : Kd.R (Kd.int .i64) 3 w base (fun k => some k = v0.ownBlock) v0 xs) (hr1 : Kd.R (Kd.int .i64) 3 w base (fun k => some k = v1.ownBlock) v1 ys)
  (hne : ∀ k, v0.ownBlock = some k → v1.ownBlock ≠ some k) (hr : Kd.R (Kd.int .i64) 3 w2 base (fun k => some k ≠ v1.ownBlock) v2 zs) (hgr : w.grownBy w2 v0.ownBlock) :
  w2.heap[g]? = some (.cells cs 44 (0, 0)) ∧ Kd.R (Kd.int .i64) 3 w2 base (fun k => some k = v1.ownBlock) v1 ys ∧ Kd.R (Kd.int .i64) 3 w2 base (fun k => some k = v2.ownBlock) v2 zs ∧ ∀ k, v2.ownBlock = some k → v1.ownBlock ≠ some k := by
 refine ⟨(hgr.block g (Array.getElem?_eq_some_iff.1 hg).1 (Kd.R_ne hr0 hg (by decide))).trans hg, Kd.R_step hr1 (fun k e hl => hgr.block k hl (fun e2 => hne k e2.symm e.symm)), Kd.R_tight rfl hr, fun k e e2 => hr.1 k e e2.symm⟩
set_option maxHeartbeats 4000000 in
theorem text_reader_take.calls (b : Int) (s : text_reader_take.St) (base g : Nat) (w : World) (hbase : base ≤ w.heap.size) (h : text_reader_take.Holds w base g s) (hl0 : s.codes.length < 1000000000000) (hl1 : s.soft.length < 1000000000000) :
  Calls Try.prog 21 #[.pointer (some ⟨g, 0, none⟩), .int .u8 b] w fun e w' => e = .returned (.tuple #[]) ∧ text_reader_take.Holds w' base g (text_reader_take.next s b) ∧ Below base w w' := by
 obtain ⟨v0, v1, hg, hgb, hr0, hr1, hne⟩ := h
 obtain ⟨A0, c0, e0⟩ := Kd.R_slice hr0
 obtain ⟨A1, c1, e1⟩ := Kd.R_slice hr1
 subst e0 e1
 have HG := Aside0.mk hg
 have HR0 := Aside0.mk hr0
 have HR1 := Aside0.mk hr1
 have HN := Aside0.mk hne
 have HB := Aside0.mk (Below.refl base w)
 have HS := Aside0.mk hbase
 have hx0 : w.cell? ⟨g, 0, none⟩ = some (.slice A0 s.codes.length c0) := (blk_cell hg 0).trans rfl
 have hx1 : w.cell? ⟨g, 1, none⟩ = some (.slice A1 s.soft.length c1) := (blk_cell hg 1).trans rfl
 have hx2 : w.cell? ⟨g, 2, none⟩ = some (.bool s.half) := (blk_cell hg 2).trans rfl
 have hx3 : w.cell? ⟨g, 3, none⟩ = some (.bool s.bad) := (blk_cell hg 3).trans rfl
 have hf0 := blk_frozen hg
 clear hg hr0 hr1 hne hbase
 cases hh : s.half with
 | true =>
  rw [hh] at hx2
  cases hbd : s.bad with
  | true =>
   rw [hbd] at hx3
   go_enter Try.func21, Try.ntmps21
   go_upto_region 3 with (fail)
   clear hx0 hx1 hx2 hx3 hf0
   obtain ⟨W2, hW2⟩ : ∃ W2, W2 = w.setCell ⟨g, 2 + 1, none⟩ (.bool true) := ⟨_, rfl⟩
   have G2 : W2.heap[g]? = some (.cells #[.slice A0 s.codes.length c0, .slice A1 s.soft.length c1, .bool true, .bool true] 44 (0, 0)) := by rw [hW2]; have := blk_put (cs' := #[Value.slice A0 s.codes.length c0, .slice A1 s.soft.length c1, .bool true, .bool true]) HG.out 3 (.bool true) (by rw [hh]; rfl); exact this
   have hk2 : ∀ k, k ≠ g → W2.heap[k]? = w.heap[k]? := fun k hk => by rw [hW2]; exact Below.heap_setCell w ⟨g, 3, none⟩ _ k hk
   have B2 : Below base w W2 := by rw [hW2]; exact (Below.refl _ _).setCell (p := ⟨g, 3, none⟩) hgb _
   obtain ⟨_, _, e2, _, r0, r1, hn⟩ := text_reader_take.holds_of (s := ⟨s.codes, s.soft, true, true⟩) HG.out G2 hgb HR0.out HR1.out HN.out (fun k hk _ => hk2 k hk)
   obtain ⟨rfl, rfl⟩ : _ = Value.slice A0 s.codes.length c0 ∧ _ = Value.slice A1 s.soft.length c1 := by rw [G2] at e2; simp at e2; exact ⟨e2.1.symm, e2.2.symm⟩
   clear e2
   rw [← hW2]
   have HG2 := Aside0.mk G2
   have Hr0 := Aside0.mk r0
   have Hr1 := Aside0.mk r1
   have Hn := Aside0.mk hn
   have HB2 := Aside0.mk B2
   have HS2 := Aside0.mk (Nat.le_trans HS.out B2.size)
   have hx0 := (blk_cell G2 0).trans rfl
   have hx1 := (blk_cell G2 1).trans rfl
   have hx2 := (blk_cell G2 2).trans rfl
   have hx3 := (blk_cell G2 3).trans rfl
   have hf0 := blk_frozen G2
   have hgs : g < W2.heap.size := (Array.getElem?_eq_some_iff.1 G2).1
   have hgn : g ≠ W2.heap.size := Nat.ne_of_lt hgs
   have hx1a := fun (o : Obj) => (World.cell?_alloc_past (w := W2) o g 1 hgs).trans hx1
   have hx0a := fun (o : Obj) => (World.cell?_alloc_past (w := W2) o g 0 hgs).trans hx0
   clear G2 r0 r1 hn B2 hk2 hW2
   go_region_law ((refine Kd.R_append_step (Kd.int .i64) (w0 := W2) (W := W2.drew) base ?hw (.tmp 39) (.tmp 46) 34 3 (.int .i64 0) 8 ?ho Try.underlying34 info3 rfl (by decide) (by omega) (.slice A1 s.soft.length c1) s.soft (s.codes.length : Int) [.int .i64 (s.codes.length : Int)] (fun k => some k ≠ (Value.slice A0 s.codes.length c0).ownBlock) (fun _ => False) ?hs ?hx ?hp (fun _ h => h.elim) ?aF ?aO ?aB ?aS ?aL ?_); (case hw => rfl); (case ho => rfl); (case hs => rfl); (case hx => rfl); (case hp => rfl); (case aF => exact (fun k hk e => by have := Kd.R_lt Hr0.out k e.symm; simp at hk; omega)); (case aO => ((with_reducible repeat (first | apply Kd.R_alloc | apply Kd.R_drewN | apply Kd.R_drew)); exact (Kd.R_mono Hr1.out (fun k e e2 => Hn.out k e2.symm e.symm)))); (case aB => (repeat (first | exact Below.refl _ _ | apply below_drew1 | apply below_drew))); (case aS => exact HS2.out); (case aL => omega); intro v2 w2 hr2 hb2 hg2 _; obtain ⟨A2, c2, rfl⟩ := Kd.R_slice hr2; obtain ⟨k1, k2, k3, k4⟩ := text_reader_take.turned (w := W2.drew) HG2.out (Kd.R_drew Hr1.out) (Kd.R_drew Hr0.out) (fun k e e2 => Hn.out k e2 e) hr2 hg2; have K1 := Aside0.mk k1; have K2 := Aside0.mk k2; have K3 := Aside0.mk k3; have K4 := Aside0.mk k4; have K5 := Aside0.mk hb2; have hy := blk_cell k1; have hz := blk_frozen k1; clear k1 k2 k3 k4 hr2 hg2 hb2 hx0 hx1 hx2 hx3 hf0)
   all_goals
    go_end0
    have e : text_reader_take.next s b = ⟨s.codes, s.soft ++ [(s.codes.length : Int)], false, true⟩ := by unfold text_reader_take.next; rw [hh, hbd]; simp
    rw [e]
    have p1 := blk_put (cs' := #[Value.slice A0 s.codes.length c0, .slice A2 (s.soft ++ [(s.codes.length : Int)]).length c2, .bool true, .bool true]) K1.out 1 (.slice A2 (s.soft ++ [(s.codes.length : Int)]).length c2) rfl
    have p2 := blk_put (cs' := #[Value.slice A0 s.codes.length c0, .slice A2 (s.soft ++ [(s.codes.length : Int)]).length c2, .bool false, .bool true]) p1 2 (.bool false) rfl
    exact ⟨rfl, text_reader_take.holds_of K1.out (by simpa only [List.length_append, List.length_cons, List.length_nil, Nat.zero_add] using p2) hgb K2.out K3.out (fun k e e2 => K4.out k e2 e) (fun k hk _ => (Below.heap_setCell _ ⟨g, 2, none⟩ _ k hk).trans (Below.heap_setCell w2 ⟨g, 1, none⟩ _ k hk)), HB2.out.trans (K5.out.trans (((Below.refl _ _).setCell (p := ⟨g, 1, none⟩) hgb _).setCell (p := ⟨g, 2, none⟩) hgb _))⟩
  | false =>
   rw [hbd] at hx3
   go_enter Try.func21, Try.ntmps21
   go_upto_region 3 with (fail)
   clear hx0 hx1 hx2 hx3 hf0
   obtain ⟨W2, hW2⟩ : ∃ W2, W2 = w.setCell ⟨g, 2 + 1, none⟩ (.bool (b != 173)) := ⟨_, rfl⟩
   have G2 : W2.heap[g]? = some (.cells #[.slice A0 s.codes.length c0, .slice A1 s.soft.length c1, .bool true, .bool (b != 173)] 44 (0, 0)) := by rw [hW2]; have := blk_put (cs' := #[Value.slice A0 s.codes.length c0, .slice A1 s.soft.length c1, .bool true, .bool (b != 173)]) HG.out 3 (.bool (b != 173)) (by rw [hh]; rfl); exact this
   have hk2 : ∀ k, k ≠ g → W2.heap[k]? = w.heap[k]? := fun k hk => by rw [hW2]; exact Below.heap_setCell w ⟨g, 3, none⟩ _ k hk
   have B2 : Below base w W2 := by rw [hW2]; exact (Below.refl _ _).setCell (p := ⟨g, 3, none⟩) hgb _
   obtain ⟨_, _, e2, _, r0, r1, hn⟩ := text_reader_take.holds_of (s := ⟨s.codes, s.soft, true, b != 173⟩) HG.out G2 hgb HR0.out HR1.out HN.out (fun k hk _ => hk2 k hk)
   obtain ⟨rfl, rfl⟩ : _ = Value.slice A0 s.codes.length c0 ∧ _ = Value.slice A1 s.soft.length c1 := by rw [G2] at e2; simp at e2; exact ⟨e2.1.symm, e2.2.symm⟩
   clear e2
   rw [← hW2]
   have HG2 := Aside0.mk G2
   have Hr0 := Aside0.mk r0
   have Hr1 := Aside0.mk r1
   have Hn := Aside0.mk hn
   have HB2 := Aside0.mk B2
   have HS2 := Aside0.mk (Nat.le_trans HS.out B2.size)
   have hx0 := (blk_cell G2 0).trans rfl
   have hx1 := (blk_cell G2 1).trans rfl
   have hx2 := (blk_cell G2 2).trans rfl
   have hx3 := (blk_cell G2 3).trans rfl
   have hf0 := blk_frozen G2
   have hgs : g < W2.heap.size := (Array.getElem?_eq_some_iff.1 G2).1
   have hgn : g ≠ W2.heap.size := Nat.ne_of_lt hgs
   have hx1a := fun (o : Obj) => (World.cell?_alloc_past (w := W2) o g 1 hgs).trans hx1
   have hx0a := fun (o : Obj) => (World.cell?_alloc_past (w := W2) o g 0 hgs).trans hx0
   clear G2 r0 r1 hn B2 hk2 hW2
   go_region_law ((refine Kd.R_append_step (Kd.int .i64) (w0 := W2) (W := W2.drew) base ?hw (.tmp 39) (.tmp 46) 34 3 (.int .i64 0) 8 ?ho Try.underlying34 info3 rfl (by decide) (by omega) (.slice A1 s.soft.length c1) s.soft (s.codes.length : Int) [.int .i64 (s.codes.length : Int)] (fun k => some k ≠ (Value.slice A0 s.codes.length c0).ownBlock) (fun _ => False) ?hs ?hx ?hp (fun _ h => h.elim) ?aF ?aO ?aB ?aS ?aL ?_); (case hw => rfl); (case ho => rfl); (case hs => rfl); (case hx => rfl); (case hp => rfl); (case aF => exact (fun k hk e => by have := Kd.R_lt Hr0.out k e.symm; simp at hk; omega)); (case aO => ((with_reducible repeat (first | apply Kd.R_alloc | apply Kd.R_drewN | apply Kd.R_drew)); exact (Kd.R_mono Hr1.out (fun k e e2 => Hn.out k e2.symm e.symm)))); (case aB => (repeat (first | exact Below.refl _ _ | apply below_drew1 | apply below_drew))); (case aS => exact HS2.out); (case aL => omega); intro v2 w2 hr2 hb2 hg2 _; obtain ⟨A2, c2, rfl⟩ := Kd.R_slice hr2; obtain ⟨k1, k2, k3, k4⟩ := text_reader_take.turned (w := W2.drew) HG2.out (Kd.R_drew Hr1.out) (Kd.R_drew Hr0.out) (fun k e e2 => Hn.out k e2 e) hr2 hg2; have K1 := Aside0.mk k1; have K2 := Aside0.mk k2; have K3 := Aside0.mk k3; have K4 := Aside0.mk k4; have K5 := Aside0.mk hb2; have hy := blk_cell k1; have hz := blk_frozen k1; clear k1 k2 k3 k4 hr2 hg2 hb2 hx0 hx1 hx2 hx3 hf0)
   all_goals
    go_end0
    have e : text_reader_take.next s b = ⟨s.codes, s.soft ++ [(s.codes.length : Int)], false, b != 173⟩ := by unfold text_reader_take.next; rw [hh, hbd]; simp
    rw [e]
    have p1 := blk_put (cs' := #[Value.slice A0 s.codes.length c0, .slice A2 (s.soft ++ [(s.codes.length : Int)]).length c2, .bool true, .bool (b != 173)]) K1.out 1 (.slice A2 (s.soft ++ [(s.codes.length : Int)]).length c2) rfl
    have p2 := blk_put (cs' := #[Value.slice A0 s.codes.length c0, .slice A2 (s.soft ++ [(s.codes.length : Int)]).length c2, .bool false, .bool (b != 173)]) p1 2 (.bool false) rfl
    exact ⟨rfl, text_reader_take.holds_of K1.out (by simpa only [List.length_append, List.length_cons, List.length_nil, Nat.zero_add] using p2) hgb K2.out K3.out (fun k e e2 => K4.out k e2 e) (fun k hk _ => (Below.heap_setCell _ ⟨g, 2, none⟩ _ k hk).trans (Below.heap_setCell w2 ⟨g, 1, none⟩ _ k hk)), HB2.out.trans (K5.out.trans (((Below.refl _ _).setCell (p := ⟨g, 1, none⟩) hgb _).setCell (p := ⟨g, 2, none⟩) hgb _))⟩
 | false =>
  rw [hh] at hx2
  by_cases h194 : b = 194
  ·have h194z : (b == 194) = true := by simp [h194]
   have hu : ∃ cs', cs' = #[Value.slice A0 s.codes.length c0, .slice A1 s.soft.length c1, .bool true, .bool s.bad] := ⟨_, rfl⟩
   go_enter Try.func21, Try.ntmps21
   go_wp2
   go_end0
   have e : text_reader_take.next s b = ⟨s.codes, s.soft, true, s.bad⟩ := by unfold text_reader_take.next; rw [hh]; simp [h194]
   rw [e]
   exact ⟨rfl, text_reader_take.holds_of HG.out (by have := blk_put (cs' := #[Value.slice A0 s.codes.length c0, .slice A1 s.soft.length c1, .bool true, .bool s.bad]) HG.out 2 (.bool true) rfl; exact this) hgb HR0.out HR1.out HN.out (fun k hk _ => Below.heap_setCell w ⟨g, 2, none⟩ _ k hk), (Below.refl _ _).setCell (p := ⟨g, 2, none⟩) hgb _⟩
  ·have h194z : (b == 194) = false := by simp [h194]
   go_enter Try.func21, Try.ntmps21
   go_wp2_with (first | (at_builtin; refine Kd.R_append (Kd.int .i64) (w0 := w) base rfl (.tmp 9) (.tmp 12) 34 3 (.int .i64 0) 8 rfl Try.underlying34 info3 rfl (by decide) (by omega) (.slice A0 s.codes.length c0) s.codes (wrap64 b) [.int .i64 (wrap64 b)] (fun k => some k ≠ (Value.slice A1 s.soft.length c1).ownBlock) (fun _ => False) rfl rfl rfl (fun _ h => h.elim) ?aF ?aO HB.out HS.out ?aL ?_; (case aF => exact (fun k hk e => by have := Kd.R_lt HR1.out k e.symm; omega)); (case aO => exact (Kd.R_mono HR0.out (fun k e e2 => HN.out k e.symm e2.symm))); (case aL => omega); intro v2 w2 hr2 hb2 hg2 _; obtain ⟨A2, c2, rfl⟩ := Kd.R_slice hr2; obtain ⟨k1, k2, k3, k4⟩ := text_reader_take.turned HG.out HR0.out HR1.out HN.out hr2 hg2; have K1 := Aside0.mk k1; have K2 := Aside0.mk k2; have K3 := Aside0.mk k3; have K4 := Aside0.mk k4; have K5 := Aside0.mk hb2; have hy0 := blk_cell k1 0; have hz0 := blk_frozen k1; clear k1 k2 k3 k4 hr2 hg2 hb2 hx0 hx1 hx2 hx3 hf0))
   go_end0
   have e : text_reader_take.next s b = ⟨s.codes ++ [wrap64 b], s.soft, false, s.bad⟩ := by unfold text_reader_take.next; rw [hh]; simp [h194]
   rw [e]
   exact ⟨rfl, text_reader_take.holds_of K1.out (by have := blk_put (cs' := #[Value.slice A2 (s.codes ++ [wrap64 b]).length c2, .slice A1 s.soft.length c1, .bool false, .bool s.bad]) K1.out 0 (.slice A2 (s.codes ++ [wrap64 b]).length c2) (by rw [hh]; rfl); simpa only [List.length_append, List.length_cons, List.length_nil, Nat.zero_add] using this) hgb K3.out K2.out K4.out (fun k hk _ => Below.heap_setCell w2 ⟨g, 0, none⟩ _ k hk), K5.out.trans ((Below.refl _ _).setCell (p := ⟨g, 0, none⟩) hgb _)⟩

end Go.Proofs.Ytanhafkoohnjhaa.G
