/- Contracts of the functions of this seat: what each call computes, as a plain Lean function. Made by this session's own generator. -/
import Derived.Test.YtihiiidbhhlfnaaGx0
import Derived.Test.YtihiiidbhhlfnaaGx6
import Derived.Test.YtihiiidbhhlfnaaGx7
namespace Go.Proofs.Ytihiiidbhhlfnaa.G
open Go.RowKit Go.Proofs.YtihiiidbhhlfnaaMy Go.Proofs.YtihiiidbhhlfnaaW.PrintWords Go.Proofs.YtihiiidbhhlfnaaW.PrintLast Go.Proofs.YtihiiidbhhlfnaaW.PrintMore
attribute [local go_sem] max2_int min2_int max_two min_two max_three min_three max_four min_four   -- for this text's walks alone
set_option linter.unusedVariables false
set_option linter.unusedSimpArgs false

/-! ### ship_in_row: function 33 -/
-- by hand
def ship_in_row.items {β : Type} (k : Nat) : Nat → List S43 → List Int → (List S43 → List Int → Option (Option β)) → Option (Option β)
 | 0, acc, xs, f => f acc xs
 | m + 1, acc, xs, f => ship_in_byte.P xs fun c xs => ship_in_fix.P k xs fun x xs => if acc.length < 1000000000 then ship_in_row.items k m (acc ++ [⟨c, x⟩]) xs f else none
def ship_in_row.P {β : Type} (k : Nat) (xs : List Int) (f : S41 → List Int → Option (Option β)) : Option (Option β) :=
 ship_in_byte.P xs fun a xs => ship_in_byte.P xs fun b xs => ship_in_fix.P k xs fun c xs => ship_in_fix.P k xs fun d xs => ship_in_two.P k xs fun m xs => if m < 1000000000 then ship_in_row.items k m.toNat [] xs fun is xs => f ⟨wrap64 (a - 8), b, c, d, is⟩ xs else none
set_option maxHeartbeats 4000000 in
set_option maxRecDepth 100000 in
theorem ship_in_row.cps {β : Type} (k : Nat) (f : S41 → List Int → Option (Option β)) (o : Option β) (xs : List Int) (g : Nat) (w u : World) (hB : Below w.heap.size w u) (hb : w.heap.size ≤ g) (h : ship_in_take.Holds w u g xs) (H : ship_in_row.P k xs f = some o) :
  Calls Try.prog 33 #[.pointer (some ⟨g, 0, none⟩)] u fun e u' => (∃ x l v, f x l = some o ∧ e = .returned (.agg #[.int .i64 x.f0, .int .i64 x.f1, .int .i64 x.f2, .int .i64 x.f3, v]) ∧ Kd.R k43 43 u' w.heap.size (fun k => u.heap.size ≤ k) v x.f4 ∧ ship_in_take.Holds w u' g l ∧ Below w.heap.size w u' ∧ ship_in_take.Stays g u u') ∨ (o = none ∧ e = .panicked ship_in_take.lost ∧ Below w.heap.size w u' ∧ ship_in_take.Stays g u u') := by
 have hu := Try.underlying41
 have hu2 := Try.underlying43
 have HG := Aside0.mk hb
 have HH := Aside0.mk H
 have HI := Aside0.mk h
 have HGL := Aside0.mk (ship_in_take.holds_lt h)
 have HB := Aside0.mk hB
 have HS := Aside0.mk (ship_in_take.stays_below (g := g) (Below.refl u.heap.size u))
 clear hb H h hB
 unfold ship_in_row.P at HH
 go_enter Try.func33, Try.ntmps33
 go_upto_region 1 with (first | ((with_reducible refine gate_dst (N := 2) rfl ?_); refine box_event ?hg (N := 2) ?hd (cs := #[.int .i64 0, .int .i64 0, .int .i64 0, .int .i64 0, .slice none 0 0]) (t := 41) ?hr ?_; (case hd => rfl); (case hg => rfl); (case hr => first | (go_simp; done) | (go_simp; rfl)); intro gr hg wa hbox hb; have HGU := Aside0.mk (show u.heap.size ≤ gr from by rw [hg]; exact Nat.le_refl _); have z1_ := Aside0.mk (ship_in_take.holds_below HI.out hb); have z2_ := Aside0.mk (ship_in_take.stays_w HS.out hb); clear HI HS; have HI := z1_; have HS := z2_; clear z1_ z2_; have GEgr := Aside0.mk (show w.heap.size ≤ gr from hg ▸ below_size (by repeat (first | (with_reducible first | exact HB.out | apply below_alloc | apply pw_below_drewN | apply below_drew1) | exact HB.out))); have n0_ := Aside0.mk (below_step (by repeat (first | (with_reducible first | exact HB.out | apply below_alloc | apply pw_below_drewN | apply below_drew1) | exact HB.out)) hb); have BKgr := Aside0.mk hbox; have hxgr := blk_cell hbox; have hygr := blk_frozen hbox; clear HB; have HB := n0_; clear n0_ hb hbox hg))
 have HNG := Aside0.mk (show gr ≠ g from by have := HGL.out; have := HGU.out; omega)
 clear hxgr hygr
 go_upto_region 2 with (first | (go_at_call 32; have hq0 := ship_in_byte.cps _ o _ g w _ HB.out HG.out HI.out HH.out; (with_reducible refine hq0.mono ?_); clear hq0; rintro e w1 (⟨b1, l1, hf, rfl, hh, hb, hs⟩ | ⟨ho, rfl, hb, hs⟩); rotate_left; exact ⟨rfl, .inr ⟨ho, rfl, hb, ship_in_take.stays_t HS.out hs⟩⟩; have z1_ := Aside0.mk hf; have z2_ := Aside0.mk hh; have z3_ := Aside0.mk (hs gr _ BKgr.out HNG.out); have z4_ := Aside0.mk hb; have z5_ := Aside0.mk (ship_in_take.stays_t HS.out hs); clear HH HI BKgr HB HS hf hh hb hs; have HH := z1_; have HI := z2_; have BKgr := z3_; have HB := z4_; have HS := z5_; clear z1_ z2_ z3_ z4_ z5_) | ((with_reducible refine gate_store (t := 3) rfl ?_); refine store_at_event (base := w.heap.size) rfl rfl 3 _ _ rfl (g := gr) rfl rfl BKgr.out (by simp) (by kernel_rfl) rfl GEgr.out ?_; intro ws1 hs_ hk_ hb_; simp only [List.setIfInBounds_toArray, List.set_cons_zero, List.set_cons_succ] at hs_; have z1_ := Aside0.mk (ship_in_take.holds_other HI.out HNG.out hk_); have z2_ := Aside0.mk hs_; have z3_ := Aside0.mk (HB.out.trans hb_); have z4_ := Aside0.mk (fun k_ o_ (h_ : u.heap[k_]? = some o_) (n_ : k_ ≠ g) => (hk_ k_ (fun e_ => by have h8 := (Array.getElem?_eq_some_iff.1 h_).1; have h9 := HGU.out; omega)).trans (HS.out k_ o_ h_ n_)); clear HI BKgr HB HS hs_ hk_ hb_; have HI := z1_; have BKgr := z2_; have HB := z3_; have HS : Aside0 (ship_in_take.Stays g u ws1) := z4_; clear z1_ z2_ z3_ z4_))
 go_upto_region 3 with (first | (go_at_call 32; have hq0 := ship_in_byte.cps _ o _ g w _ HB.out HG.out HI.out HH.out; (with_reducible refine hq0.mono ?_); clear hq0; rintro e w2 (⟨b2, l2, hf, rfl, hh, hb, hs⟩ | ⟨ho, rfl, hb, hs⟩); rotate_left; exact ⟨rfl, .inr ⟨ho, rfl, hb, ship_in_take.stays_t HS.out hs⟩⟩; have z1_ := Aside0.mk hf; have z2_ := Aside0.mk hh; have z3_ := Aside0.mk (hs gr _ BKgr.out HNG.out); have z4_ := Aside0.mk hb; have z5_ := Aside0.mk (ship_in_take.stays_t HS.out hs); clear HH HI BKgr HB HS hf hh hb hs; have HH := z1_; have HI := z2_; have BKgr := z3_; have HB := z4_; have HS := z5_; clear z1_ z2_ z3_ z4_ z5_) | ((with_reducible refine gate_store (t := 3) rfl ?_); refine store_at_event (base := w.heap.size) rfl rfl 3 _ _ rfl (g := gr) rfl rfl BKgr.out (by simp) (by kernel_rfl) rfl GEgr.out ?_; intro ws2 hs_ hk_ hb_; simp only [List.setIfInBounds_toArray, List.set_cons_zero, List.set_cons_succ] at hs_; have z1_ := Aside0.mk (ship_in_take.holds_other HI.out HNG.out hk_); have z2_ := Aside0.mk hs_; have z3_ := Aside0.mk (HB.out.trans hb_); have z4_ := Aside0.mk (fun k_ o_ (h_ : u.heap[k_]? = some o_) (n_ : k_ ≠ g) => (hk_ k_ (fun e_ => by have h8 := (Array.getElem?_eq_some_iff.1 h_).1; have h9 := HGU.out; omega)).trans (HS.out k_ o_ h_ n_)); clear HI BKgr HB HS hs_ hk_ hb_; have HI := z1_; have BKgr := z2_; have HB := z3_; have HS : Aside0 (ship_in_take.Stays g u ws2) := z4_; clear z1_ z2_ z3_ z4_))
 go_upto_region 4 with (first | (go_at_call 45; have hq0 := ship_in_fix.cps k _ o _ g w _ HB.out HG.out HI.out HH.out; (with_reducible refine hq0.mono ?_); clear hq0; rintro e w3 (⟨b3, l3, hf, rfl, hh, hb, hs⟩ | ⟨ho, rfl, hb, hs⟩); rotate_left; exact ⟨rfl, .inr ⟨ho, rfl, hb, ship_in_take.stays_t HS.out hs⟩⟩; have z1_ := Aside0.mk hf; have z2_ := Aside0.mk hh; have z3_ := Aside0.mk (hs gr _ BKgr.out HNG.out); have z4_ := Aside0.mk hb; have z5_ := Aside0.mk (ship_in_take.stays_t HS.out hs); clear HH HI BKgr HB HS hf hh hb hs; have HH := z1_; have HI := z2_; have BKgr := z3_; have HB := z4_; have HS := z5_; clear z1_ z2_ z3_ z4_ z5_) | ((with_reducible refine gate_store (t := 3) rfl ?_); refine store_at_event (base := w.heap.size) rfl rfl 3 _ _ rfl (g := gr) rfl rfl BKgr.out (by simp) (by kernel_rfl) rfl GEgr.out ?_; intro ws3 hs_ hk_ hb_; simp only [List.setIfInBounds_toArray, List.set_cons_zero, List.set_cons_succ] at hs_; have z1_ := Aside0.mk (ship_in_take.holds_other HI.out HNG.out hk_); have z2_ := Aside0.mk hs_; have z3_ := Aside0.mk (HB.out.trans hb_); have z4_ := Aside0.mk (fun k_ o_ (h_ : u.heap[k_]? = some o_) (n_ : k_ ≠ g) => (hk_ k_ (fun e_ => by have h8 := (Array.getElem?_eq_some_iff.1 h_).1; have h9 := HGU.out; omega)).trans (HS.out k_ o_ h_ n_)); clear HI BKgr HB HS hs_ hk_ hb_; have HI := z1_; have BKgr := z2_; have HB := z3_; have HS : Aside0 (ship_in_take.Stays g u ws3) := z4_; clear z1_ z2_ z3_ z4_))
 go_upto_region 5 with (first | (go_at_call 45; have hq0 := ship_in_fix.cps k _ o _ g w _ HB.out HG.out HI.out HH.out; (with_reducible refine hq0.mono ?_); clear hq0; rintro e w4 (⟨b4, l4, hf, rfl, hh, hb, hs⟩ | ⟨ho, rfl, hb, hs⟩); rotate_left; exact ⟨rfl, .inr ⟨ho, rfl, hb, ship_in_take.stays_t HS.out hs⟩⟩; have z1_ := Aside0.mk hf; have z2_ := Aside0.mk hh; have z3_ := Aside0.mk (hs gr _ BKgr.out HNG.out); have z4_ := Aside0.mk hb; have z5_ := Aside0.mk (ship_in_take.stays_t HS.out hs); clear HH HI BKgr HB HS hf hh hb hs; have HH := z1_; have HI := z2_; have BKgr := z3_; have HB := z4_; have HS := z5_; clear z1_ z2_ z3_ z4_ z5_) | ((with_reducible refine gate_store (t := 3) rfl ?_); refine store_at_event (base := w.heap.size) rfl rfl 3 _ _ rfl (g := gr) rfl rfl BKgr.out (by simp) (by kernel_rfl) rfl GEgr.out ?_; intro ws4 hs_ hk_ hb_; simp only [List.setIfInBounds_toArray, List.set_cons_zero, List.set_cons_succ] at hs_; have z1_ := Aside0.mk (ship_in_take.holds_other HI.out HNG.out hk_); have z2_ := Aside0.mk hs_; have z3_ := Aside0.mk (HB.out.trans hb_); have z4_ := Aside0.mk (fun k_ o_ (h_ : u.heap[k_]? = some o_) (n_ : k_ ≠ g) => (hk_ k_ (fun e_ => by have h8 := (Array.getElem?_eq_some_iff.1 h_).1; have h9 := HGU.out; omega)).trans (HS.out k_ o_ h_ n_)); clear HI BKgr HB HS hs_ hk_ hb_; have HI := z1_; have BKgr := z2_; have HB := z3_; have HS : Aside0 (ship_in_take.Stays g u ws4) := z4_; clear z1_ z2_ z3_ z4_))
 go_wp2_with (first | (go_at_call 46; have hq0 := ship_in_two.cps k _ o _ g w _ HB.out HG.out HI.out HH.out; (with_reducible refine hq0.mono ?_); clear hq0; rintro e w5 (⟨b5, l5, hf, rfl, hh, hb, hs⟩ | ⟨ho, rfl, hb, hs⟩); rotate_left; exact ⟨rfl, .inr ⟨ho, rfl, hb, ship_in_take.stays_t HS.out hs⟩⟩; have z1_ := Aside0.mk hf; have z2_ := Aside0.mk hh; have z3_ := Aside0.mk (hs gr _ BKgr.out HNG.out); have z4_ := Aside0.mk hb; have z5_ := Aside0.mk (ship_in_take.stays_t HS.out hs); clear HH HI BKgr HB HS hf hh hb hs; have HH := z1_; have HI := z2_; have BKgr := z3_; have HB := z4_; have HS := z5_; clear z1_ z2_ z3_ z4_ z5_))
 have hq := HH.out
 split at hq
 case isFalse => cases hq
 rename_i hm
 have HM := Aside0.mk hm
 have HQ := Aside0.mk hq
 clear hq hm HH
 go_loopw [3, 19] (fun _ v19 wr => ∃ (i : Nat) (acc : List S43) (ys : List Int) (v : Value), i ≤ b5.toNat ∧ v19 = .int .i64 i ∧ Aside0 (ship_in_row.items k (b5.toNat - i) acc ys (fun is xs => f ⟨wrap64 (b1 - 8), b2, b3, b4, is⟩ xs) = some o) ∧ Aside0 (ship_in_take.Holds w wr g ys) ∧ Aside0 (wr.heap[gr]? = some (.cells #[.int .i64 (wrap64 (b1 - 8)), .int .i64 b2, .int .i64 b3, .int .i64 b4, v] 41 (0, 0))) ∧ Aside0 (Kd.R k43 43 wr w.heap.size (fun k => u.heap.size ≤ k) v acc) ∧ Aside0 (Below w.heap.size w wr) ∧ Aside0 (ship_in_take.Stays g u wr)) (fun _ v19 _ => b5.toNat - (intOf v19).toNat)
 case atStart => exact ⟨0, [], _, _, Nat.zero_le _, rfl, HQ, HI, BKgr, ⟨Kd.R_nil _ _ _ _ _⟩, HB, HS⟩
 case round =>
  clear HQ HI BKgr HB HS
  obtain ⟨i, acc, ys, v, hi, rfl, HQ, HI, BKgr, HR, HB, HS⟩ := hrel
  obtain ⟨A4, c4, e4⟩ := Kd.R_slice HR.out
  subst e4
  by_cases hlt : i < b5.toNat
  ·have hltz : decide ((i : Int) < b5) = true := decide_eq_true (by omega)
   have hltz2 : (i : Int) < b5 := by omega
   obtain ⟨mm, hmm⟩ : ∃ mm, b5.toNat - i = mm + 1 := ⟨b5.toNat - i - 1, by omega⟩
   have hq := HQ.out
   rw [hmm, ship_in_row.items] at hq
   have HH := Aside0.mk hq
   have HMM := Aside0.mk hmm
   clear hq HQ hmm
   go_upto_region 8 with (first | (go_at_call 32; have hq0 := ship_in_byte.cps _ o _ g w _ HB.out HG.out HI.out HH.out; (with_reducible refine hq0.mono ?_); clear hq0; rintro e w6 (⟨b6, l6, hf, rfl, hh, hb, hs⟩ | ⟨ho, rfl, hb, hs⟩); rotate_left; exact ⟨rfl, .inr ⟨ho, rfl, hb, ship_in_take.stays_t HS.out hs⟩⟩; have z7_ := Aside0.mk (ship_in_take.R_stays HR.out HI.out hs (by simp [k43, Kd.iso, Kd.pair, Kd.int, Kd.scalar])); clear HR; have HR := z7_; clear z7_; have z1_ := Aside0.mk hf; have z2_ := Aside0.mk hh; have z3_ := Aside0.mk (hs gr _ BKgr.out HNG.out); have z4_ := Aside0.mk hb; have z5_ := Aside0.mk (ship_in_take.stays_t HS.out hs); clear HH HI BKgr HB HS hf hh hb hs; have HH := z1_; have HI := z2_; have BKgr := z3_; have HB := z4_; have HS := z5_; clear z1_ z2_ z3_ z4_ z5_))
   refine start_ (n := 10) (S := fun w' => w'.cell? ⟨gr, 4, none⟩ = some (.slice A4 acc.length c4)) (ds := [9]) #[false, false, false, false, false, false, false, false, false, false] (by kernel_rfl) rfl rfl ((blk_cell BKgr.out 4).trans rfl) (fun hHeld => ?_)
   have hdr_ : ∀ B, Below B w6 w6.drew := fun B => below_drew (Below.refl B w6)
   have z1_ := Aside0.mk (ship_in_take.holds_below HI.out (hdr_ _))
   have z2_ := Aside0.mk (blk_below BKgr.out (hdr_ _))
   have z3_ := Aside0.mk (HB.out.trans (hdr_ _))
   have z4_ := Aside0.mk (ship_in_take.stays_w HS.out (hdr_ _))
   have z6_ := Aside0.mk (Kd.R_drew HR.out)
   clear HI BKgr HB HS HR hdr_
   have HI := z1_
   have BKgr := z2_
   have HB := z3_
   have HS := z4_
   have HR := z6_
   clear z1_ z2_ z3_ z4_ z6_
   generalize w6.drew = wd at HI BKgr HB HS HR hHeld ⊢
   refine pure_ (i := 0) (N := some 23) (v := ?_) (a' := ?_) #[true, false, false, false, false, false, false, false, false, false] rfl rfl (by kernel_rfl) (fun _ _ _ h => h) (Or.inl ⟨by rfl, ?_⟩) ?_ ?_
   rotate_left
   ·intro w'
    go_simp
    with_reducible rfl
   rotate_left
   ·simp only [Act.put, List.setIfInBounds_toArray, List.set_cons_zero, List.set_cons_succ, i64_w, i32_w]
    rfl
   refine pure_ (i := 2) (N := some 25) (v := ?_) (a' := ?_) #[true, false, true, false, false, false, false, false, false, false] rfl rfl (by kernel_rfl) (fun _ _ _ h => h) (Or.inl ⟨by rfl, ?_⟩) ?_ ?_
   rotate_left
   ·intro w'
    go_simp
    with_reducible rfl
   rotate_left
   ·simp only [Act.put, List.setIfInBounds_toArray, List.set_cons_zero, List.set_cons_succ, i64_w, i32_w]
    rfl
   refine pure_ (i := 3) (N := some 26) (v := ?_) (a' := ?_) #[true, false, true, true, false, false, false, false, false, false] rfl rfl (by kernel_rfl) (fun _ _ _ h => h) (Or.inl ⟨by rfl, ?_⟩) ?_ ?_
   rotate_left
   ·intro w'
    go_simp
    with_reducible rfl
   rotate_left
   ·simp only [Act.put, List.setIfInBounds_toArray, List.set_cons_zero, List.set_cons_succ, i64_w, i32_w]
    rfl
   refine take_ (i := 1) (N := some 24) (v := ?_) (a' := ?_) #[true, true, true, true, false, false, false, false, false, false] rfl rfl (by kernel_rfl) (fun _ _ _ h => h) (Or.inl ⟨by rfl, ?_⟩) hHeld ?_ ?_
   rotate_left
   ·intro w' s0
    go_simp
    with_reducible rfl
   rotate_left
   ·simp only [Act.put, List.setIfInBounds_toArray, List.set_cons_zero, List.set_cons_succ, i64_w, i32_w]
    rfl
   refine one_ (i := 4) (N := some 27) #[true, true, true, true, true, false, false, false, false, false] rfl rfl (by kernel_rfl) (by decide) (fun K hK => ?_)
   refine goesP_ Try.func45 (by kernel_rfl) rfl #[.pointer (some ⟨g, 0, none⟩)] (by rfl) rfl rfl (by (try simp only [List.map_toArray, List.map_cons, List.map_nil]); first | done | rfl) ?_
   refine (ship_in_fix.cps k _ o _ g w _ HB.out HG.out HI.out HH.out).mono ?_
   rintro e w7 (⟨b7, l7, hf, rfl, hh, hb, hs⟩ | ⟨ho, rfl, hb, hs⟩)
   rotate_left
   ·exact .inr ⟨_, rfl, rfl, .inr ⟨ho, rfl, hb, ship_in_take.stays_t HS.out hs⟩⟩
   refine .inl ⟨_, rfl, ?_⟩
   split at hf
   case isFalse => cases hf
   rename_i hal
   have BK7 := Aside0.mk (hs gr _ BKgr.out HNG.out)
   have HR7 := Aside0.mk (ship_in_take.R_stays HR.out HI.out hs (by simp [k43, Kd.iso, Kd.pair, Kd.int, Kd.scalar]))
   have HQ7 := Aside0.mk hf
   have HI7 := Aside0.mk hh
   have HB7 := Aside0.mk hb
   have HS7 := Aside0.mk (ship_in_take.stays_t HS.out hs)
   have HAL := Aside0.mk hal
   have hgr7 := (Array.getElem?_eq_some_iff.1 BK7.out).1
   clear HI BKgr HB HS HR HH hf hh hb hs hal
   refine hK.out _ _ ((blk_cell BK7.out 4).trans rfl) (fun hHeld => ?_)
   clear hK K
   refine norm_ (a' := ?_) ?_ ?_
   rotate_left
   ·show Act.put _ (some 27) _ = _
    simp only [Act.put, List.setIfInBounds_toArray, List.set_cons_zero, List.set_cons_succ, i64_w, i32_w]
    rfl
   refine pure_ (i := 5) (N := some 28) (v := ?_) (a' := ?_) #[true, true, true, true, true, true, false, false, false, false] rfl rfl (by kernel_rfl) (fun _ _ _ h => h) (Or.inl ⟨by rfl, ?_⟩) ?_ ?_
   rotate_left
   ·intro w'
    go_simp
    with_reducible rfl
   rotate_left
   ·simp only [Act.put, List.setIfInBounds_toArray, List.set_cons_zero, List.set_cons_succ, i64_w, i32_w]
    rfl
   refine one_ (i := 6) (N := some 29) #[true, true, true, true, true, true, true, false, false, false] rfl rfl (by kernel_rfl) (by decide) (fun K hK => ?_)
   refine value_ (w1 := ?_) (v := ?_) (by rfl) rfl ?_ ?_
   rotate_left 2
   ·go_simp
    constructor
    ·rfl
    ·rfl
   refine hK.out _ _ ((World.cell?_alloc_past (w := w7) _ gr 4 hgr7).trans ((blk_cell BK7.out 4).trans rfl)) (fun hHeld => ?_)
   clear hK K
   refine norm_ (a' := ?_) ?_ ?_
   rotate_left
   ·show Act.put _ (some 29) _ = _
    simp only [Act.put, List.setIfInBounds_toArray, List.set_cons_zero, List.set_cons_succ, i64_w, i32_w]
    rfl
   refine one_ (i := 7) (N := some 30) #[true, true, true, true, true, true, true, true, false, false] rfl rfl (by kernel_rfl) (by decide) (fun K hK => ?_)
   refine Kd.R_append_step k43 (w0 := w) (W := w7) w.heap.size (by rfl) (.tmp 24) (.tmp 29) 39 43 (.agg #[(.int .i64 0), (.int .i64 0)]) 16 rfl Try.underlying39 info43 rfl (by decide) (by omega) (.slice A4 acc.length c4) acc (⟨b6, b7⟩ : S43) [.int .i64 b6, .int .i64 b7] (fun k => u.heap.size ≤ k) (fun _ => False) rfl rfl ?hp (fun _ h => h.elim) (fun k hk => by have h8 := HGU.out; omega) HR7.out HB7.out HB7.out.size (by have := HAL.out; omega) ?_
   case hp => exact k43_mkM _ _ _ _
   intro v1 w1 hr1 hb1 hg1 hat1
   obtain ⟨A8, c8, e8⟩ := Kd.R_slice hr1
   subst e8
   rw [show (acc ++ [(⟨b6, b7⟩ : S43)]).length = acc.length + 1 by simp] at hr1 ⊢
   have P1 : w1.heap[gr]? = _ := (hg1.block gr hgr7 (Kd.R_ne HR7.out BK7.out (by decide))).trans BK7.out
   have HP1 := Aside0.mk P1
   have HR1 := Aside0.mk hr1
   have HB1 := Aside0.mk hb1
   have HG1 := Aside0.mk hg1
   have hxc := blk_cell P1 4
   have hfc := blk_frozen P1
   refine hK.out _ _ ((blk_cell HP1.out 4).trans rfl) (fun hHeld => ?_)
   clear hK K
   refine norm_ (a' := ?_) ?_ ?_
   rotate_left
   ·show Act.put _ (some 30) _ = _
    simp only [Act.put, List.setIfInBounds_toArray, List.set_cons_zero, List.set_cons_succ, i64_w, i32_w]
    rfl
   refine pure_ (i := 8) (N := some 31) (v := ?_) (a' := ?_) #[true, true, true, true, true, true, true, true, true, false] rfl rfl (by kernel_rfl) (fun _ _ _ h => h) (Or.inl ⟨by rfl, ?_⟩) ?_ ?_
   rotate_left
   ·intro w'
    go_simp
    with_reducible rfl
   rotate_left
   ·simp only [Act.put, List.setIfInBounds_toArray, List.set_cons_zero, List.set_cons_succ, i64_w, i32_w]
    rfl
   refine last_ (i := 9) (N := none) #[true, true, true, true, true, true, true, true, true, true] rfl rfl (by kernel_rfl) (by decide) (fun K hK => ?_)
   refine skip_ (w1 := ?_) (by rfl) rfl ?_ ?_
   rotate_left
   ·go_simp
    rfl
   refine hK.out _ _ ?_
   clear hK K
   refine done_ (by kernel_rfl) ?_
   have hw2k : ∀ k, k ≠ gr → (w1.setCell ⟨gr, 4, none⟩ (.slice A8 (acc.length + 1) c8)).heap[k]? = w1.heap[k]? := fun k hk => Below.heap_setCell w1 ⟨gr, 4, none⟩ _ k hk
   have hgne : some g ≠ (Value.slice A4 acc.length c4).ownBlock := by
    obtain ⟨_, _, h1, _⟩ := HI7.out
    exact Kd.R_ne HR7.out h1 (by decide)
   have zI := ship_in_take.holds_other (ship_in_take.holds_grown HI7.out HG1.out hgne) HNG.out hw2k
   have zK : (w1.setCell ⟨gr, 4, none⟩ (.slice A8 (acc.length + 1) c8)).heap[gr]? = some (.cells #[.int .i64 (wrap64 (b1 - 8)), .int .i64 b2, .int .i64 b3, .int .i64 b4, .slice A8 (acc.length + 1) c8] 41 (0, 0)) := by
    have := blk_put (cs' := #[.int .i64 (wrap64 (b1 - 8)), .int .i64 b2, .int .i64 b3, .int .i64 b4, .slice A8 (acc.length + 1) c8]) HP1.out 4 (.slice A8 (acc.length + 1) c8) rfl
    exact this
   have zR := ship_in_take.R_other HR1.out HP1.out (by simp [k43, Kd.iso, Kd.pair, Kd.int, Kd.scalar]) hw2k
   have zB : Below w.heap.size w (w1.setCell ⟨gr, 4, none⟩ (.slice A8 (acc.length + 1) c8)) := HB1.out.setCell (p := ⟨gr, 4, none⟩) GEgr.out _
   have zS : ship_in_take.Stays g u (w1.setCell ⟨gr, 4, none⟩ (.slice A8 (acc.length + 1) c8)) := fun k o hk hn => by
    have hkl := (Array.getElem?_eq_some_iff.1 hk).1
    have h7 := HS7.out k o hk hn
    refine (hw2k k (fun e => by have := HGU.out; omega)).trans ((HG1.out.block k (Array.getElem?_eq_some_iff.1 h7).1 (fun e => ?_)).trans h7)
    have h8 := HR7.out.1 k e.symm
    omega
   have zQ : ship_in_row.items k (b5.toNat - (i + 1)) (acc ++ [⟨b6, b7⟩]) l7 (fun is xs => f ⟨wrap64 (b1 - 8), b2, b3, b4, is⟩ xs) = some o := by
    rw [show b5.toNat - (i + 1) = mm by have := HMM.out; omega]
    exact HQ7.out
   have ZI := Aside0.mk zI
   have ZK := Aside0.mk zK
   have ZR := Aside0.mk zR
   have ZB := Aside0.mk zB
   have ZS := Aside0.mk zS
   have ZQ := Aside0.mk zQ
   have hM9 := HM.out
   clear zI zK zR zB zS zQ hr1 hb1 hg1 hat1 P1
   go_wp2
   go_roundw
   case rel => exact ⟨i + 1, _, l7, _, by omega, by go_num, ZQ, ZI, ZK, ZR, ZB, ZS⟩
   case measure => simp [intOf]; omega
  ·have hge : decide ((i : Int) < b5) = false := decide_eq_false (by omega)
   have hge2 : ¬ (i : Int) < b5 := by omega
   have hq := HQ.out
   rw [show b5.toNat - i = 0 by omega, ship_in_row.items] at hq
   have HF := Aside0.mk hq
   have hxgr := blk_cell BKgr.out
   have hygr := blk_frozen BKgr.out
   clear hq HQ
   go_wp2_with (first | ((with_reducible refine gate_dst (N := 33) rfl ?_); refine load_row_event (by first | rfl | (go_simp; done)) 41 _ rfl gr rfl 41 _ (0, 0) _ BKgr.out hu rfl (by kernel_rfl) ?_) | ((with_reducible refine gate_store (t := 41) rfl ?_); refine store_row_event (base := w.heap.size) rfl rfl 41 _ _ rfl (g := gr) (by rfl) (by rfl) BKgr.out (by kernel_rfl) (by rfl) (by rfl) GEgr.out ?_; intro ws_ hs_ hk_ hb_; have z1_ := Aside0.mk (ship_in_take.holds_other HI.out HNG.out hk_); have z2_ := Aside0.mk (ship_in_take.R_other HR.out BKgr.out (by simp [k43, Kd.iso, Kd.pair, Kd.int, Kd.scalar]) hk_); have z4_ := Aside0.mk (fun k_ o_ (h_ : u.heap[k_]? = some o_) (n_ : k_ ≠ g) => (hk_ k_ (fun e_ => by have h8 := (Array.getElem?_eq_some_iff.1 h_).1; have h9 := HGU.out; omega)).trans (HS.out k_ o_ h_ n_)); clear HI HR HS; have HI := z1_; have HR := z2_; have HS : Aside0 (ship_in_take.Stays g u ws_) := z4_; clear z1_ z2_ z4_; have n0_ := Aside0.mk (HB.out.trans hb_); clear HB; have HB := n0_; clear n0_; clear BKgr hxgr hygr; have BKgr := Aside0.mk hs_; have hxgr := blk_cell BKgr.out; have hygr := blk_frozen BKgr.out; clear hs_ hk_ hb_))
   refine ⟨rfl, .agg #[.int .i64 (wrap64 (b1 - 8)), .int .i64 b2, .int .i64 b3, .int .i64 b4, .slice A4 acc.length c4], ?_, .inl ⟨⟨wrap64 (b1 - 8), b2, b3, b4, acc⟩, _, HF.out, _, rfl, HR.out, HI.out, HB.out, HS.out⟩⟩
   simp [results, Try.results33, go_sem, hxgr, hu]


end Go.Proofs.Ytihiiidbhhlfnaa.G
