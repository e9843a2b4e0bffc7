/- Contracts of the functions of this seat: what each call computes, as a plain Lean function. Made by this session's own generator. -/
import Derived.Test.YtihiiidbhhlfnaaGx0
import Derived.Test.YtihiiidbhhlfnaaGx3
import Derived.Test.YtihiiidbhhlfnaaGx4
namespace Go.Proofs.Ytihiiidbhhlfnaa.G
open Go.RowKit Go.Proofs.YtihiiidbhhlfnaaMy Go.Proofs.YtihiiidbhhlfnaaW.PrintWords Go.Proofs.YtihiiidbhhlfnaaW.PrintLast Go.Proofs.YtihiiidbhhlfnaaW.PrintMore
attribute [local go_sem] max2_int min2_int max_two min_two max_three min_three max_four min_four   -- for this text's walks alone
set_option linter.unusedVariables false
set_option linter.unusedSimpArgs false

/-! ### ship_mark: function 22 -/
-- by hand
theorem ship_mark.calls (w : World) : Calls Try.prog 22 #[] w fun e w' => ∃ A, e = .returned (.slice A 2 2) ∧ Kd.C (Kd.int .u8) w' A 2 [67, 79] ∧ Below w.heap.size w w' := by
 go_enter Try.func22, Try.ntmps22
 go_wp2_with (first | ((with_reducible refine gate_dst (N := 1) rfl ?_); refine lit_mark_event2 (N := 1) (M := 2) (T := 25) (e := 5) ([67, 79] : List Int) ?hg ?hd ?hg2 ?hd2 ?hr ?ho2 Try.underlying25 Try.underlying5 ?hN (by simp) ?_; (case hd => rfl); (case hg => rfl); (case hd2 => rfl); (case hg2 => rfl); (case ho2 => rfl); (case hN => exact fun _ => rfl); (case hr => exact flat_run 5 .u8 [67, 79] rfl Try.underlying25 (by kernel_rfl) (by kernel_rfl) rfl (by decide) (by decide) rfl); intro vm_ w1 hm_ hb; obtain ⟨Am1, em_, hC1_⟩ := hm_; subst em_; have HC := Aside0.mk hC1_; have HB := Aside0.mk hb; clear hC1_ hb))
 go_ret
 exact ⟨_, rfl, HC.out, HB.out⟩

/-! ### ship_out_put: function 23 -/
-- by hand
def ship_out_put.step (k q : Nat) (xs : List Int) (n : Int) : Option (List Int) :=
 if q = 0 then (if xs.length < 1000000000000 then some (xs ++ [n % 256]) else none)
 else if q = 1 then (pack_PutFix.f k [] n).bind fun r => if xs.length + r.1.length < 1000000000000 then some (xs ++ r.1) else none
 else (pack_Put.f k xs n 2).bind fun r => some r.1
def ship_out_put.f (k : Nat) : List (Nat × Int) → List Int → Option (List Int)
 | [], xs => some xs
 | p :: l, xs => (ship_out_put.step k p.1 xs p.2).bind fun ys => ship_out_put.f k l ys
theorem ship_out_put.mono_step (k q : Nat) (xs : List Int) (n : Int) : LeO (ship_out_put.step k q xs n) (ship_out_put.step (k + 1) q xs n) := by
 unfold ship_out_put.step
 refine LeO.ite (LeO.refl _) (LeO.ite (LeO.bind (pack_PutFix.mono _ _ _) (fun _ => LeO.refl _)) (LeO.bind (pack_Put.mono _ _ _ _) (fun _ => LeO.refl _)))
theorem ship_out_put.mono (k : Nat) (l : List (Nat × Int)) : ∀ xs, LeO (ship_out_put.f k l xs) (ship_out_put.f (k + 1) l xs) := by
 induction l with
 | nil => intro xs; exact LeO.refl _
 | cons p l ih => intro xs; exact LeO.bind (ship_out_put.mono_step _ _ _ _) (fun ys => ih ys)
def ship_out_put.way (p : Nat × Int) : Value := .func (.func (if p.1 = 0 then 19 else if p.1 = 1 then 20 else 21)) #[] #[]
set_option maxHeartbeats 4000000 in
theorem ship_out_put.calls (k : Nat) (ps : List (Nat × Int)) (xs r : List Int) (g bw bl : Nat) (w0 w : World) (hB : Below w0.heap.size w0 w) (h : ship_out_byte.Holds w w0.heap.size g xs)
  (hw : w.heap[bw]? = some (.cells (ps.map ship_out_put.way).toArray 44 (0, 0))) (hi : w.heap[bl]? = some (.cells (ps.map fun p => Value.int .i64 p.2).toArray 3 (0, 0))) (hn : ps.length < 1000) (hp : ship_out_put.f k ps xs = some r) :
  Calls Try.prog 23 #[.pointer (some ⟨g, 0, none⟩), .slice (some ⟨bw, 0, none⟩) ps.length ps.length, .slice (some ⟨bl, 0, none⟩) ps.length ps.length] w fun e w' => e = .returned (.tuple #[]) ∧ ship_out_byte.Holds w' w0.heap.size g r ∧ Below w0.heap.size w0 w' ∧ ship_out_byte.Stays g w w' := by
 have hne : bw ≠ g ∧ bl ≠ g := by
  obtain ⟨v, h1, _, _⟩ := h
  constructor
  ·intro e; subst e; rw [hw] at h1; simp at h1
  ·intro e; subst e; rw [hi] at h1; simp at h1
 have HN := Aside0.mk hn
 have HNE := Aside0.mk hne
 have HW := Aside0.mk hw
 have HI := Aside0.mk hi
 have H0 := Aside0.mk h
 have HP := Aside0.mk hp
 have HB := Aside0.mk hB
 clear hB h hw hi hp hn hne
 go_enter Try.func23, Try.ntmps23
 go_wp2
 go_loopw [6, 7, 10] (fun _ _ v10 wr => ∃ (i : Nat) (ys : List Int), i ≤ ps.length ∧ v10 = .int .i64 i ∧ Aside0 (ship_out_put.f k (ps.drop i) ys = some r) ∧ Aside0 (ship_out_byte.Holds wr w0.heap.size g ys) ∧ Aside0 (Below w0.heap.size w0 wr) ∧ Aside0 (ship_out_byte.Stays g w wr)) (fun _ _ v10 _ => ps.length - (intOf v10).toNat)
 case atStart => exact ⟨0, xs, Nat.zero_le _, rfl, HP, H0, HB, ⟨ship_out_byte.stays_below (Below.refl _ _)⟩⟩
 case round =>
  clear H0 HP HB
  obtain ⟨i, ys, hii, rfl, HP, H0, HB, HS⟩ := hrel
  by_cases hlt : i < ps.length
  ·have hltz : (i : Int) < (ps.length : Int) := by omega
   have h9 := HN.out
   have hcw : wr.cell? ⟨bw, i, none⟩ = some (ship_out_put.way ps[i]) := (blk_cell (HS.out bw _ HW.out HNE.out.1 (fun _ e => by cases e)) i).trans (by simp [hlt])
   have hcl : wr.cell? ⟨bl, i, none⟩ = some (.int .i64 ps[i].2) := (blk_cell (HS.out bl _ HI.out HNE.out.2 (fun _ e => by cases e)) i).trans (by simp [hlt])
   have hq := HP.out
   rw [List.drop_eq_getElem_cons hlt, ship_out_put.f] at hq
   obtain ⟨zs, hz, hr⟩ := Option.bind_eq_some_iff.mp hq
   unfold ship_out_put.way at hcw
   unfold ship_out_put.step at hz
   have HR := Aside0.mk hr
   clear hq hr HP
   by_cases q0 : ps[i].1 = 0
   ·simp only [if_pos q0] at hcw hz
    by_cases hl : ys.length < 1000000000000
    ·rw [if_pos hl] at hz
     obtain rfl := Option.some.inj hz
     have HL := Aside0.mk hl
     clear hl hz
     go_wp2_with (first | (go_at_call 19; (with_reducible refine (ship_out_byte.calls ps[i].2 ys g w0 _ HB.out H0.out HL.out).mono ?_); rintro e w2 ⟨rfl, hh, hb, hs⟩))
     go_roundw
     case rel => exact ⟨i + 1, _, by omega, by go_num, HR, ⟨hh⟩, ⟨hb⟩, ⟨ship_out_byte.stays_t HS.out hs⟩⟩
     case measure => simp [intOf]; omega
    ·rw [if_neg hl] at hz; cases hz
   ·simp only [if_neg q0] at hcw hz
    by_cases q1 : ps[i].1 = 1
    ·simp only [if_pos q1] at hcw hz
     obtain ⟨⟨r1, r2⟩, e1, e2⟩ := Option.bind_eq_some_iff.mp hz
     by_cases hl : ys.length + r1.length < 1000000000000
     ·simp only [if_pos hl] at e2
      obtain rfl := Option.some.inj e2
      have HL := Aside0.mk hl
      have HE := Aside0.mk e1
      clear hl hz e1 e2
      go_wp2_with (first | (go_at_call 20; (with_reducible refine (ship_out_fix.calls k ps[i].2 ys r1 r2 g w0 _ HB.out H0.out HE.out HL.out).mono ?_); rintro e w2 ⟨rfl, hh, hb, hs⟩))
      go_roundw
      case rel => exact ⟨i + 1, _, by omega, by go_num, HR, ⟨hh⟩, ⟨hb⟩, ⟨ship_out_byte.stays_t HS.out hs⟩⟩
      case measure => simp [intOf]; omega
     ·simp only [if_neg hl] at e2; cases e2
    ·simp only [if_neg q1] at hcw hz
     obtain ⟨⟨r1, r2⟩, e1, e2⟩ := Option.bind_eq_some_iff.mp hz
     obtain rfl := Option.some.inj e2
     have HE := Aside0.mk e1
     clear hz e1 e2
     go_wp2_with (first | (go_at_call 21; (with_reducible refine (ship_out_two.calls k ps[i].2 ys r1 r2 g w0 _ HB.out H0.out HE.out).mono ?_); rintro e w2 ⟨rfl, hh, hb, hs⟩))
     go_roundw
     case rel => exact ⟨i + 1, _, by omega, by go_num, HR, ⟨hh⟩, ⟨hb⟩, ⟨ship_out_byte.stays_t HS.out hs⟩⟩
     case measure => simp [intOf]; omega
  ·obtain rfl : i = ps.length := by omega
   have hge : decide ((ps.length : Int) < (ps.length : Int)) = false := decide_eq_false (by omega)
   have hq := HP.out
   rw [List.drop_length, ship_out_put.f] at hq
   obtain rfl := Option.some.inj hq
   have HS2 := Aside0.mk HS.out
   go_wp2
   go_end0
   exact ⟨rfl, H0.out, HB.out, HS.out⟩

/-! ### ship_Write: function 9 -/
-- by hand
instance : Inhabited S41 := ⟨⟨0, 0, 0, 0, []⟩⟩
instance : Inhabited S43 := ⟨⟨0, 0⟩⟩
def ship_Write.head (r : S41) : List (Nat × Int) := [(0, wrap64 (r.f0 + 8)), (0, r.f1), (1, r.f2), (1, r.f3), (2, (r.f4.length : Int))]
def ship_Write.item (p : S43) : List (Nat × Int) := [(0, p.f0), (1, p.f1)]
def ship_Write.items (k : Nat) : List S43 → List Int → Option (List Int)
 | [], xs => some xs
 | p :: l, xs => (ship_out_put.f k (ship_Write.item p) xs).bind fun ys => ship_Write.items k l ys
def ship_Write.rows (k : Nat) : List S41 → List Int → Option (List Int)
 | [], xs => some xs
 | r :: l, xs => (ship_out_put.f k (ship_Write.head r) xs).bind fun ys => (ship_Write.items k r.f4 ys).bind fun zs => ship_Write.rows k l zs
def ship_Write.f (k : Nat) (l0 : List S41) : Option (List Int × Int) :=
 (ship_Check.f l0).bind fun b => if b = true then (ship_Write.rows k l0 ([67, 79] ++ [(l0.length : Int) % 256])).bind fun o => some (o, 0) else some ([], 230)
theorem ship_Write.mono_items (k : Nat) (l : List S43) : ∀ xs, LeO (ship_Write.items k l xs) (ship_Write.items (k + 1) l xs) := by
 induction l with
 | nil => intro xs; exact LeO.refl _
 | cons p l ih => intro xs; exact LeO.bind (ship_out_put.mono _ _ _) (fun ys => ih ys)
theorem ship_Write.mono_rows (k : Nat) (l : List S41) : ∀ xs, LeO (ship_Write.rows k l xs) (ship_Write.rows (k + 1) l xs) := by
 induction l with
 | nil => intro xs; exact LeO.refl _
 | cons p l ih => intro xs; exact LeO.bind (ship_out_put.mono _ _ _) (fun ys => LeO.bind (ship_Write.mono_items _ _ _) (fun zs => ih zs))
theorem ship_Write.mono : ∀ l0 k, LeO (ship_Write.f k l0) (ship_Write.f (k + 1) l0) := by
 intro l0 k
 unfold ship_Write.f
 exact LeO.bind (LeO.refl _) (fun _ => LeO.ite (LeO.bind (ship_Write.mono_rows _ _ _) (fun _ => LeO.refl _)) (LeO.refl _))
theorem ship_Write.apart {w : World} {a b g : Nat} {c1 c2 c3 : Array Value} (h1 : w.heap[a]? = some (.cells c1 44 (0, 0))) (h2 : w.heap[b]? = some (.cells c2 44 (0, 0))) (h3 : w.heap[g]? = some (.cells c3 50 (0, 0))) : a ≠ g ∧ b ≠ g := by
 constructor
 ·intro e; subst e; rw [h1] at h3; simp at h3
 ·intro e; subst e; rw [h2] at h3; simp at h3
set_option maxHeartbeats 4000000 in
set_option maxRecDepth 100000 in
theorem ship_Write.calls (k : Nat) (A0 : Option Addr) (c0 : Nat) (l0 : List S41) (r1 : List Int) (r2 : Int) (w : World) (hr0 : Kd.C k41 w A0 l0.length l0) (hc0 : l0.length ≤ c0) (h : ship_Write.f k l0 = some (r1, r2)) :
  Calls Try.prog 9 #[.slice A0 l0.length c0] w fun e w' => ∃ v0_ : Value, e = .returned (.tuple #[v0_, .int .i64 r2]) ∧ Kd.R (Kd.int .u8) 5 w' w.heap.size (fun _ => True) v0_ r1 ∧ Below w.heap.size w w' := by
 obtain ⟨b, hb, h⟩ := Option.bind_eq_some_iff.mp h
 have HR := Aside0.mk hr0
 have HB := Aside0.mk (Below.refl w.heap.size w)
 have HK := Aside0.mk (ship_Check.calls A0 c0 l0 b w hr0 hc0 hb)
 have hu := Try.underlying41
 have hu2 := Try.underlying43
 have hu3 := Try.underlying50
 clear hr0 hc0 hb
 cases b with
 | false =>
  rw [if_neg (by decide)] at h
  obtain ⟨rfl, rfl⟩ : [] = r1 ∧ 230 = r2 := by simpa using h
  clear h
  go_enter Try.func9, Try.ntmps9
  go_wp2_with (first | (go_at_call 13; (with_reducible refine HK.out.mono ?_); rintro e w1 ⟨rfl, hb⟩; have HB1 := Aside0.mk hb; clear hb))
  go_ret2
  exact ⟨_, rfl, Kd.R_nil _ _ _ _ _, HB1.out⟩
 | true =>
  rw [if_pos rfl] at h
  obtain ⟨o, ho, h⟩ := Option.bind_eq_some_iff.mp h
  obtain ⟨rfl, rfl⟩ : o = r1 ∧ 0 = r2 := by simpa using h
  have HH := Aside0.mk ho
  clear h ho
  have hm0 := HR.out.2.1
  go_enter Try.func9, Try.ntmps9
  go_wp2_with (first | (go_at_call 13; (with_reducible refine HK.out.mono ?_); rintro e w1 ⟨rfl, hb⟩; have HB1 := Aside0.mk hb; clear hb HB; have HB := HB1; clear HB1) | (go_at_call 22; (with_reducible refine (ship_mark.calls _).mono ?_); rintro e w2 ⟨Am, rfl, hC, hb⟩; have hb1 := below_step (w := w1.alloc (.cells #[.func (.func 19) #[] #[], .func (.func 19) #[] #[], .func (.func 20) #[] #[], .func (.func 20) #[] #[], .func (.func 21) #[] #[]] 44)) (below_alloc (Below.refl _ _) _) hb; have BH := Aside0.mk (blk_below (World.alloc_heap_new w1 (.cells #[.func (.func 19) #[] #[], .func (.func 19) #[] #[], .func (.func 20) #[] #[], .func (.func 20) #[] #[], .func (.func 21) #[] #[]] 44)) hb1); have bi_ := blk_below (World.alloc_heap_new (w1.alloc (.cells #[.func (.func 19) #[] #[], .func (.func 19) #[] #[], .func (.func 20) #[] #[], .func (.func 20) #[] #[], .func (.func 21) #[] #[]] 44)) (.cells #[.func (.func 19) #[] #[], .func (.func 20) #[] #[]] 44)) hb; rw [World.size_alloc] at bi_; have BI := Aside0.mk bi_; have HC := Aside0.mk hC; have n0_ := Aside0.mk (below_step HB.out (below_step (below_alloc (Below.refl _ w1) _) hb1)); clear HB hC hb hb1 bi_; have HB := n0_; clear n0_) | ((with_reducible refine gate_dst (N := 18) rfl ?_); refine box_event ?hg (N := 18) ?hd (cs := #[.slice Am 2 2]) (t := 50) ?hr ?_; (case hd => rfl); (case hg => rfl); (case hr => first | (go_simp; done) | (go_simp; rfl)); intro g hg w3 hbox hb; have z1_ := Aside0.mk (blk_below BH.out hb); have z2_ := Aside0.mk (blk_below BI.out hb); have z3_ := Aside0.mk (Kd.C_below HC.out hb); clear BH BI HC; have BH := z1_; have BI := z2_; have HC := z3_; clear z1_ z2_ z3_; have GEg := Aside0.mk (show w.heap.size ≤ g from hg ▸ below_size (by repeat (first | (with_reducible first | exact HB.out | apply below_alloc | apply pw_below_drewN | apply below_drew1) | exact HB.out))); have n0_ := Aside0.mk (below_step (by repeat (first | (with_reducible first | exact HB.out | apply below_alloc | apply pw_below_drewN | apply below_drew1) | exact HB.out)) hb); have BKg := Aside0.mk hbox; have hxg := blk_cell hbox; have hyg := blk_frozen hbox; clear HB; have HB := n0_; clear n0_ hb hbox hg) | (go_at_call 19; have hq0 := ship_out_byte.calls0 (l0.length : Int) Am [67, 79] g w w3 HB.out BKg.out GEg.out HC.out (by decide) (by decide); (with_reducible refine hq0.mono ?_); clear hq0; rintro e w4 ⟨rfl, hh, hb, hs⟩; have hng : w1.heap.size ≠ g ∧ w1.heap.size + 1 ≠ g := ship_Write.apart BH.out BI.out BKg.out; have z1_ := Aside0.mk (hs _ _ BH.out hng.1 (fun _ e => by cases e)); have z2_ := Aside0.mk (hs _ _ BI.out hng.2 (fun _ e => by cases e)); clear BH BI HB BKg hxg hyg hs; have BH := z1_; have BI := z2_; have HB := Aside0.mk hb; have H0 := Aside0.mk hh; have HNG := Aside0.mk hng; clear z1_ z2_ hb hh hng))
  have HD : (w1.heap.size ≠ g ∧ w1.heap.size + 1 ≠ g) := HNG.out
  obtain ⟨bh, hbh⟩ : ∃ bh, bh = w1.heap.size := ⟨_, rfl⟩
  obtain ⟨bi, hbi⟩ : ∃ bi, bi = w1.heap.size + 1 := ⟨_, rfl⟩
  rw [← hbi] at BI HD
  rw [← hbh] at BH HD
  simp only [← hbi]
  simp only [← hbh]
  have HNB := Aside0.mk HD
  clear HD HNG hbh hbi
  go_loopw [25] (fun v25 wr => ∃ (i : Nat) (xs : List Int), i ≤ l0.length ∧ v25 = .int .i64 i ∧ Aside0 (ship_Write.rows k (l0.drop i) xs = some o) ∧ Aside0 (ship_out_byte.Holds wr w.heap.size g xs) ∧ Aside0 (Below w.heap.size w wr) ∧ Aside0 (wr.heap[bh]? = some (.cells (((ship_Write.head default).map ship_out_put.way).toArray) 44 (0, 0))) ∧ Aside0 (wr.heap[bi]? = some (.cells (((ship_Write.item default).map ship_out_put.way).toArray) 44 (0, 0)))) (fun v25 _ => l0.length - (intOf v25).toNat)
  case atStart => exact ⟨0, _, Nat.zero_le _, rfl, HH, H0, HB, BH, BI⟩
  case round =>
   clear HB H0 BH BI HH
   obtain ⟨i, xs, hi, rfl, HA, H0, HB, BH, BI⟩ := hrel
   by_cases hlt : i < l0.length
   ·have hltz : (i : Int) < (l0.length : Int) := by omega
    obtain ⟨ad, cc, rfl, hcl, hK, hcc⟩ := C_elem HR.out i hlt
    obtain ⟨x, hx⟩ : ∃ x, x = l0[i] := ⟨_, rfl⟩
    rw [← hx] at hK
    obtain ⟨A4, c4, rfl, l4, g4⟩ := k41_open hK
    have hcell0 : w.cell? (ad.add (i * 5)) = some (.int .i64 x.f0) := hcc 0 _ rfl
    have hcell1 : w.cell? ⟨(ad.add (i * 5)).block, (ad.add (i * 5)).off + 1, none⟩ = some (.int .i64 x.f1) := cell_add1 (by decide) (hcc 1 _ rfl)
    have hcell2 : w.cell? ⟨(ad.add (i * 5)).block, (ad.add (i * 5)).off + 2, none⟩ = some (.int .i64 x.f2) := cell_add1 (by decide) (hcc 2 _ rfl)
    have hcell3 : w.cell? ⟨(ad.add (i * 5)).block, (ad.add (i * 5)).off + 3, none⟩ = some (.int .i64 x.f3) := cell_add1 (by decide) (hcc 3 _ rfl)
    have hcell4 : w.cell? ⟨(ad.add (i * 5)).block, (ad.add (i * 5)).off + 4, none⟩ = some (.slice A4 x.f4.length c4) := cell_add1 (by decide) (hcc 4 _ rfl)
    replace hcell0 := (HB.out.cell (World.block_lt_of_cell? w _ hcell0)).trans hcell0
    replace hcell1 := (HB.out.cell (World.block_lt_of_cell? w _ hcell1)).trans hcell1
    replace hcell2 := (HB.out.cell (World.block_lt_of_cell? w _ hcell2)).trans hcell2
    replace hcell3 := (HB.out.cell (World.block_lt_of_cell? w _ hcell3)).trans hcell3
    replace hcell4 := (HB.out.cell (World.block_lt_of_cell? w _ hcell4)).trans hcell4
    have hq := HA.out
    rw [List.drop_eq_getElem_cons hlt, ← hx, ship_Write.rows] at hq
    obtain ⟨ys, hy, hq⟩ := Option.bind_eq_some_iff.mp hq
    obtain ⟨zs, hz, hq⟩ := Option.bind_eq_some_iff.mp hq
    have HY := Aside0.mk hy
    have HZ := Aside0.mk hz
    have HA2 := Aside0.mk hq
    have HI4 := Aside0.mk g4
    have hm4 := g4.2.1
    clear hcl hK hcc hx l4 g4 hy hz hq HA
    go_wp2_with (first | ((with_reducible refine gate_dst (N := 8) rfl ?_); refine box_event ?hg (N := 8) ?hd (cs := #[.int .i64 0, .int .i64 0, .int .i64 0, .int .i64 0, .slice none 0 0]) (t := 41) ?hr ?_; (case hd => rfl); (case hg => rfl); (case hr => first | (go_simp; done) | (go_simp; rfl)); intro ga hg wa hbox hb; have z1_ := Aside0.mk (ship_out_byte.holds_below H0.out hb); have z2_ := Aside0.mk (blk_below BH.out hb); have z3_ := Aside0.mk (blk_below BI.out hb); clear H0 BH BI; have H0 := z1_; have BH := z2_; have BI := z3_; clear z1_ z2_ z3_; have GEga := Aside0.mk (show w.heap.size ≤ ga from hg ▸ below_size (by repeat (first | (with_reducible first | exact HB.out | apply below_alloc | apply pw_below_drewN | apply below_drew1) | exact HB.out))); have n0_ := Aside0.mk (below_step (by repeat (first | (with_reducible first | exact HB.out | apply below_alloc | apply pw_below_drewN | apply below_drew1) | exact HB.out)) hb); have BKga := Aside0.mk hbox; have hxga := blk_cell hbox; have hyga := blk_frozen hbox; clear HB; have HB := n0_; clear n0_ hb hbox hg) | ((with_reducible refine gate_store (t := 41) rfl ?_); refine store_row_event (base := w.heap.size) rfl rfl 41 _ _ rfl (g := ga) (by rfl) (by rfl) BKga.out (by kernel_rfl) (by rfl) (by rfl) GEga.out ?_; intro ws_ hs_ hk_ hb_; have z1_ := Aside0.mk (ship_out_byte.holds_other H0.out BKga.out (by decide) (by decide) hk_); have z2_ := Aside0.mk ((hk_ bh (ship_out_byte.ne_of BH.out BKga.out (by decide))).trans BH.out); have z3_ := Aside0.mk ((hk_ bi (ship_out_byte.ne_of BI.out BKga.out (by decide))).trans BI.out); clear H0 BH BI; have H0 := z1_; have BH := z2_; have BI := z3_; clear z1_ z2_ z3_; have n0_ := Aside0.mk (HB.out.trans hb_); clear HB; have HB := n0_; clear n0_; clear BKga hxga hyga; have BKga := Aside0.mk hs_; have hxga := blk_cell BKga.out; have hyga := blk_frozen BKga.out; clear hs_ hk_ hb_) | (go_at_call 23; have hal_ : Below ws_.heap.size ws_ (ws_.alloc (.cells #[.int .i64 (wrap64 (x.f0 + 8)), .int .i64 x.f1, .int .i64 x.f2, .int .i64 x.f3, .int .i64 (x.f4.length : Int)] 3)) := (below_alloc (Below.refl ws_.heap.size ws_) (.cells #[.int .i64 (wrap64 (x.f0 + 8)), .int .i64 x.f1, .int .i64 x.f2, .int .i64 x.f3, .int .i64 (x.f4.length : Int)] 3)); have hq0 : Calls Try.prog 23 #[.pointer (some ⟨g, 0, none⟩), .slice (some ⟨bh, 0, none⟩) 5 5, .slice (some ⟨ws_.heap.size, 0, none⟩) 5 5] (ws_.alloc (.cells #[.int .i64 (wrap64 (x.f0 + 8)), .int .i64 x.f1, .int .i64 x.f2, .int .i64 x.f3, .int .i64 (x.f4.length : Int)] 3)) _ := ship_out_put.calls k (ship_Write.head x) xs ys g bh ws_.heap.size w _ (below_alloc HB.out _) (ship_out_byte.holds_below H0.out hal_) (blk_below BH.out hal_) (World.alloc_heap_new ws_ _) (show (5 : Nat) < 1000 by decide) HY.out; (with_reducible refine hq0.mono ?_); clear hq0; rintro e w5 ⟨rfl, hh, hb, hs⟩; have z1_ := Aside0.mk (hs _ _ (blk_below BH.out hal_) HNB.out.1 (fun _ e => by cases e)); have z2_ := Aside0.mk (hs _ _ (blk_below BI.out hal_) HNB.out.2 (fun _ e => by cases e)); have z3_ := Aside0.mk (hs _ _ (blk_below BKga.out hal_) (by obtain ⟨_, e1, _, _⟩ := H0.out; exact ship_out_byte.ne_of BKga.out e1 (by decide)) (fun _ e => by cases e)); clear BH BI H0 HB BKga hxga hyga hal_ hs; have BH := z1_; have BI := z2_; have BKga := z3_; have hxga := blk_cell z3_.out; have H0 := Aside0.mk hh; have HB := Aside0.mk hb; clear z1_ z2_ z3_ hh hb))
    clear hcell0 hcell1 hcell2 hcell3 hcell4 BKga hxga
    go_loopw [48] (fun v48 wr2 => ∃ (j : Nat) (ys' : List Int), j ≤ x.f4.length ∧ v48 = .int .i64 j ∧ Aside0 (ship_Write.items k (x.f4.drop j) ys' = some zs) ∧ Aside0 (ship_out_byte.Holds wr2 w.heap.size g ys') ∧ Aside0 (Below w.heap.size w wr2) ∧ Aside0 (wr2.heap[bh]? = some (.cells (((ship_Write.head default).map ship_out_put.way).toArray) 44 (0, 0))) ∧ Aside0 (wr2.heap[bi]? = some (.cells (((ship_Write.item default).map ship_out_put.way).toArray) 44 (0, 0)))) (fun v48 _ => x.f4.length - (intOf v48).toNat)
    case atStart => exact ⟨0, ys, Nat.zero_le _, rfl, HZ, H0, HB, BH, BI⟩
    case round =>
     clear HB H0 BH BI HZ HY
     obtain ⟨j, ys', hj, rfl, HZ, H0, HB, BH, BI⟩ := hrel
     by_cases hlt2 : j < x.f4.length
     ·have hltz2 : (j : Int) < (x.f4.length : Int) := by omega
      obtain ⟨ad4, cc4, rfl, hcl4, hK4, hcc4⟩ := C_elem HI4.out j hlt2
      obtain ⟨y, hyy⟩ : ∃ y, y = x.f4[j] := ⟨_, rfl⟩
      rw [← hyy] at hK4
      obtain rfl := k43_open hK4
      have hcell0 : w.cell? (ad4.add (j * 2)) = some (.int .i64 y.f0) := hcc4 0 _ rfl
      have hcell1 : w.cell? ⟨(ad4.add (j * 2)).block, (ad4.add (j * 2)).off + 1, none⟩ = some (.int .i64 y.f1) := cell_add1 (by decide) (hcc4 1 _ rfl)
      replace hcell0 := (HB.out.cell (World.block_lt_of_cell? w _ hcell0)).trans hcell0
      replace hcell1 := (HB.out.cell (World.block_lt_of_cell? w _ hcell1)).trans hcell1
      have hq := HZ.out
      rw [List.drop_eq_getElem_cons hlt2, ← hyy, ship_Write.items] at hq
      obtain ⟨us, hu1, hq⟩ := Option.bind_eq_some_iff.mp hq
      have HU := Aside0.mk hu1
      have HZ2 := Aside0.mk hq
      clear hcl4 hK4 hcc4 hyy hu1 hq HZ
      go_wp2_with (first | ((with_reducible refine gate_dst (N := 10) rfl ?_); refine box_event ?hg (N := 10) ?hd (cs := #[.int .i64 0, .int .i64 0]) (t := 43) ?hr ?_; (case hd => rfl); (case hg => rfl); (case hr => first | (go_simp; done) | (go_simp; rfl)); intro gc hg wc hbox hb; have z1_ := Aside0.mk (ship_out_byte.holds_below H0.out hb); have z2_ := Aside0.mk (blk_below BH.out hb); have z3_ := Aside0.mk (blk_below BI.out hb); clear H0 BH BI; have H0 := z1_; have BH := z2_; have BI := z3_; clear z1_ z2_ z3_; have GEgc := Aside0.mk (show w.heap.size ≤ gc from hg ▸ below_size (by repeat (first | (with_reducible first | exact HB.out | apply below_alloc | apply pw_below_drewN | apply below_drew1) | exact HB.out))); have n0_ := Aside0.mk (below_step (by repeat (first | (with_reducible first | exact HB.out | apply below_alloc | apply pw_below_drewN | apply below_drew1) | exact HB.out)) hb); have BKgc := Aside0.mk hbox; have hxgc := blk_cell hbox; have hygc := blk_frozen hbox; clear HB; have HB := n0_; clear n0_ hb hbox hg) | ((with_reducible refine gate_store (t := 43) rfl ?_); refine store_row_event (base := w.heap.size) rfl rfl 43 _ _ rfl (g := gc) (by rfl) (by rfl) BKgc.out (by kernel_rfl) (by rfl) (by rfl) GEgc.out ?_; intro ws_ hs_ hk_ hb_; have z1_ := Aside0.mk (ship_out_byte.holds_other H0.out BKgc.out (by decide) (by decide) hk_); have z2_ := Aside0.mk ((hk_ bh (ship_out_byte.ne_of BH.out BKgc.out (by decide))).trans BH.out); have z3_ := Aside0.mk ((hk_ bi (ship_out_byte.ne_of BI.out BKgc.out (by decide))).trans BI.out); clear H0 BH BI; have H0 := z1_; have BH := z2_; have BI := z3_; clear z1_ z2_ z3_; have n0_ := Aside0.mk (HB.out.trans hb_); clear HB; have HB := n0_; clear n0_; clear BKgc hxgc hygc; have BKgc := Aside0.mk hs_; have hxgc := blk_cell BKgc.out; have hygc := blk_frozen BKgc.out; clear hs_ hk_ hb_) | (go_at_call 23; have hal_ : Below ws_.heap.size ws_ (ws_.alloc (.cells #[.int .i64 y.f0, .int .i64 y.f1] 3)) := (below_alloc (Below.refl ws_.heap.size ws_) (.cells #[.int .i64 y.f0, .int .i64 y.f1] 3)); have hq0 : Calls Try.prog 23 #[.pointer (some ⟨g, 0, none⟩), .slice (some ⟨bi, 0, none⟩) 2 2, .slice (some ⟨ws_.heap.size, 0, none⟩) 2 2] (ws_.alloc (.cells #[.int .i64 y.f0, .int .i64 y.f1] 3)) _ := ship_out_put.calls k (ship_Write.item y) ys' us g bi ws_.heap.size w _ (below_alloc HB.out _) (ship_out_byte.holds_below H0.out hal_) (blk_below BI.out hal_) (World.alloc_heap_new ws_ _) (show (2 : Nat) < 1000 by decide) HU.out; (with_reducible refine hq0.mono ?_); clear hq0; rintro e w6 ⟨rfl, hh, hb, hs⟩; have z1_ := Aside0.mk (hs _ _ (blk_below BH.out hal_) HNB.out.1 (fun _ e => by cases e)); have z2_ := Aside0.mk (hs _ _ (blk_below BI.out hal_) HNB.out.2 (fun _ e => by cases e)); clear BH BI H0 HB BKgc hxgc hygc hal_ hs; have BH := z1_; have BI := z2_; have H0 := Aside0.mk hh; have HB := Aside0.mk hb; clear z1_ z2_ hh hb))
      go_roundw
      case rel => exact ⟨j + 1, us, by omega, by go_num, HZ2, H0, HB, BH, BI⟩
      case measure => simp [intOf]; omega
     ·obtain rfl : j = x.f4.length := by omega
      have hge : decide ((x.f4.length : Int) < (x.f4.length : Int)) = false := decide_eq_false (by omega)
      have hq := HZ.out
      rw [List.drop_length, ship_Write.items] at hq
      obtain rfl := Option.some.inj hq
      clear hq HZ
      go_wp2
      go_roundw
      case rel => exact ⟨i + 1, _, by omega, by go_num, HA2, H0, HB, BH, BI⟩
      case measure => simp [intOf]; omega
   ·obtain rfl : i = l0.length := by omega
    have hge : decide ((l0.length : Int) < (l0.length : Int)) = false := decide_eq_false (by omega)
    have hq := HA.out
    rw [List.drop_length, ship_Write.rows] at hq
    obtain rfl := Option.some.inj hq
    obtain ⟨v, e1, e2, e3⟩ := H0.out
    obtain ⟨Av, cv, ev⟩ := Kd.R_slice e3
    subst ev
    have HR3 := Aside0.mk e3
    have hxo := blk_cell e1 0
    clear hq HA e1 e2 e3
    go_wp2
    go_ret2
    exact ⟨_, rfl, HR3.out, HB.out⟩


end Go.Proofs.Ytihiiidbhhlfnaa.G
