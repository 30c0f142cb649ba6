-- printed by this session's own copy of a printing program, out of the translation
import Derived.Test.YthdahpnjiighfaaF0
import Derived.Test.YthdahpnjiighfaaF8
import Derived.Test.YthdahpnjiighfaaEPlain
namespace Go.Proofs.Ythdahpnjiighfaa.F
open Go.RowKit Go.Proofs.YthdahpnjiighfaaW.PrintWords Go.Proofs.YthdahpnjiighfaaW.PrintLast Go.Proofs.YthdahpnjiighfaaW.PrintMore
attribute [local go_sem] max2_int min2_int max_two min_two max_three min_three max_four min_four   -- for this text's walks alone
set_option linter.unusedVariables false
set_option linter.unusedSimpArgs false

/-! ### segment_read: function 30 -/
mutual
def segment_read.l0 : Nat → List ByteArray → Int → Int → ByteArray → List (List ByteArray) → Option (ByteArray × (List (List ByteArray)))
  | 0, _, _, _, _, _ => none
  | k + 1, x18, x19, x20, x164000, x164001 => if x20 < x19 then (if 0 ≤ x20 then (if x20 < (x18.length : Int) then (if (rdOf ByteArray.empty x18 x20).toList = ([] : List UInt8) then (if x164001.length < 5864062014805 then (segment_read.l0 k x18 x19 (wrap64 (x20 + 1)) x164000 (x164001 ++ [([] : List ByteArray)])) else (none)) else ((segment_split.f k (rdOf ByteArray.empty x18 x20) 58).bind fun t171 => (segment_read.l1 k ([] : List ByteArray) x18 x19 x20 t171 (t171.length : Int) 0 x164000 x164001))) else (none)) else (none)) else (some (x164000, x164001))
def segment_read.l1 : Nat → List ByteArray → List ByteArray → Int → Int → List ByteArray → Int → Int → ByteArray → List (List ByteArray) → Option (ByteArray × (List (List ByteArray)))
  | 0, _, _, _, _, _, _, _, _, _ => none
  | k + 1, x7, x18, x19, x20, x27, x28, x29, x164000, x164001 => if x29 < x28 then (if 0 ≤ x29 then (if x29 < (x27.length : Int) then ((segment_plain.f (rdOf ByteArray.empty x27 x29)).bind fun t175 => (if x7.length < 8796093022208 then (segment_read.l1 k (x7 ++ [t175]) x18 x19 x20 x27 x28 (wrap64 (x29 + 1)) x164000 x164001) else (none))) else (none)) else (none)) else (if x164001.length < 5864062014805 then (segment_read.l0 k x18 x19 (wrap64 (x20 + 1)) x164000 (x164001 ++ [x7])) else (none))
end
def segment_read.f (k : Nat) (l0 : List Int) : Option (ByteArray × (List (List ByteArray))) := (segment_split.f k (strOfNums l0) 43).bind fun t159 => (if 0 < (t159.length : Int) then (if 1 ≤ (t159.length : Int) then ((some (t159.drop (1 : Int).toNat : List ByteArray)).bind fun y164 => (segment_read.l0 k y164 (y164.length : Int) 0 (rdOf ByteArray.empty t159 0) ([] : List (List ByteArray)))) else (none)) else (none))
theorem segment_read.mono_l : ∀ k, (∀ y0 y1 y2 y3 y4, LeO (segment_read.l0 k y0 y1 y2 y3 y4) (segment_read.l0 (k + 1) y0 y1 y2 y3 y4)) ∧ (∀ y0 y1 y2 y3 y4 y5 y6 y7 y8, LeO (segment_read.l1 k y0 y1 y2 y3 y4 y5 y6 y7 y8) (segment_read.l1 (k + 1) y0 y1 y2 y3 y4 y5 y6 y7 y8))
  | 0 => ⟨fun _ _ _ _ _ r h => by simp [segment_read.l0] at h, fun _ _ _ _ _ _ _ _ _ r h => by simp [segment_read.l1] at h⟩
  | k + 1 => by
    obtain ⟨ih0, ih1⟩ := segment_read.mono_l k
    refine ⟨?_, ?_⟩
    · intro y0 y1 y2 y3 y4
      unfold segment_read.l0
      repeat' first
      | (with_reducible exact ih0 _ _ _ _ _)
      | (with_reducible exact ih1 _ _ _ _ _ _ _ _ _)
      | (with_reducible exact segment_split.mono _ _ _)
      | (with_reducible exact LeO.refl _)
      | (with_reducible exact LeO.none _)
      | (with_reducible refine LeO.ite ?_ ?_)
      | (with_reducible refine LeO.bind ?_ (fun _ => ?_))
      | exact ih0 _ _ _ _ _
      | exact ih1 _ _ _ _ _ _ _ _ _
      | exact segment_split.mono _ _ _
      | exact LeO.none _
      | refine LeO.ite ?_ ?_
      | refine LeO.bind ?_ (fun _ => ?_)
    · intro y0 y1 y2 y3 y4 y5 y6 y7 y8
      unfold segment_read.l1
      repeat' first
      | (with_reducible exact ih0 _ _ _ _ _)
      | (with_reducible exact ih1 _ _ _ _ _ _ _ _ _)
      | (with_reducible exact segment_split.mono _ _ _)
      | (with_reducible exact LeO.refl _)
      | (with_reducible exact LeO.none _)
      | (with_reducible refine LeO.ite ?_ ?_)
      | (with_reducible refine LeO.bind ?_ (fun _ => ?_))
      | exact ih0 _ _ _ _ _
      | exact ih1 _ _ _ _ _ _ _ _ _
      | exact segment_split.mono _ _ _
      | exact LeO.none _
      | refine LeO.ite ?_ ?_
      | refine LeO.bind ?_ (fun _ => ?_)
theorem segment_read.mono : ∀ a0 k, LeO (segment_read.f k a0) (segment_read.f (k + 1) a0) := by
  intro a0 k
  obtain ⟨ih0, ih1⟩ := segment_read.mono_l k
  unfold segment_read.f
  repeat' first
      | (with_reducible exact ih0 _ _ _ _ _)
      | (with_reducible exact ih1 _ _ _ _ _ _ _ _ _)
      | (with_reducible exact segment_split.mono _ _ _)
      | (with_reducible exact LeO.refl _)
      | (with_reducible exact LeO.none _)
      | (with_reducible refine LeO.ite ?_ ?_)
      | (with_reducible refine LeO.bind ?_ (fun _ => ?_))
      | exact ih0 _ _ _ _ _
      | exact ih1 _ _ _ _ _ _ _ _ _
      | exact segment_split.mono _ _ _
      | exact LeO.none _
      | refine LeO.ite ?_ ?_
      | refine LeO.bind ?_ (fun _ => ?_)
set_option maxHeartbeats 8000000 in
set_option maxRecDepth 100000 in
theorem segment_read.calls (k : Nat) (A0 : Option Addr) (c0 : Nat) (l0 : List Int) (r1 : ByteArray) (r2 : List (List ByteArray)) (w : World) (hr0 : Kd.C (Kd.int .u8) w A0 l0.length l0) (hc0 : l0.length ≤ c0) (h : segment_read.f k l0 = some (r1, r2)) :
    Calls Try.prog 30 #[.slice A0 l0.length c0] w fun e w' => ∃ v1_ : Value, e = .returned (.agg #[.string r1, v1_]) ∧ Kd.S (Kd.slice 9 Kd.string) 48 w' w.heap.size (fun _ => True) v1_ r2 ∧ Below w.heap.size w w' := by
  have hu24 := Try.underlying24
  have HR0 := Aside0.mk hr0
  have HC0 := Aside0.mk hc0
  clear hr0 hc0
  have HB := Aside0.mk (Below.refl w.heap.size w)
  have H : ((segment_split.f k (strOfNums l0) 43).bind fun t159 => (if 0 < (t159.length : Int) then (if 1 ≤ (t159.length : Int) then ((some (t159.drop (1 : Int).toNat : List ByteArray)).bind fun y164 => (segment_read.l0 k y164 (y164.length : Int) 0 (rdOf ByteArray.empty t159 0) ([] : List (List ByteArray)))) else (none)) else (none))) = some (r1, r2) := h
  clear h
  replace H := Option.bind_eq_some_iff.mp H
  obtain ⟨t159, A20, H⟩ := H
  replace H : (if 0 < (t159.length : Int) then (if 1 ≤ (t159.length : Int) then ((some (t159.drop (1 : Int).toNat : List ByteArray)).bind fun y164 => (segment_read.l0 k y164 (y164.length : Int) 0 (rdOf ByteArray.empty t159 0) ([] : List (List ByteArray)))) else (none)) else (none)) = some (r1, r2) := H
  have A2 := Aside0.mk A20
  clear A20
  by_cases c3 : 0 < (t159.length : Int)
  · rw [if_pos c3] at H
    have c3b0 : decide (0 < (t159.length : Int)) = true := decide_eq_true c3
    have c3b1 : decide (0 < t159.length) = true := decide_eq_true (by omega)
    clear c3
    by_cases c4 : 1 ≤ (t159.length : Int)
    · rw [if_pos c4] at H
      have c4b0 := eq_true c4
      have c4b1 : decide (1 ≤ (t159.length : Int)) = true := decide_eq_true c4
      clear c4
      obtain ⟨y164, hy164⟩ : ∃ y_ : List ByteArray, y_ = (t159.drop (1 : Int).toNat) := ⟨_, rfl⟩
      replace H : (segment_read.l0 k y164 (y164.length : Int) 0 (rdOf ByteArray.empty t159 0) ([] : List (List ByteArray))) = some (r1, r2) := by first | (rw [hy164]; with_reducible exact H) | (have H2_ := (Option.bind_some _ _).symm.trans H; rw [hy164]; with_reducible exact H2_) | (have H2_ := (Option.bind_some _ _).symm.trans H; with_reducible exact H2_) | with_reducible exact H | (rw [hy164]; exact H) | exact H
      have Ny164 := Aside0.mk hy164
      clear hy164
      have H' := Aside0.mk H
      clear H
      go_enter Try.func30, Try.ntmps30
      go_wp2_with (first | ((with_reducible refine gate_dst (N := 2) rfl ?_); refine box_event ?hg (N := 2) ?hd (cs := #[.string (⟨#[]⟩ : ByteArray), .slice none 0 0]) (t := 24) ?hr ?_; (case hd => rfl); (case hg => rfl); (case hr => first | (go_simp; done) | (go_simp; rfl)); intro gb158 hg w5 hbox hb; have n0_ := Aside0.mk (below_step (by repeat (first | (with_reducible first | exact HB.out | apply below_alloc | apply pw_below_drewN | apply below_drew1) | exact HB.out)) hb); have n1_ := Aside0.mk (hbox); have n2_ := Aside0.mk ((by rw [hg]; exact (below_size (by repeat (first | (with_reducible first | exact HB.out | apply below_alloc | apply pw_below_drewN | apply below_drew1) | exact HB.out))) : w.heap.size ≤ gb158)); have n3_ := Aside0.mk ((by rw [hg]; exact (below_size (by repeat (first | (with_reducible first | exact HB.out | apply below_alloc | apply pw_below_drewN | apply below_drew1) | exact HB.out))) : w.heap.size ≤ gb158)); clear HB; have HB := n0_; have BK158 := n1_; have GW158 := n2_; have GE158 := n3_; clear n0_ n1_ n2_ n3_; clear hb hbox hg; have hcv6 := Kd.C_string (P := Try.prog) (A := A0) (c := c0) Try.underlying32 Try.underlying5 Try.underlying9 (Kd.C_below HR0.out HB.out)) | ((with_reducible refine gate_callee (f := 34) rfl ?_); refine goesL_ (some 12) rfl rfl Try.func34 (by kernel_rfl) rfl #[.string (strOfNums l0), .int .u8 43] rfl (by (try simp only [List.map_toArray, List.map_cons, List.map_nil]); first | done | rfl | (simp only [List.length_drop, List.length_take]; rfl)) ?_; (with_reducible refine (segment_split.calls k (strOfNums l0) 43 t159 _ A2.out).mono ?_); rintro e w7 ⟨v160, rfl, ho0, hb⟩; refine ⟨_, rfl, ?_⟩; have n0_ := Aside0.mk (Kd.R_lower ho0 (below_size (by repeat (first | (with_reducible first | exact HB.out | apply below_alloc | apply pw_below_drewN | apply below_drew1 | refine below_set ?_ GE158.out) | exact HB.out)))); have n1_ := Aside0.mk (blk_below (g := gb158) (o := .cells #[.string (⟨#[]⟩ : ByteArray), .slice none 0 0] 24 (0, 0)) (by (with_reducible repeat (first | refine blk_drewN ?_ _ | refine blk_drew ?_ | refine blk_alloc ?_ _)); exact BK158.out) hb); have n2_ := Aside0.mk (below_step (by repeat (first | (with_reducible first | exact HB.out | apply below_alloc | apply pw_below_drewN | apply below_drew1 | refine below_set ?_ GE158.out) | exact HB.out)) hb); clear BK158; clear HB; have HO161 := n0_; have BK158 := n1_; have HB := n2_; clear n0_ n1_ n2_; (try clear hb); (try clear hb2); (try clear hk); (try clear hi); (try clear ho0); obtain ⟨Ao8, co8, eo8⟩ := Kd.R_slice HO161.out; subst eo8; have p162 : 0 ≤ (0 : Int) := (by omega); have q162 : 0 < (t159.length : Int) := of_decide_eq_true (by first | (with_reducible assumption) | assumption); obtain ⟨ad162, e162, hx162_0⟩ := Kd.at_string (Kd.R_reads' HO161.out).2.2 0 p162 q162; cases e162; have qi162 : (0 < t159.length) = True := eq_true (by omega); (try rw [show ((0 : Int)).toNat = 0 from rfl] at hx162_0); (try rw [Addr.add_zero'] at hx162_0); replace p162 := eq_true p162; replace q162 := eq_true q162) | ((with_reducible refine gate_dst (N := 4) rfl ?_); refine box_event ?hg (N := 4) ?hd (cs := #[.string (⟨#[]⟩ : ByteArray), .slice none 0 0]) (t := 24) ?hr ?_; (case hd => rfl); (case hg => rfl); (case hr => first | (go_simp; done) | (go_simp; rfl)); intro gb163 hg w9 hbox hb; have n0_ := Aside0.mk (Kd.R_below (by (with_reducible repeat (first | apply Kd.R_alloc | apply Kd.R_drewN | apply Kd.R_drew)); exact HO161.out) hb); have n1_ := Aside0.mk (blk_below (g := gb158) (o := .cells #[.string (⟨#[]⟩ : ByteArray), .slice none 0 0] 24 (0, 0)) (by (with_reducible repeat (first | refine blk_drewN ?_ _ | refine blk_drew ?_ | refine blk_alloc ?_ _)); exact BK158.out) hb); have n2_ := Aside0.mk (below_step (by repeat (first | (with_reducible first | exact HB.out | apply below_alloc | apply pw_below_drewN | apply below_drew1 | refine below_set ?_ GE158.out) | exact HB.out)) hb); have n3_ := Aside0.mk (hbox); have n4_ := Aside0.mk ((by rw [hg]; exact (below_size (by repeat (first | (with_reducible first | exact HB.out | apply below_alloc | apply pw_below_drewN | apply below_drew1 | refine below_set ?_ GE158.out) | exact HB.out))) : w.heap.size ≤ gb163)); have n5_ := Aside0.mk ((by rw [hg]; exact (below_size (by repeat (first | (with_reducible first | exact HB.out | apply below_alloc | apply pw_below_drewN | apply below_drew1 | refine below_set ?_ GE158.out) | exact HB.out))) : w.heap.size ≤ gb163)); have n6_ := Aside0.mk ((by rw [hg]; exact Nat.ne_of_lt (blk_lt (g := gb158) (o := .cells #[.string (⟨#[]⟩ : ByteArray), .slice none 0 0] 24 (0, 0)) (by (with_reducible repeat (first | refine blk_drewN ?_ _ | refine blk_drew ?_ | refine blk_alloc ?_ _)); exact BK158.out)) : gb158 ≠ gb163)); have n7_ := Aside0.mk ((by rw [hg]; exact Nat.ne_of_gt (blk_lt (g := gb158) (o := .cells #[.string (⟨#[]⟩ : ByteArray), .slice none 0 0] 24 (0, 0)) (by (with_reducible repeat (first | refine blk_drewN ?_ _ | refine blk_drew ?_ | refine blk_alloc ?_ _)); exact BK158.out)) : gb163 ≠ gb158)); clear HO161; clear BK158; clear HB; have HO161 := n0_; have BK158 := n1_; have HB := n2_; have BK163 := n3_; have GW163 := n4_; have GE163 := n5_; have NB158_163 := n6_; have NB163_158 := n7_; clear n0_ n1_ n2_ n3_ n4_ n5_ n6_ n7_; clear hb hbox hg; have hnb10 := NB163_158.out; have hnc10 := NB158_163.out; have hcz11_0 : w9.cell? ⟨gb163, 0, none⟩ = some (.string (⟨#[]⟩ : ByteArray)) := (blk_cell BK163.out 0).trans rfl; have hcz11_1 : w9.cell? ⟨gb163, 1, none⟩ = some (.slice none 0 0) := (blk_cell BK163.out 1).trans rfl; have hfz11_0 := blk_frozen BK163.out 0; have hfz11_1 := blk_frozen BK163.out 1) | ((with_reducible refine gate_store (t := 24) (p := 4) rfl ?_); refine store_event (t := 24) (p := 4) (v := ?vo_w12) (w1 := ((w9.setCell ⟨gb163, 0, none⟩ (.string (rdOf ByteArray.empty t159 0))).setCell ⟨gb163, 1, none⟩ (.slice none 0 0))) ?hg ?ho ?hn ?hr ?_; (case ho => rfl); (case hg => rfl); (case hn => rfl); (case hr => first | (go_simp; done) | (go_simp; rfl)); intro w12 hw; have n0_ : Aside0 (Kd.R Kd.string 9 w12 w.heap.size (fun _ => True) (.slice (some ad162) t159.length co8) t159) := ⟨(by rw [hw]; exact (by (with_reducible repeat (first | apply Kd.R_alloc | apply Kd.R_drewN | apply Kd.R_drew)); exact Kd.R_mono (Kd.R_far (p := ⟨gb163, 1, none⟩) (Kd.R_far (p := ⟨gb163, 0, none⟩) (Kd.R_types HO161.out BK163.out (by decide)) (fun _ hk => hk.2) (.string (rdOf ByteArray.empty t159 0))) (fun _ hk => hk.2) (.slice none 0 0)) (fun _ hk => trivial)))⟩; have n1_ : Aside0 (w12.heap[gb158]? = some (.cells #[.string (⟨#[]⟩ : ByteArray), .slice none 0 0] 24 (0, 0))) := ⟨(by rw [hw]; exact (by (with_reducible repeat (first | refine blk_drewN ?_ _ | refine blk_drew ?_ | refine blk_alloc ?_ _)); refine blk_far ?_ NB158_163.out _; (with_reducible repeat (first | refine blk_drewN ?_ _ | refine blk_drew ?_ | refine blk_alloc ?_ _)); refine blk_far ?_ NB158_163.out _; (with_reducible repeat (first | refine blk_drewN ?_ _ | refine blk_drew ?_ | refine blk_alloc ?_ _)); exact BK158.out))⟩; have n2_ : Aside0 (w12.heap[gb163]? = some (.cells #[.string (rdOf ByteArray.empty t159 0), .slice none 0 0] 24 (0, 0))) := ⟨(by rw [hw]; exact (by (with_reducible repeat (first | refine blk_drewN ?_ _ | refine blk_drew ?_ | refine blk_alloc ?_ _)); refine blk_put (cs := #[.string (rdOf ByteArray.empty t159 0), .slice none 0 0]) ?_ 1 _ rfl; (with_reducible repeat (first | refine blk_drewN ?_ _ | refine blk_drew ?_ | refine blk_alloc ?_ _)); refine blk_put (cs := #[.string (⟨#[]⟩ : ByteArray), .slice none 0 0]) ?_ 0 _ rfl; (with_reducible repeat (first | refine blk_drewN ?_ _ | refine blk_drew ?_ | refine blk_alloc ?_ _)); exact BK163.out))⟩; have n3_ : Aside0 (Below w.heap.size w w12) := ⟨(by rw [hw]; exact (by repeat (first | (with_reducible first | exact HB.out | apply below_alloc | apply pw_below_drewN | apply below_drew1 | refine below_set ?_ GE158.out | refine below_set ?_ GE163.out) | exact HB.out)))⟩; clear hw; clear HO161; clear BK158; clear BK163; clear HB; have HO161 := n0_; have BK158 := n1_; have BK163 := n2_; have HB := n3_; clear n0_ n1_ n2_ n3_; have q13 : (1 : Int) ≤ ((t159.length : Int) : Int) := of_decide_eq_true (by first | (with_reducible assumption) | assumption); obtain ⟨i013, hi013, _, hsz13, _⟩ := info_parts info9; have hcut13 := cut_from (P := Try.prog) 48 9 .i64 Try.underlying48 hi013 1 hsz13 (some ad162) t159.length co8 1 (by omega) q13; have hr13 := Kd.Q_drop (k := (1 : Int).toNat) (Kd.Q_of_R HO161.out) (by omega); obtain ⟨A13, hA13⟩ : ∃ A1, A1 = (if co8 = (1 : Int).toNat then (some ad162) else ((some ad162) : Option Addr).map (·.add ((1 : Int).toNat * 1))) := ⟨_, rfl⟩; obtain ⟨c13, hc13⟩ : ∃ c1, c1 = co8 - (1 : Int).toNat := ⟨_, rfl⟩; have hy13 : y164.length = t159.length - (1 : Int).toNat := (by rw [Ny164.out, List.length_drop]); rw [← Ny164.out] at hr13; rw [← hy13, ← hA13, ← hc13] at hcut13; replace hr13 : Kd.Q Kd.string 9 w12 w.heap.size (fun _ => True) (.slice A13 y164.length c13) y164 := (by rw [hA13, hc13, hy13]; exact hr13); have HE13 : Aside0 ((Value.slice A13 y164.length c13).ownBlock = (.slice (some ad162) t159.length co8 : Value).ownBlock) := ⟨by rw [hA13]; split <;> (cases ((some ad162) : Option Addr) <;> rfl)⟩; clear hy13 hi013 hsz13 HO161 hA13 hc13; have HO166 := Aside0.mk hr13; clear hr13; replace q13 := eq_true q13))
      go_loopg [20] k (fun kq v20 w' => ∃ (x20_1 : Int) (x164001_1 : List (List ByteArray)) (u164001 : Value), v20 = .int .i64 x20_1 ∧ Aside0 (segment_read.l0 kq y164 (y164.length : Int) x20_1 (rdOf ByteArray.empty t159 0) x164001_1 = some (r1, r2)) ∧ Aside0 (kq ≤ k) ∧ Aside0 (Kd.Q Kd.string 9 w' w.heap.size (fun _ => True) (.slice A13 y164.length c13) y164) ∧ Aside0 (Kd.S (Kd.slice 9 Kd.string) 48 w' w.heap.size (fun k_ => some k_ ≠ ((.slice A13 y164.length c13) : Value).ownBlock) u164001 x164001_1) ∧ Aside0 (w'.heap[gb158]? = some (.cells #[.string (⟨#[]⟩ : ByteArray), (.slice none 0 0)] 24 (0, 0))) ∧ Aside0 (w'.heap[gb163]? = some (.cells #[.string (rdOf ByteArray.empty t159 0), u164001] 24 (0, 0))) ∧ Aside0 (Below w.heap.size w w'))
      case atStart => exact ⟨(0), (([] : List (List ByteArray))), (.slice none 0 0), (by first | rfl | (simp; done) | (simp [*]; done)), H', ⟨Nat.le_refl _⟩, ⟨by (with_reducible repeat (first | apply Kd.Q_alloc | apply Kd.Q_drewN | apply Kd.Q_drew)); exact HO166.out⟩, ⟨by first | exact Kd.S_nil _ _ _ _ _ | exact Kd.N_nil _ _ _ _ _ | exact Kd.V_nil _ _ _ _ _ | exact Kd.Q_nil _ _ _ _ _ | exact Kd.R_nil _ _ _ _ _⟩, ⟨by (with_reducible repeat (first | refine blk_drewN ?_ _ | refine blk_drew ?_ | refine blk_alloc ?_ _)); exact BK158.out⟩, ⟨by (with_reducible repeat (first | refine blk_drewN ?_ _ | refine blk_drew ?_ | refine blk_alloc ?_ _)); exact BK163.out⟩, ⟨by repeat (first | (with_reducible first | exact HB.out | apply below_alloc | apply pw_below_drewN | apply below_drew1 | refine below_set ?_ GE158.out | refine below_set ?_ GE163.out) | exact HB.out)⟩⟩
      case round =>
        clear H'
        try clear c1
        try clear p1
        try clear q1
        try clear hx1
        try clear qi1
        try clear p2
        try clear c3
        try clear c3b0
        try clear c3b1
        try clear c4
        try clear c4b0
        try clear c4b1
        try clear hcv6
        try clear c10
        try clear c13
        try clear q13
        try clear hcz11_0
        try clear hcz11_1
        try clear hfz11_0
        try clear hfz11_1
        try clear hx162_0
        try clear p162
        try clear q13
        try clear q162
        obtain ⟨x20_1, x164001_1, u164001, rfl, HA, HK1, HO_18, HO_164001, BK158, BK163, HB⟩ := hrel
        cases gk with
        | zero => exact absurd HA.out (by simp [segment_read.l0])
        | succ k1 =>
          have H := HA.out
          clear HA
          simp only [segment_read.l0] at H
          by_cases c14 : x20_1 < (y164.length : Int)
          · rw [if_pos c14] at H
            have c14b0 : decide (x20_1 < (y164.length : Int)) = true := decide_eq_true c14
            clear c14
            by_cases c15 : 0 ≤ x20_1
            · rw [if_pos c15] at H
              have c15b0 : decide (0 ≤ x20_1) = true := decide_eq_true c15
              clear c15
              by_cases c16 : x20_1 < (y164.length : Int)
              · rw [if_pos c16] at H
                have c16b0 : decide (x20_1 < (y164.length : Int)) = true := decide_eq_true c16
                clear c16
                by_cases c17 : (rdOf ByteArray.empty y164 x20_1).toList = ([] : List UInt8)
                · rw [if_pos c17] at H
                  have c17b0 : ((rdOf ByteArray.empty y164 x20_1).toList == ([] : List UInt8)) = true := beq_iff_eq.mpr c17
                  have c17b1 : ((rdOf ByteArray.empty y164 x20_1).toList != ([] : List UInt8)) = false := bne_eq_false_iff_eq.mpr c17
                  clear c17
                  by_cases c18 : x164001_1.length < 5864062014805
                  · rw [if_pos c18] at H
                    have LMc18 := Aside0.mk c18
                    clear c18
                    obtain ⟨y168, hy168⟩ : ∃ y_ : List (List ByteArray), y_ = (x164001_1 ++ [([] : List ByteArray)]) := ⟨_, rfl⟩
                    replace H : (segment_read.l0 k1 y164 (y164.length : Int) (wrap64 (x20_1 + 1)) (rdOf ByteArray.empty t159 0) y168) = some (r1, r2) := by first | (rw [hy168]; with_reducible exact H) | (have H2_ := (Option.bind_some _ _).symm.trans H; rw [hy168]; with_reducible exact H2_) | (have H2_ := (Option.bind_some _ _).symm.trans H; with_reducible exact H2_) | with_reducible exact H | (rw [hy168]; exact H) | exact H
                    have Ny168 := Aside0.mk hy168
                    clear hy168
                    have H' := Aside0.mk H
                    clear H
                    have p167 : 0 ≤ (x20_1 : Int) := of_decide_eq_true (by first | (with_reducible assumption) | assumption)
                    have q167 : x20_1 < (y164.length : Int) := of_decide_eq_true (by first | (with_reducible assumption) | assumption)
                    obtain ⟨ad167, e167, hx167_0⟩ := Kd.at_string (Kd.Q_reads' HO_18.out).2.2 x20_1 p167 q167
                    cases e167
                    replace p167 := eq_true p167
                    replace q167 := eq_true q167
                    have hnb19 := NB163_158.out
                    have hnc19 := NB158_163.out
                    have hcz20_0 : wr.cell? ⟨gb163, 0, none⟩ = some (.string (rdOf ByteArray.empty t159 0)) := (blk_cell BK163.out 0).trans rfl
                    have hcz20_1 : wr.cell? ⟨gb163, 1, none⟩ = some (u164001) := (blk_cell BK163.out 1).trans rfl
                    have hfz20_0 := blk_frozen BK163.out 0
                    have hfz20_1 := blk_frozen BK163.out 1
                    go_wp2_with (first | ((with_reducible refine gate_builtin (b := .append) (xs := #[.tmp 40, .tmp 42]) rfl ?_); at_builtin; refine Kd.S_append (Kd.slice 9 Kd.string) (w0 := w) w.heap.size rfl (.tmp 40) (.tmp 42) 22 48 (.slice none 0 0) 24 rfl Try.underlying22 info48 rfl (by decide) (by omega) u164001 x164001_1 ([] : List ByteArray) [.slice none 0 0] (fun k_ => some k_ ≠ (.slice (some ad167) y164.length c13 : Value).ownBlock) (fun _ => False) rfl rfl ?aP (fun k_ hk_ => hk_.elim) ?aF ?aO ?aB ?aS ?aL ?_; (case aP => exact Kd.M_row (Kd.R_nil _ _ _ _ _)); (case aB => exact (by repeat (first | (with_reducible first | exact HB.out | apply below_alloc | apply pw_below_drewN | apply below_drew1 | refine below_set ?_ GE158.out | refine below_set ?_ GE163.out) | exact HB.out))); (case aF => exact (fun k_ hk => Kd.fresh' (Kd.Q_lt (by (with_reducible repeat (first | apply Kd.Q_alloc | apply Kd.Q_drewN | apply Kd.Q_drew)); exact HO_18.out)) k_ hk)); (case aO => exact (by (with_reducible repeat (first | apply Kd.S_alloc | apply Kd.S_drewN | apply Kd.S_drew)); exact Kd.S_mono HO_164001.out (fun k_ hk => ⟨hk, fun e_ => e_⟩))); (case aS => exact (below_size (by repeat (first | (with_reducible first | exact HB.out | apply below_alloc | apply pw_below_drewN | apply below_drew1 | refine below_set ?_ GE158.out | refine below_set ?_ GE163.out) | exact HB.out)))); (case aL => have := LMc18.out; omega); intro v169 w21 ho hb hg hat; rw [← Ny168.out] at ho; have n0_ := Aside0.mk (Kd.Q_over' (by (with_reducible repeat (first | apply Kd.Q_alloc | apply Kd.Q_drewN | apply Kd.Q_drew)); exact HO_18.out) (Kd.S_typed (by (with_reducible repeat (first | apply Kd.S_alloc | apply Kd.S_drewN | apply Kd.S_drew)); exact HO_164001.out)) (by decide) hg); have n1_ := Aside0.mk (blk_grown (g := gb158) (o := .cells #[.string (⟨#[]⟩ : ByteArray), .slice none 0 0] 24 (0, 0)) (by (with_reducible repeat (first | refine blk_drewN ?_ _ | refine blk_drew ?_ | refine blk_alloc ?_ _)); exact BK158.out) hg (Kd.S_ne HO_164001.out BK158.out (by decide))); have n2_ := Aside0.mk (blk_grown (g := gb163) (o := .cells #[.string (rdOf ByteArray.empty t159 0), u164001] 24 (0, 0)) (by (with_reducible repeat (first | refine blk_drewN ?_ _ | refine blk_drew ?_ | refine blk_alloc ?_ _)); exact BK163.out) hg (Kd.S_ne HO_164001.out BK163.out (by decide))); have n3_ := Aside0.mk (hb); have n4_ := Aside0.mk (ho); clear HO_18; clear BK158; clear BK163; clear HB; clear HO_164001; have HO_18 := n0_; have BK158 := n1_; have BK163 := n2_; have HB := n3_; have HO170 := n4_; clear n0_ n1_ n2_ n3_ n4_; clear ho hb hg hat; obtain ⟨Ao22, co22, eo22⟩ := Kd.S_slice HO170.out; subst eo22; have hcz23_0 : w21.cell? ⟨gb163, 0, none⟩ = some (.string (rdOf ByteArray.empty t159 0)) := (blk_cell BK163.out 0).trans rfl; have hcz23_1 : w21.cell? ⟨gb163, 1, none⟩ = some (u164001) := (blk_cell BK163.out 1).trans rfl; have hfz23_0 := blk_frozen BK163.out 0; have hfz23_1 := blk_frozen BK163.out 1))
                    go_roundg k1
                    case measure => have := HK1.out; omega
                    case rel => exact ⟨(wrap64 (x20_1 + 1)), (y168), (.slice Ao22 y168.length co22), (by first | rfl | (simp; done) | (simp [*]; done)), H', ⟨by have := HK1.out; omega⟩, ⟨by (with_reducible repeat (first | apply Kd.Q_alloc | apply Kd.Q_drewN | apply Kd.Q_drew)); exact Kd.Q_mono (Kd.Q_far (p := ⟨gb163, 1, none⟩) (Kd.Q_types HO_18.out BK163.out (by decide)) (fun _ hk => hk.2) (.slice Ao22 y168.length co22)) (fun _ hk => trivial)⟩, ⟨by (with_reducible repeat (first | apply Kd.S_alloc | apply Kd.S_drewN | apply Kd.S_drew)); exact Kd.S_mono (Kd.S_far (p := ⟨gb163, 1, none⟩) (Kd.S_types HO170.out BK163.out (by decide)) (fun _ hk => hk.2) (.slice Ao22 y168.length co22)) (fun _ hk => hk.1)⟩, ⟨by (with_reducible repeat (first | refine blk_drewN ?_ _ | refine blk_drew ?_ | refine blk_alloc ?_ _)); refine blk_far ?_ NB158_163.out _; (with_reducible repeat (first | refine blk_drewN ?_ _ | refine blk_drew ?_ | refine blk_alloc ?_ _)); exact BK158.out⟩, ⟨by (with_reducible repeat (first | refine blk_drewN ?_ _ | refine blk_drew ?_ | refine blk_alloc ?_ _)); refine blk_put (cs := #[.string (rdOf ByteArray.empty t159 0), u164001]) ?_ 1 _ rfl; (with_reducible repeat (first | refine blk_drewN ?_ _ | refine blk_drew ?_ | refine blk_alloc ?_ _)); exact BK163.out⟩, ⟨by repeat (first | (with_reducible first | exact HB.out | apply below_alloc | apply pw_below_drewN | apply below_drew1 | refine below_set ?_ GE158.out | refine below_set ?_ GE163.out) | exact HB.out)⟩⟩
                  · rw [if_neg c18] at H
                    exact absurd H (by simp)
                · rw [if_neg c17] at H
                  have c17b0 : ((rdOf ByteArray.empty y164 x20_1).toList == ([] : List UInt8)) = false := beq_eq_false_iff_ne.mpr c17
                  have c17b1 : ((rdOf ByteArray.empty y164 x20_1).toList != ([] : List UInt8)) = true := bne_iff_ne.mpr c17
                  replace H := Option.bind_eq_some_iff.mp H
                  obtain ⟨t171, A240, H⟩ := H
                  replace H : (segment_read.l1 k1 ([] : List ByteArray) y164 (y164.length : Int) x20_1 t171 (t171.length : Int) 0 (rdOf ByteArray.empty t159 0) x164001_1) = some (r1, r2) := H
                  have A24 := Aside0.mk A240
                  clear A240
                  have H' := Aside0.mk H
                  clear H
                  have p167 : 0 ≤ (x20_1 : Int) := of_decide_eq_true (by first | (with_reducible assumption) | assumption)
                  have q167 : x20_1 < (y164.length : Int) := of_decide_eq_true (by first | (with_reducible assumption) | assumption)
                  obtain ⟨ad167, e167, hx167_0⟩ := Kd.at_string (Kd.Q_reads' HO_18.out).2.2 x20_1 p167 q167
                  cases e167
                  replace p167 := eq_true p167
                  replace q167 := eq_true q167
                  go_wp2_with (first | ((with_reducible refine gate_callee (f := 34) rfl ?_); refine goesL_ (some 27) rfl rfl Try.func34 (by kernel_rfl) rfl #[.string (rdOf ByteArray.empty y164 x20_1), .int .u8 58] rfl (by (try simp only [List.map_toArray, List.map_cons, List.map_nil]); first | done | rfl | (simp only [List.length_drop, List.length_take]; rfl)) ?_; (with_reducible refine (segment_split.calls k1 (rdOf ByteArray.empty y164 x20_1) 58 t171 _ A24.out).mono ?_); rintro e w25 ⟨v172, rfl, ho0, hb⟩; refine ⟨_, rfl, ?_⟩; have n0_ := Aside0.mk (Kd.Q_elder' (by (with_reducible repeat (first | apply Kd.Q_alloc | apply Kd.Q_drewN | apply Kd.Q_drew)); exact HO_18.out) (Kd.R_base ho0) hb); have n1_ := Aside0.mk (Kd.S_elder' (by (with_reducible repeat (first | apply Kd.S_alloc | apply Kd.S_drewN | apply Kd.S_drew)); exact HO_164001.out) (Kd.R_base ho0) hb); have n2_ := Aside0.mk (Kd.R_lower (Kd.R_new' ho0 (Kd.Q_lt (by (with_reducible repeat (first | apply Kd.Q_alloc | apply Kd.Q_drewN | apply Kd.Q_drew)); exact HO_18.out))) (below_size (by repeat (first | (with_reducible first | exact HB.out | apply below_alloc | apply pw_below_drewN | apply below_drew1 | refine below_set ?_ GE158.out | refine below_set ?_ GE163.out) | exact HB.out)))); have n3_ := Aside0.mk (blk_below (g := gb158) (o := .cells #[.string (⟨#[]⟩ : ByteArray), .slice none 0 0] 24 (0, 0)) (by (with_reducible repeat (first | refine blk_drewN ?_ _ | refine blk_drew ?_ | refine blk_alloc ?_ _)); exact BK158.out) hb); have n4_ := Aside0.mk (blk_below (g := gb163) (o := .cells #[.string (rdOf ByteArray.empty t159 0), u164001] 24 (0, 0)) (by (with_reducible repeat (first | refine blk_drewN ?_ _ | refine blk_drew ?_ | refine blk_alloc ?_ _)); exact BK163.out) hb); have n5_ := Aside0.mk (below_step (by repeat (first | (with_reducible first | exact HB.out | apply below_alloc | apply pw_below_drewN | apply below_drew1 | refine below_set ?_ GE158.out | refine below_set ?_ GE163.out) | exact HB.out)) hb); clear HO_18; clear HO_164001; clear BK158; clear BK163; clear HB; have HO_18 := n0_; have HO_164001 := n1_; have HO173 := n2_; have BK158 := n3_; have BK163 := n4_; have HB := n5_; clear n0_ n1_ n2_ n3_ n4_ n5_; (try clear hb); (try clear hb2); (try clear hk); (try clear hi); (try clear ho0); obtain ⟨Ao26, co26, eo26⟩ := Kd.R_slice HO173.out; subst eo26))
                  go_loopg [7, 29] k1 (fun kq v7 v29 w' => ∃ (x7_2 : List ByteArray) (x29_2 : Int), v29 = .int .i64 x29_2 ∧ Aside0 (segment_read.l1 kq x7_2 y164 (y164.length : Int) x20_1 t171 (t171.length : Int) x29_2 (rdOf ByteArray.empty t159 0) x164001_1 = some (r1, r2)) ∧ Aside0 (kq ≤ k1) ∧ Aside0 (Kd.R Kd.string 9 w' w.heap.size (fun k_ => some k_ ≠ ((.slice (some ad167) y164.length c13) : Value).ownBlock ∧ some k_ ≠ ((.slice Ao26 t171.length co26) : Value).ownBlock) v7 x7_2) ∧ Aside0 (Kd.Q Kd.string 9 w' w.heap.size (fun k_ => some k_ ≠ (v7 : Value).ownBlock ∧ some k_ ≠ ((.slice Ao26 t171.length co26) : Value).ownBlock) (.slice (some ad167) y164.length c13) y164) ∧ Aside0 (Kd.R Kd.string 9 w' w.heap.size (fun k_ => some k_ ≠ (v7 : Value).ownBlock ∧ some k_ ≠ ((.slice (some ad167) y164.length c13) : Value).ownBlock) (.slice Ao26 t171.length co26) t171) ∧ Aside0 (Kd.S (Kd.slice 9 Kd.string) 48 w' w.heap.size (fun k_ => some k_ ≠ (v7 : Value).ownBlock ∧ some k_ ≠ ((.slice (some ad167) y164.length c13) : Value).ownBlock ∧ some k_ ≠ ((.slice Ao26 t171.length co26) : Value).ownBlock) u164001 x164001_1) ∧ Aside0 (w'.heap[gb158]? = some (.cells #[.string (⟨#[]⟩ : ByteArray), (.slice none 0 0)] 24 (0, 0))) ∧ Aside0 (w'.heap[gb163]? = some (.cells #[.string (rdOf ByteArray.empty t159 0), u164001] 24 (0, 0))) ∧ Aside0 (Below w.heap.size w w'))
                  case atStart => exact ⟨(([] : List ByteArray)), (0), (by first | rfl | (simp; done) | (simp [*]; done)), H', ⟨Nat.le_refl _⟩, ⟨by first | exact Kd.R_nil _ _ _ _ _ | exact Kd.N_nil _ _ _ _ _ | exact Kd.V_nil _ _ _ _ _ | exact Kd.Q_nil _ _ _ _ _ | exact Kd.S_nil _ _ _ _ _⟩, ⟨by (with_reducible repeat (first | apply Kd.Q_alloc | apply Kd.Q_drewN | apply Kd.Q_drew)); exact Kd.Q_mono HO_18.out (fun _ hk => ⟨(by simp [Value.ownBlock]), hk.2⟩)⟩, ⟨by (with_reducible repeat (first | apply Kd.R_alloc | apply Kd.R_drewN | apply Kd.R_drew)); exact Kd.R_mono HO173.out (fun _ hk => ⟨(by simp [Value.ownBlock]), hk.2⟩)⟩, ⟨by (with_reducible repeat (first | apply Kd.S_alloc | apply Kd.S_drewN | apply Kd.S_drew)); exact Kd.S_mono HO_164001.out (fun _ hk => ⟨(by simp [Value.ownBlock]), ⟨hk.1, hk.2⟩⟩)⟩, ⟨by (with_reducible repeat (first | refine blk_drewN ?_ _ | refine blk_drew ?_ | refine blk_alloc ?_ _)); exact BK158.out⟩, ⟨by (with_reducible repeat (first | refine blk_drewN ?_ _ | refine blk_drew ?_ | refine blk_alloc ?_ _)); exact BK163.out⟩, ⟨by repeat (first | (with_reducible first | exact HB.out | apply below_alloc | apply pw_below_drewN | apply below_drew1 | refine below_set ?_ GE158.out | refine below_set ?_ GE163.out) | exact HB.out)⟩⟩
                  case round =>
                    clear H'
                    try clear c1
                    try clear p1
                    try clear q1
                    try clear hx1
                    try clear qi1
                    try clear p2
                    try clear c3
                    try clear c3b0
                    try clear c3b1
                    try clear c4
                    try clear c4b0
                    try clear c4b1
                    try clear p6
                    try clear hcv6
                    try clear c10
                    try clear c13
                    try clear q13
                    try clear c14
                    try clear c14b0
                    try clear c15
                    try clear c15b0
                    try clear c16
                    try clear c16b0
                    try clear p16
                    try clear q16
                    try clear hx16
                    try clear qi16
                    try clear c17
                    try clear c17b0
                    try clear c17b1
                    try clear c18
                    try clear c19
                    try clear hcz11_0
                    try clear hcz11_1
                    try clear hcz20_0
                    try clear hcz20_1
                    try clear hcz23_0
                    try clear hcz23_1
                    try clear hfz11_0
                    try clear hfz11_1
                    try clear hfz20_0
                    try clear hfz20_1
                    try clear hfz23_0
                    try clear hfz23_1
                    try clear hx162_0
                    try clear hx167_0
                    try clear p1
                    try clear p162
                    try clear p167
                    try clear p2
                    try clear q1
                    try clear q13
                    try clear q162
                    try clear q167
                    obtain ⟨x7_2, x29_2, rfl, HA, HK2, HO_7, HO_18, HO_27, HO_164001, BK158, BK163, HB⟩ := hrel
                    cases gk with
                    | zero => exact absurd HA.out (by simp [segment_read.l1])
                    | succ k2 =>
                      have H := HA.out
                      clear HA
                      simp only [segment_read.l1] at H
                      by_cases c27 : x29_2 < (t171.length : Int)
                      · rw [if_pos c27] at H
                        have c27b0 : decide (x29_2 < (t171.length : Int)) = true := decide_eq_true c27
                        clear c27
                        by_cases c28 : 0 ≤ x29_2
                        · rw [if_pos c28] at H
                          have c28b0 : decide (0 ≤ x29_2) = true := decide_eq_true c28
                          clear c28
                          by_cases c29 : x29_2 < (t171.length : Int)
                          · rw [if_pos c29] at H
                            have c29b0 : decide (x29_2 < (t171.length : Int)) = true := decide_eq_true c29
                            clear c29
                            replace H := Option.bind_eq_some_iff.mp H
                            obtain ⟨t175, A300, H⟩ := H
                            replace H : (if x7_2.length < 8796093022208 then (segment_read.l1 k2 (x7_2 ++ [t175]) y164 (y164.length : Int) x20_1 t171 (t171.length : Int) (wrap64 (x29_2 + 1)) (rdOf ByteArray.empty t159 0) x164001_1) else (none)) = some (r1, r2) := H
                            have A30 := Aside0.mk A300
                            clear A300
                            by_cases c31 : x7_2.length < 8796093022208
                            · rw [if_pos c31] at H
                              have LMc31 := Aside0.mk c31
                              clear c31
                              obtain ⟨y176, hy176⟩ : ∃ y_ : List ByteArray, y_ = (x7_2 ++ [t175]) := ⟨_, rfl⟩
                              replace H : (segment_read.l1 k2 y176 y164 (y164.length : Int) x20_1 t171 (t171.length : Int) (wrap64 (x29_2 + 1)) (rdOf ByteArray.empty t159 0) x164001_1) = some (r1, r2) := by first | (rw [hy176]; with_reducible exact H) | (have H2_ := (Option.bind_some _ _).symm.trans H; rw [hy176]; with_reducible exact H2_) | (have H2_ := (Option.bind_some _ _).symm.trans H; with_reducible exact H2_) | with_reducible exact H | (rw [hy176]; exact H) | exact H
                              have Ny176 := Aside0.mk hy176
                              clear hy176
                              have H' := Aside0.mk H
                              clear H
                              have p174 : 0 ≤ (x29_2 : Int) := of_decide_eq_true (by first | (with_reducible assumption) | assumption)
                              have q174 : x29_2 < (t171.length : Int) := of_decide_eq_true (by first | (with_reducible assumption) | assumption)
                              obtain ⟨ad174, e174, hx174_0⟩ := Kd.at_string (Kd.R_reads' HO_27.out).2.2 x29_2 p174 q174
                              cases e174
                              replace p174 := eq_true p174
                              replace q174 := eq_true q174
                              go_wp2_with (first | ((with_reducible refine gate_callee (f := 35) rfl ?_); refine goesL_ (some 35) rfl rfl Try.func35 (by kernel_rfl) rfl #[.string (rdOf ByteArray.empty t171 x29_2)] rfl (by (try simp only [List.map_toArray, List.map_cons, List.map_nil]); first | done | rfl | (simp only [List.length_drop, List.length_take]; rfl)) ?_; (with_reducible refine (segment_plain.calls (rdOf ByteArray.empty t171 x29_2) t175 _ A30.out).mono ?_); rintro e w32 ⟨rfl, hb⟩; refine ⟨_, rfl, ?_⟩; have n0_ := Aside0.mk (Kd.R_below (by (with_reducible repeat (first | apply Kd.R_alloc | apply Kd.R_drewN | apply Kd.R_drew)); exact HO_7.out) hb); have n1_ := Aside0.mk (Kd.Q_below (by (with_reducible repeat (first | apply Kd.Q_alloc | apply Kd.Q_drewN | apply Kd.Q_drew)); exact HO_18.out) hb); have n2_ := Aside0.mk (Kd.R_below (by (with_reducible repeat (first | apply Kd.R_alloc | apply Kd.R_drewN | apply Kd.R_drew)); exact HO_27.out) hb); have n3_ := Aside0.mk (Kd.S_below (by (with_reducible repeat (first | apply Kd.S_alloc | apply Kd.S_drewN | apply Kd.S_drew)); exact HO_164001.out) hb); have n4_ := Aside0.mk (blk_below (g := gb158) (o := .cells #[.string (⟨#[]⟩ : ByteArray), .slice none 0 0] 24 (0, 0)) (by (with_reducible repeat (first | refine blk_drewN ?_ _ | refine blk_drew ?_ | refine blk_alloc ?_ _)); exact BK158.out) hb); have n5_ := Aside0.mk (blk_below (g := gb163) (o := .cells #[.string (rdOf ByteArray.empty t159 0), u164001] 24 (0, 0)) (by (with_reducible repeat (first | refine blk_drewN ?_ _ | refine blk_drew ?_ | refine blk_alloc ?_ _)); exact BK163.out) hb); have n6_ := Aside0.mk (below_step (by repeat (first | (with_reducible first | exact HB.out | apply below_alloc | apply pw_below_drewN | apply below_drew1 | refine below_set ?_ GE158.out | refine below_set ?_ GE163.out) | exact HB.out)) hb); clear HO_7; clear HO_18; clear HO_27; clear HO_164001; clear BK158; clear BK163; clear HB; have HO_7 := n0_; have HO_18 := n1_; have HO_27 := n2_; have HO_164001 := n3_; have BK158 := n4_; have BK163 := n5_; have HB := n6_; clear n0_ n1_ n2_ n3_ n4_ n5_ n6_; (try clear hb); (try clear hb2); (try clear hk); (try clear hi)) | ((with_reducible refine gate_builtin (b := .append) (xs := #[.tmp 33, .tmp 36]) rfl ?_); at_builtin; refine Kd.R_append Kd.string (w0 := w) w.heap.size rfl (.tmp 33) (.tmp 36) 48 9 (.string ⟨#[]⟩) 16 rfl Try.underlying48 info9 rfl (by decide) (by omega) u7 x7_2 t175 [.string t175] (fun k_ => some k_ ≠ (.slice (some ad167) y164.length c13 : Value).ownBlock ∧ some k_ ≠ (.slice (some ad174) t171.length co26 : Value).ownBlock) (fun _ => False) rfl rfl ?aP (fun _ hk => hk.elim) ?aF ?aO ?aB ?aS ?aL ?_; (case aP => exact rfl); (case aB => exact (by repeat (first | (with_reducible first | exact HB.out | apply below_alloc | apply pw_below_drewN | apply below_drew1 | refine below_set ?_ GE158.out | refine below_set ?_ GE163.out) | exact HB.out))); (case aF => exact (fun k_ hk => ⟨Kd.fresh' (Kd.Q_lt (by (with_reducible repeat (first | apply Kd.Q_alloc | apply Kd.Q_drewN | apply Kd.Q_drew)); exact HO_18.out)) k_ hk, Kd.fresh' (Kd.R_lt (by (with_reducible repeat (first | apply Kd.R_alloc | apply Kd.R_drewN | apply Kd.R_drew)); exact HO_27.out)) k_ hk⟩)); (case aO => exact (by (with_reducible repeat (first | apply Kd.R_alloc | apply Kd.R_drewN | apply Kd.R_drew)); exact HO_7.out)); (case aS => exact (below_size (by repeat (first | (with_reducible first | exact HB.out | apply below_alloc | apply pw_below_drewN | apply below_drew1 | refine below_set ?_ GE158.out | refine below_set ?_ GE163.out) | exact HB.out)))); (case aL => have := LMc31.out; omega); intro v177 w33 ho hb hg hat; rw [← Ny176.out] at ho; have n0_ := Aside0.mk (Kd.Q_after (ok := (fun k_ => some k_ ≠ (.slice (some ad174) t171.length co26 : Value).ownBlock)) (by (with_reducible repeat (first | apply Kd.Q_alloc | apply Kd.Q_drewN | apply Kd.Q_drew)); exact Kd.Q_mono HO_18.out (fun _ hk => ⟨hk.2, hk.1⟩)) hg hat); have n1_ := Aside0.mk (Kd.R_after (ok := (fun k_ => some k_ ≠ (.slice (some ad167) y164.length c13 : Value).ownBlock)) (by (with_reducible repeat (first | apply Kd.R_alloc | apply Kd.R_drewN | apply Kd.R_drew)); exact Kd.R_mono HO_27.out (fun _ hk => ⟨hk.2, hk.1⟩)) hg hat); have n2_ := Aside0.mk (Kd.S_after (ok := (fun k_ => some k_ ≠ (.slice (some ad167) y164.length c13 : Value).ownBlock ∧ some k_ ≠ (.slice (some ad174) t171.length co26 : Value).ownBlock)) (by (with_reducible repeat (first | apply Kd.S_alloc | apply Kd.S_drewN | apply Kd.S_drew)); exact Kd.S_mono HO_164001.out (fun _ hk => ⟨⟨hk.2.1, hk.2.2⟩, hk.1⟩)) hg hat); have n3_ := Aside0.mk (blk_grown (g := gb158) (o := .cells #[.string (⟨#[]⟩ : ByteArray), .slice none 0 0] 24 (0, 0)) (by (with_reducible repeat (first | refine blk_drewN ?_ _ | refine blk_drew ?_ | refine blk_alloc ?_ _)); exact BK158.out) hg (Kd.R_ne HO_7.out BK158.out (by decide))); have n4_ := Aside0.mk (blk_grown (g := gb163) (o := .cells #[.string (rdOf ByteArray.empty t159 0), u164001] 24 (0, 0)) (by (with_reducible repeat (first | refine blk_drewN ?_ _ | refine blk_drew ?_ | refine blk_alloc ?_ _)); exact BK163.out) hg (Kd.R_ne HO_7.out BK163.out (by decide))); have n5_ := Aside0.mk (hb); have n6_ := Aside0.mk (ho); clear HO_18; clear HO_27; clear HO_164001; clear BK158; clear BK163; clear HB; clear HO_7; have HO_18 := n0_; have HO_27 := n1_; have HO_164001 := n2_; have BK158 := n3_; have BK163 := n4_; have HB := n5_; have HO178 := n6_; clear n0_ n1_ n2_ n3_ n4_ n5_ n6_; clear ho hb hg hat))
                              go_roundg k2
                              case measure => have := HK1.out; have := HK2.out; omega
                              case rel => exact ⟨(y176), (wrap64 (x29_2 + 1)), (by first | rfl | (simp; done) | (simp [*]; done)), H', ⟨by have := HK1.out; have := HK2.out; omega⟩, ⟨by (with_reducible repeat (first | apply Kd.R_alloc | apply Kd.R_drewN | apply Kd.R_drew)); exact HO178.out⟩, ⟨by (with_reducible repeat (first | apply Kd.Q_alloc | apply Kd.Q_drewN | apply Kd.Q_drew)); exact Kd.Q_mono HO_18.out (fun _ hk => ⟨hk.2, hk.1⟩)⟩, ⟨by (with_reducible repeat (first | apply Kd.R_alloc | apply Kd.R_drewN | apply Kd.R_drew)); exact Kd.R_mono HO_27.out (fun _ hk => ⟨hk.2, hk.1⟩)⟩, ⟨by (with_reducible repeat (first | apply Kd.S_alloc | apply Kd.S_drewN | apply Kd.S_drew)); exact Kd.S_mono HO_164001.out (fun _ hk => ⟨hk.2, ⟨hk.1.1, hk.1.2⟩⟩)⟩, ⟨by (with_reducible repeat (first | refine blk_drewN ?_ _ | refine blk_drew ?_ | refine blk_alloc ?_ _)); exact BK158.out⟩, ⟨by (with_reducible repeat (first | refine blk_drewN ?_ _ | refine blk_drew ?_ | refine blk_alloc ?_ _)); exact BK163.out⟩, ⟨by repeat (first | (with_reducible first | exact HB.out | apply below_alloc | apply pw_below_drewN | apply below_drew1 | refine below_set ?_ GE158.out | refine below_set ?_ GE163.out) | exact HB.out)⟩⟩
                            · rw [if_neg c31] at H
                              exact absurd H (by simp)
                          · rw [if_neg c29] at H
                            exact absurd H (by simp)
                        · rw [if_neg c28] at H
                          exact absurd H (by simp)
                      · rw [if_neg c27] at H
                        have c27b0 : decide (x29_2 < (t171.length : Int)) = false := decide_eq_false c27
                        clear c27
                        by_cases c34 : x164001_1.length < 5864062014805
                        · rw [if_pos c34] at H
                          have LMc34 := Aside0.mk c34
                          clear c34
                          obtain ⟨y179, hy179⟩ : ∃ y_ : List (List ByteArray), y_ = (x164001_1 ++ [x7_2]) := ⟨_, rfl⟩
                          replace H : (segment_read.l0 k2 y164 (y164.length : Int) (wrap64 (x20_1 + 1)) (rdOf ByteArray.empty t159 0) y179) = some (r1, r2) := by first | (rw [hy179]; with_reducible exact H) | (have H2_ := (Option.bind_some _ _).symm.trans H; rw [hy179]; with_reducible exact H2_) | (have H2_ := (Option.bind_some _ _).symm.trans H; with_reducible exact H2_) | with_reducible exact H | (rw [hy179]; exact H) | exact H
                          have Ny179 := Aside0.mk hy179
                          clear hy179
                          have H' := Aside0.mk H
                          clear H
                          have hnb35 := NB163_158.out
                          have hnc35 := NB158_163.out
                          have hcz36_0 : wr.cell? ⟨gb163, 0, none⟩ = some (.string (rdOf ByteArray.empty t159 0)) := (blk_cell BK163.out 0).trans rfl
                          have hcz36_1 : wr.cell? ⟨gb163, 1, none⟩ = some (u164001) := (blk_cell BK163.out 1).trans rfl
                          have hfz36_0 := blk_frozen BK163.out 0
                          have hfz36_1 := blk_frozen BK163.out 1
                          obtain ⟨Ao38, co38, eo38⟩ := Kd.R_slice HO_7.out
                          subst eo38
                          go_wp2_with (first | ((with_reducible refine gate_builtin (b := .append) (xs := #[.tmp 40, .tmp 42]) rfl ?_); at_builtin; refine Kd.S_append (Kd.slice 9 Kd.string) (w0 := w) w.heap.size rfl (.tmp 40) (.tmp 42) 22 48 (.slice none 0 0) 24 rfl Try.underlying22 info48 rfl (by decide) (by omega) u164001 x164001_1 x7_2 [.slice Ao38 x7_2.length co38] (fun k_ => some k_ ≠ (.slice (some ad167) y164.length c13 : Value).ownBlock ∧ some k_ ≠ (.slice Ao26 t171.length co26 : Value).ownBlock) (fun k_ => some k_ = (.slice Ao38 x7_2.length co38 : Value).ownBlock) rfl rfl ?aP (fun k_ hk_ => ((Kd.R_mono (ok' := fun k_ => ((fun k_ => some k_ ≠ (.slice (some ad167) y164.length c13 : Value).ownBlock ∧ some k_ ≠ (.slice Ao26 t171.length co26 : Value).ownBlock)) k_ ∧ some k_ ≠ (u164001 : Value).ownBlock) (Kd.R_apart' (HO_7.out) (Kd.S_typed HO_164001.out) (by decide)) (fun k_ hk => ⟨⟨hk.1.1, hk.1.2⟩, hk.2⟩))).1 k_ hk_.symm) ?aF ?aO ?aB ?aS ?aL ?_; (case aP => exact Kd.M_row (Kd.R_mono (Kd.R_tight rfl (Kd.R_mono (ok' := fun k_ => ((fun k_ => some k_ ≠ (.slice (some ad167) y164.length c13 : Value).ownBlock ∧ some k_ ≠ (.slice Ao26 t171.length co26 : Value).ownBlock)) k_ ∧ some k_ ≠ (u164001 : Value).ownBlock) (Kd.R_apart' (HO_7.out) (Kd.S_typed HO_164001.out) (by decide)) (fun k_ hk => ⟨⟨hk.1.1, hk.1.2⟩, hk.2⟩))) (fun _ h_ => h_))); (case aB => exact (by repeat (first | (with_reducible first | exact HB.out | apply below_alloc | apply pw_below_drewN | apply below_drew1 | refine below_set ?_ GE158.out | refine below_set ?_ GE163.out) | exact HB.out))); (case aF => exact (fun k_ hk => ⟨Kd.fresh' (Kd.Q_lt (by (with_reducible repeat (first | apply Kd.Q_alloc | apply Kd.Q_drewN | apply Kd.Q_drew)); exact HO_18.out)) k_ hk, Kd.fresh' (Kd.R_lt (by (with_reducible repeat (first | apply Kd.R_alloc | apply Kd.R_drewN | apply Kd.R_drew)); exact HO_27.out)) k_ hk⟩)); (case aO => exact (by (with_reducible repeat (first | apply Kd.S_alloc | apply Kd.S_drewN | apply Kd.S_drew)); exact Kd.S_mono HO_164001.out (fun k_ hk => ⟨⟨hk.2.1, hk.2.2⟩, fun e_ => hk.1 e_⟩))); (case aS => exact (below_size (by repeat (first | (with_reducible first | exact HB.out | apply below_alloc | apply pw_below_drewN | apply below_drew1 | refine below_set ?_ GE158.out | refine below_set ?_ GE163.out) | exact HB.out)))); (case aL => have := LMc34.out; omega); intro v180 w37 ho hb hg hat; rw [← Ny179.out] at ho; have n0_ := Aside0.mk (Kd.Q_over' (by (with_reducible repeat (first | apply Kd.Q_alloc | apply Kd.Q_drewN | apply Kd.Q_drew)); exact HO_18.out) (Kd.S_typed (by (with_reducible repeat (first | apply Kd.S_alloc | apply Kd.S_drewN | apply Kd.S_drew)); exact HO_164001.out)) (by decide) hg); have n1_ := Aside0.mk (Kd.R_over' (by (with_reducible repeat (first | apply Kd.R_alloc | apply Kd.R_drewN | apply Kd.R_drew)); exact HO_27.out) (Kd.S_typed (by (with_reducible repeat (first | apply Kd.S_alloc | apply Kd.S_drewN | apply Kd.S_drew)); exact HO_164001.out)) (by decide) hg); have n2_ := Aside0.mk (blk_grown (g := gb158) (o := .cells #[.string (⟨#[]⟩ : ByteArray), .slice none 0 0] 24 (0, 0)) (by (with_reducible repeat (first | refine blk_drewN ?_ _ | refine blk_drew ?_ | refine blk_alloc ?_ _)); exact BK158.out) hg (Kd.S_ne HO_164001.out BK158.out (by decide))); have n3_ := Aside0.mk (blk_grown (g := gb163) (o := .cells #[.string (rdOf ByteArray.empty t159 0), u164001] 24 (0, 0)) (by (with_reducible repeat (first | refine blk_drewN ?_ _ | refine blk_drew ?_ | refine blk_alloc ?_ _)); exact BK163.out) hg (Kd.S_ne HO_164001.out BK163.out (by decide))); have n4_ := Aside0.mk (hb); have n5_ := Aside0.mk (ho); clear HO_18; clear HO_27; clear BK158; clear BK163; clear HB; clear HO_164001; clear HO_7; have HO_18 := n0_; have HO_27 := n1_; have BK158 := n2_; have BK163 := n3_; have HB := n4_; have HO181 := n5_; clear n0_ n1_ n2_ n3_ n4_ n5_; clear ho hb hg hat; obtain ⟨Ao39, co39, eo39⟩ := Kd.S_slice HO181.out; subst eo39; have hcz40_0 : w37.cell? ⟨gb163, 0, none⟩ = some (.string (rdOf ByteArray.empty t159 0)) := (blk_cell BK163.out 0).trans rfl; have hcz40_1 : w37.cell? ⟨gb163, 1, none⟩ = some (u164001) := (blk_cell BK163.out 1).trans rfl; have hfz40_0 := blk_frozen BK163.out 0; have hfz40_1 := blk_frozen BK163.out 1))
                          go_roundg k2
                          case measure => have := HK1.out; have := HK2.out; omega
                          case rel => exact ⟨(wrap64 (x20_1 + 1)), (y179), (.slice Ao39 y179.length co39), (by first | rfl | (simp; done) | (simp [*]; done)), H', ⟨by have := HK1.out; have := HK2.out; omega⟩, ⟨by (with_reducible repeat (first | apply Kd.Q_alloc | apply Kd.Q_drewN | apply Kd.Q_drew)); exact Kd.Q_mono (Kd.Q_far (p := ⟨gb163, 1, none⟩) (Kd.Q_types HO_18.out BK163.out (by decide)) (fun _ hk => hk.2) (.slice Ao39 y179.length co39)) (fun _ hk => trivial)⟩, ⟨by (with_reducible repeat (first | apply Kd.S_alloc | apply Kd.S_drewN | apply Kd.S_drew)); exact Kd.S_mono (Kd.S_far (p := ⟨gb163, 1, none⟩) (Kd.S_types HO181.out BK163.out (by decide)) (fun _ hk => hk.2) (.slice Ao39 y179.length co39)) (fun _ hk => hk.1.1)⟩, ⟨by (with_reducible repeat (first | refine blk_drewN ?_ _ | refine blk_drew ?_ | refine blk_alloc ?_ _)); refine blk_far ?_ NB158_163.out _; (with_reducible repeat (first | refine blk_drewN ?_ _ | refine blk_drew ?_ | refine blk_alloc ?_ _)); exact BK158.out⟩, ⟨by (with_reducible repeat (first | refine blk_drewN ?_ _ | refine blk_drew ?_ | refine blk_alloc ?_ _)); refine blk_put (cs := #[.string (rdOf ByteArray.empty t159 0), u164001]) ?_ 1 _ rfl; (with_reducible repeat (first | refine blk_drewN ?_ _ | refine blk_drew ?_ | refine blk_alloc ?_ _)); exact BK163.out⟩, ⟨by repeat (first | (with_reducible first | exact HB.out | apply below_alloc | apply pw_below_drewN | apply below_drew1 | refine below_set ?_ GE158.out | refine below_set ?_ GE163.out) | exact HB.out)⟩⟩
                        · rw [if_neg c34] at H
                          exact absurd H (by simp)
              · rw [if_neg c16] at H
                exact absurd H (by simp)
            · rw [if_neg c15] at H
              exact absurd H (by simp)
          · rw [if_neg c14] at H
            have c14b0 : decide (x20_1 < (y164.length : Int)) = false := decide_eq_false c14
            clear c14
            simp only [Option.some.injEq, Prod.mk.injEq] at H
            obtain ⟨rfl, rfl⟩ := H
            have hnb41 := NB163_158.out
            have hnc41 := NB158_163.out
            have hcz42_0 : wr.cell? ⟨gb163, 0, none⟩ = some (.string (rdOf ByteArray.empty t159 0)) := (blk_cell BK163.out 0).trans rfl
            have hcz42_1 : wr.cell? ⟨gb163, 1, none⟩ = some (u164001) := (blk_cell BK163.out 1).trans rfl
            have hfz42_0 := blk_frozen BK163.out 0
            have hfz42_1 := blk_frozen BK163.out 1
            have hcz43_0 : wr.cell? ⟨gb158, 0, none⟩ = some (.string (⟨#[]⟩ : ByteArray)) := (blk_cell BK158.out 0).trans rfl
            have hcz43_1 : wr.cell? ⟨gb158, 1, none⟩ = some (.slice none 0 0) := (blk_cell BK158.out 1).trans rfl
            have hfz43_0 := blk_frozen BK158.out 0
            have hfz43_1 := blk_frozen BK158.out 1
            obtain ⟨Ao44, co44, eo44⟩ := Kd.S_slice HO_164001.out
            subst eo44
            go_wp2
            refine bodyPost_ret (results_cell_row rfl _ _ gb158 24 #[.string (rdOf ByteArray.empty t159 0), .slice Ao44 x164001_1.length co44] (0, 0) _ rfl (by (with_reducible repeat (first | refine blk_drewN ?_ _ | refine blk_drew ?_ | refine blk_alloc ?_ _)); refine blk_put (cs := #[.string (rdOf ByteArray.empty t159 0), .slice none 0 0]) ?_ 1 _ rfl; (with_reducible repeat (first | refine blk_drewN ?_ _ | refine blk_drew ?_ | refine blk_alloc ?_ _)); refine blk_put (cs := #[.string (⟨#[]⟩ : ByteArray), .slice none 0 0]) ?_ 0 _ rfl; (with_reducible repeat (first | refine blk_drewN ?_ _ | refine blk_drew ?_ | refine blk_alloc ?_ _)); exact BK158.out) Try.underlying24 rfl (by kernel_rfl)) rfl ?_
            exact ⟨_, by first | rfl | (simp [errW_none, errW_some] <;> rfl) | (simp [*, errW_none, errW_some] <;> rfl), by (with_reducible repeat (first | apply Kd.S_alloc | apply Kd.S_drewN | apply Kd.S_drew)); exact Kd.S_mono (Kd.S_far (p := ⟨gb158, 1, none⟩) (Kd.S_far (p := ⟨gb158, 0, none⟩) (Kd.S_types HO_164001.out BK158.out (by decide)) (fun _ hk => hk.2) (.string (rdOf ByteArray.empty t159 0))) (fun _ hk => hk.2) (.slice Ao44 x164001_1.length co44)) (fun _ hk => trivial), by repeat (first | (with_reducible first | exact HB.out | apply below_alloc | apply pw_below_drewN | apply below_drew1 | refine below_set ?_ GE158.out | refine below_set ?_ GE163.out) | exact HB.out)⟩
    · rw [if_neg c4] at H
      exact absurd H (by simp)
  · rw [if_neg c3] at H
    exact absurd H (by simp)

end Go.Proofs.Ythdahpnjiighfaa.F
