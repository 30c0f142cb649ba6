import Derived.Test.YthdahpnjiighfaaWWords
import Derived.Lib.AtoiErrMem
namespace Go.Proofs.Ythdahpnjiighfaa.F
open Go.RowKit Go.Proofs.YthdahpnjiighfaaW.PrintWords
def Kd.B (_d : Kd Int) (e : Nat) (w : World) (base : Nat) (ok : Nat → Prop) (v : Value) (xs : List Int) : Prop :=
  (∀ k, v.ownBlock = some k → ok k) ∧ xs.length ≤ 9223372036854775807 ∧ ∃ g cells fz, v = .slice (some ⟨g, 0, none⟩) xs.length cells.size ∧ base ≤ g ∧ w.heap[g]? = some (.cells cells e fz) ∧ (cells.size ≤ fz.1 ∨ fz.2 = 0) ∧ xs.length ≤ cells.size ∧ ∀ j, j < xs.length → cells[j]? = some (Value.int .u8 (xs.getD j 0))
section
variable {d : Kd Int} {e : Nat} {w w1 : World} {base : Nat} {ok ok' : Nat → Prop} {v : Value} {xs : List Int}
theorem Kd.B_lower {base' : Nat} (h : Kd.B d e w base ok v xs) (hb : base' ≤ base) : Kd.B d e w base' ok v xs := by
  obtain ⟨h0, hm, g, cells, fz, h1, h2, r⟩ := h
  exact ⟨h0, hm, g, cells, fz, h1, Nat.le_trans hb h2, r⟩
theorem Kd.B_move (h : Kd.B d e w base ok v xs) (hm : ∀ k, v.ownBlock = some k → k < w.heap.size → w1.heap[k]? = w.heap[k]?) : Kd.B d e w1 base ok v xs := by
  obtain ⟨h0, hl, g, cells, fz, rfl, h2, h3, r⟩ := h
  exact ⟨h0, hl, g, cells, fz, rfl, h2, (hm g rfl (Array.getElem?_eq_some_iff.1 h3).1).trans h3, r⟩
theorem Kd.B_below (h : Kd.B d e w base ok v xs) (hb : Below w.heap.size w w1) : Kd.B d e w1 base ok v xs := Kd.B_move h fun k _ hk => hb.block k hk
theorem Kd.B_alloc (h : Kd.B d e w base ok v xs) (o : Obj) : Kd.B d e (w.alloc o) base ok v xs := Kd.B_below h (below_alloc (Below.refl _ _) o)
theorem Kd.B_drew (h : Kd.B d e w base ok v xs) : Kd.B d e w.drew base ok v xs := Kd.B_below h (below_drew (Below.refl _ _))
theorem Kd.B_drewN (h : Kd.B d e w base ok v xs) (m : Nat) : Kd.B d e (w.drewN m) base ok v xs := Kd.B_below h (pw_below_drewN (Below.refl _ _) m)
theorem Kd.B_slice (h : Kd.B d e w base ok v xs) : ∃ A c, v = .slice A xs.length c := by
  obtain ⟨h0, hm, g, cells, fz, rfl, r⟩ := h
  exact ⟨_, _, rfl⟩
theorem Kd.B_cell (h : Kd.B d e w base ok v xs) : ∃ g c, v = .slice (some ⟨g, 0, none⟩) xs.length c ∧ xs.length ≤ c ∧ ∀ i, i < xs.length → w.cell? ⟨g, 0 + i, none⟩ = some (.int .u8 (xs.getD i 0)) := by
  obtain ⟨h0, hm, g, cells, fz, rfl, h2, h3, h4, h5, h6⟩ := h
  refine ⟨g, _, rfl, h5, fun i hi => ?_⟩
  simp only [World.cell?, h3, Nat.zero_add]
  simpa using h6 i hi
theorem Kd.B_string {P : Program} {src dst et : TypeId} (hs : P.underlying src = some (.slice et)) (he : P.underlying et = some (.int .u8)) (hd : P.underlying dst = some .string)
    (h : Kd.B d e w base ok v xs) : (convert src dst v).run P w = .ok (.string (strOfNums xs)) w := by
  obtain ⟨g, c, rfl, _, hc⟩ := Kd.B_cell h
  exact run_convert_bytes_arg w src et hs he g 0 _ _ xs rfl hc dst hd
theorem Kd.B_reads (h : Kd.B d e w base ok v xs) (hm : xs.length ≤ 9223372036854775807) : ∃ A c, v = .slice A xs.length c ∧ xs.length ≤ c ∧ ReadsInt w .u8 A xs.length xs := by
  obtain ⟨g, c, rfl, hl, hc⟩ := Kd.B_cell h
  refine ⟨_, _, rfl, hl, rfl, hm, fun _ => ⟨_, rfl, fun j hj => ?_⟩⟩
  have := hc j hj
  rw [Nat.zero_add] at this
  rw [add_plain]
  exact this
theorem Kd.B_ne {t : Nat} {cs : Array Value} {g : Nat} (h : Kd.B d e w base ok v xs) (hb : w.heap[g]? = some (.cells cs t (0, 0))) (ht : e ≠ t) : some g ≠ v.ownBlock := by
  obtain ⟨h0, hm, g', cells, fz, rfl, h2, h3, r⟩ := h
  intro he
  have : g = g' := by simpa [Value.ownBlock] using he
  subst this
  rw [h3] at hb
  injection hb with hb
  injection hb with _ hb
  exact ht hb
theorem Kd.B_lt (h : Kd.B d e w base ok v xs) : ∀ k, v.ownBlock = some k → k < w.heap.size := by
  obtain ⟨h0, hm, g', cells, fz, rfl, h2, h3, r⟩ := h
  intro k hk
  have : g' = k := by simpa [Value.ownBlock] using hk
  exact this ▸ (Array.getElem?_eq_some_iff.1 h3).1
end
section
variable {P : Program} {ops : Array Oper} {rest : List Oper} {o : Oper} {a : Act} {Q : Exit → Act → World → Prop}
theorem run_append_byte {w : World} (t ty e : TypeId) {i : TypeInfo} (ht : P.underlying t = some (.slice e)) (hi : P.info? e = some i) (hsz : i.size = 1) {g n : Nat} {cells : Array Value} {fz : Nat × Nat} (hg : w.heap[g]? = some (.cells cells e fz)) (hf : cells.size ≤ fz.1 ∨ fz.2 = 0)
    (hroom : n + 1 ≤ cells.size) (ad : Addr) (c : Nat) (p : Int) (hp : w.cell? ad = some (.int .u8 p)) :
    (Builtin.append_ #[t, t] ty #[.slice (some ⟨g, 0, none⟩) n cells.size, .slice (some ad) 1 c]).run P w = .ok (.slice (some ⟨g, 0, none⟩) (n + 1) cells.size) (w.setCell ⟨g, n, none⟩ (.int .u8 p)) := by
  have hadd : (⟨g, n, none⟩ : Addr).add 0 = ⟨g, n, none⟩ := by unfold Addr.add; split <;> simp_all
  have hcell : w.cell? ⟨g, n, none⟩ = some cells[n] := by simp [World.cell?, hg, show n < cells.size by omega]
  have hfro : w.frozen? ⟨g, n, none⟩ = false := by
    simp only [World.frozen?, hg]
    rcases hf with hf | hf
    · have : ¬ fz.1 ≤ n := by omega
      simp [this]
    · simp [hf]
  have hst : (storeCells ⟨g, n * i.size, none⟩ [.int .u8 p] 0).run P w = .ok () (w.setCell ⟨g, n, none⟩ (.int .u8 p)) := by
    rw [hsz, Nat.mul_one]
    simp only [storeCells, Sem.run_bind, hadd]
    rw [run_store P w _ _ _ rfl, hcell]
    simp [hfro, Result.andThen]
  have hfc := run_firstCells_some (P := P) w i.size 1 ad 1 c [.int .u8 p] (by simp [hsz]) (fun j u hj => by
    have : j = 0 := by
      rcases Nat.eq_zero_or_pos j with h | h
      · exact h
      · rw [List.getElem?_eq_none (by simp; omega)] at hj
        cases hj
    subst this
    have ha : ad.add 0 = ad := by unfold Addr.add; split <;> simp_all
    rw [ha, hp]
    simpa using hj)
  simp [Builtin.append_, run_underlying ht, sizeOf, typeInfo, hi, Builtin.lenOf, hroom, hfc, Addr.add_lit, hst]
theorem Kd.B_append (d : Kd Int) {w0 W : World} (base : Nat) (hgd : o.guard = none) (s x : Operand) (t e : TypeId) (z : Value) (bytes : Nat)
    (ho : o.op = .call { callee := .builtin .append, args := #[s, x], argTypes := #[t, t] })
    (ht : P.underlying t = some (.slice e)) (hinfo : (P.info? e).map (fun i => (i.zero, i.size, i.bytes)) = some (some z, 1, bytes)) (_hz : z.cells.size = 1) (_hs0 : 0 < 1) (hb0 : 0 < bytes)
    (v : Value) (xs : List Int) (p : Int) (cs : List Value) (ok okp : Nat → Prop) (hs : a.eval s = v) (hx : a.eval x = .slice (some ⟨W.heap.size, 0, none⟩) 1 1) (hp : cs = [.int .u8 p]) (_hokp : ∀ k, okp k → ok k ∧ some k ≠ v.ownBlock) (hfresh : ∀ k, W.heap.size ≤ k → ok k)
    (HO : Kd.B d e W base ok v xs) (HB : Below base w0 W) (hbase : base ≤ W.heap.size) (hl : (xs.length + 1) * bytes ≤ 140737488355328)
    (h : ∀ v1 w1, Kd.B d e w1 base ok v1 (xs ++ [p]) → Below base w0 w1 → W.grownBy w1 v.ownBlock → (v1.ownBlock = v.ownBlock ∨ ∃ b, v1.ownBlock = some b ∧ W.heap.size ≤ b) → wpList P ops Q rest (a.put o.dst v1) w1) :
    wpList P ops Q (o :: rest) a (W.alloc (.cells cs.toArray e)) := by
  subst hp
  obtain ⟨i0, hi, hz0, hz1, hz2⟩ := info_parts hinfo
  obtain ⟨h0, hm, g, cells, fz, rfl, h2, h3, h4, h5, h6⟩ := HO
  have hgl : g < W.heap.size := (Array.getElem?_eq_some_iff.1 h3).1
  have h3' : (W.alloc (.cells [Value.int .u8 p].toArray e)).heap[g]? = some (.cells cells e fz) := (heap_alloc_old W _ hgl).trans h3
  have hpc : (W.alloc (.cells [Value.int .u8 p].toArray e)).cell? ⟨W.heap.size, 0, none⟩ = some (.int .u8 p) := by
    simp only [World.cell?, heap_alloc_new]
    rfl
  have hexec : ∀ v1 w1, (Builtin.append_ #[t, t] o.type #[.slice (some ⟨g, 0, none⟩) xs.length cells.size, .slice (some ⟨W.heap.size, 0, none⟩) 1 1]).run P (W.alloc (.cells [Value.int .u8 p].toArray e)) = .ok v1 w1 → (execOp a.eval o).run P (W.alloc (.cells [Value.int .u8 p].toArray e)) = .ok (.value v1) w1 := by
    intro v1 w1 hr
    unfold execOp
    simp only [ho, resolve, invoke, builtin, Sem.run_bind, Sem.run_pure, Result.andThen_ok, List.map_toArray, List.map_cons, List.map_nil, hs, hx, hr]
  by_cases hroom : xs.length + 1 ≤ cells.size
  · have hr := run_append_byte (P := P) t o.type e ht hi hz1 h3' h4 hroom ⟨W.heap.size, 0, none⟩ 1 p hpc
    refine Kd.event_run hgd (hexec _ _ hr) (h _ _ ⟨h0, by rw [List.length_append, List.length_singleton]; have := Nat.le_trans (Nat.le_mul_of_pos_right _ hb0) hl; omega, g, cells.setIfInBounds xs.length (Value.int .u8 p), fz, ?_, h2, ?_, ?_, ?_, ?_⟩ ?_ ?_ (Or.inl rfl))
    · simp
    · simp only [World.setCell, Array.getElem?_modify, h3']
      simp
    · simpa using h4
    · simpa using hroom
    · intro j hj
      rw [List.length_append, List.length_singleton] at hj
      by_cases hij : xs.length = j
      · subst hij
        have : xs.length < cells.size := by omega
        simp [this, List.getD_eq_getElem?_getD]
      · rw [Array.getElem?_setIfInBounds_ne hij, h6 j (by omega)]
        simp [List.getD_eq_getElem?_getD, List.getElem?_append_left (show j < xs.length by omega)]
    · exact (HB.alloc hbase _).trans ⟨rfl, rfl, rfl, by simp [World.setCell], fun k hk => Below.heap_setCell _ _ _ k (by show k ≠ g; omega)⟩
    · exact ⟨rfl, rfl, rfl, by simp [World.setCell], fun k hk hne => by
        rw [Below.heap_setCell _ _ _ k (fun he => hne (by rw [he]; rfl))]
        exact heap_alloc_old W _ hk⟩
  · have hlen1 : xs.length + 1 ≤ 140737488355328 := Nat.le_trans (Nat.le_mul_of_pos_right _ hb0) hl
    have hholds : ∀ j u, (nums .u8 xs)[j]? = some u → (W.alloc (.cells [Value.int .u8 p].toArray e)).cell? ((⟨g, 0, none⟩ : Addr).add j) = some u := by
      intro j u hj
      rw [add_plain]
      simp only [World.cell?, h3']
      have hjl : j < xs.length := by
        rcases Nat.lt_or_ge j xs.length with h | h
        · exact h
        · rw [List.getElem?_eq_none (by simpa [nums] using h)] at hj
          cases hj
      simp [nums, List.getElem?_eq_getElem hjl] at hj
      subst hj
      simpa [List.getD_eq_getElem?_getD, List.getElem?_eq_getElem hjl] using h6 j hjl
    have hr := run_append_grow (P := P) (W.alloc (.cells [Value.int .u8 p].toArray e)) t o.type e i0 z ht hi hz0 ⟨g, 0, none⟩ xs.length cells.size (nums .u8 xs) (by simp [nums, hz1]) hholds ⟨W.heap.size, 0, none⟩ 1 1 [.int .u8 p] (by simp [hz1]) (fun j u hj => by
      have : j = 0 := by
        rcases Nat.eq_zero_or_pos j with h | h
        · exact h
        · rw [List.getElem?_eq_none (by simp; omega)] at hj
          cases hj
      subst this
      rw [add_plain, hpc]
      simpa using hj) (by omega) (by omega) (growslice_fits (by omega) (by rw [hz2]; exact hl))
    have hge := grownCap_ge (W.alloc (.cells [Value.int .u8 p].toArray e)) (xs.length + 1) cells.size e
    have hzs : z.cells.size = 1 := _hz
    refine Kd.event_run hgd (hexec _ _ hr) (h _ _ ⟨fun k hk => ?_, by rw [List.length_append, List.length_singleton]; omega, _, _, (0, 0), ?_, ?_, heap_alloc_new _ _, Or.inr rfl, ?_, ?_⟩ ?_ ?_ (Or.inr ⟨_, rfl, ?_⟩))
    · have : (W.alloc (.cells [Value.int .u8 p].toArray e)).heap.size = k := by simpa [Value.ownBlock] using hk
      exact hfresh k (by rw [← this]; simp)
    · simp only [List.length_append, List.length_singleton, Array.size_append, List.size_toArray, size_zeroCells, hzs, nums, List.length_map, Nat.mul_one]
      rw [show xs.length + 1 + (grownCap (W.alloc (.cells [Value.int .u8 p].toArray e)) (xs.length + 1) cells.size e - (xs.length + 1)) = grownCap (W.alloc (.cells [Value.int .u8 p].toArray e)) (xs.length + 1) cells.size e by omega]
      rfl
    · simp; omega
    · simp [nums]
    · intro j hj
      rw [List.length_append, List.length_singleton] at hj
      by_cases hij : j = xs.length
      · subst hij
        simp [nums, List.getD_eq_getElem?_getD, Array.getElem?_append]
      · have hjl : j < xs.length := by omega
        simp [nums, Array.getElem?_append, hjl, List.getD_eq_getElem?_getD, show j < xs.length + 1 by omega]
    · exact ((HB.alloc hbase _).drew).alloc (by simp; omega) _
    · exact ⟨rfl, rfl, rfl, by simp; omega, fun k hk _ => by
        rw [heap_alloc_old _ _ (by simp; omega)]
        exact heap_alloc_old W _ hk⟩
    · simp
end
section
variable {P : Program} {ops : Array Oper} {rest : List Oper} {o : Oper} {a : Act} {Q : Exit → Act → World → Prop}
theorem Kd.B_conv (d : Kd Int) {w0 W : World} (base e : Nat) (hgd : o.guard = none) {N : Tmp} (_hd : o.dst = some N) (src dst : TypeId) (x : Operand) (s : ByteArray) (ho : o.op = .convert src dst x) (hx : a.eval x = .string s)
    {u : TypeDesc} (hs : P.underlying src = some u) (hdst : P.underlying dst = some (.slice e)) (he : P.underlying e = some (.int .u8)) {ok : Nat → Prop} (hfresh : ok W.heap.size) (HB : Below base w0 W) (hbase : base ≤ W.heap.size) (hl : s.size < 140737488355328)
    (h : ∀ v1 w1, Kd.B d e w1 base ok v1 (bytesOf s) → Below base w0 w1 → True → True → wpList P ops Q rest (a.put o.dst v1) w1) : wpList P ops Q (o :: rest) a W := by
  have hr := print_bytes (P := P) src dst e hs hdst he s W
  have hrow : Kd.B d e (Lib.bytesWorld W e s) base ok (.slice (some ⟨W.heap.size, 0, none⟩) s.size (grownCap W s.size 0 e)) (bytesOf s) := by
    have hsz : (Lib.bytesCells W e s).size = grownCap W s.size 0 e := by
      have := grownCap_ge W s.size 0 e
      simp only [Lib.bytesCells, Array.size_append, Array.size_map, Array.size_replicate]
      have h2 : s.data.size = s.size := rfl
      omega
    refine ⟨fun k hk => ?_, by rw [bytesOf_length]; omega, W.heap.size, Lib.bytesCells W e s, _, ?_, hbase, Lib.bytesWorld_at_new W e s, Or.inl (Nat.le_refl _), ?_, fun j hj => ?_⟩
    · have : W.heap.size = k := by simpa [Value.ownBlock] using hk
      exact this ▸ hfresh
    · rw [bytesOf_length, hsz]
    · rw [bytesOf_length, hsz]
      exact grownCap_ge W s.size 0 e
    · rw [bytesOf_length] at hj
      have h1 := Lib.bytesWorld_cell W e s j hj
      simp only [World.cell?, Lib.bytesWorld_at_new] at h1
      have h' : j < s.data.toList.length := by rw [data_length]; exact hj
      have h2 : (bytesOf s).getD j 0 = (s.data.toList.getD j 0).toNat := by simp [bytesOf, List.getD_eq_getElem?_getD, List.getElem?_eq_getElem h']
      rw [h2]
      simpa using h1
  have h3 := h _ _ hrow (bytes_below HB hbase e s) trivial trivial
  exact Kd.event_run hgd (by simp [execOp, ho, hx, hr]) h3
theorem conv_same {P : Program} (t e : TypeId) (ht : P.underlying t = some (.slice e)) (he : P.underlying e = some (.int .u8)) (g n c : Nat) {cells : Array Value} {f : Nat × Nat} (w : World) (hg : w.heap[g]? = some (.cells cells e f)) :
    (convert t t (.slice (some ⟨g, 0, none⟩) n c)).run P w = .ok (.slice (some ⟨g, 0, none⟩) n c) (w.freeze ⟨g, cells.size, none⟩ 1) := by
  have hsh : w.shape? g = some (e, cells.size) := by simp [World.shape?, hg]
  simp [convert, run_underlying ht, run_underlying he, markStringish, hsh, Result.andThen]
theorem freeze_at (w : World) (g m : Nat) {cells : Array Value} {e : TypeId} (hg : w.heap[g]? = some (.cells cells e (0, 0))) : (w.freeze ⟨g, m, none⟩ 1).heap[g]? = some (.cells cells e (m, m + 1)) := by
  simp [World.freeze, Array.getElem?_modify, hg]
theorem freeze_other (w : World) (g m k : Nat) (h : k ≠ g) : (w.freeze ⟨g, m, none⟩ 1).heap[k]? = w.heap[k]? := by
  simp [World.freeze, Array.getElem?_modify, Ne.symm h]
theorem Kd.B_mark (d : Kd Int) {w0 W : World} (base e : Nat) (hgd : o.guard = none) {N : Tmp} (_hd : o.dst = some N) (t : TypeId) (x : Operand) (v : Value) (xs : List Int) (ok : Nat → Prop) (ho : o.op = .convert t t x) (hx : a.eval x = v)
    (ht : P.underlying t = some (.slice e)) (he : P.underlying e = some (.int .u8)) (_hfresh : ∀ k, W.heap.size ≤ k → ok k) (HO : Kd.R (Kd.int .u8) e W base ok v xs) (hn : 0 < xs.length) (HB : Below base w0 W) (_hbase : base ≤ W.heap.size)
    (h : ∀ v1 w1, Kd.B d e w1 base ok v1 xs → Below base w0 w1 → W.grownBy w1 v.ownBlock → (v1.ownBlock = v.ownBlock ∨ ∃ b, v1.ownBlock = some b ∧ W.heap.size ≤ b) → wpList P ops Q rest (a.put o.dst v1) w1) : wpList P ops Q (o :: rest) a W := by
  have hown := Kd.own_of_R HO
  rcases hown.2 with ⟨_, h0⟩ | ⟨g, cap, cur, rfl, hbg, hg, hnc, hcm, hcs, htake⟩
  · omega
  · have hr := conv_same (P := P) t e ht he g xs.length cap W hg
    rw [Nat.mul_one] at hcs htake
    subst hcs
    refine Kd.event_run hgd (by simp [execOp, ho, hx, hr]) (h _ _ ⟨HO.1, by simp only [maxLen] at hcm; omega, g, cur, (cur.size, cur.size + 1), rfl, hbg, freeze_at W g _ hg, Or.inl (Nat.le_refl _), hnc, fun j hj => ?_⟩ ?_ ?_ (Or.inl rfl))
    · have h1 : (cur.toList.take xs.length)[j]? = (encs (Value.int .u8) xs)[j]? := by rw [htake]
      rw [List.getElem?_take, if_pos hj] at h1
      rw [← Array.getElem?_toList, h1]
      simp [encs, List.getElem?_eq_getElem hj, List.getD_eq_getElem?_getD]
    · exact HB.trans ⟨rfl, rfl, rfl, by simp [World.freeze], fun k hk => freeze_other W g _ k (by omega)⟩
    · exact ⟨rfl, rfl, rfl, by simp [World.freeze], fun k hk hne => freeze_other W g _ k (fun he => hne (by rw [he]; rfl))⟩
theorem Kd.B_reads' {d : Kd Int} {e : Nat} {w : World} {base : Nat} {ok : Nat → Prop} {A : Option Addr} {n c : Nat} {xs : List Int} (h : Kd.B d e w base ok (.slice A n c) xs) : n = xs.length ∧ n ≤ c ∧ Kd.C (Kd.int .u8) w A xs.length xs := by
  obtain ⟨A1, c1, hv, hl, hr⟩ := Kd.B_reads h h.2.1
  injection hv with h1 h2 h3
  subst h1 h2 h3
  exact ⟨rfl, hl, Kd.C_of_reads (h1 := fun _ => rfl) (d := 0) hr⟩
end
end Go.Proofs.Ythdahpnjiighfaa.F
