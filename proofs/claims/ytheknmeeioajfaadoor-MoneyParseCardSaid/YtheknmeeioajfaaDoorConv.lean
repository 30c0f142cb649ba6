/- Rows that a conversion of a text to bytes makes: how they are read, written and turned into a text again. -/
import Derived.Test.YtheknmeeioajfaaDoorWWords
import Derived.Lib.AtoiErrMem
namespace Go.Proofs.YtheknmeeioajfaaDoor.F
open Go.RowKit Go.Proofs.YtheknmeeioajfaaDoorW.PrintWords
/-- A row of bytes that a conversion made: its block's mark lies behind its cells. -/
def Kd.B (_d : Kd Int) (e : Nat) (w : World) (base : Nat) (ok : Nat → Prop) (v : Value) (xs : List Int) : Prop :=
  (∀ k, v.ownBlock = some k → ok k) ∧ ∃ g cells fz, v = .slice (some ⟨g, 0, none⟩) xs.length cells.size ∧ base ≤ g ∧ w.heap[g]? = some (.cells cells e fz) ∧ cells.size ≤ fz.1 ∧ xs.length ≤ cells.size ∧ ∀ j, j < xs.length → cells[j]? = some (Value.int .u8 (xs.getD j 0))
section
variable {d : Kd Int} {e : Nat} {w w1 : World} {base : Nat} {ok ok' : Nat → Prop} {v : Value} {xs : List Int}
theorem Kd.B_lower {base' : Nat} (h : Kd.B d e w base ok v xs) (hb : base' ≤ base) : Kd.B d e w base' ok v xs := by
  obtain ⟨h0, g, cells, fz, h1, h2, r⟩ := h
  exact ⟨h0, g, cells, fz, h1, Nat.le_trans hb h2, r⟩
theorem Kd.B_mono (h : Kd.B d e w base ok v xs) (hok : ∀ k, ok k → ok' k) : Kd.B d e w base ok' v xs := ⟨fun k hk => hok k (h.1 k hk), h.2⟩
theorem Kd.B_move (h : Kd.B d e w base ok v xs) (hm : ∀ k, v.ownBlock = some k → k < w.heap.size → w1.heap[k]? = w.heap[k]?) : Kd.B d e w1 base ok v xs := by
  obtain ⟨h0, g, cells, fz, rfl, h2, h3, r⟩ := h
  exact ⟨h0, g, cells, fz, rfl, h2, (hm g rfl (Array.getElem?_eq_some_iff.1 h3).1).trans h3, r⟩
theorem Kd.B_below (h : Kd.B d e w base ok v xs) (hb : Below w.heap.size w w1) : Kd.B d e w1 base ok v xs := Kd.B_move h fun k _ hk => hb.block k hk
theorem Kd.B_alloc (h : Kd.B d e w base ok v xs) (o : Obj) : Kd.B d e (w.alloc o) base ok v xs := Kd.B_below h (below_alloc (Below.refl _ _) o)
theorem Kd.B_drew (h : Kd.B d e w base ok v xs) : Kd.B d e w.drew base ok v xs := Kd.B_below h (below_drew (Below.refl _ _))
theorem Kd.B_drewN (h : Kd.B d e w base ok v xs) (m : Nat) : Kd.B d e (w.drewN m) base ok v xs := Kd.B_below h (pw_below_drewN (Below.refl _ _) m)
theorem Kd.B_slice (h : Kd.B d e w base ok v xs) : ∃ A c, v = .slice A xs.length c := by
  obtain ⟨h0, g, cells, fz, rfl, r⟩ := h
  exact ⟨_, _, rfl⟩
theorem Kd.B_form (h : Kd.B d e w base ok v xs) (_hp : 0 < xs.length) : ∃ g cap, v = .slice (some ⟨g, 0, none⟩) xs.length cap ∧ base ≤ g ∧ g < w.heap.size ∧ ∃ cells : Array Value × (Nat × Nat), w.heap[g]? = some (.cells cells.1 e cells.2) := by
  obtain ⟨h0, g, cells, fz, rfl, h2, h3, r⟩ := h
  exact ⟨g, _, rfl, h2, (Array.getElem?_eq_some_iff.1 h3).1, (cells, fz), h3⟩
theorem Kd.B_celln {g n cap : Nat} (dd : Int) (h : Kd.B d e w base ok (.slice (some ⟨g, 0, none⟩) n cap) xs) (i : Int) (h0 : 0 ≤ i) (hi : i < n) :
    w.cell? ⟨g, i.toNat, none⟩ = some (Value.int .u8 (rdOf dd xs i)) ∧ w.frozen? ⟨g, i.toNat, none⟩ = false := by
  obtain ⟨_, g', cells, fz, hv, h2, h3, h4, h5, h6⟩ := h
  injection hv with hv hn hc
  injection hv with hv
  injection hv with hv
  subst hv
  have hj : i.toNat < xs.length := by omega
  have hc := h6 i.toNat hj
  constructor
  · simp only [World.cell?, h3]
    simp [hc, rdOf, List.getD_eq_getElem?_getD, List.getElem?_eq_getElem hj]
  · simp only [World.frozen?, h3]
    have : ¬ fz.1 ≤ i.toNat := by omega
    simp [this]
theorem Kd.B_putg {g n cap : Nat} (h : Kd.B d e w base ok (.slice (some ⟨g, 0, none⟩) n cap) xs) (i : Int) (x : Int) :
    Kd.B d e (w.setCell ⟨g, i.toNat, none⟩ (Value.int .u8 x)) base ok (.slice (some ⟨g, 0, none⟩) n cap) (xs.set i.toNat x) ∧ w.grownBy (w.setCell ⟨g, i.toNat, none⟩ (Value.int .u8 x)) (some g) := by
  obtain ⟨h0, g', cells, fz, hv, h2, h3, h4, h5, h6⟩ := h
  injection hv with hv hn hc
  injection hv with hv
  injection hv with hv
  subst hv
  refine ⟨⟨h0, g, cells.setIfInBounds i.toNat (Value.int .u8 x), fz, ?_, h2, ?_, ?_, ?_, ?_⟩, ?_⟩
  · simp [hn, hc]
  · simp [World.setCell, Array.getElem?_modify, h3]
  · simpa using h4
  · simpa using h5
  · intro j hj
    rw [List.length_set] at hj
    have hc := h6 j hj
    by_cases hij : i.toNat = j
    · subst hij
      have : i.toNat < cells.size := by omega
      simp [this, List.getD_eq_getElem?_getD, hj]
    · rw [Array.getElem?_setIfInBounds_ne hij, hc]
      simp [List.getD_eq_getElem?_getD, List.getElem?_set_ne hij]
  · exact ⟨rfl, rfl, rfl, by simp [World.setCell], fun k hk hne => Below.heap_setCell w _ _ k (fun he => hne (by rw [he]))⟩
theorem Kd.B_cell (h : Kd.B d e w base ok v xs) : ∃ g c, v = .slice (some ⟨g, 0, none⟩) xs.length c ∧ xs.length ≤ c ∧ ∀ i, i < xs.length → w.cell? ⟨g, 0 + i, none⟩ = some (.int .u8 (xs.getD i 0)) := by
  obtain ⟨h0, g, cells, fz, rfl, h2, h3, h4, h5, h6⟩ := h
  refine ⟨g, _, rfl, h5, fun i hi => ?_⟩
  simp only [World.cell?, h3, Nat.zero_add]
  simpa using h6 i hi
theorem Kd.B_string {P : Program} {src dst et : TypeId} (hs : P.underlying src = some (.slice et)) (he : P.underlying et = some (.int .u8)) (hd : P.underlying dst = some .string)
    (h : Kd.B d e w base ok v xs) : (convert src dst v).run P w = .ok (.string (strOfNums xs)) w := by
  obtain ⟨g, c, rfl, _, hc⟩ := Kd.B_cell h
  exact run_convert_bytes_arg w src et hs he g 0 _ _ xs rfl hc dst hd
/-- As a row that is only read. -/
theorem Kd.B_reads (h : Kd.B d e w base ok v xs) (hm : xs.length ≤ 9223372036854775807) : ∃ A c, v = .slice A xs.length c ∧ xs.length ≤ c ∧ ReadsInt w .u8 A xs.length xs := by
  obtain ⟨g, c, rfl, hl, hc⟩ := Kd.B_cell h
  refine ⟨_, _, rfl, hl, rfl, hm, fun _ => ⟨_, rfl, fun j hj => ?_⟩⟩
  have := hc j hj
  rw [Nat.zero_add] at this
  rw [add_plain]
  exact this
end
section
variable {P : Program} {ops : Array Oper} {rest : List Oper} {o : Oper} {a : Act} {Q : Exit → Act → World → Prop}
theorem Kd.B_conv (d : Kd Int) {w0 W : World} (base e : Nat) (hgd : o.guard = none) {N : Tmp} (_hd : o.dst = some N) (src dst : TypeId) (x : Operand) (s : ByteArray) (ho : o.op = .convert src dst x) (hx : a.eval x = .string s)
    {u : TypeDesc} (hs : P.underlying src = some u) (hdst : P.underlying dst = some (.slice e)) (he : P.underlying e = some (.int .u8)) {ok : Nat → Prop} (hfresh : ok W.heap.size) (HB : Below base w0 W) (hbase : base ≤ W.heap.size)
    (h : ∀ v1 w1, Kd.B d e w1 base ok v1 (bytesOf s) → Below base w0 w1 → True → True → wpList P ops Q rest (a.put o.dst v1) w1) : wpList P ops Q (o :: rest) a W := by
  have hr := print_bytes (P := P) src dst e hs hdst he s W
  have hrow : Kd.B d e (Lib.bytesWorld W e s) base ok (.slice (some ⟨W.heap.size, 0, none⟩) s.size (grownCap W s.size 0 e)) (bytesOf s) := by
    have hsz : (Lib.bytesCells W e s).size = grownCap W s.size 0 e := by
      have := grownCap_ge W s.size 0 e
      simp only [Lib.bytesCells, Array.size_append, Array.size_map, Array.size_replicate]
      have h2 : s.data.size = s.size := rfl
      omega
    refine ⟨fun k hk => ?_, W.heap.size, Lib.bytesCells W e s, _, ?_, hbase, Lib.bytesWorld_at_new W e s, Nat.le_refl _, ?_, fun j hj => ?_⟩
    · have : W.heap.size = k := by simpa [Value.ownBlock] using hk
      exact this ▸ hfresh
    · rw [bytesOf_length, hsz]
    · rw [bytesOf_length, hsz]
      exact grownCap_ge W s.size 0 e
    · rw [bytesOf_length] at hj
      have h1 := Lib.bytesWorld_cell W e s j hj
      simp only [World.cell?, Lib.bytesWorld_at_new] at h1
      have h' : j < s.data.toList.length := by rw [data_length]; exact hj
      have h2 : (bytesOf s).getD j 0 = (s.data.toList.getD j 0).toNat := by simp [bytesOf, List.getD_eq_getElem?_getD, List.getElem?_eq_getElem h']
      rw [h2]
      simpa using h1
  have h3 := h _ _ hrow (bytes_below HB hbase e s) trivial trivial
  exact Kd.event_run hgd (by simp [execOp, ho, hx, hr]) h3
end
end Go.Proofs.YtheknmeeioajfaaDoor.F
