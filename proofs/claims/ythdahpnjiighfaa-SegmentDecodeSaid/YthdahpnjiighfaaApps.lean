import Derived.Test.YthdahpnjiighfaaWWords
import Derived.Test.YthdahpnjiighfaaWKept
import Derived.Test.YthdahpnjiighfaaWFootNe
namespace Go.Proofs.Ythdahpnjiighfaa.F
open Go.RowKit Go.Proofs.YthdahpnjiighfaaW.PrintWords
section
variable {P : Program} {ops : Array Oper} {rest : List Oper} {o : Oper} {a : Act} {Q : Exit → Act → World → Prop}
theorem run_append_str_at {W : World} (base : Nat) (t u ty e : TypeId) {i : TypeInfo} (ht : P.underlying t = some (.slice e)) (hu : P.underlying u = some .string) (hi : P.info? e = some i) (hz : i.zero = some (.int .u8 0)) (hs1 : i.size = 1) (hb1 : i.bytes = 1)
    (v : Value) (n : Nat) (xs : List Value) (y : ByteArray) (HO : W.ownsRow base e 1 v n xs) (hbase : base ≤ W.heap.size) (hl : n + y.size ≤ 140737488355328) :
    ∃ v1 w1, (Builtin.append_ #[t, u] ty #[v, .string y]).run P W = .ok v1 w1 ∧ w1.ownsRow base e 1 v1 (n + y.size) (xs ++ Lib.strCells y) ∧ W.grownBy w1 v.ownBlock ∧ (v1.ownBlock = v.ownBlock ∨ ∃ b, v1.ownBlock = some b ∧ W.heap.size ≤ b) := by
  have h63 : n + y.size ≤ maxLen := by simp only [maxLen]; omega
  rcases HO.2 with ⟨rfl, rfl⟩ | ⟨g, cap, cur, rfl, hbg, hg, hnc, hcm, hcs, htake⟩
  · have hx : xs = [] := List.eq_nil_of_length_eq_zero (by simpa using HO.1)
    subst hx
    obtain ⟨v1, w1, h1, h2, h3, h4⟩ := Lib.run_append_own_string (P := P) W W.heap.size t u ty e i ht hu hi hz hs1 hb1 (.slice none 0 0) 0 [] (World.ownsRow_nil _ _ _ _) y h63 hl (Nat.le_refl _)
    refine ⟨v1, w1, h1, own_weaken h2 hbase, h3, ?_⟩
    rcases h2.2 with ⟨rfl, _⟩ | ⟨g, cap, cur, rfl, hbg, _⟩
    · exact Or.inl rfl
    · exact Or.inr ⟨g, rfl, hbg⟩
  · obtain ⟨v1, w1, h1, h2, h3, h4⟩ := Lib.run_append_own_string (P := P) W base t u ty e i ht hu hi hz hs1 hb1 _ n xs HO y h63 hl hbase
    refine ⟨v1, w1, h1, h2, h3, ?_⟩
    by_cases hroom : n + y.size ≤ cap
    · have hr := Lib.run_append_room_string (P := P) W t u ty e i ht hu hi hs1 g n cap cur hg y hroom (by omega)
      rw [hr] at h1
      injection h1 with h1 _
      subst h1
      exact Or.inl rfl
    · have hr := Lib.run_append_grow_string (P := P) W t u ty e i (.int .u8 0) ht hu hi hz ⟨g, 0, none⟩ n cap xs (by rw [hs1]; exact HO.1) (HO.cells (g := g) rfl) y (by omega) (by omega) (growslice_fits (by omega) (by rw [hb1]; omega))
      rw [hr] at h1
      injection h1 with h1 _
      subst h1
      exact Or.inr ⟨_, rfl, Nat.le_refl _⟩
theorem Kd.R_append_str {w0 W : World} (base : Nat) (hgd : o.guard = none) (s x : Operand) (t u e : TypeId)
    (ho : o.op = .call { callee := .builtin .append, args := #[s, x], argTypes := #[t, u] })
    (ht : P.underlying t = some (.slice e)) (hu : P.underlying u = some .string) (hinfo : (P.info? e).map (fun i => (i.zero, i.size, i.bytes)) = some (some (.int .u8 0), 1, 1))
    (v : Value) (xs : List Int) (y : ByteArray) (ok : Nat → Prop) (hs : a.eval s = v) (hx : a.eval x = .string y) (hfresh : ∀ k, W.heap.size ≤ k → ok k)
    (HO : Kd.R (Kd.int .u8) e W base ok v xs) (HB : Below base w0 W) (hbase : base ≤ W.heap.size) (hl : xs.length + y.size ≤ 140737488355328)
    (h : ∀ v1 w1, Kd.R (Kd.int .u8) e w1 base ok v1 (xs ++ bytesOf y) → Below base w0 w1 → W.grownBy w1 v.ownBlock → (v1.ownBlock = v.ownBlock ∨ ∃ b, v1.ownBlock = some b ∧ W.heap.size ≤ b) → wpList P ops Q rest (a.put o.dst v1) w1) :
    wpList P ops Q (o :: rest) a W := by
  obtain ⟨i0, hi, hz0, hz1, hz2⟩ := info_parts hinfo
  have hown := Kd.own_of_R HO
  obtain ⟨v1, w1, hr, h2, h3, h4⟩ := run_append_str_at (P := P) base t u o.type e ht hu hi hz0 hz1 hz2 v xs.length _ y hown hbase hl
  refine Kd.event_run hgd (w1 := w1) (v := v1) ?_ (h v1 w1 (Kd.R_of_own (h1 := fun _ => rfl) ?_ (fun k hk => ?_)) (HB.grown h3 hbase (own_base hown)) h3 h4)
  · unfold execOp
    simp only [ho, resolve, invoke, builtin, Sem.run_bind, Sem.run_pure, Result.andThen_ok, List.map_toArray, List.map_cons, List.map_nil, hs, hx, hr]
  · have e1 : (xs ++ bytesOf y).length = xs.length + y.size := by rw [List.length_append, bytesOf_length]
    have e2 : encs (Value.int .u8) (xs ++ bytesOf y) = encs (Value.int .u8) xs ++ Lib.strCells y := by simp [encs, bytesOf, Lib.strCells]
    rw [e1, e2]
    exact h2
  · rcases h4 with e1 | ⟨b, e1, hb⟩
    · exact HO.1 k (by rw [← e1]; exact hk)
    · rw [e1] at hk
      injection hk with hk
      subst hk
      exact hfresh _ hb
end
theorem foot_slice {α : Type} {d : Kd α} {e : Nat} {S : Nat → Prop} {w W : World} {A : Option Addr} {n m c0 : Nat} {A0 : Option Addr} {xs : List (List α)} (h : ∀ W', Kept w W' S → Kd.C (Kd.slice e d) W' A n xs) (i : Int) (h0 : 0 ≤ i) (h1 : i < n) (hk : Kept w W S) {ad : Addr}
    (hA : A = some ad) (hx : W.cell? (ad.add i.toNat) = some (.slice A0 m c0)) {ys : List α} (hy : xs.getD i.toNat [] = ys) : ∀ W', Kept w W' S → Kd.C d W' A0 ys.length ys := by
  intro W' hk'
  subst hy
  subst hA
  have hn : 0 < n := by omega
  have hs : ¬ S ad.block := Kd.foot_neS h hn Nat.one_pos
  have hl : ad.block < w.heap.size := Kd.foot_ltS h hn Nat.one_pos
  obtain ⟨ad', c, e1, _, hK, hc0⟩ := Kd.C_get (h W' hk') ([] : List α) i h0 h1
  injection e1 with e1
  subst e1
  obtain ⟨A1, c1, rfl, l0, g0⟩ := hK
  have hq := hc0 0 _ rfl
  have hb : (ad.add (i.toNat * 1 + 0)).block = ad.block := add_block _ _
  have h2 : W'.cell? (ad.add i.toNat) = W.cell? (ad.add i.toNat) := by
    refine World.cell?_of_block ?_
    have hb2 : (ad.add i.toNat).block = ad.block := add_block _ _
    rw [hb2, hk'.2 _ hl hs, hk.2 _ hl hs]
  have hq2 : W'.cell? (ad.add i.toNat) = some (.slice A1 (xs.getD i.toNat []).length c1) := by
    have := hq
    rwa [show (Kd.slice e d).sz = 1 from rfl, Nat.mul_one, Nat.add_zero] at this
  rw [h2, hx] at hq2
  injection hq2 with hq2
  injection hq2 with hq2 _ _
  subst hq2
  exact g0
end Go.Proofs.Ythdahpnjiighfaa.F
