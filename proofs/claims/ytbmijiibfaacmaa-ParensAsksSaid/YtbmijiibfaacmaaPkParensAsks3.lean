/- LawParensAsks, part 3: whatever the input, the law comes out true: our texts, joined by a tool, without what the claim does not name. -/
import Derived.Test.YtbmijiibfaacmaaPkParensAsks2
import Derived.Below
import Derived.Test.YtbmijiibfaacmaaRows
import Derived.WalkKit
import Derived.ProofKit
import Derived.OpenShut
import Derived.ShutString
import Derived.ChangeOld
import Derived.SizedLaws
set_option linter.unusedVariables false
namespace Go.Proofs.Ytbmijiibfaacmaa.Am
open Go Go.ChangeShapes Go.WideShapes
theorem add_add' (x : Addr) (i j : Nat) : (x.add i).add j = x.add (i + j) := by
 unfold Addr.add
 by_cases hi : i = 0
 ·subst hi; simp
 ·by_cases hj : j = 0
  ·subst hj; simp
  ·simp [hi, hj, Nat.add_assoc]
theorem VRs_get {m : Mp} : ∀ {xs : List AV} {cs : List Value}, VRs m xs cs → xs.length = cs.length ∧ ∀ (i : Nat) x, xs[i]? = some x → ∃ c, cs[i]? = some c ∧ VR m x c
 | [], cs, h => by
  simp only [VRs] at h; subst h
  exact ⟨rfl, fun i x hx => by simp at hx⟩
 | x :: xs, cs, h => by
  simp only [VRs] at h
  obtain ⟨y, ys, rfl, h1, h2⟩ := h
  obtain ⟨q1, q2⟩ := VRs_get h2
  refine ⟨by simp [q1], fun i z hz => ?_⟩
  cases i with
  | zero => simp at hz; subst hz; exact ⟨y, rfl, h1⟩
  | succ i => simpa using q2 i z (by simpa using hz)
section
variable {H : Type} {enc : TypeId × Value → H} {P : Program} {w : World} {base : Nat} {held : Bool}
end
theorem VRs_nil (m : Mp) : VRs m [] [] := by simp only [VRs]
theorem VRs_cons {m : Mp} {x : AV} {y : Value} {xs : List AV} {ys : List Value} (h : VR m x y) (k : VRs m xs ys) : VRs m (x :: xs) (y :: ys) := by simp only [VRs]; exact ⟨y, ys, rfl, h, k⟩
theorem VR_int (m : Mp) (k : IntKind) (n : Int) : VR m (.int k n) (.int k n) := by simp only [VR]
theorem VR_bool (m : Mp) (b : Bool) : VR m (.bool b) (.bool b) := by simp only [VR]
theorem VR_str (m : Mp) (s : ByteArray) : VR m (.str (s.data.toList.map (·.toNat))) (.string s) := by simp only [VR]; exact ⟨s, rfl, rfl⟩
theorem VR_agg {m : Mp} {xs : List AV} {c : Array Value} (h : VRs m xs c.toList) : VR m (.agg xs) (.agg c) := by simp only [VR]; exact ⟨c, rfl, h⟩
end Go.Proofs.Ytbmijiibfaacmaa.Am
set_option linter.unusedVariables false
namespace Go.Proofs.Ytbmijiibfaacmaa.Am
open Go Go.ChangeShapes Go.WideShapes
def Has (m : Mp) (F : List (Nat × List AV)) : Prop := ∀ p ∈ F, ∃ id, m.froz id = some p
theorem Has.left {m : Mp} {F G : List (Nat × List AV)} (h : Has m (F ++ G)) : Has m F := fun p hp => h p (List.mem_append_left _ hp)
theorem Has.right {m : Mp} {F G : List (Nat × List AV)} (h : Has m (F ++ G)) : Has m G := fun p hp => h p (List.mem_append_right _ hp)
theorem has_mpOf (F : List (Nat × List AV)) : Has (mpOf F) F := fun p hp => by
 obtain ⟨i, hi⟩ := List.getElem?_of_mem hp
 exact ⟨i, hi⟩
structure Sees (w : World) (F : List (Nat × List AV)) (xs : List AV) (cs : List Value) : Prop where
 vr : ∀ m, Has m F → VRs m xs cs
 fz : ∀ p ∈ F, ∃ cs ty fr, w.heap[p.1]? = some (.cells cs ty fr) ∧ p.2.length ≤ cs.size ∧ ∀ m, Has m F → VRs m p.2 (cs.toList.take p.2.length)
theorem VRs_app {m : Mp} : ∀ {xs ys : List AV} {cs ds : List Value}, VRs m xs cs → VRs m ys ds → VRs m (xs ++ ys) (cs ++ ds)
 | [], ys, cs, ds, h, k => by simp only [VRs] at h; subst h; exact k
 | x :: xs, ys, cs, ds, h, k => by
  simp only [VRs] at h
  obtain ⟨y, zs, rfl, h1, h2⟩ := h
  exact VRs_cons h1 (VRs_app h2 k)
theorem Sees.pure {w : World} {xs : List AV} {cs : List Value} (h : ∀ m, VRs m xs cs) : Sees w [] xs cs := ⟨fun m _ => h m, fun p hp => by cases hp⟩
theorem Sees.app {w : World} {F G : List (Nat × List AV)} {xs ys : List AV} {cs ds : List Value} (h : Sees w F xs cs) (k : Sees w G ys ds) : Sees w (F ++ G) (xs ++ ys) (cs ++ ds) := by
 refine ⟨fun m hm => VRs_app (h.vr m hm.left) (k.vr m hm.right), fun p hp => ?_⟩
 rcases List.mem_append.1 hp with hp | hp
 ·obtain ⟨cs, ty, fr, h1, h2, h3⟩ := h.fz p hp
  exact ⟨cs, ty, fr, h1, h2, fun m hm => h3 m hm.left⟩
 ·obtain ⟨cs, ty, fr, h1, h2, h3⟩ := k.fz p hp
  exact ⟨cs, ty, fr, h1, h2, fun m hm => h3 m hm.right⟩
theorem Sees.cons {w : World} {F G : List (Nat × List AV)} {x : AV} {ys : List AV} {c : Value} {ds : List Value} (h : Sees w F [x] [c]) (k : Sees w G ys ds) : Sees w (F ++ G) (x :: ys) (c :: ds) := h.app k
theorem Sees.agg {w : World} {F : List (Nat × List AV)} {xs : List AV} {c : Array Value} (h : Sees w F xs c.toList) : Sees w F [.agg xs] [.agg c] := ⟨fun m hm => VRs_cons (VR_agg (h.vr m hm)) (VRs_nil m), h.fz⟩
theorem cells_spot {w : World} {x : Addr} {ds : List Value} (hc : ∀ i, i < ds.length → w.cell? (x.add i) = ds[i]?) (hp : 0 < ds.length) : ∃ cs ty fr, w.heap[x.block]? = some (.cells cs ty fr) ∧ x.off + ds.length ≤ cs.size ∧ x.spot = none ∧ ∀ i, i < ds.length → cs[x.off + i]? = ds[i]? := by
 have h0 := hc 0 hp
 rw [List.getElem?_eq_getElem hp] at h0
 obtain ⟨cs, ty, fr, hb, -, hsp⟩ := cell_add h0
 have all : ∀ i, i < ds.length → cs[x.off + i]? = ds[i]? := by
  intro i hi
  have h1 := hc i hi
  rw [List.getElem?_eq_getElem hi] at h1 ⊢
  obtain ⟨cs', ty', fr', hb', h2, -⟩ := cell_add h1
  rw [hb] at hb'
  cases hb'
  exact h2
 refine ⟨cs, ty, fr, hb, ?_, hsp rfl, all⟩
 have h2 := all (ds.length - 1) (by omega)
 rw [List.getElem?_eq_getElem (by omega)] at h2
 rcases Nat.lt_or_ge (x.off + (ds.length - 1)) cs.size with h | h
 ·omega
 ·rw [Array.getElem?_eq_none h] at h2; cases h2
section
variable {H : Type} {enc : TypeId × Value → H} {P : Program} {w : World} {base : Nat} {held : Bool}
theorem rowT_open {α : Type} {Q : α → Prop} {en : α → List AV} {n fuel : Nat} {t e : TypeId} {cs : List Value} {y : DataW H × List MemPlace} (ht : P.underlying t = some (.slice e)) (hc : P.cellsOf e = n) (hn : 0 < n) (hlen : ∀ x, (en x).length = n)
 (hel : ∀ f, f < fuel → ∀ cs y, DataW.trod enc P w base (fun _ => true) held f e cs = some y → ∃ x F, Q x ∧ Sees w F (en x) cs)
 (h : DataW.trod enc P w base (fun _ => true) held fuel t cs = some y) : ∃ (L : List α) (F : List (Nat × List AV)), Sees w F [.vec L.length n (L.flatMap en)] cs ∧ (∀ x ∈ L, Q x) ∧ L.length ≤ maxLen := by
 rcases DataW.trod_slice ht h with ⟨rfl, _⟩ | ⟨x, len, cap, elems, rest, q, hf, rfl, _, hb, hl, hm, hlq, hel', _, _⟩
 ·exact ⟨[], [], .pure fun m => VRs_cons (vec_nil m n) (VRs_nil m), (fun x hx => by cases hx), Nat.zero_le _⟩
 ·have each : ∀ i, i < len → ∃ y F, Q y ∧ ∃ cs, w.cells? base (x.add (i * n)) n = some cs ∧ Sees w F (en y) cs := by
   intro i hi
   have h1 := hel' i hi
   rw [List.getElem?_eq_getElem (by omega), hc, Option.bind_eq_some_iff] at h1
   obtain ⟨cs, h2, h3⟩ := h1
   obtain ⟨y, F, h4, h5⟩ := hel q (by omega) _ _ h3
   exact ⟨y, F, h4, cs, h2, h5⟩
  have build : ∀ k, k ≤ len → ∃ (L : List α) (F : List (Nat × List AV)) (ds : List Value), L.length = k ∧ (∀ y ∈ L, Q y) ∧ Sees w F (L.flatMap en) ds ∧ ds.length = k * n ∧ ∀ i, i < ds.length → w.cell? (x.add i) = ds[i]? := by
   intro k
   induction k with
   | zero => intro _; exact ⟨[], [], [], rfl, (fun y hy => by cases hy), .pure VRs_nil, by simp, (fun i hi => by simp at hi)⟩
   | succ k ih =>
    intro hk
    obtain ⟨L, F, ds, h1, h2, h3, h4, h5⟩ := ih (by omega)
    obtain ⟨y, G, g1, cs, g2, g3⟩ := each k (by omega)
    have g4 := World.cells?_some g2
    refine ⟨L ++ [y], F ++ G, ds ++ cs, by simp [h1], ?_, ?_, ?_, ?_⟩
    ·intro z hz
     rcases List.mem_append.1 hz with hz | hz
     ·exact h2 z hz
     ·rw [List.mem_singleton.1 hz]; exact g1
    ·rw [List.flatMap_append]
     simp only [List.flatMap_cons, List.flatMap_nil, List.append_nil]
     exact h3.app g3
    ·rw [List.length_append, h4, g4.2.1, Nat.succ_mul]
    ·intro i hi
     rw [List.length_append, h4, g4.2.1] at hi
     by_cases hlt : i < ds.length
     ·rw [List.getElem?_append_left hlt]; exact h5 i hlt
     ·rw [List.getElem?_append_right (by omega), ← g4.2.2 (i - ds.length) (by omega), add_add', show k * n + (i - ds.length) = i by omega]
  obtain ⟨L, F, ds, h1, h2, h3, h4, h5⟩ := build len (Nat.le_refl _)
  by_cases h0 : len = 0
  ·subst h0
   obtain rfl : L = [] := List.length_eq_zero_iff.1 h1
   refine ⟨[], [], .pure fun m => VRs_cons ?_ (VRs_nil m), (fun x hx => by cases hx), Nat.zero_le _⟩
   simp only [VR, List.flatMap_nil, List.length_nil]
   exact ⟨by simp, _, cap, rfl, Nat.zero_le _, (fun e => by cases e), (fun e => absurd e (Nat.lt_irrefl _))⟩
  ·have hpos : 0 < ds.length := by rw [h4]; exact Nat.mul_pos (by omega) hn
   obtain ⟨cs, ty, fr, c1, c2, c3, c4⟩ := cells_spot h5 hpos
   have hfl : (L.flatMap en).length = len * n := by rw [flatMap_len hlen, h1]
   refine ⟨L, F ++ [(x.block, List.replicate x.off .top ++ L.flatMap en)], ⟨fun m hm => VRs_cons ?_ (VRs_nil m), ?_⟩, h2, by omega⟩
   ·obtain ⟨id, hid⟩ := hm (x.block, List.replicate x.off .top ++ L.flatMap en) (List.mem_append_right _ (List.mem_singleton.2 rfl))
    simp only [VR]
    refine ⟨by rw [hfl, h1], _, cap, by rw [h1], by omega, (fun e => by cases e), fun _ => ⟨id, x.block, x.off, _, hid, ?_, ?_, ?_⟩⟩
    ·cases x; simp only at c3; rw [c3]
    ·rw [List.drop_append_of_le_length (by simp), List.drop_of_length_le (by simp), List.nil_append]
     exact List.take_of_length_le (by rw [hfl, h1]; exact Nat.le_refl _)
    ·rw [List.length_append, List.length_replicate, hfl, h1]; exact Nat.le_refl _
   ·intro p hp
    rcases List.mem_append.1 hp with hp | hp
    ·obtain ⟨cs, ty, fr, h1, h2, h3⟩ := h3.fz p hp
     exact ⟨cs, ty, fr, h1, h2, fun m hm => h3 m hm.left⟩
    ·rw [List.mem_singleton.1 hp]
     refine ⟨cs, ty, fr, c1, by simp only [List.length_append, List.length_replicate]; omega, fun m hm => ?_⟩
     have hv := VRs_get (h3.vr m hm.left)
     refine VRs_all (by simp only [List.length_append, List.length_replicate, List.length_take, Array.length_toList]; omega) ?_
     intro i v c hiv hcv
     simp only [List.length_append, List.length_replicate] at hcv
     by_cases hi : i < x.off
     ·rw [List.getElem?_append_left (by simpa using hi), List.getElem?_replicate, if_pos hi] at hiv
      cases hiv
      simp only [VR]
     ·rw [List.getElem?_append_right (by simpa using Nat.le_of_not_lt hi), List.length_replicate] at hiv
      have hlt : i - x.off < (L.flatMap en).length := (List.getElem?_eq_some_iff.1 hiv).1
      obtain ⟨c', e1, e2⟩ := hv.2 _ _ hiv
      have e3 := c4 (i - x.off) (by omega)
      rw [e1, show x.off + (i - x.off) = i by omega] at e3
      rw [List.getElem?_take_of_lt (by omega), Array.getElem?_toList, e3] at hcv
      cases hcv
      exact e2
end
theorem law_walk_T {P : Program} {n : Nat} {xs : List AV} {args : Array Value} {F : List (Nat × List AV)} (h : PureOk P n xs (.bool true)) (w : World) (hs : Sees w F xs args.toList) :
 Calls P n args w fun e W' => e = .returned (.bool true) ∧ RowKit.Below w.heap.size w W' :=
 law_walk_fz h w F (hs.vr _ (has_mpOf F)) fun p hp => by
  obtain ⟨cs, ty, fr, h1, h2, h3⟩ := hs.fz p hp
  exact ⟨cs, ty, fr, h1, h2, h3 _ (has_mpOf F)⟩
theorem Sees.nil {w : World} : Sees w [] [] [] := .pure VRs_nil
theorem Sees.one {w : World} {x : AV} {c : Value} (h : ∀ m, VR m x c) : Sees w [] [x] [c] := .pure fun m => VRs_cons (h m) (VRs_nil m)
end Go.Proofs.Ytbmijiibfaacmaa.Am
set_option linter.unusedVariables false
namespace Go.Proofs.Ytbmijiibfaacmaa.Am
open Go
theorem bytes_lt (a : ByteArray) : ∀ b ∈ a.data.toList.map (·.toNat), b < 256 := by
 intro b hb
 obtain ⟨c, _, rfl⟩ := List.mem_map.1 hb
 exact UInt8.toNat_lt c
theorem fw64 (n : Int) (h1 : -9223372036854775808 ≤ n) (h2 : n ≤ 9223372036854775807) : fW .i64 n = n := by
 have h1 : lo .i64 ≤ n := h1
 have h2 : n ≤ hi .i64 := h2
 unfold fW
 rw [if_pos (by simp [h1, h2])]
end Go.Proofs.Ytbmijiibfaacmaa.Am
set_option linter.unusedVariables false
set_option linter.unusedSimpArgs false
namespace Go.Proofs.Ytbmijiibfaacmaa.Am
open Go Go.ChangeShapes Go.WideShapes
inductive TreeP : S24 → Prop where
 | mk (x : S24) (h0 : (-9223372036854775808 ≤ x.f0 ∧ x.f0 ≤ 9223372036854775807)) (h1 : ((∀ b ∈ x.f1, b < 256) ∧ x.f1.length ≤ 9223372036854775807)) (L : List S24) (hL : x.f2 = ⟨L.length, L.flatMap e25⟩) (hl : L.length ≤ 9223372036854775807) (ih : ∀ y ∈ L, TreeP y) (h5 : (∀ y ∈ x.f5, ((∀ b ∈ y, b < 256) ∧ y.length ≤ 9223372036854775807)) ∧ x.f5.length ≤ 9223372036854775807) (h6 : (∀ y ∈ x.f6, ((∀ b ∈ y, b < 256) ∧ y.length ≤ 9223372036854775807)) ∧ x.f6.length ≤ 9223372036854775807) : TreeP x
theorem e25_ln (x : S24) : (e25 x).length = 7 := rfl
theorem opnS9 {H : Type} {enc : TypeId × Value → H} {w : World} {base : Nat} {held : Bool} {fuel : Nat} {cs : List Value} {y : DataW H × List MemPlace} (h : DataW.trod enc Try.prog w base (fun _ => true) held fuel 9 cs = some y) : ∃ (x : List Nat) (F : List (Nat × List AV)), (((∀ b ∈ x, b < 256) ∧ x.length ≤ 9223372036854775807)) ∧ Sees w F (e9 x) cs := by
 obtain ⟨n0, rfl, -, w0⟩ := DataW.trod_string Try.underlying9 h
 exact ⟨n0.data.toList.map (·.toNat), [], ⟨bytes_lt n0, by simpa [maxLen] using w0⟩, .one fun m => VR_str m n0⟩
theorem opnT {H : Type} {enc : TypeId × Value → H} {w : World} {base : Nat} {held : Bool} : ∀ (fuel : Nat) (cs : List Value) (y : DataW H × List MemPlace), DataW.trod enc Try.prog w base (fun _ => true) held fuel 25 cs = some y → ∃ (x : S24) (F : List (Nat × List AV)), TreeP x ∧ Sees w F (e25 x) cs := by
 intro fuel
 induction fuel using Nat.strongRecOn with
 | _ fuel ih =>
 intro cs y h
 obtain ⟨xs, n, hn, -, hl, hx, hf⟩ := DataW.trod_struct Try.underlying25 h
 rw [show Try.prog.cellsOf 25 = 7 from by kernel_rfl] at hl
 obtain ⟨c0, c1, c2, c3, c4, c5, c6, rfl⟩ : ∃ c0 c1 c2 c3 c4 c5 c6, cs = [c0, c1, c2, c3, c4, c5, c6] := match cs, hl with | [c0, c1, c2, c3, c4, c5, c6], _ => ⟨c0, c1, c2, c3, c4, c5, c6, rfl⟩
 have hf0 : DataW.trod enc Try.prog w base (fun _ => true) held n 3 (([c0, c1, c2, c3, c4, c5, c6].drop 0).take (Try.prog.cellsOf 3)) = xs[0]? := hf 0 _ rfl
 rw [show Try.prog.cellsOf 3 = 1 from by kernel_rfl, List.getElem?_eq_getElem (by rw [hx]; show 0 < 7; decide)] at hf0
 have hf0 : DataW.trod enc Try.prog w base (fun _ => true) held n 3 [c0] = some _ := hf0
 obtain ⟨n0, z0, -, w0⟩ := DataW.trod_int Try.underlying3 hf0
 have y0 := (List.cons.inj z0).1
 have hf1 : DataW.trod enc Try.prog w base (fun _ => true) held n 9 (([c0, c1, c2, c3, c4, c5, c6].drop 1).take (Try.prog.cellsOf 9)) = xs[1]? := hf 1 _ rfl
 rw [show Try.prog.cellsOf 9 = 1 from by kernel_rfl, List.getElem?_eq_getElem (by rw [hx]; show 1 < 7; decide)] at hf1
 have hf1 : DataW.trod enc Try.prog w base (fun _ => true) held n 9 [c1] = some _ := hf1
 obtain ⟨n1, z1, -, w1⟩ := DataW.trod_string Try.underlying9 hf1
 have y1 := (List.cons.inj z1).1
 have hf2 : DataW.trod enc Try.prog w base (fun _ => true) held n 22 (([c0, c1, c2, c3, c4, c5, c6].drop 2).take (Try.prog.cellsOf 22)) = xs[2]? := hf 2 _ rfl
 rw [show Try.prog.cellsOf 22 = 1 from by kernel_rfl, List.getElem?_eq_getElem (by rw [hx]; show 2 < 7; decide)] at hf2
 have hf2 : DataW.trod enc Try.prog w base (fun _ => true) held n 22 [c2] = some _ := hf2
 obtain ⟨L2, F2, s2, q2, l2⟩ := rowT_open (Q := TreeP) (en := e25) (n := 7) Try.underlying22 (by kernel_rfl) (by decide) e25_ln (fun f hlt cs y h => ih f (by omega) cs y h) hf2
 have hf3 : DataW.trod enc Try.prog w base (fun _ => true) held n 4 (([c0, c1, c2, c3, c4, c5, c6].drop 3).take (Try.prog.cellsOf 4)) = xs[3]? := hf 3 _ rfl
 rw [show Try.prog.cellsOf 4 = 1 from by kernel_rfl, List.getElem?_eq_getElem (by rw [hx]; show 3 < 7; decide)] at hf3
 have hf3 : DataW.trod enc Try.prog w base (fun _ => true) held n 4 [c3] = some _ := hf3
 obtain ⟨n3, z3, -⟩ := DataW.trod_bool Try.underlying4 hf3
 have y3 := (List.cons.inj z3).1
 have hf4 : DataW.trod enc Try.prog w base (fun _ => true) held n 4 (([c0, c1, c2, c3, c4, c5, c6].drop 4).take (Try.prog.cellsOf 4)) = xs[4]? := hf 4 _ rfl
 rw [show Try.prog.cellsOf 4 = 1 from by kernel_rfl, List.getElem?_eq_getElem (by rw [hx]; show 4 < 7; decide)] at hf4
 have hf4 : DataW.trod enc Try.prog w base (fun _ => true) held n 4 [c4] = some _ := hf4
 obtain ⟨n4, z4, -⟩ := DataW.trod_bool Try.underlying4 hf4
 have y4 := (List.cons.inj z4).1
 have hf5 : DataW.trod enc Try.prog w base (fun _ => true) held n 23 (([c0, c1, c2, c3, c4, c5, c6].drop 5).take (Try.prog.cellsOf 23)) = xs[5]? := hf 5 _ rfl
 rw [show Try.prog.cellsOf 23 = 1 from by kernel_rfl, List.getElem?_eq_getElem (by rw [hx]; show 5 < 7; decide)] at hf5
 have hf5 : DataW.trod enc Try.prog w base (fun _ => true) held n 23 [c5] = some _ := hf5
 obtain ⟨L5, F5, s5, q5, l5⟩ := rowT_open (Q := fun x => ((∀ b ∈ x, b < 256) ∧ x.length ≤ 9223372036854775807)) (en := e9) (n := 1) Try.underlying23 (by kernel_rfl) (by decide) (fun _ => rfl) (fun f hlt cs y h => opnS9 h) hf5
 have hf6 : DataW.trod enc Try.prog w base (fun _ => true) held n 23 (([c0, c1, c2, c3, c4, c5, c6].drop 6).take (Try.prog.cellsOf 23)) = xs[6]? := hf 6 _ rfl
 rw [show Try.prog.cellsOf 23 = 1 from by kernel_rfl, List.getElem?_eq_getElem (by rw [hx]; show 6 < 7; decide)] at hf6
 have hf6 : DataW.trod enc Try.prog w base (fun _ => true) held n 23 [c6] = some _ := hf6
 obtain ⟨L6, F6, s6, q6, l6⟩ := rowT_open (Q := fun x => ((∀ b ∈ x, b < 256) ∧ x.length ≤ 9223372036854775807)) (en := e9) (n := 1) Try.underlying23 (by kernel_rfl) (by decide) (fun _ => rfl) (fun f hlt cs y h => opnS9 h) hf6
 subst y0 y1 y3 y4
 exact ⟨⟨n0, (n1.data.toList.map (·.toNat)), ⟨L2.length, L2.flatMap e25⟩, n3, n4, L5, L6⟩, _, .mk _ (by simpa [Lit.wf, IntKind.min, IntKind.max, IntKind.signed, IntKind.bits] using w0) ⟨bytes_lt n1, by simpa [maxLen] using w1⟩ L2 rfl (by simpa [maxLen] using l2) q2 ⟨q5, by simpa [maxLen] using l5⟩ ⟨q6, by simpa [maxLen] using l6⟩, (.cons (.one fun m => VR_int m .i64 n0) (.cons (.one fun m => VR_str m n1) (.cons s2 (.cons (.one fun m => VR_bool m n3) (.cons (.one fun m => VR_bool m n4) (.cons s5 (.cons s6 .nil)))))))⟩
end Go.Proofs.Ytbmijiibfaacmaa.Am
set_option linter.unusedVariables false
set_option linter.unusedSimpArgs false
namespace Go.Proofs.Ytbmijiibfaacmaa.Am
open Go
theorem dT {p : Prop} [Decidable p] (h : p) : decide p = true := decide_eq_true h
theorem dF {p : Prop} [Decidable p] (h : ¬ p) : decide p = false := decide_eq_false h
theorem fwI {n : Int} (h1 : -9223372036854775808 ≤ n) (h2 : n ≤ 9223372036854775807) : fW .i64 n = n := fw64 n h1 h2
theorem bS {α β : Type} {x : Option α} {a : α} {f : α → Option β} {r : Option β} (h : x = some a) (k : f a = r) : x.bind f = r := by rw [h]; exact k
theorem jS {α β : Type} {f : α → Option β} {g : (α → Option β) → Option β} {v : α} (h : ∀ j : α → Option β, g j = j v) : jn f g = f v := h f
theorem iT {α : Type} {c : Bool} {A B r : α} (h : c = true) (k : A = r) : (if c then A else B) = r := by rw [h]; exact k
theorem iF {α : Type} {c : Bool} {A B r : α} (h : c = false) (k : B = r) : (if c then A else B) = r := by rw [h]; exact k
theorem fw_s {n : Nat} (h : n < 300000000000000) : fW .i64 ((n : Int) + 1) = ((n + 1 : Nat) : Int) := by rw [fwI (by omega) (by omega)]; omega
abbrev By (s : List Nat) : Prop := ∀ b ∈ s, b < 256
theorem By.drop {s : List Nat} (h : By s) (n : Nat) : By (s.drop n) := fun b hb => h b (List.mem_of_mem_drop hb)
theorem By.take {s : List Nat} (h : By s) (n : Nat) : By (s.take n) := fun b hb => h b (List.mem_of_mem_take hb)
theorem By.app {a b : List Nat} (ha : By a) (hb : By b) : By (a ++ b) := fun c hc => (List.mem_append.1 hc).elim (ha c) (hb c)
theorem By.tail {c : Nat} {r : List Nat} (h : By (c :: r)) : By r := fun b hb => h b (List.mem_cons_of_mem _ hb)
theorem By.head {c : Nat} {r : List Nat} (h : By (c :: r)) : c < 256 := h c List.mem_cons_self
theorem nthX {s : List Nat} {x : Int} {i b : Nat} {r : List Nat} (hx : x = (i : Int)) (h : s.drop i = b :: r) : nthS s x = some (b : Int) := by
 subst hx
 have e : s[i]? = some b := by
  have := List.getElem?_drop (xs := s) (i := i) (j := 0)
  rw [h] at this
  simpa using this.symm
 unfold nthS
 rw [if_pos (by omega)]
 simp [e]
end Go.Proofs.Ytbmijiibfaacmaa.Am
set_option maxRecDepth 100000
set_option linter.unusedVariables false
set_option linter.unusedSimpArgs false
namespace Go.Proofs.Ytbmijiibfaacmaa.Am
noncomputable section
open Go
def opWords : List (List Nat) := g23c7.flatten
def qW (s w : List Nat) : Bool := if opWords.contains w then false else eqL w s
theorem eqL_false {s w : List Nat} (hw : ¬ w = s) : eqL w s = false := by
 have h := eqL_iff w s
 cases e : eqL w s with
 | false => rfl
 | true => exact absurd (h.1 e) hw
theorem qW_l (s : List Nat) (hs : s ∉ opWords) (w : List Nat) : eqL w s = qW s w := by
 unfold qW
 split
 ·rename_i h
  exact eqL_false (fun e => hs (e ▸ List.contains_iff_mem.1 h))
 ·rfl
def sameO (a b : Option Int) : Bool := match a, b with | some x, some y => decide (x = y) | _, _ => false
theorem sameO_eq {a b : Option Int} (h : sameO a b = true) : ∃ v, a = some v ∧ b = some v := by
 unfold sameO at h
 split at h
 ·exact ⟨_, rfl, by rw [of_decide_eq_true h]⟩
 ·cases h
theorem opWords_all : (opWords.all fun w => sameO (g43 60 w) (g23 60 w)) = true := by decide +kernel
theorem binary_at (s : List Nat) : ∃ v, g43 60 s = some v ∧ g23 60 s = some v := by
 by_cases hs : s ∈ opWords
 ·exact sameO_eq (List.all_eq_true.1 opWords_all s hs)
 ·refine ⟨0, ?_, ?_⟩
  ·delta g43 g43_l3 g43_l3B g43_l4 g43_l4B
   simp only [qW_l s hs]
   kernel_rfl
  ·delta g23 g23_l2 g23_l2B g23_l3 g23_l3B
   simp only [qW_l s hs]
   kernel_rfl
theorem level_at (x : S24) : ∃ v, g19 60 x = some v ∧ g20 60 x = some v := by
 obtain ⟨v, h1, h2⟩ := binary_at x.f1
 unfold g19 g20
 by_cases h13 : x.f0 = 13
 ·cases hc : eqL x.f1 [99, 97, 116, 99, 104] with
  | true => exact ⟨0, iT (dT h13) rfl, (jS (v := true) (fun j => iT (dT h13) rfl)).trans rfl⟩
  | false => exact ⟨10, iT (dT h13) rfl, (jS (v := false) (fun j => iT (dT h13) rfl)).trans (iF rfl (iT (dT h13) rfl))⟩
 ·by_cases h14 : x.f0 = 14
  ·exact ⟨v, iF (dF h13) (iT (dT h14) (bS h1 rfl)), (jS (v := false) (fun j => iF (dF h13) rfl)).trans (iF rfl (iF (dF h13) (iT (dT h14) (bS h2 rfl))))⟩
  ·exact ⟨11, iF (dF h13) (iF (dF h14) rfl), (jS (v := false) (fun j => iF (dF h13) rfl)).trans (iF rfl (iF (dF h13) (iF (dF h14) rfl)))⟩
theorem need_at (x : S24) (l : Int) : ∃ v, g21 60 x l = some v ∧ g22 60 x l = some v := by
 obtain ⟨v, h1, h2⟩ := level_at x
 exact ⟨decide (v < l), bS h1 rfl, bS h2 rfl⟩
def hugC : Int := (g42 60 g15c0).getD 0
theorem hugC_at : g42 60 g15c0 = some hugC := by decide +kernel
def bareC : Int := (g42 60 g17c0).getD 0
theorem bareC_at : g42 60 g17c0 = some bareC := by decide +kernel
abbrev nd (f : Int) : S24 := ⟨f, [], ⟨0, []⟩, false, false, [], []⟩
def sameB (a b : Option Bool) : Bool := match a, b with | some x, some y => x == y | _, _ => false
theorem sameB_eq {a b : Option Bool} (h : sameB a b = true) : ∃ v, a = some v ∧ b = some v := by
 unfold sameB at h
 split at h
 ·exact ⟨_, rfl, by rw [eq_of_beq h]⟩
 ·cases h
theorem hug_all : ((List.range 64).all fun i => sameB (g41 60 hugC (i : Int)) (g16 60 [61] (nd (i : Int)))) = true := by decide +kernel
theorem bare_all : ((List.range 64).all fun i => decide (i = 1) || sameB (g41 60 bareC (i : Int)) (g18 60 (nd (i : Int)))) = true := by decide +kernel
theorem in_out {f c : Int} (h : ¬ (0 ≤ f ∧ f < 64)) : g41 60 c f = some false := by
 unfold g41
 by_cases h0 : 0 ≤ f
 ·exact iT (dT h0) (iF (dF (fun e => h ⟨h0, e⟩)) rfl)
 ·exact iF (dF h0) rfl
theorem hug_kind (f : Int) : ∃ v, g41 60 hugC f = some v ∧ g16 60 [61] (nd f) = some v := by
 by_cases h : 0 ≤ f ∧ f < 64
 ·obtain ⟨i, rfl⟩ : ∃ i : Nat, f = (i : Int) := ⟨f.toNat, by omega⟩
  exact sameB_eq (List.all_eq_true.1 hug_all i (List.mem_range.2 (by omega)))
 ·refine ⟨false, in_out h, ?_⟩
  have hn : ∀ c : Int, 0 ≤ c → c < 64 → ¬ f = c := fun c h1 h2 e => h (by omega)
  unfold g16
  refine (jS (v := false) (fun j => by rfl)).trans (iF rfl ((jS (v := false) (fun j => ?_)).trans rfl))
  simp only [dF (hn 2 (by decide) (by decide)), dF (hn 4 (by decide) (by decide)), dF (hn 5 (by decide) (by decide)), dF (hn 6 (by decide) (by decide)), dF (hn 8 (by decide) (by decide)), dF (hn 9 (by decide) (by decide)), dF (hn 10 (by decide) (by decide)), dF (hn 11 (by decide) (by decide)), dF (hn 15 (by decide) (by decide)), dF (hn 17 (by decide) (by decide)), dF (hn 18 (by decide) (by decide)), dF (hn 19 (by decide) (by decide)), dF (hn 20 (by decide) (by decide)), dF (hn 21 (by decide) (by decide)), nd]
  rfl
theorem rhug_nd {op : List Nat} (x : S24) : g16 60 op x = g16 60 op (nd x.f0) := rfl
theorem hugs_at (op : List Nat) (x : S24) : ∃ v, g15 60 op x = some v ∧ g16 60 op x = some v := by
 obtain ⟨v, h1, h2⟩ := hug_kind x.f0
 have h3 : (g41 60 hugC x.f0).bind (fun x0_4 => some x0_4) = some v := bS h1 rfl
 have hT : ∀ b1 b2 b3 b4 : Bool, (b1 || b2 || b3 || b4) = true → eqL op [61] = b1 → eqL op [58, 58] = b2 → eqL op [61, 62] = b3 → eqL op [58, 61] = b4 → g15 60 op x = some v ∧ g16 60 op x = some v := by
  intro b1 b2 b3 b4 hb e1 e2 e3 e4
  constructor
  ·unfold g15
   refine (jS (v := true) (fun j => ?_)).trans (iT rfl (bS hugC_at h3))
   rw [e1, e2, e3, e4]
   cases b1 <;> cases b2 <;> cases b3 <;> cases b4 <;> first | rfl | cases hb
  ·rw [← h2, rhug_nd]
   unfold g16
   refine (jS (v := false) (fun j => ?_)).trans ((jS (v := false) (fun j => ?_)).trans ?_).symm
   ·rw [e1, e2, e3, e4]
    cases b1 <;> cases b2 <;> cases b3 <;> cases b4 <;> first | rfl | cases hb
   ·rfl
   ·rfl
 cases e1 : eqL op [61] with
 | true => exact ⟨v, hT true _ _ _ rfl e1 rfl rfl rfl⟩
 | false =>
 cases e2 : eqL op [58, 58] with
 | true => exact ⟨v, hT false true _ _ rfl e1 e2 rfl rfl⟩
 | false =>
 cases e3 : eqL op [61, 62] with
 | true => exact ⟨v, hT false false true _ rfl e1 e2 e3 rfl⟩
 | false =>
 cases e4 : eqL op [58, 61] with
 | true => exact ⟨v, hT false false false true rfl e1 e2 e3 e4⟩
 | false =>
 refine ⟨false, ?_, ?_⟩
 ·unfold g15
  exact (jS (v := false) (fun j => by rw [e1, e2, e3, e4]; rfl)).trans rfl
 ·unfold g16
  exact (jS (v := true) (fun j => by rw [e1, e2, e3, e4]; rfl)).trans rfl
theorem bare_kind {f : Int} (h1 : ¬ f = 1) : ∃ v, g41 60 bareC f = some v ∧ g18 60 (nd f) = some v := by
 by_cases h : 0 ≤ f ∧ f < 64
 ·obtain ⟨i, rfl⟩ : ∃ i : Nat, f = (i : Int) := ⟨f.toNat, by omega⟩
  have := List.all_eq_true.1 bare_all i (List.mem_range.2 (by omega))
  rw [dF (show ¬ i = 1 by omega), Bool.false_or] at this
  exact sameB_eq this
 ·refine ⟨false, in_out h, ?_⟩
  have hn : ∀ c : Int, 0 ≤ c → c < 64 → ¬ f = c := fun c h1 h2 e => h (by omega)
  unfold g18
  refine iF (dF h1) ((jS (v := false) (fun j => ?_)).trans rfl)
  simp only [dF (hn 2 (by decide) (by decide)), dF (hn 3 (by decide) (by decide)), dF (hn 8 (by decide) (by decide)), dF (hn 9 (by decide) (by decide)), dF (hn 10 (by decide) (by decide)), dF (hn 11 (by decide) (by decide)), dF (hn 12 (by decide) (by decide)), nd]
  rfl
theorem rbare_nd {x : S24} (h : ¬ x.f0 = 1) : g18 60 x = g18 60 (nd x.f0) := by
 have h2 : ¬ (nd x.f0).f0 = 1 := h
 unfold g18
 rw [dF h]
 rfl
theorem bare_at {x : S24} (h : x.f0 = 1 → ¬ x.f1 = []) : ∃ v, g17 60 x = some v ∧ g18 60 x = some v := by
 by_cases h1 : x.f0 = 1
 ·obtain ⟨c, r, hc⟩ : ∃ c r, x.f1 = c :: r := by
   cases e : x.f1 with
   | nil => exact absurd e (h h1)
   | cons c r => exact ⟨c, r, rfl⟩
  have he : eqL x.f1 [] = false := eqL_false (h h1)
  have hn : nthS x.f1 0 = some (c : Int) := nthX (i := 0) rfl (by rw [hc]; rfl)
  unfold g17 g18
  rw [dT h1, he, hn]
  simp only [Option.bind_some, if_true, Bool.not_false, Bool.false_eq_true, if_false]
  by_cases c1 : (c : Int) = 36
  ·exact ⟨false, by rw [dT c1]; rfl, by rw [dF (show ¬ (48 : Int) ≤ (c : Int) by omega), dT c1]; rfl⟩
  by_cases c2 : (c : Int) = 34
  ·exact ⟨false, by rw [dF c1, dT c2]; rfl, by rw [dF (show ¬ (48 : Int) ≤ (c : Int) by omega), dF c1, dT c2]; rfl⟩
  by_cases c3 : (c : Int) < 48
  ·exact ⟨true, by rw [dF c1, dF c2, dT c3]; rfl, by rw [dF (show ¬ (48 : Int) ≤ (c : Int) by omega), dF c1, dF c2]; rfl⟩
  by_cases c4 : (57 : Int) < (c : Int)
  ·exact ⟨true, by rw [dF c1, dF c2, dF c3, dT c4]; rfl, by rw [dT (show (48 : Int) ≤ (c : Int) by omega), dF (show ¬ (c : Int) ≤ 57 by omega), dF c1, dF c2]; rfl⟩
  ·exact ⟨false, by rw [dF c1, dF c2, dF c3, dF c4]; rfl, by rw [dT (show (48 : Int) ≤ (c : Int) by omega), dT (show (c : Int) ≤ 57 by omega)]; rfl⟩
 ·obtain ⟨v, e1, e2⟩ := bare_kind h1
  refine ⟨v, ?_, by rw [rbare_nd h1]; exact e2⟩
  unfold g17
  exact iF (dF h1) (bS bareC_at (bS e1 rfl))
theorem told18 : g14 60 = some true := by kernel_rfl
theorem pasks_l (a0 : S24) (a1 : Int) (a2 : List Nat) (hg : a0.f0 = 1 → ¬ a0.f1 = []) : ∀ (n j : Nat), 32 - j < n → j ≤ 32 → g3_l4 60 a0 a1 a2 n (j : Int) = some true := by
 intro n
 induction n with
 | zero => intro j h; omega
 | succ n ih =>
  intro j h hj
  rw [g3_l4_s]
  by_cases hl : j ≤ 31
  ·refine iT (dT (by omega)) ((jS (v := (false, (j : Int))) (fun q => ?_)).trans (iF rfl ?_))
   ·by_cases h1 : j = 1
    ·exact iF (by rw [dT (by omega)]; rfl) rfl
    ·obtain ⟨v1, e1, e2⟩ := hugs_at a2 ⟨(j : Int), a0.f1, ⟨0, []⟩, false, false, [], []⟩
     obtain ⟨v2, e3, e4⟩ := bare_at (x := ⟨(j : Int), a0.f1, ⟨0, []⟩, false, false, [], []⟩) (fun e => absurd e (by show ¬ (j : Int) = 1; omega))
     obtain ⟨v3, e5, e6⟩ := level_at ⟨(j : Int), a0.f1, ⟨0, []⟩, false, false, [], []⟩
     exact iT (by rw [dF (by omega)]; rfl) (bS e1 (bS e2 (iF (by simp) (bS e3 (bS e4 (iF (by simp) (bS e5 (bS e6 (by simp)))))))))
   ·show g3_l4 60 a0 a1 a2 n (fW .i64 ((j : Int) + 1)) = _
    rw [fw_s (by omega)]
    exact ih (j + 1) (by omega) (by omega)
  ·obtain ⟨v1, e1, e2⟩ := hugs_at a2 a0
   obtain ⟨v2, e3, e4⟩ := bare_at hg
   obtain ⟨v3, e5, e6⟩ := level_at a0
   obtain ⟨v4, e7, e8⟩ := need_at a0 a1
   exact iF (dF (by omega)) (bS told18 (iT rfl (bS e5 (bS e6 (iT (by simp) (bS e7 (bS e8 (iT (by simp) (bS e3 (bS e4 (iT (by simp) (bS e1 (bS e2 (by simp))))))))))))))
theorem parensAsks_true (a0 : S24) (a1 : Int) (a2 : List Nat) (w0 : TreeP a0) (hb : ∀ b ∈ a2, b < 256) (hl : a2.length ≤ 140737488351232) : ∃ k, g3 k a0 a1 a2 = some true := by
 refine ⟨60, ?_⟩
 unfold g3
 by_cases h1 : 100 < (a0.f1.length : Int)
 ·exact (jS (v := true) (fun j => iT (dT h1) rfl)).trans (iT rfl (bS told18 rfl))
 by_cases h2 : 20 < (a2.length : Int)
 ·exact (jS (v := true) (fun j => iF (dF h1) (iT (dT h2) rfl))).trans (iT rfl (bS told18 rfl))
 by_cases h3 : a0.f0 = 1
 ·cases he : eqL a0.f1 [] with
  | true => exact (jS (v := true) (fun j => iF (dF h1) (iF (dF h2) (iT (dT h3) rfl)))).trans (iT rfl (bS told18 rfl))
  | false =>
   refine (jS (v := false) (fun j => iF (dF h1) (iF (dF h2) (iT (dT h3) rfl)))).trans (iF rfl (pasks_l a0 a1 a2 (fun _ e => ?_) 60 0 (by omega) (by omega)))
   rw [(eqL_iff _ _).2 e] at he
   cases he
 ·exact (jS (v := false) (fun j => iF (dF h1) (iF (dF h2) (iF (dF h3) rfl)))).trans (iF rfl (pasks_l a0 a1 a2 (fun e => absurd e h3) 60 0 (by omega) (by omega)))
end
end Go.Proofs.Ytbmijiibfaacmaa.Am
set_option linter.unusedVariables false
set_option linter.unusedSimpArgs false
namespace Go.Proofs.Ytbmijiibfaacmaa.Am
open Go Go.ChangeShapes Go.WideShapes
theorem parensAsks_walk (c0 : Array Value) (a0 : S24) (F0 : List (Nat × List AV)) (a1 : Int) (a2 : ByteArray) (W : World) (u0 : Sees W F0 (e25 a0) c0.toList) (w0 : TreeP a0) (w1 : (Lit.int .i64 a1).wf = true) (w2 : a2.size ≤ 140737488351232) : Calls Try.prog 3 #[.agg c0, .int .i64 a1, .string a2] W fun e W' => e = .returned (.bool true) ∧ RowKit.Below W.heap.size W W' := by
 obtain ⟨k, h⟩ := parensAsks_true a0 a1 (a2.data.toList.map (·.toNat)) w0 (bytes_lt a2) (by simpa using w2)
 have hs : Sees W _ [.agg (e25 a0), .int .i64 a1, .str (a2.data.toList.map (·.toNat))] [.agg c0, .int .i64 a1, .string a2] := .cons (u0.agg) (.cons (.one fun m => VR_int m .i64 a1) (.cons (.one fun m => VR_str m a2) (.nil)))
 exact law_walk_T (g3_ok k _ _ _ true h) W hs
end Go.Proofs.Ytbmijiibfaacmaa.Am
namespace Go.Proofs.Ytbmijiibfaacmaa.parensAsks
open Go.ChangeShapes Go.WideShapes Go.ChangeAt Go.RowKit
open Go.ChangeMaps (open_string shut_string)
set_option linter.unusedVariables false
theorem laidOut : laidOutB Try.prog = true := by kernel_rfl
theorem own : ownKnob Try.prog.godebug = none := by kernel_rfl
set_option maxRecDepth 100000 in
theorem lifted (os : Os) (started : os.Started) (H : Type) (enc : TypeId × Value → H) :
 ReturnsInHanded {} Try.checked os 3 .any (Rows.parensAsksSpec.pre6 enc Try.prog Try.f3 Rows.parensAsksRow.domain false) (Rows.parensAsksSpec.post enc Try.prog Try.f3 false true false false) := by
 refine returnsInHanded_of_change_sized (C := Try.checked) own started (by kernel_rfl) Try.func3
  (ChangeSpec.witness6 (enc := enc) (C := Try.checked) false ⟨#[], #[.agg #[.int .i64 0, .string ByteArray.empty, .slice none 0 0, .bool false, .bool false, .slice none 0 0, .slice none 0 0], .int .i64 0, .string ByteArray.empty], []⟩ 8 (by kernel_rfl) (by kernel_rfl) (by kernel_rfl) (by kernel_rfl)) ?_
 intro W base args ds gs before hval0 hW hcnd hsz0 _
 have hsz : (DataW.weightsEach Try.prog (Try.f3.params.toList ++ Rows.parensAsksSpec.plain.varTypes Try.prog) (ds ++ gs)).all (· ≤ reachBytes) = true := hsz0
 have hval : ∀ (j : Nat) t v, Try.f3.params[j]? = some t → args[j]? = some v → Value.okWide Try.prog W .any base t v := hval0
 have hW' := hW
 obtain ⟨p, q, hA0, hV, rfl, hfz, hnd⟩ := hW
 have hA : DataW.TrodAll enc Try.prog W 0 (fun _ => true) true Try.f3.params.toList args.toList ds p := hA0
 rw [Try.params3] at hA hval hsz
 obtain ⟨v0, vs0, d0, ds0, p0, q0, hargs, rfl, rfl, h0, r0⟩ := trodAll_cons hA
 obtain ⟨v1, vs1, d1, ds1, p1, q1, rfl, rfl, rfl, h1, r1⟩ := trodAll_cons r0
 obtain ⟨v2, vs2, d2, ds2, p2, q2, rfl, rfl, rfl, h2, r2⟩ := trodAll_cons r1
 obtain ⟨rfl, rfl, rfl⟩ := trodAll_nil r2
 obtain rfl : args = #[v0, v1, v2] := by cases args; simp_all
 obtain ⟨rfl, rfl⟩ := trodVars_none hV
 obtain ⟨c0, rfl, -⟩ := okWide_struct Try.underlying25 (hval 0 25 v0 rfl rfl)
 have k0 := h0
 have lt0 : ∀ x ∈ p0, x.block < W.heap.size := by obtain ⟨m, hm⟩ := k0; exact DataW.trod_lt m _ _ _ hm
 have g0 : ∃ (x : Am.S24) (F : List (Nat × List Am.AV)), Am.TreeP x ∧ Am.Sees W F (Am.e25 x) c0.toList := by obtain ⟨m, hm⟩ := h0; exact Am.opnT m _ _ hm
 obtain ⟨a0, F0, w0, u0⟩ := g0
 obtain ⟨a1, rfl, rfl, rfl, w1⟩ := open_int Try.underlying3 (hval 1 3 v1 rfl rfl) h1
 obtain ⟨a2, rfl, rfl, rfl, y2⟩ := open_string Try.underlying9 (hval 2 9 v2 rfl rfl) h2
 have w2 : a2.size ≤ 140737488351232 := by
  have z := sized_string hsz (j := 2) (t := 9) rfl rfl
  rw [Array.length_toList] at z
  exact z
 clear hA0 hval0 hsz0 hsz
 refine (Am.parensAsks_walk c0 a0 F0 a1 a2 W u0 w0 w1 w2).mono fun e W' ⟨he, bel⟩ => ?_
 subst he
 exact ⟨_, rfl, _, _, _, [], _, [], hW', trodAll_mk1 (shut_bool Try.underlying4 _), (trodAll_cons_mk (Below.trod laidOut (by kernel_rfl) (of_decide_eq_true (by kernel_rfl)) k0 bel lt0) (trodAll_cons_mk (shut_int Try.underlying3 w1) (trodAll_cons_mk (shut_string Try.underlying9 y2) trodAll_mk0))), rfl, bel.frame _, fun h => by cases h⟩
theorem over : Rows.parensAsksRow.holds Try.pinned (OpenSpec.ofChange Rows.parensAsksSpec) :=
 OpenClaim.holds_of_wide 3 Try.f3 rfl rfl rfl rfl rfl rfl rfl ⟨rfl, rfl, rfl, rfl, rfl⟩ rfl rfl rfl rfl rfl (by kernel_rfl) Try.func3 (by kernel_rfl)
  (of_decide_eq_true (by kernel_rfl)) (by unfold Func.isWrapper; first | (rw [if_pos (by decide +kernel)]; kernel_rfl) | (rw [if_neg (by decide +kernel)]; exact ⟨rfl, rfl⟩))
  (fun os started H enc _ => lifted os started H enc)
theorem proved : Rows.ParensAsksSaid := over
#print axioms proved
end Go.Proofs.Ytbmijiibfaacmaa.parensAsks
namespace Go.Proofs.Ytbmijiibfaacmaa
theorem parensAsks_holds : Rows.ParensAsksSaid := parensAsks.proved
end Go.Proofs.Ytbmijiibfaacmaa
