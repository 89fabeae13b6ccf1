/- LawParseItems, part 6: whatever the input, the law comes out true: our texts, joined by a tool, without what the claim does not name. -/
import Derived.Test.YthpplbkobokghaaPkParseItems5
import Derived.SizedLaws
import Derived.ChangeSlices
import Derived.Below
import Derived.Test.YthpplbkobokghaaRows
import Derived.WalkKit
import Derived.ProofKit
import Derived.OpenShut
import Derived.ShutString
import Derived.ChangeOld
set_option maxRecDepth 100000
set_option linter.unusedVariables false
set_option linter.unusedSimpArgs false
set_option maxRecDepth 100000
set_option linter.unusedVariables false
namespace Go.Proofs.Ythpplbkobokghaa.Am
noncomputable section
open Go
def itP (l : List Bool) : Bool := [true, false].all fun b => (List.range 3).all fun j => isT (Fg10 l b (j : Int))
theorem itP_eq {l : List Bool} (h : itP l = true) (b : Bool) (j : Nat) (hj : j < 3) : g10 400 l b (j : Int) = some true :=
 (congrFun (congrFun (congrFun Fg10_eq l) b) (j : Int)).trans (isT_eq (List.all_eq_true.1 (List.all_eq_true.1 h b (by cases b <;> simp)) j (List.mem_range.2 hj)))
theorem told13 : g16 400 = some true := qEc
def itQ (p : List Bool) : Bool := itP (p ++ [true, true]) && itP (p ++ [true, false]) && itP (p ++ [false, true]) && itP (p ++ [false, false])
theorem qAh {p : List Bool} (h : itQ p = true) (c d : Bool) : itP (p ++ [c, d]) = true := by
 simp only [itQ, Bool.and_eq_true] at h
 cases c <;> cases d
 ·exact h.2
 ·exact h.1.2
 ·exact h.1.1.2
 ·exact h.1.1.1
theorem qGc : (itP [true] && itP [false]) = true := by decide +kernel
theorem items_ : itQ [] = true := by decide +kernel
theorem items_t : itQ [true] = true := by decide +kernel
theorem items_f : itQ [false] = true := by decide +kernel
theorem items_tt : itQ [true, true] = true := by decide +kernel
theorem items_tf : itQ [true, false] = true := by decide +kernel
theorem items_ft : itQ [false, true] = true := by decide +kernel
theorem items_ff : itQ [false, false] = true := by decide +kernel
theorem qLt : itQ [true, true, true] = true := by decide +kernel
theorem qLu : itQ [true, true, false] = true := by decide +kernel
theorem qLv : itQ [true, false, true] = true := by decide +kernel
theorem qLw : itQ [true, false, false] = true := by decide +kernel
theorem qLx : itQ [false, true, true] = true := by decide +kernel
theorem qLy : itQ [false, true, false] = true := by decide +kernel
theorem qLz : itQ [false, false, true] = true := by decide +kernel
theorem qM : itQ [false, false, false] = true := by decide +kernel
theorem qK1 : itQ [true, true, true, true] = true := by decide +kernel
theorem qK2 : itQ [true, true, true, false] = true := by decide +kernel
theorem qK3 : itQ [true, true, false, true] = true := by decide +kernel
theorem qK4 : itQ [true, true, false, false] = true := by decide +kernel
theorem qK5 : itQ [true, false, true, true] = true := by decide +kernel
theorem qK6 : itQ [true, false, true, false] = true := by decide +kernel
theorem qK7 : itQ [true, false, false, true] = true := by decide +kernel
theorem qK8 : itQ [true, false, false, false] = true := by decide +kernel
theorem qK9 : itQ [false, true, true, true] = true := by decide +kernel
theorem qKa : itQ [false, true, true, false] = true := by decide +kernel
theorem qKb : itQ [false, true, false, true] = true := by decide +kernel
theorem qKc : itQ [false, true, false, false] = true := by decide +kernel
theorem qKd : itQ [false, false, true, true] = true := by decide +kernel
theorem qKe : itQ [false, false, true, false] = true := by decide +kernel
theorem qKf : itQ [false, false, false, true] = true := by decide +kernel
theorem qKg : itQ [false, false, false, false] = true := by decide +kernel
theorem qM1 : ∀ (l : List Bool), 1 ≤ l.length → l.length ≤ 6 → itP l = true
 | [], h, _ => by simp at h
 | [true], _, _ => by have h := qGc; rw [Bool.and_eq_true] at h; exact h.1
 | [false], _, _ => by have h := qGc; rw [Bool.and_eq_true] at h; exact h.2
 | [c, d], _, _ => qAh items_ c d
 | [true, c, d], _, _ => qAh items_t c d
 | [false, c, d], _, _ => qAh items_f c d
 | [true, true, c, d], _, _ => qAh items_tt c d
 | [true, false, c, d], _, _ => qAh items_tf c d
 | [false, true, c, d], _, _ => qAh items_ft c d
 | [false, false, c, d], _, _ => qAh items_ff c d
 | [true, true, true, c, d], _, _ => qAh qLt c d
 | [true, true, false, c, d], _, _ => qAh qLu c d
 | [true, false, true, c, d], _, _ => qAh qLv c d
 | [true, false, false, c, d], _, _ => qAh qLw c d
 | [false, true, true, c, d], _, _ => qAh qLx c d
 | [false, true, false, c, d], _, _ => qAh qLy c d
 | [false, false, true, c, d], _, _ => qAh qLz c d
 | [false, false, false, c, d], _, _ => qAh qM c d
 | [true, true, true, true, c, d], _, _ => qAh qK1 c d
 | [true, true, true, false, c, d], _, _ => qAh qK2 c d
 | [true, true, false, true, c, d], _, _ => qAh qK3 c d
 | [true, true, false, false, c, d], _, _ => qAh qK4 c d
 | [true, false, true, true, c, d], _, _ => qAh qK5 c d
 | [true, false, true, false, c, d], _, _ => qAh qK6 c d
 | [true, false, false, true, c, d], _, _ => qAh qK7 c d
 | [true, false, false, false, c, d], _, _ => qAh qK8 c d
 | [false, true, true, true, c, d], _, _ => qAh qK9 c d
 | [false, true, true, false, c, d], _, _ => qAh qKa c d
 | [false, true, false, true, c, d], _, _ => qAh qKb c d
 | [false, true, false, false, c, d], _, _ => qAh qKc c d
 | [false, false, true, true, c, d], _, _ => qAh qKd c d
 | [false, false, true, false, c, d], _, _ => qAh qKe c d
 | [false, false, false, true, c, d], _, _ => qAh qKf c d
 | [false, false, false, false, c, d], _, _ => qAh qKg c d
 | _ :: _ :: _ :: _ :: _ :: _ :: _ :: _, _, h => by simp at h
theorem qM0 {a b : Int} (h : (fW .u64 a).tmod 3 = (fW .u64 b).tmod 3) (k : Nat) (l : List Bool) (t : Bool) (x : Int) : ∀ (n : Nat) (y : List Nat) (z : Int), qBz k l t a x n y z = qBz k l t b x n y z := by
 intro n
 induction n with
 | zero => intro y z; rfl
 | succ n ih =>
  intro y z
  rw [qGj, qGj, h]
  simp only [ih]
theorem qDt (l : List Bool) (t : Bool) (a : Int) (hq : ∀ x ∈ l, True) (hl : l.length ≤ 9223372036854775807) : ∃ k, g10 k l t a = some true := by
 refine ⟨400, ?_⟩
 by_cases h1 : 1 ≤ l.length
 ·by_cases h2 : l.length ≤ 6
  ·obtain ⟨i, hi, e1, e2⟩ := tmod_at a 3 (by decide) (by decide)
   have g := itP_eq (qM1 l h1 h2) t i hi
   unfold g10 at g ⊢
   rw [show ((3 : Nat) : Int) = 3 from rfl] at e1 e2
   rw [e2] at g
   rw [e1]
   simp only [qM0 (a := a) (b := (i : Int)) (e1.trans e2.symm)]
   exact g
  ·unfold g10
   have h3 : ¬ ((l.length : Int) < 1) := by omega
   have h4 : (6 : Int) < (l.length : Int) := by omega
   simp [jn, told13, h3, h4]
 ·unfold g10
  have h3 : (l.length : Int) < 1 := by omega
  simp [jn, told13, h3]
end
end Go.Proofs.Ythpplbkobokghaa.Am
set_option linter.unusedVariables false
namespace Go.Proofs.Ythpplbkobokghaa.Am
open Go Go.ChangeShapes Go.WideShapes
def mpOf (fz : List (Nat × List AV)) : Mp := ⟨fun _ _ => none, fun i => fz[i]?⟩
theorem qH {P : Program} {n : Nat} {xs : List AV} {args : Array Value} (h : PureOk P n xs (.bool true)) (w : World) (fz : List (Nat × List AV)) (hargs : VRs (mpOf fz) xs args.toList)
 (hfz : ∀ p ∈ fz, ∃ cs ty fr, w.heap[p.1]? = some (.cells cs ty fr) ∧ p.2.length ≤ cs.size ∧ VRs (mpOf fz) p.2 (cs.toList.take p.2.length)) :
 Calls P n args w fun e W' => e = .returned (.bool true) ∧ RowKit.Below w.heap.size w W' := by
 refine Calls.mono (h.1 (mpOf fz) w args (fun _ _ => rfl) hargs ?_) ?_
 ·refine ⟨?_, ?_, ?_, fun _ _ => rfl, ?_, ?_, ?_, ⟨fz.length, fun i hi => List.getElem?_eq_none hi⟩, Nat.le_refl _, by show 0 ≤ roots; unfold roots; omega⟩
  ·intro r b v B N hb hm; cases hm
  ·intro r v B N hm; cases hm
  ·intro r v B N r' v' N' hm; cases hm
  ·intro r v B N hm; cases hm
  ·intro i B cells hi
   exact hfz (B, cells) (List.mem_of_getElem? hi)
  ·intro i B cells r v N b _ hm; cases hm
 ·rintro e w' ⟨m', c, rfl, q1, q2, q3⟩
  simp only [VR] at q3
  exact ⟨by rw [q3], q2.below (Nat.le_refl _)⟩
theorem qOa {m : Mp} : ∀ {xs : List AV} {cs : List Value}, xs.length = cs.length → (∀ (i : Nat) x c, xs[i]? = some x → cs[i]? = some c → VR m x c) → VRs m xs cs
 | [], [], _, _ => by simp only [VRs]
 | [], _ :: _, h, _ => by cases h
 | _ :: _, [], h, _ => by cases h
 | x :: xs, c :: cs, h, k => by
  simp only [VRs]
  exact ⟨c, cs, rfl, k 0 x c rfl rfl, qOa (by simpa using h) (fun i x' c' hx hc => k (i + 1) x' c' (by simpa using hx) (by simpa using hc))⟩
theorem qFq {w : World} {x : Addr} {i : Nat} {v : Value} (h : w.cell? (x.add i) = some v) : ∃ cs ty fr, w.heap[x.block]? = some (.cells cs ty fr) ∧ cs[x.off + i]? = some v ∧ (i = 0 → x.spot = none) := by
 have hb : (x.add i).block = x.block := by unfold Addr.add; split <;> rfl
 have ho : (x.add i).off = x.off + i := by unfold Addr.add; split <;> simp_all
 have hs : i = 0 → (x.add i).spot = x.spot := by intro e; subst e; rfl
 unfold World.cell? at h
 rw [hb, ho] at h
 cases hw : w.heap[x.block]? with
 | none => rw [hw] at h; cases h
 | some o =>
  rw [hw] at h
  cases o with
  | cells cs ty fr =>
   simp only [] at h
   cases hsp : (x.add i).spot with
   | none => rw [hsp] at h; exact ⟨cs, ty, fr, rfl, by simpa using h, fun e => by rw [← hs e, hsp]⟩
   | some q => rw [hsp] at h; simp at h
  | _ => simp at h
section
variable {H : Type} {enc : TypeId × Value → H} {P : Program} {w : World} {base : Nat} {held : Bool}
end
end Go.Proofs.Ythpplbkobokghaa.Am
set_option linter.unusedVariables false
namespace Go.Proofs.Ythpplbkobokghaa.Am
open Go Go.ChangeShapes Go.WideShapes
def IsRowG (n : Nat) (w : World) (a : Option Addr) (len cap : Nat) (av : List AV) : Prop :=
 (a = none ∧ len = 0 ∧ cap = 0 ∧ av = []) ∨
 ∃ x, a = some x ∧ len ≤ cap ∧ av.length = len * n ∧ ∀ i v, av[i]? = some v → ∃ c, w.cell? (x.add i) = some c ∧ ∀ m, VR m v c
def frozOfG (a : Option Addr) (av : List AV) : Nat × List AV := match a with
 | none => (0, [])
 | some x => (x.block, List.replicate x.off .top ++ av)
theorem qL6 {n : Nat} {w : World} {a : Option Addr} {len cap : Nat} {av : List AV} (h : IsRowG n w a len cap av) (hne : av ≠ []) (fz : List (Nat × List AV)) :
 ∃ cs ty fr, w.heap[(frozOfG a av).1]? = some (.cells cs ty fr) ∧ (frozOfG a av).2.length ≤ cs.size ∧ VRs (mpOf fz) (frozOfG a av).2 (cs.toList.take (frozOfG a av).2.length) := by
 rcases h with ⟨_, _, _, rfl⟩ | ⟨x, rfl, hl, hz, hc⟩
 ·exact absurd rfl hne
 ·have hpos : 0 < av.length := List.length_pos_iff.2 hne
  obtain ⟨c0, h1, -⟩ := hc (av.length - 1) _ (List.getElem?_eq_getElem (by omega))
  obtain ⟨cs, ty, fr, hb, h0, -⟩ := qFq h1
  have hsz : x.off + (av.length - 1) < cs.size := by
   rcases Nat.lt_or_ge (x.off + (av.length - 1)) cs.size with h | h
   ·exact h
   ·rw [Array.getElem?_eq_none h] at h0; cases h0
  refine ⟨cs, ty, fr, hb, by simp only [frozOfG, List.length_append, List.length_replicate]; omega, ?_⟩
  refine qOa (by simp only [frozOfG, List.length_append, List.length_replicate, List.length_take, Array.length_toList]; omega) ?_
  intro i v c hv hcv
  simp only [frozOfG] at hv hcv
  by_cases hi : i < x.off
  ·rw [List.getElem?_append_left (by simpa using hi)] at hv
   rw [List.getElem?_replicate, if_pos hi] at hv
   cases hv
   simp only [VR]
  ·rw [List.getElem?_append_right (by simpa using Nat.le_of_not_lt hi), List.length_replicate] at hv
   have hlt : i - x.off < av.length := (List.getElem?_eq_some_iff.1 hv).1
   obtain ⟨c', h2, h3⟩ := hc (i - x.off) v hv
   obtain ⟨cs', ty', fr', hb', h4, -⟩ := qFq h2
   rw [hb] at hb'
   cases hb'
   rw [show x.off + (i - x.off) = i from by omega] at h4
   rw [List.getElem?_take_of_lt (by simp only [List.length_append, List.length_replicate]; omega), Array.getElem?_toList, h4] at hcv
   cases hcv
   exact h3 _
theorem qIc {n : Nat} {w : World} {a : Option Addr} {len cap : Nat} {av : List AV} (h : IsRowG n w a len cap av) : av.length = len * n := by
 rcases h with ⟨_, rfl, _, rfl⟩ | ⟨x, _, _, hz, _⟩
 ·simp
 ·exact hz
theorem rowG_VR {n : Nat} {w : World} {a : Option Addr} {len cap : Nat} {av : List AV} (h : IsRowG n w a len cap av) (hn : 0 < n) (fz : List (Nat × List AV)) (id : Nat) (hid : av ≠ [] → fz[id]? = some (frozOfG a av)) : VR (mpOf fz) (.vec len n av) (.slice a len cap) := by
 simp only [VR]
 refine ⟨qIc h, a, cap, rfl, ?_, ?_, ?_⟩
 ·rcases h with ⟨_, rfl, rfl, rfl⟩ | ⟨x, _, hl, hz, _⟩
  ·exact Nat.le_refl _
  ·exact hl
 ·intro ha
  rcases h with ⟨_, rfl, rfl, rfl⟩ | ⟨x, hx, _, _, _⟩
  ·exact ⟨rfl, rfl⟩
  ·rw [hx] at ha; cases ha
 ·intro hpos
  have hp2 : 0 < av.length := by rw [qIc h]; exact Nat.mul_pos hpos hn
  have hne : av ≠ [] := List.length_pos_iff.1 hp2
  have hf := hid hne
  rcases h with ⟨_, _, _, rfl⟩ | ⟨x, rfl, hl, hz, hc⟩
  ·exact absurd rfl hne
  ·obtain ⟨c, h1, -⟩ := hc 0 _ (List.getElem?_eq_getElem hp2)
   obtain ⟨cs, ty, fr, hb, h0, hsp⟩ := qFq h1
   have hspot := hsp rfl
   refine ⟨id, x.block, x.off, _, hf, ?_, ?_, ?_⟩
   ·cases x; simp only at hspot; rw [hspot]
   ·rw [List.drop_append_of_le_length (by simp), List.drop_of_length_le (by simp), List.nil_append]
    exact List.take_of_length_le (by omega)
   ·simp; omega
def fzOfG (a : Option Addr) (av : List AV) : List (Nat × List AV) := if av = [] then [] else [frozOfG a av]
theorem qO {a : Option Addr} {av : List AV} {p : Nat × List AV} (h : p ∈ fzOfG a av) : av ≠ [] ∧ p = frozOfG a av := by
 unfold fzOfG at h
 split at h
 ·cases h
 ·exact ⟨by assumption, List.mem_singleton.1 h⟩
theorem qO0 {a : Option Addr} {av : List AV} (A B : List (Nat × List AV)) (h : av ≠ []) : (A ++ (fzOfG a av ++ B))[A.length]? = some (frozOfG a av) := by
 unfold fzOfG
 rw [if_neg h]
 simp
theorem add_add' (x : Addr) (i j : Nat) : (x.add i).add j = x.add (i + j) := by
 unfold Addr.add
 by_cases hi : i = 0
 ·subst hi; simp
 ·by_cases hj : j = 0
  ·subst hj; simp
  ·simp [hi, hj, Nat.add_assoc]
theorem qI8 {m : Mp} : ∀ {xs : List AV} {cs : List Value}, VRs m xs cs → xs.length = cs.length ∧ ∀ (i : Nat) x, xs[i]? = some x → ∃ c, cs[i]? = some c ∧ VR m x c
 | [], cs, h => by
  simp only [VRs] at h; subst h
  exact ⟨rfl, fun i x hx => by simp at hx⟩
 | x :: xs, cs, h => by
  simp only [VRs] at h
  obtain ⟨y, ys, rfl, h1, h2⟩ := h
  obtain ⟨q1, q2⟩ := qI8 h2
  refine ⟨by simp [q1], fun i z hz => ?_⟩
  cases i with
  | zero => simp at hz; subst hz; exact ⟨y, rfl, h1⟩
  | succ i => simpa using q2 i z (by simpa using hz)
section
variable {H : Type} {enc : TypeId × Value → H} {P : Program} {w : World} {base : Nat} {held : Bool}
theorem rowG_open {α : Type} {Q : α → Prop} {en : α → List AV} {n : Nat} {t e : TypeId} {a : Option Addr} {len cap : Nat} {d : DataW H} {ps : List MemPlace} (ht : P.underlying t = some (.slice e)) (hc : P.cellsOf e = n) (hlen : ∀ x, (en x).length = n)
 (hel : ∀ fuel cs y, DataW.trod enc P w base (fun _ => true) held fuel e cs = some y → ∃ x, Q x ∧ ∀ m, VRs m (en x) cs)
 (h : DataW.Trod enc P w base (fun _ => true) held t (.slice a len cap) d ps) : ∃ L : List α, IsRowG n w a len cap (L.flatMap en) ∧ L.length = len ∧ (∀ x ∈ L, Q x) ∧ len ≤ maxLen := by
 obtain ⟨fuel, hf⟩ := h
 rcases DataW.trod_slice ht hf with ⟨hcs, _⟩ | ⟨x, l, c, elems, rest, q, _, hcs, _, hb, hl, hm, hlq, hel', _, _⟩
 ·simp [Value.cells] at hcs
  obtain ⟨rfl, rfl, rfl⟩ := hcs
  exact ⟨[], .inl ⟨rfl, rfl, rfl, rfl⟩, rfl, (fun x hx => by cases hx), Nat.zero_le _⟩
 ·simp [Value.cells] at hcs
  obtain ⟨rfl, rfl, rfl⟩ := hcs
  have each : ∀ i, i < len → ∃ y, Q y ∧ ∃ cs, w.cells? base (x.add (i * n)) n = some cs ∧ ∀ m, VRs m (en y) cs := by
   intro i hi
   have h1 := hel' i hi
   rw [List.getElem?_eq_getElem (by omega), hc, Option.bind_eq_some_iff] at h1
   obtain ⟨cs, h2, h3⟩ := h1
   obtain ⟨y, h4, h5⟩ := hel _ _ _ h3
   exact ⟨y, h4, cs, h2, h5⟩
  have build : ∀ k, k ≤ len → ∃ L : List α, L.length = k ∧ (∀ y ∈ L, Q y) ∧ ∀ i v, (L.flatMap en)[i]? = some v → ∃ c, w.cell? (x.add i) = some c ∧ ∀ m, VR m v c := by
   intro k
   induction k with
   | zero => intro _; exact ⟨[], rfl, (fun y hy => by cases hy), (fun i v hv => by simp at hv)⟩
   | succ k ih =>
    intro hk
    obtain ⟨L, h1, h2, h3⟩ := ih (by omega)
    obtain ⟨y, h4, cs, h5, h6⟩ := each k (by omega)
    refine ⟨L ++ [y], by simp [h1], ?_, ?_⟩
    ·intro z hz
     rcases List.mem_append.1 hz with hz | hz
     ·exact h2 z hz
     ·rw [List.mem_singleton.1 hz]; exact h4
    ·intro i v hv
     have fl : (L.flatMap en).length = k * n := by rw [qAq hlen, h1]
     rw [List.flatMap_append] at hv
     by_cases hi : i < k * n
     ·rw [List.getElem?_append_left (by omega)] at hv
      exact h3 i v hv
     ·rw [List.getElem?_append_right (by omega), fl] at hv
      simp only [List.flatMap_cons, List.flatMap_nil, List.append_nil] at hv
      obtain ⟨g1, g2⟩ := qI8 (h6 ⟨fun _ _ => none, fun _ => none⟩)
      obtain ⟨c, g3, -⟩ := g2 _ _ hv
      refine ⟨c, ?_, fun m => ?_⟩
      ·have g4 := World.cells?_some h5
       have hlt : i - k * n < n := by
        have := (List.getElem?_eq_some_iff.1 hv).1
        rw [hlen] at this; exact this
       have g5 := g4.2.2 (i - k * n) hlt
       rw [g3] at g5
       rw [← g5]
       rw [add_add', show k * n + (i - k * n) = i by omega]
      ·obtain ⟨c', g6, g7⟩ := (qI8 (h6 m)).2 _ _ hv
       rw [g3] at g6
       cases g6
       exact g7
  obtain ⟨L, h1, h2, h3⟩ := build len (Nat.le_refl _)
  exact ⟨L, .inr ⟨_, rfl, hl, by rw [qAq hlen, h1], h3⟩, h1, h2, by omega⟩
end
theorem qO9 (m : Mp) : VRs m [] [] := by simp only [VRs]
theorem qDn {m : Mp} {x : AV} {y : Value} {xs : List AV} {ys : List Value} (h : VR m x y) (k : VRs m xs ys) : VRs m (x :: xs) (y :: ys) := by simp only [VRs]; exact ⟨y, ys, rfl, h, k⟩
theorem VR_int (m : Mp) (k : IntKind) (n : Int) : VR m (.int k n) (.int k n) := by simp only [VR]
theorem qOc (m : Mp) (b : Bool) : VR m (.bool b) (.bool b) := by simp only [VR]
end Go.Proofs.Ythpplbkobokghaa.Am
set_option linter.unusedVariables false
set_option linter.unusedSimpArgs false
namespace Go.Proofs.Ythpplbkobokghaa.Am
open Go Go.ChangeShapes Go.WideShapes
theorem opn4 {H : Type} {enc : TypeId × Value → H} {w : World} {base : Nat} {sp : Nat → Bool} {held : Bool} {fuel : Nat} {cs : List Value} {y : DataW H × List MemPlace} (h : DataW.trod enc Try.prog w base sp held fuel 4 cs = some y) : ∃ x : Bool, (True) ∧ ∀ m, VRs m (e4 x) cs := by
 obtain ⟨n0, rfl, -⟩ := DataW.trod_bool Try.underlying4 h
 exact ⟨n0, trivial, fun m => qDn (qOc m n0) (qO9 m)⟩
theorem parseItems_walk (v0 : Option Addr) (len0 cap0 : Nat) (z0 : List Bool) (a1 : Bool) (a2 : Int) (W : World) (w0 : IsRowG 1 W v0 len0 cap0 (z0.flatMap e4)) (l0 : z0.length = len0) (q0 : ∀ x ∈ z0, True) (y0 : len0 ≤ maxLen) (w2 : (Lit.int .i64 a2).wf = true) : Calls Try.prog 10 #[.slice v0 len0 cap0, .bool a1, .int .i64 a2] W fun e W' => e = .returned (.bool true) ∧ RowKit.Below W.heap.size W W' := by
 obtain ⟨k, h⟩ := qDt z0 a1 a2 q0 (by rw [l0]; simpa [maxLen] using y0)
 refine qH (g10_ok k z0 a1 a2 true h) W (fzOfG v0 (z0.flatMap e4) ++ []) ?_ ?_
 ·exact qDn ((by cases l0; exact rowG_VR w0 (by decide) _ (([] : List (Nat × List AV))).length (fun h => qO0 (([] : List (Nat × List AV))) _ h))) (qDn (qOc _ a1) (qDn (VR_int _ .i64 a2) (qO9 _)))
 intro p hp
 rcases List.mem_append.1 hp with hp | hp
 ·obtain ⟨hne, rfl⟩ := qO hp
  exact qL6 w0 hne _
 cases hp
end Go.Proofs.Ythpplbkobokghaa.Am
namespace Go.Proofs.Ythpplbkobokghaa.parseItems
open Go.ChangeShapes Go.WideShapes Go.ChangeAt Go.RowKit
open Go.ChangeMaps (open_string shut_string)
set_option linter.unusedVariables false
theorem laidOut : laidOutB Try.prog = true := by kernel_rfl
theorem own : ownKnob Try.prog.godebug = none := by kernel_rfl
set_option maxRecDepth 100000 in
theorem lifted (os : Os) (started : os.Started) (H : Type) (enc : TypeId × Value → H) :
 ReturnsInHanded {} Try.checked os 10 .any (Rows.parseItemsSpec.pre6 enc Try.prog Try.f10 Rows.parseItemsRow.domain false) (Rows.parseItemsSpec.post enc Try.prog Try.f10 false true false false) := by
 refine returnsInHanded_of_change_sized (C := Try.checked) own started (by kernel_rfl) Try.func10
  (ChangeSpec.witness6 (enc := enc) (C := Try.checked) false ⟨#[], #[.slice none 0 0, .bool false, .int .i64 0], []⟩ 8 (by kernel_rfl) (by kernel_rfl) (by kernel_rfl) (by kernel_rfl)) ?_
 intro W base args ds gs before hval0 hW hcnd hsz0 _
 have hsz : (DataW.weightsEach Try.prog (Try.f10.params.toList ++ Rows.parseItemsSpec.plain.varTypes Try.prog) (ds ++ gs)).all (· ≤ reachBytes) = true := hsz0
 have hval : ∀ (j : Nat) t v, Try.f10.params[j]? = some t → args[j]? = some v → Value.okWide Try.prog W .any base t v := hval0
 have hW' := hW
 obtain ⟨p, q, hA0, hV, rfl, hfz, hnd⟩ := hW
 have hA : DataW.TrodAll enc Try.prog W 0 (fun _ => true) true Try.f10.params.toList args.toList ds p := hA0
 rw [Try.params10] at hA hval hsz
 obtain ⟨v0, vs0, d0, ds0, p0, q0, hargs, rfl, rfl, h0, r0⟩ := trodAll_cons hA
 obtain ⟨v1, vs1, d1, ds1, p1, q1, rfl, rfl, rfl, h1, r1⟩ := trodAll_cons r0
 obtain ⟨v2, vs2, d2, ds2, p2, q2, rfl, rfl, rfl, h2, r2⟩ := trodAll_cons r1
 obtain ⟨rfl, rfl, rfl⟩ := trodAll_nil r2
 obtain rfl : args = #[v0, v1, v2] := by cases args; simp_all
 obtain ⟨rfl, rfl⟩ := trodVars_none hV
 obtain ⟨v0a, len0, cap0, rfl⟩ := okWide_slice Try.underlying46 (hval 0 46 v0 rfl rfl)
 have k0 := h0
 have lt0 : ∀ x ∈ p0, x.block < W.heap.size := by obtain ⟨m, hm⟩ := k0; exact DataW.trod_lt m _ _ _ hm
 obtain ⟨z0, w0, l0, z0q, y0⟩ := Am.rowG_open (en := Am.e4) (n := 1) Try.underlying46 (by kernel_rfl) Am.e4_len (fun _ _ _ h => Am.opn4 h) h0
 obtain ⟨a1, rfl, rfl, rfl⟩ := open_bool Try.underlying4 (hval 1 4 v1 rfl rfl) h1
 obtain ⟨a2, rfl, rfl, rfl, w2⟩ := open_int Try.underlying3 (hval 2 3 v2 rfl rfl) h2
 clear hA0 hval0 hsz0 hsz
 refine (Am.parseItems_walk v0a len0 cap0 z0 a1 a2 W w0 l0 z0q y0 w2).mono fun e W' ⟨he, bel⟩ => ?_
 subst he
 exact ⟨_, rfl, _, _, _, [], _, [], hW', trodAll_mk1 (shut_bool Try.underlying4 _), (trodAll_cons_mk (Below.trod laidOut (by kernel_rfl) (of_decide_eq_true (by kernel_rfl)) k0 bel lt0) (trodAll_cons_mk (shut_bool Try.underlying4 _) (trodAll_cons_mk (shut_int Try.underlying3 w2) trodAll_mk0))), rfl, bel.frame _, fun h => by cases h⟩
theorem over : Rows.parseItemsRow.holds Try.pinned (OpenSpec.ofChange Rows.parseItemsSpec) :=
 OpenClaim.holds_of_wide 10 Try.f10 rfl rfl rfl rfl rfl rfl rfl ⟨rfl, rfl, rfl, rfl, rfl⟩ rfl rfl rfl rfl rfl (by kernel_rfl) Try.func10 (by kernel_rfl)
  (of_decide_eq_true (by kernel_rfl)) (by unfold Func.isWrapper; first | (rw [if_pos (by decide +kernel)]; kernel_rfl) | (rw [if_neg (by decide +kernel)]; exact ⟨rfl, rfl⟩))
  (fun os started H enc _ => lifted os started H enc)
theorem proved : Rows.ParseItemsSaid := over
#print axioms proved
end Go.Proofs.Ythpplbkobokghaa.parseItems
namespace Go.Proofs.Ythpplbkobokghaa
theorem parseItems_holds : Rows.ParseItemsSaid := parseItems.proved
end Go.Proofs.Ythpplbkobokghaa
