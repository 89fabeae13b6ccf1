/- Plain facts on bytes, on the words of the print and on rounds; no program in sight. -/
import Derived.Test.YtnikdnchoahngaaWWords
import Derived.Test.YtnikdnchoahngaaWLast
import Derived.Lib.ConvBytes
namespace Go.Proofs.Ytnikdnchoahngaa.Aid
open Go Go.RowKit Go.Proofs.YtnikdnchoahngaaW.PrintWords

theorem toList_data (s : ByteArray) : s.toList = s.data.toList := ByteArray.toList_eq s
theorem length_toList (s : ByteArray) : s.toList.length = s.size := by rw [toList_data]; rfl
theorem ext_toList {a b : ByteArray} (h : a.toList = b.toList) : a = b := by
  rw [toList_data, toList_data] at h
  cases a with | mk a => cases b with | mk b => cases a; cases b; simp_all
theorem toList_append (a b : ByteArray) : (a ++ b).toList = a.toList ++ b.toList := by
  simp [toList_data]
theorem toList_extract (s : ByteArray) (a b : Nat) : (s.extract a b).toList = (s.toList.take b).drop a := by
  rw [toList_data, toList_data, ByteArray.data_extract, Array.toList_extract]
  simp [List.extract, List.drop_take]
theorem toList_lit (l : List UInt8) : (ByteArray.mk l.toArray).toList = l := ByteArray.toList_mk l
theorem bt_at' (s : ByteArray) (i : Nat) (h : i < s.toList.length) : bt s (i : Int) = ((s.toList[i]'h).toNat : Int) := by
  have h' : i < s.size := by rw [← length_toList]; exact h
  unfold bt
  rw [dif_pos (by simpa using h')]
  simp [toList_data]
  rfl
theorem bt_ge (s : ByteArray) (i : Int) (h : (s.size : Int) ≤ i) : bt s i = 0 := by
  unfold bt
  rw [dif_neg (by omega)]
theorem bt_drop (s : ByteArray) (i : Nat) (h : i < s.size) : s.toList.drop i = (UInt8.ofNat (bt s i).toNat) :: s.toList.drop (i + 1) := by
  have h' : i < s.toList.length := by rw [length_toList]; exact h
  rw [List.drop_eq_getElem_cons h', bt_at' s i h']
  simp
theorem bt_drop' (s : ByteArray) (i : Nat) (h : i < s.size) : ∃ c : UInt8, bt s (i : Int) = (c.toNat : Int) ∧ s.toList.drop i = c :: s.toList.drop (i + 1) := by
  have h' : i < s.toList.length := by rw [length_toList]; exact h
  exact ⟨s.toList[i], bt_at' s i h', List.drop_eq_getElem_cons h'⟩
theorem w64 {x : Int} (h1 : -9223372036854775808 ≤ x) (h2 : x ≤ 9223372036854775807) : wrap64 x = x := by unfold wrap64; omega
theorem wu64 {x : Int} (h1 : 0 ≤ x) (h2 : x ≤ 18446744073709551615) : IntKind.u64.wrap x = x := by
  unfold IntKind.wrap; simp [IntKind.bits, IntKind.signed]; omega

theorem wf8 {c : Int} (h : (Lit.int .u8 c).wf = true) : 0 ≤ c ∧ c ≤ 255 := by simpa [Lit.wf, IntKind.min, IntKind.max, IntKind.bits, IntKind.signed] using h
theorem wf64 {c : Int} (h : (Lit.int .i64 c).wf = true) : -9223372036854775808 ≤ c ∧ c ≤ 9223372036854775807 := by simpa [Lit.wf, IntKind.min, IntKind.max, IntKind.bits, IntKind.signed] using h
theorem wfu64 {c : Int} (h : (Lit.int .u64 c).wf = true) : 0 ≤ c ∧ c ≤ 18446744073709551615 := by simpa [Lit.wf, IntKind.min, IntKind.max, IntKind.bits, IntKind.signed] using h
theorem u64_range (x : Int) : 0 ≤ IntKind.u64.wrap x ∧ IntKind.u64.wrap x ≤ 18446744073709551615 := by
  simp only [IntKind.wrap, IntKind.bits, IntKind.signed]; simp; omega
/-- 'int(uint(x) % n)', as the print spells it -/
theorem uint_mod (x : Int) (n : Nat) (h : 0 < n) (hn : n ≤ 9223372036854775807) : ∃ m : Nat, m < n ∧ wrap64 (Int.tmod (IntKind.u64.wrap x) (n : Int)) = (m : Int) := by
  have h1 := u64_range x
  generalize IntKind.u64.wrap x = u at h1
  have h2 : 0 ≤ u % (n : Int) := Int.emod_nonneg _ (by omega)
  have h3 : u % (n : Int) < n := Int.emod_lt_of_pos _ (by omega)
  refine ⟨(u % (n : Int)).toNat, by omega, ?_⟩
  rw [Int.tmod_eq_emod_of_nonneg h1.1, w64 (by omega) (by omega)]
  omega
theorem strOf_toList (xs : List Int) : (strOfNums xs).toList = xs.map fun n => UInt8.ofNat n.toNat := by
  rw [toList_data]; rfl
theorem strOf_size (xs : List Int) : (strOfNums xs).size = xs.length := by rw [← length_toList, strOf_toList]; simp

theorem Ev.ite_pos {α : Type} {c : Prop} [Decidable c] {A B : Nat → Option α} {r : α} (h : c) (e : Ev A r) : Ev (fun k => if c then A k else B k) r := by
  simpa only [if_pos h] using e
theorem Ev.ite_neg {α : Type} {c : Prop} [Decidable c] {A B : Nat → Option α} {r : α} (h : ¬ c) (e : Ev B r) : Ev (fun k => if c then A k else B k) r := by
  simpa only [if_neg h] using e
theorem Ev.some {α : Type} (r : α) : Ev (fun _ => Option.some r) r := Ev.now r
theorem evq {α : Type} {g : Nat → Option α} {r r' : α} (h : Ev g r) (e : r = r') : Ev g r' := e ▸ h
theorem Ev.const {α : Type} {a : Option α} {r : α} (h : a = Option.some r) : Ev (fun _ => a) r := ⟨0, fun _ _ => h⟩
theorem Ev.bindc {α β : Type} {a : Option α} {f : Nat → α → Option β} {x : α} {r : β} (h : a = Option.some x) (k : Ev (fun n => f n x) r) : Ev (fun n => a.bind (f n)) r := by
  subst h; exact k
theorem Ev.bindr {α : Type} {g : Nat → Option α} {x : α} (h : Ev g x) : Ev (fun n => (g n).bind fun t => Option.some t) x := by
  simpa using h
end Go.Proofs.Ytnikdnchoahngaa.Aid
