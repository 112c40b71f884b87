/- What image.Put writes and image.Get reads, as plain functions on lists. -/
import Derived.Test.YtcjaepmecihmlaaI8
namespace Go.Proofs.Ytcjaepmecihmlaa.ImgPure
open Go Go.RowKit Go.Proofs.Ytcjaepmecihmlaa.Img Go.Proofs.YtcjaepmecihmlaaW.PrintWords Go.Proofs.YtcjaepmecihmlaaW.PrintLast Go.Proofs.YtcjaepmecihmlaaW.PrintMore
set_option linter.unusedVariables false
set_option linter.unusedSimpArgs false
theorem zb9 {i n : Nat} (h : i < n) (hn : n ≤ 9223372036854775807) : wrap64 ((i : Int) + 1) = ((i + 1 : Nat) : Int) := by unfold wrap64; omega
theorem zbu {x : Int} (h0 : 0 ≤ x) (h1 : x < 9223372036854775808) : wrap64 x = x := by unfold wrap64; omega
def Bytes (l : List Int) : Prop := ∀ x ∈ l, 0 ≤ x ∧ x ≤ 255
theorem Bytes.drop {l : List Int} (h : Bytes l) (k : Nat) : Bytes (l.drop k) := fun x hx => h x (List.mem_of_mem_drop hx)
theorem Bytes.take {l : List Int} (h : Bytes l) (k : Nat) : Bytes (l.take k) := fun x hx => h x (List.mem_of_mem_take hx)
theorem Bytes.head {l : List Int} (h : Bytes l) : 0 ≤ l.headD 0 ∧ l.headD 0 ≤ 255 := by
  cases l with
  | nil => simp
  | cons x l => exact h x (by simp)
def le : Nat → List Int → Int
  | 0, _ => 0
  | k + 1, l => le k l + (l.drop k).headD 0 * 256 ^ k
theorem zd0 {l : List Int} (h : Bytes l) (k : Nat) : 0 ≤ le k l ∧ le k l < 256 ^ k := by
  induction k with
  | zero => simp [le]
  | succ k ih =>
    have hh := (h.drop k).head
    have hp : (0 : Int) < 256 ^ k := Int.pow_pos (by decide)
    have h1 : (l.drop k).headD 0 * 256 ^ k ≤ 255 * 256 ^ k := Int.mul_le_mul_of_nonneg_right hh.2 (by omega)
    have h2 : 0 ≤ (l.drop k).headD 0 * 256 ^ k := Int.mul_nonneg hh.1 (by omega)
    simp only [le]
    rw [Int.pow_succ]; omega
theorem or_byte {v x : Int} (k : Nat) (hk : k < 4) (hv : 0 ≤ v ∧ v < 256 ^ k) (hx : 0 ≤ x ∧ x ≤ 255) : Go.bits .or .u32 v (x * 256 ^ k) = v + x * 256 ^ k := by
  have hsw : Go.bits .or .u32 v (x * 256 ^ k) = Go.bits .or .u32 (x * 256 ^ k) v := by simp only [Go.bits, BitVec.or_comm]
  have hp : (256 : Int) ^ k = 2 ^ (8 * k) := by rw [Int.pow_mul]; rfl
  rw [hsw]
  have hb : (256 : Int) ^ k = 1 ∨ (256 : Int) ^ k = 256 ∨ (256 : Int) ^ k = 65536 ∨ (256 : Int) ^ k = 16777216 := by
    rcases (by omega : k = 0 ∨ k = 1 ∨ k = 2 ∨ k = 3) with rfl | rfl | rfl | rfl <;> decide
  have hle : x * 256 ^ k < 4294967296 ∧ 0 ≤ x * 256 ^ k ∧ v < 4294967296 := by rcases hb with h | h | h | h <;> rw [h] at hv ⊢ <;> omega
  rw [bits_join .u32 32 (by decide) (fun n h h' => by rw [IntKind.wrap_u32]; omega) (8 * k) (x * 256 ^ k) v hle.2.1 (by rw [hp, Int.mul_emod_left]) hle.1 hv.1 (by rw [← hp]; exact hv.2) hle.2.2]
  omega
theorem rd_drop (b : List Int) (i : Nat) : rd b (i : Int) = (b.drop i).headD 0 := by
  simp [rd, List.headD_eq_head?_getD, List.head?_drop, List.getD_eq_getElem?_getD]
theorem shl_byte {x : Int} (i : Nat) (hi : i < 4) (hx : 0 ≤ x ∧ x ≤ 255) : shl .u32 (x % 4294967296) ((8 * i : Nat) : Int) = x * 256 ^ i := by
  unfold shl
  have e : x % 4294967296 = x := by omega
  rw [e, IntKind.wrap_u32]
  rcases (by omega : i = 0 ∨ i = 1 ∨ i = 2 ∨ i = 3) with rfl | rfl | rfl | rfl
  · show (x * 1) % 4294967296 = x * 1; omega
  · show (x * 256) % 4294967296 = x * 256; omega
  · show (x * 65536) % 4294967296 = x * 65536; omega
  · show (x * 16777216) % 4294967296 = x * 16777216; omega
theorem number_l0 (b : List Int) (at_ m : Nat) (hb : Bytes b) (hm : m ≤ 4) (hl : at_ + m ≤ b.length) (hn : b.length ≤ 1000000) (d : Nat) : ∀ (k i : Nat), i ≤ m → m - i = d → d < k →
    image_number.l0 k b (at_ : Int) (le i (b.drop at_)) (m : Int) (i : Int) = some (le m (b.drop at_)) := by
  induction d with
  | zero =>
    intro k i h1 h2 h3
    obtain ⟨k, rfl⟩ : ∃ m, k = m + 1 := ⟨k - 1, by omega⟩
    simp only [image_number.l0]
    rw [if_neg (by omega), show i = m by omega]
  | succ d ih =>
    intro k i h1 h2 h3
    obtain ⟨k, rfl⟩ : ∃ m, k = m + 1 := ⟨k - 1, by omega⟩
    have e1 : wrap64 ((at_ : Int) + (i : Int)) = ((at_ + i : Nat) : Int) := by rw [zbu (by omega) (by omega)]; omega
    have e2 : wrap64 (8 * (i : Int)) = ((8 * i : Nat) : Int) := by rw [zbu (by omega) (by omega)]; omega
    have hx := (hb.drop (at_ + i)).head
    have hv := zd0 (hb.drop at_) i
    simp only [image_number.l0]
    rw [if_pos (by omega), e1, if_pos (by omega), if_pos (by omega), e2, if_pos (by omega), rd_drop, shl_byte i (by omega) hx, or_byte i (by omega) hv hx, zb9 (by omega : i < m) (by omega)]
    have e3 : le i (b.drop at_) + (b.drop (at_ + i)).headD 0 * 256 ^ i = le (i + 1) (b.drop at_) := by simp only [le, List.drop_drop]
    rw [e3]
    exact ih k (i + 1) (by omega) (by omega) (by omega)
theorem zef (k : Nat) (b : List Int) (at_ m : Nat) (hb : Bytes b) (hm : m ≤ 4) (hl : at_ + m ≤ b.length) (hn : b.length ≤ 1000000) (hk : 5 < k) : image_number.f k b (at_ : Int) (m : Int) = some (le m (b.drop at_)) :=
  number_l0 b at_ m hb hm hl hn m k 0 (by omega) (by omega) (by omega)
/-! Put. -/
def leB (m : Nat) (v : Int) : List Int := (List.range m).map fun i => (v / 256 ^ i) % 256
theorem zbp (m : Nat) (v : Int) : (leB m v).length = m := by simp [leB]
theorem leB2 (v : Int) : leB 2 v = [v % 256, v / 256 % 256] := by simp [leB, List.range_succ]
theorem leB4 (v : Int) : leB 4 v = [v % 256, v / 256 % 256, v / 65536 % 256, v / 16777216 % 256] := by simp [leB, List.range_succ]
theorem shr_at (v : Int) (i : Nat) (hi : i < 4) : shr .u32 v ((8 * i : Nat) : Int) = v / 256 ^ i := by
  unfold shr
  rcases (by omega : i = 0 ∨ i = 1 ∨ i = 2 ∨ i = 3) with rfl | rfl | rfl | rfl <;> rfl
theorem put_l1 (m : Nat) (hm : m ≤ 4) (v : Int) (l : List Int) (n : Int) (j : Int) (d : Nat) : ∀ (k i : Nat) (acc : List Int), i ≤ m → m - i = d → acc.length + 10 < 10000000 →
    image_put.l1 (k + (d + 1)) (acc ++ (leB m v).take i) (m : Int) v l n j (m : Int) (i : Int) = image_put.l0 k (acc ++ leB m v) (m : Int) l n (wrap64 (j + 1)) := by
  induction d with
  | zero =>
    intro k i acc h1 h2 h3
    have hi : i = m := by omega
    have e : k + (0 + 1) = k + 1 := rfl
    rw [e]
    simp only [image_put.l1]
    rw [if_neg (by omega), hi, List.take_of_length_le (by rw [zbp]; omega)]
  | succ d ih =>
    intro k i acc h1 h2 h3
    have e : k + (d + 1 + 1) = (k + (d + 1)) + 1 := rfl
    have e2 : wrap64 (8 * (i : Int)) = ((8 * i : Nat) : Int) := by rw [zbu (by omega) (by omega)]; omega
    have hi : i < m := by omega
    rw [e]
    simp only [image_put.l1]
    rw [if_pos (by omega), e2, if_pos (by omega), if_pos (by simp [zbp]; omega), shr_at v i (by omega), zb9 hi (by omega)]
    have e3 : acc ++ (leB m v).take i ++ [v / 256 ^ i % 256] = acc ++ (leB m v).take (i + 1) := by
      have hg : i < (leB m v).length := by rw [zbp]; exact hi
      rw [List.take_succ_eq_append_getElem hg, List.append_assoc]
      congr 2
      simp [leB]
    rw [e3]
    exact ih k (i + 1) acc (by omega) (by omega) h3
theorem put_l0 (m : Nat) (hm : m ≤ 4) (l : List Int) (hl : l.length ≤ 100) (d : Nat) : ∀ (k j : Nat) (acc : List Int), j ≤ l.length → l.length - j = d → acc.length + 10 * d + 10 < 10000000 → d * (m + 2) + 1 ≤ k →
    image_put.l0 k acc (m : Int) l (l.length : Int) (j : Int) = some (acc ++ (l.drop j).flatMap (leB m)) := by
  induction d with
  | zero =>
    intro k j acc h1 h2 h3 h4
    obtain ⟨k, rfl⟩ : ∃ m, k = m + 1 := ⟨k - 1, by omega⟩
    simp only [image_put.l0]
    rw [if_neg (by omega), show j = l.length by omega, List.drop_length]; simp
  | succ d ih =>
    intro k j acc h1 h2 h3 h4
    have hj : j < l.length := by omega
    have h5 : (d + 1) * (m + 2) = d * (m + 2) + (m + 2) := Nat.succ_mul _ _
    obtain ⟨k, rfl⟩ : ∃ q, k = (q + (m + 1)) + 1 := ⟨k - (m + 2), by omega⟩
    have e : rd l (j : Int) = l[j] := by simp [rd, hj]
    simp only [image_put.l0]
    rw [if_pos (by omega), if_pos (by omega), if_pos (by omega), e]
    have h6 := put_l1 m hm l[j] l (l.length : Int) (j : Int) m k 0 acc (by omega) (by omega) (by omega)
    simp only [List.take_zero, List.append_nil] at h6
    rw [show ((0 : Nat) : Int) = 0 from rfl] at h6
    rw [h6, zb9 hj (by omega), ih k (j + 1) _ (by omega) (by omega) (by simp [zbp]; omega) (by omega), List.drop_eq_getElem_cons hj, List.flatMap_cons, List.append_assoc]
theorem put_at (k : Nat) (b : List Int) (m : Nat) (hm : m ≤ 4) (l : List Int) (hl : l.length ≤ 10) (hb : b.length < 1000000) (hk : 100 < k) : image_put.f k b (m : Int) l = some (b ++ l.flatMap (leB m)) := by
  have h : l.length * (m + 2) ≤ 10 * 6 := Nat.mul_le_mul hl (by omega)
  have := put_l0 m hm l (by omega) l.length k 0 b (by omega) (by omega) (by omega) (by omega)
  simpa [image_put.f] using this
theorem put_at2 (k : Nat) (b l : List Int) (hl : l.length ≤ 10) (hb : b.length < 1000000) (hk : 100 < k) : image_put.f k b 2 l = some (b ++ l.flatMap (leB 2)) := put_at k b 2 (by omega) l hl hb hk
theorem put_at4 (k : Nat) (b l : List Int) (hl : l.length ≤ 10) (hb : b.length < 1000000) (hk : 100 < k) : image_put.f k b 4 l = some (b ++ l.flatMap (leB 4)) := put_at k b 4 (by omega) l hl hb hk
def idP : List Int := [127, 69, 76, 70, 1, 1, 1, 0, 0, 0, 0, 0, 0, 0, 0, 0]
theorem zgr : image_ident.f = some idP := rfl
def turn (x : Int) : Int := Go.bits .or .i64 (Go.bits .or .i64 (Go.bits .and .i64 x 2) (Go.bits .and .i64 (x / 4) 1)) (wrap64 ((Go.bits .and .i64 x 1) * 4))
theorem zgy (x : Int) : image_turned.f x = some (turn x) := rfl
def hdrP (e n : Int) : List Int := [127, 69, 76, 70, 1, 1, 1, 0, 0, 0, 0, 0, 0, 0, 0, 0, 2, 0, 243, 0, 1, 0, 0, 0] ++ (leB 4 e ++ ([52, 0, 0, 0, 0, 0, 0, 0, 0, 0, 0, 0, 52, 0, 32, 0] ++ (leB 2 n ++ [0, 0, 0, 0, 0, 0])))
theorem hdr_at (e n : Int) : idP ++ [2, 243].flatMap (leB 2) ++ [1, e, 52, 0, 0].flatMap (leB 4) ++ [52, 32, n, 0, 0, 0].flatMap (leB 2) = hdrP e n := by
  simp only [List.flatMap_cons, List.flatMap_nil, leB2, leB4, hdrP, idP]
  simp
theorem zcj (e n : Int) : (hdrP e n).length = 52 := by simp [hdrP, zbp]
def rowP (at_ : Nat) (s : S30) : List Int := [1, (at_ : Int) % 4294967296, s.f0, s.f0, (s.f3.length : Int) % 4294967296, s.f1, turn s.f2 % 4294967296, 256].flatMap (leB 4)
theorem zd6 (at_ : Nat) (s : S30) : (rowP at_ s).length = 32 := by simp [rowP, List.flatMap_cons, zbp]
def tabP : Nat → List S30 → List Int
  | _, [] => []
  | at_, s :: xs => rowP at_ s ++ tabP (at_ + s.f3.length) xs
theorem zdk (xs : List S30) : ∀ at_, (tabP at_ xs).length = 32 * xs.length := by
  induction xs with
  | nil => intro a; rfl
  | cons s xs ih => intro a; simp only [tabP, List.length_append, zd6, ih, List.length_cons]; omega
def allP (xs : List S30) : List Int := xs.flatMap (·.f3)
def fileP (e : Int) (xs : List S30) : List Int := hdrP e xs.length ++ (tabP (52 + 32 * xs.length) xs ++ allP xs)
theorem Put_l0 (xs : List S30) (hx : xs.length ≤ 10) (hs : ∀ s ∈ xs, s.f3.length ≤ 600) (a0 : Nat) (ha0 : a0 ≤ 100000) (d : Nat) : ∀ (k j : Nat) (b all : List Int), j ≤ xs.length → xs.length - j = d → b.length + 100 * d ≤ 100000 → all.length + 1000 * d ≤ 100000 → d + 101 < k →
    image_Put.l0 k b (a0 : Int) all xs (xs.length : Int) (j : Int) = some (if ((a0 + (all ++ allP (xs.drop j)).length : Nat) : Int) > 65536 then ([], 2) else (b ++ tabP (a0 + all.length) (xs.drop j) ++ (all ++ allP (xs.drop j)), 0)) := by
  induction d with
  | zero =>
    intro k j b all h1 h2 h3 h4 h5
    obtain ⟨k, rfl⟩ : ∃ m, k = m + 1 := ⟨k - 1, by omega⟩
    have e1 : wrap64 ((a0 : Int) + (all.length : Int)) = ((a0 + all.length : Nat) : Int) := by rw [zbu (by omega) (by omega)]; omega
    simp only [image_Put.l0]
    rw [if_neg (by omega), show j = xs.length by omega, List.drop_length, e1]
    simp only [allP, tabP, List.flatMap_nil, List.append_nil]
    split
    · rfl
    · rw [if_pos (by omega)]
  | succ d ih =>
    intro k j b all h1 h2 h3 h4 h5
    obtain ⟨k, rfl⟩ : ∃ m, k = m + 1 := ⟨k - 1, by omega⟩
    have hj : j < xs.length := by omega
    have e : zan xs (j : Int) = xs[j] := by simp [zan, hj]
    have hf := hs xs[j] (List.getElem_mem _)
    have e1 : wrap64 ((a0 : Int) + (all.length : Int)) = ((a0 + all.length : Nat) : Int) := by rw [zbu (by omega) (by omega)]; omega
    simp only [image_Put.l0]
    rw [if_pos (by omega), if_pos (by omega), if_pos (by omega), e, zgy, Option.bind_some, e1, show (4 : Int) = ((4 : Nat) : Int) from rfl, put_at _ _ 4 (by omega) _ (by simp) (by omega) (by omega), Option.bind_some, if_pos (by omega), zb9 hj (by omega)]
    have hrow : [1, ((a0 + all.length : Nat) : Int) % 4294967296, xs[j].f0, xs[j].f0, (xs[j].f3.length : Int) % 4294967296, xs[j].f1, turn xs[j].f2 % 4294967296, 256].flatMap (leB 4) = rowP (a0 + all.length) xs[j] := rfl
    rw [hrow, ih k (j + 1) _ _ (by omega) (by omega) (by simp [zd6]; omega) (by simp; omega) (by omega), List.drop_eq_getElem_cons hj]
    simp only [allP, tabP, List.flatMap_cons, List.append_assoc, List.length_append, Nat.add_assoc]
/-! Good answers always, and alike from some measure on. -/
theorem may_some (s : S30) : ∃ b, image_Segment_may.f s.f0 s.f1 s.f2 s.f3 = some b := by
  unfold image_Segment_may.f
  repeat' (first | exact ⟨_, rfl⟩ | split)
theorem zgg (s t : S30) : ∃ b, image_apart.f s.f0 s.f1 s.f2 s.f3 t.f0 t.f1 t.f2 t.f3 = some b := by
  unfold image_apart.f image_Segment_last.f
  simp only [Option.bind_some]
  split <;> exact ⟨_, rfl⟩
theorem zh7 (e : Int) (xs : List S30) (hx : xs.length ≤ 10) : ∃ b, image_Image_entry.f e xs = some b := by
  unfold image_Image_entry.f
  rw [if_pos (by omega)]; exact ⟨_, rfl⟩
theorem good_l2 (e : Int) (xs : List S30) (i : Nat) (hi : i < xs.length) (hx : xs.length ≤ 10) (m : Nat) (h : ∀ k, m ≤ k → ∃ t, image_Good.l1 k xs (xs.length : Int) ((i + 1 : Nat) : Int) e xs = some t) (s : S30) (c : Nat) : ∀ j k, j ≤ i → i - j = c → c + 1 + m ≤ k →
    ∃ t, image_Good.l2 k xs (xs.length : Int) (i : Int) (xs.take i) ((xs.take i).length : Int) (j : Int) e xs s.f0 s.f1 s.f2 s.f3 = some t := by
  have ht : (xs.take i).length = i := by rw [List.length_take]; omega
  induction c with
  | zero =>
    intro j k b1 b2 b3
    obtain ⟨k, rfl⟩ : ∃ m, k = m + 1 := ⟨k - 1, by omega⟩
    simp only [image_Good.l2]
    rw [if_neg (by omega), zb9 hi (by omega)]
    exact h _ (by omega)
  | succ c ih =>
    intro j k b1 b2 b3
    obtain ⟨k, rfl⟩ : ∃ m, k = m + 1 := ⟨k - 1, by omega⟩
    obtain ⟨b, hb⟩ := zgg s (zan (xs.take i) (j : Int))
    simp only [image_Good.l2]
    rw [if_pos (by omega), if_pos (by omega), if_pos (by omega), hb, Option.bind_some]
    cases b with
    | false => exact ⟨1, rfl⟩
    | true =>
      rw [if_pos rfl, zb9 (by omega : j < i) (by omega)]
      exact ih (j + 1) k (by omega) (by omega) (by omega)
theorem good_l1 (e : Int) (xs : List S30) (hx : xs.length ≤ 10) (d : Nat) : ∀ k i, i ≤ xs.length → xs.length - i = d → 14 * d + 1 ≤ k → ∃ t, image_Good.l1 k xs (xs.length : Int) (i : Int) e xs = some t := by
  induction d with
  | zero =>
    intro k i a1 a2 a3
    obtain ⟨k, rfl⟩ : ∃ m, k = m + 1 := ⟨k - 1, by omega⟩
    obtain ⟨b, hb⟩ := zh7 e xs hx
    simp only [image_Good.l1]
    rw [if_neg (by omega), hb, Option.bind_some]
    cases b <;> exact ⟨_, rfl⟩
  | succ d ih =>
    intro k i a1 a2 a3
    obtain ⟨k, rfl⟩ : ∃ m, k = m + 1 := ⟨k - 1, by omega⟩
    have hi : i < xs.length := by omega
    simp only [image_Good.l1]
    rw [if_pos (by omega), if_pos (by omega), if_pos (by omega), if_pos (by omega)]
    exact good_l2 e xs i hi hx (14 * d + 1) (fun k hk => ih k (i + 1) (by omega) (by omega) hk) (zan xs (i : Int)) i 0 k (by omega) (by omega) (by omega)
/-- A segment may be: that it is one of its kind. -/
def mayB (s : S30) : Bool := (image_Segment_may.f s.f0 s.f1 s.f2 s.f3).getD false
theorem may_at (s : S30) : image_Segment_may.f s.f0 s.f1 s.f2 s.f3 = some (mayB s) := by
  obtain ⟨b, hb⟩ := may_some s
  rw [mayB, hb]; rfl
theorem good_l0 (e : Int) (xs : List S30) (hx : xs.length ≤ 10) (d : Nat) : ∀ k i x y, i ≤ xs.length → xs.length - i = d → 142 + d ≤ k →
    ∃ t, image_Good.l0 k x y xs (xs.length : Int) (i : Int) e xs = some t ∧ (t = 0 → ∀ s ∈ xs.drop i, mayB s = true) := by
  induction d with
  | zero =>
    intro k i x y a1 a2 a3
    obtain ⟨k, rfl⟩ : ∃ m, k = m + 1 := ⟨k - 1, by omega⟩
    have hd : xs.drop i = [] := by rw [show i = xs.length by omega, List.drop_length]
    rw [hd]
    simp only [image_Good.l0]
    rw [if_neg (by omega)]
    have q : ∀ s ∈ ([] : List S30), mayB s = true := fun s hs => by cases hs
    split
    · exact ⟨_, rfl, fun _ => q⟩
    split
    · exact ⟨_, rfl, fun _ => q⟩
    split
    · exact ⟨_, rfl, fun _ => q⟩
    obtain ⟨t, ht⟩ := good_l1 e xs hx xs.length k 0 (by omega) (by omega) (by omega)
    exact ⟨t, ht, fun _ => q⟩
  | succ d ih =>
    intro k i x y a1 a2 a3
    obtain ⟨k, rfl⟩ : ∃ m, k = m + 1 := ⟨k - 1, by omega⟩
    have hi : i < xs.length := by omega
    have e1 : zan xs (i : Int) = xs[i] := by simp [zan, hi]
    simp only [image_Good.l0]
    rw [if_pos (by omega), if_pos (by omega), if_pos (by omega), e1, may_at, Option.bind_some, zb9 hi (by omega)]
    by_cases c : mayB xs[i] = true
    · rw [if_pos c]
      obtain ⟨t, ht, ht2⟩ := ih k (i + 1) _ _ (by omega) (by omega) (by omega)
      refine ⟨t, ht, fun h s hs => ?_⟩
      rw [List.drop_eq_getElem_cons hi] at hs
      rcases List.mem_cons.1 hs with rfl | hs
      · exact c
      · exact ht2 h s hs
    · rw [if_neg c]
      exact ⟨1, rfl, fun h => by omega⟩
theorem zhw (e : Int) (xs : List S30) (hx : xs.length ≤ 10) : ∃ t, image_Good.f 300 e xs = some t ∧ (t = 0 → xs.length ≤ 8 ∧ ∀ s ∈ xs, mayB s = true) := by
  unfold image_Good.f
  split
  · exact ⟨2, rfl, fun h => by omega⟩
  · obtain ⟨t, ht, ht2⟩ := good_l0 e xs hx xs.length 300 0 0 0 (by omega) (by omega) (by omega)
    exact ⟨t, ht, fun h => ⟨by omega, ht2 h⟩⟩
theorem good_up (e : Int) (xs : List S30) (t : Int) (h : image_Good.f 300 e xs = some t) (k : Nat) (hk : 300 ≤ k) : image_Good.f k e xs = some t := by
  obtain ⟨d, rfl⟩ : ∃ d, k = 300 + d := ⟨k - 300, by omega⟩
  clear hk
  induction d with
  | zero => exact h
  | succ d ih => exact image_Good.mono _ _ _ _ ih
/-- What is wrong with an image first. -/
def goodP (e : Int) (xs : List S30) : Int := (image_Good.f 300 e xs).getD 1
theorem zgs (k : Nat) (e : Int) (xs : List S30) (hx : xs.length ≤ 10) (hk : 300 ≤ k) : image_Good.f k e xs = some (goodP e xs) := by
  obtain ⟨t, ht, _⟩ := zhw e xs hx
  rw [good_up e xs t ht k hk, goodP, ht]; rfl
theorem zh5 (e : Int) (xs : List S30) (hx : xs.length ≤ 10) (h : goodP e xs = 0) : xs.length ≤ 8 ∧ ∀ s ∈ xs, 0 ≤ s.f2 ∧ s.f2 ≤ 7 := by
  obtain ⟨t, ht, ht2⟩ := zhw e xs hx
  rw [goodP, ht] at h
  obtain ⟨h1, h2⟩ := ht2 h
  refine ⟨h1, fun s hs => ?_⟩
  have := h2 s hs
  unfold mayB image_Segment_may.f at this
  by_cases c1 : Int.tmod s.f0 256 = 0
  · rw [if_pos c1] at this
    by_cases c2 : s.f1 > 0
    · rw [if_pos c2] at this
      split at this
      · split at this
        · split at this
          · simp at this; omega
          · simp at this
        · simp at this
      · simp at this
    · rw [if_neg c2] at this; simp at this
  · rw [if_neg c1] at this; simp at this
theorem Put_at (k : Nat) (e : Int) (xs : List S30) (hx : xs.length ≤ 10) (hs : ∀ s ∈ xs, s.f3.length ≤ 600) (hk : 400 < k) :
    image_Put.f k e xs = some (if goodP e xs = 0 then (if (((fileP e xs).length : Nat) : Int) > 65536 then ([], 2) else (fileP e xs, 0)) else ([], goodP e xs)) := by
  unfold image_Put.f
  rw [zgs k e xs hx (by omega), Option.bind_some]
  by_cases g : goodP e xs = 0
  · rw [if_pos g, if_pos g, zgr, Option.bind_some]
    have hn : ((xs.length : Int)) % 4294967296 = xs.length := by omega
    have e1 : wrap64 (52 + wrap64 (32 * (xs.length : Int))) = ((52 + 32 * xs.length : Nat) : Int) := by
      rw [zbu (x := 32 * (xs.length : Int)) (by omega) (by omega), zbu (by omega) (by omega)]; omega
    rw [hn, put_at2 _ _ _ (by simp) (by simp [idP]) (by omega), Option.bind_some, put_at4 _ _ _ (by simp) (by simp [idP, zbp, List.flatMap_cons]) (by omega), Option.bind_some,
      put_at2 _ _ _ (by simp) (by simp [idP, zbp, List.flatMap_cons]) (by omega), Option.bind_some, e1]
    have hh := hdr_at e (xs.length : Int)
    have hP := Put_l0 xs hx hs (52 + 32 * xs.length) (by omega) xs.length k 0 (hdrP e xs.length) [] (by omega) (by omega) (by rw [zcj]; omega) (by simp; omega) (by omega)
    simp only [List.drop_zero, List.nil_append, List.length_nil, Nat.add_zero] at hP
    have hl : (fileP e xs).length = 52 + 32 * xs.length + (allP xs).length := by rw [fileP, List.length_append, List.length_append, zcj, zdk]; omega
    rw [hl, hh]
    rw [show ((0 : Nat) : Int) = 0 from rfl] at hP
    rw [hP, fileP, List.append_assoc]
  · rw [if_neg g, if_neg g]
end Go.Proofs.Ytcjaepmecihmlaa.ImgPure
