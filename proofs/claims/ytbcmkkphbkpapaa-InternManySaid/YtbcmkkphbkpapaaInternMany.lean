import Derived.Test.YtbcmkkphbkpapaaInternIDs
set_option linter.unusedVariables false
set_option linter.unusedSimpArgs false
namespace Go.Proofs.Ytbcmkkphbkpapaa
open Go.RowKit Go.Maps

def manyB (k : Nat) : ByteArray := ⟨#[116, UInt8.ofNat k, UInt8.ofNat (k / 256)]⟩
def manyT (n : Nat) : List ByteArray := (List.range n).map manyB

theorem manyB_is (k : Nat) (h : k < 2048) : (⟨#[116]⟩ : ByteArray) ++ strOfNums [(k % 256 : Int), (k / 256 : Int)] = manyB k := by
  unfold manyB
  have e1 : UInt8.ofNat ((k : Int) % 256).toNat = UInt8.ofNat k := by
    have : ((k : Int) % 256).toNat = k % 256 := by omega
    rw [this]
    apply UInt8.toNat_inj.1
    simp
  have e2 : UInt8.ofNat ((k : Int) / 256).toNat = UInt8.ofNat (k / 256) := by
    have : ((k : Int) / 256).toNat = k / 256 := by omega
    rw [this]
  simp only [strOfNums, List.map_cons, List.map_nil, e1, e2]
  rfl
theorem manyB_inj {j k : Nat} (hj : j < 2048) (hk : k < 2048) (h : manyB j = manyB k) : j = k := by
  unfold manyB at h
  simp only [ByteArray.mk.injEq, Array.mk.injEq, List.cons.injEq, true_and, and_true] at h
  obtain ⟨h1, h2⟩ := h
  have h1 := congrArg UInt8.toNat h1
  have h2 := congrArg UInt8.toNat h2
  simp at h1 h2
  omega
theorem manyT_mem {n k : Nat} (h : k < n) : manyB k ∈ manyT n := by
  unfold manyT
  exact List.mem_map.2 ⟨k, List.mem_range.2 h, rfl⟩
theorem manyT_not {n k : Nat} (hn : n ≤ 2048) (hk : k < 2048) (h : ¬ k < n) : ¬ manyB k ∈ manyT n := by
  unfold manyT
  intro hm
  obtain ⟨j, hj, e⟩ := List.mem_map.1 hm
  have hj' := List.mem_range.1 hj
  have := manyB_inj (by omega) hk e
  omega
theorem manyT_add (k : Nat) (h : k < 2048) : addS (manyT k) (manyB k) = manyT (k + 1) := by
  unfold addS
  rw [if_neg (manyT_not (by omega) h (by omega))]
  simp [manyT, List.range_succ]
theorem manyT_idx (k : Nat) (h : k < 2048) : (((manyT k).idxOf (manyB k) : Nat) : Int) = (k : Nat) := by
  rw [List.idxOf_eq_length (manyT_not (by omega) h (by omega))]
  simp [manyT]
theorem manyT_get {n k : Nat} (h : k < n) : (manyT n).getD k ByteArray.empty = manyB k := by
  simp [manyT, h]
theorem manyT_nodup {n : Nat} (hn : n ≤ 2048) : (manyT n).Nodup := by
  unfold manyT
  rw [List.nodup_iff_pairwise_ne, List.pairwise_map]
  refine List.Pairwise.imp_of_mem ?_ (List.nodup_iff_pairwise_ne.1 List.nodup_range)
  intro a b ha hb hab e
  exact hab (manyB_inj (by have := List.mem_range.1 ha; omega) (by have := List.mem_range.1 hb; omega) e)
theorem manyT_idx' {n k : Nat} (h : k < n) (hn : n ≤ 2048) : (((manyT n).idxOf (manyB k) : Nat) : Int) = (k : Nat) := by
  have hl : (manyT n).length = n := by simp [manyT]
  have e : (manyT n)[k]'(by omega) = manyB k := by simp [manyT]
  have := (manyT_nodup hn).idxOf_getElem k (by omega)
  rw [e] at this
  rw [this]

theorem conv2 (W : World) (a b : Int) : (convert 39 9 (.slice (some ⟨W.heap.size, 0, none⟩) 2 2)).run Try.prog (W.alloc (.cells #[.int .u8 a, .int .u8 b] 5)) = .ok (.string (strOfNums [a, b])) (W.alloc (.cells #[.int .u8 a, .int .u8 b] 5)) := by
  refine run_convert_bytes_arg (W.alloc (.cells #[.int .u8 a, .int .u8 b] 5)) 39 5 Try.underlying39 Try.underlying5 W.heap.size 0 2 2 [a, b] rfl (fun i hi => ?_) 9 Try.underlying9
  have := heap_alloc_new W (.cells #[.int .u8 a, .int .u8 b] 5)
  rw [cell_blk this]
  match i, hi with
  | 0, _ => rfl
  | 1, _ => rfl

theorem many_walk {w : World} {n at_ : Int} (h1 : -9223372036854775808 ≤ n) (h2 : n ≤ 9223372036854775807) (h3 : -9223372036854775808 ≤ at_) (h4 : at_ ≤ 9223372036854775807) :
    Calls Try.prog 5 #[.int .i64 n, .int .i64 at_] w (TruePost w) := by
  go_enter Try.func5, Try.ntmps5
  go_wp2_with fail
  refine head_any.mono ?_
  rintro e w1 ⟨rfl, B1⟩
  have HB1 := hid B1
  clear B1
  go_wp2_with fail
  refine New_any.mono ?_
  rintro e w2 ⟨rfl, T2, B2, S2⟩
  have HB2 := hid (HB1.out.trans (B2.mono HB1.out.size))
  have HT2 := hid T2
  have hs12 := B2.size
  clear T2 B2 S2
  go_wp2_with fail
  have hm := and_le n 2047 (by omega)
  have hm2 := and_le at_ 2047 (by omega)
  obtain ⟨m, Hm⟩ : ∃ m, bits .and .i64 n 2047 = m := ⟨_, rfl⟩
  rw [show ((2047 : Nat) : Int) = 2047 from rfl, Hm] at hm
  rw [Hm]
  obtain ⟨hm0, hm1⟩ := hm
  obtain ⟨q, rfl⟩ := Int.eq_ofNat_of_zero_le hm0
  have HHm := hid Hm
  have Hm2 := hid hm2
  clear Hm hm2 hm0
  have hq : q ≤ 2047 := by omega
  clear hm1
  go_loopw [6] (fun i wr => ∃ k : Nat, k ≤ q ∧ i = .int .i64 k ∧ Hid (TabE wr (fun i => w1.heap.size ≤ i) (w1.heap.size + 1) (manyT k) ∧ Below w.heap.size w wr ∧ w1.heap.size ≤ wr.heap.size)) (fun i _ => q - (intOf i).toNat)
  case atStart => exact ⟨0, Nat.zero_le _, rfl, hid ⟨HT2.out, HB2.out, hs12⟩⟩
  case round =>
    obtain ⟨k, hk, rfl, H⟩ := hrel
    by_cases hlt : k < q
    · have hcv := conv2 wr (k % 256 : Int) (k / 256 : Int)
      obtain ⟨s, Hs⟩ : ∃ s, s = strOfNums [(k % 256 : Int), (k / 256 : Int)] := ⟨_, rfl⟩
      rw [← Hs] at hcv
      have hss : s.size ≤ 2 := by rw [Hs]; simp [strOfNums, ByteArray.size]
      have HS := hid Hs
      clear Hs
      have hk2 : k < 2048 := by omega
      go_wp2_with fail
      have e1 : (⟨#[116]⟩ : ByteArray) ++ s = manyB k := by rw [HS.out]; exact manyB_is k hk2
      rw [e1]
      refine (ID_to (i := (k : Nat)) (ss' := manyT (k + 1)) (H.out.1.keep ((Fr.refl (fun _ => False) wr).alloc _) (fun _ _ f => f)) (by unfold maxLen; simp [manyB, ByteArray.size]) (by simp [manyT]; omega) (manyT_idx k hk2) (manyT_add k hk2)).mono ?_
      rintro e w4 ⟨rfl, T4, F4⟩
      have HT4 := hid (T4.mono (G := fun i => w1.heap.size ≤ i) (fun i _ h => by
        rcases h with h | h
        · exact h
        · have := H.out.2.2; simp at h; omega))
      have HF4 := hid (((Fr.refl (fun i => w1.heap.size ≤ i) wr).alloc _).trans F4 (fun _ _ h => h))
      have HB4 := hid (H.out.2.1.trans (HF4.out.below H.out.2.1.size (fun i h => by have := HB1.out.size; omega)))
      have hs4 := Nat.le_trans H.out.2.2 HF4.out.size
      clear T4 F4
      go_wp2
      go_roundw
      case rel => exact ⟨k + 1, by omega, by go_num, hid ⟨HT4.out, HB4.out, hs4⟩⟩
      case measure => simp [intOf]; omega
    · obtain rfl : k = q := by omega
      obtain ⟨wa, rfl⟩ : ∃ x : World, x = wr := ⟨_, rfl⟩
      have hm2 := Hm2.out
      obtain ⟨m2, Hma⟩ : ∃ m, bits .and .i64 at_ 2047 = m := ⟨_, rfl⟩
      rw [show ((2047 : Nat) : Int) = 2047 from rfl, Hma] at hm2
      obtain ⟨hm20, hm21⟩ := hm2
      obtain ⟨p, rfl⟩ := Int.eq_ofNat_of_zero_le hm20
      have hcv := conv2 wa (p % 256 : Int) (p / 256 : Int)
      obtain ⟨s, Hs⟩ : ∃ s, s = strOfNums [(p % 256 : Int), (p / 256 : Int)] := ⟨_, rfl⟩
      rw [← Hs] at hcv
      have hss : s.size ≤ 2 := by rw [Hs]; simp [strOfNums, ByteArray.size]
      have hp : p ≤ 2047 := by omega
      have e1 : (⟨#[116]⟩ : ByteArray) ++ s = manyB p := by rw [Hs]; exact manyB_is p (by omega)
      have HE := hid e1
      clear Hs e1 hm20 hm21
      have hT := hid (H.out.1.keep ((Fr.refl (fun _ => False) wa).alloc (.cells #[.int .u8 (p % 256 : Int), .int .u8 (p / 256 : Int)] 5)) (fun _ _ f => f))
      have hB := hid (H.out.2.1.alloc H.out.2.1.size (.cells #[.int .u8 (p % 256 : Int), .int .u8 (p / 256 : Int)] 5))
      have hln : (manyT k).length = k := by simp [manyT]
      have Hln := hid hln
      have hml : (manyT k).length < 4294967296 := by omega
      have hF := Find_any (s := manyB p) hT.out (by unfold maxLen; simp [manyB, ByteArray.size])
      unfold FindPost at hF
      have hLen := Len_any hT.out
      rw [hln] at hLen
      have HLen := hid hLen
      clear hln hLen
      by_cases hpk : p < k
      · have hmem := manyT_mem (n := k) (k := p) hpk
        rw [if_pos hmem, decide_eq_true hmem, manyT_idx' hpk (by omega)] at hF
        have hX := Text_in (i := (p : Int)) hT.out (by omega) (by rw [Hln.out]; omega) hml
        rw [Int.toNat_natCast, manyT_get hpk] at hX
        obtain ⟨mb, hmb⟩ : ∃ x, manyB p = x := ⟨_, rfl⟩
        rw [hmb] at hF hX HE
        have HF := hid hF
        have HX := hid hX
        clear hmem hF hX hmb hml
        go_wp2_with fail
        clear Hma
        rw [HE.out]
        refine HF.out.mono ?_
        rintro e w5 ⟨rfl, rfl⟩
        go_wp2_with fail
        refine HX.out.mono ?_
        rintro e w5 ⟨rfl, rfl⟩
        go_wp2_with fail
        refine HLen.out.mono ?_
        rintro e w5 ⟨rfl, rfl⟩
        go_wp2
        go_ret
        exact ⟨rfl, hB.out⟩
      · have hmem : ¬ manyB p ∈ manyT k := manyT_not (by omega) (by omega) hpk
        rw [if_neg hmem, decide_eq_false hmem] at hF
        have hX := Text_out (i := (p : Int)) hT.out (by rw [Hln.out]; omega)
        obtain ⟨mb, hmb⟩ : ∃ x, manyB p = x := ⟨_, rfl⟩
        rw [hmb] at hF HE
        have HF := hid hF
        have HX := hid hX
        clear hmem hF hX hmb hml
        go_wp2_with fail
        clear Hma
        rw [HE.out]
        refine HF.out.mono ?_
        rintro e w5 ⟨rfl, rfl⟩
        go_wp2_with fail
        refine HX.out.mono ?_
        rintro e w5 ⟨rfl, rfl⟩
        go_wp2_with fail
        refine HLen.out.mono ?_
        rintro e w5 ⟨rfl, rfl⟩
        go_wp2
        go_ret
        exact ⟨rfl, hB.out⟩

end Go.Proofs.Ytbcmkkphbkpapaa
