/- Clean words of Go functions, printed by a program of our own; each is equal to the evaluator's result. -/
import Derived.Test.YtochkahbnhegaaaGreatZS3
set_option linter.unusedVariables false
set_option maxRecDepth 100000
namespace Go.X.W
open Go Go.X Go.Proofs

/-- math/bits.Len64 -/
def c_math_bits_Len64 (a0_x : Value) (H : Heap) (K : Value → Heap → Prop) : Prop :=
  JoinP (S := (Value × Value) × List Deferred) (G := Tup 4)
    (fun s_1 g_1 H1 =>
    JoinP (S := (Value × Value) × List Deferred) (G := Tup 6)
      (fun s_2 g_2 H2 =>
      JoinP (S := (Value × Value) × List Deferred) (G := Tup 6)
        (fun s_3 g_3 H3 =>
        ConvIntP .u8 s_3.1.1 fun t_4 =>
        IndexStrP (.string ⟨#[0, 1, 2, 2, 3, 3, 3, 3, 4, 4, 4, 4, 4, 4, 4, 4, 5, 5, 5, 5, 5, 5, 5, 5, 5, 5, 5, 5, 5, 5, 5, 5, 6, 6, 6, 6, 6, 6, 6, 6, 6, 6, 6, 6, 6, 6, 6, 6, 6, 6, 6, 6, 6, 6, 6, 6, 6, 6, 6, 6, 6, 6, 6, 6, 7, 7, 7, 7, 7, 7, 7, 7, 7, 7, 7, 7, 7, 7, 7, 7, 7, 7, 7, 7, 7, 7, 7, 7, 7, 7, 7, 7, 7, 7, 7, 7, 7, 7, 7, 7, 7, 7, 7, 7, 7, 7, 7, 7, 7, 7, 7, 7, 7, 7, 7, 7, 7, 7, 7, 7, 7, 7, 7, 7, 7, 7, 7, 7, 8, 8, 8, 8, 8, 8, 8, 8, 8, 8, 8, 8, 8, 8, 8, 8, 8, 8, 8, 8, 8, 8, 8, 8, 8, 8, 8, 8, 8, 8, 8, 8, 8, 8, 8, 8, 8, 8, 8, 8, 8, 8, 8, 8, 8, 8, 8, 8, 8, 8, 8, 8, 8, 8, 8, 8, 8, 8, 8, 8, 8, 8, 8, 8, 8, 8, 8, 8, 8, 8, 8, 8, 8, 8, 8, 8, 8, 8, 8, 8, 8, 8, 8, 8, 8, 8, 8, 8, 8, 8, 8, 8, 8, 8, 8, 8, 8, 8, 8, 8, 8, 8, 8, 8, 8, 8, 8, 8, 8, 8, 8, 8, 8, 8, 8, 8, 8, 8, 8, 8, 8, 8, 8, 8, 8, 8, 8, 8]⟩) t_4 fun t_5 =>
        ConvIntP .i64 t_5 fun t_6 =>
        BinP .add s_3.1.2 t_6 fun t_7 =>
        RetP s_3.2 H3 fun H8 =>
        K t_7 H8)
        (fun J_3 =>
        BinP .geq s_2.1.1 (.int .u64 256) fun t_9 =>
        SplitP t_9
          (BinP .shr s_2.1.1 (.int .u64 8) fun t_10 =>
          BinP .add s_2.1.2 (.int .i64 8) fun t_11 =>
          J_3 ((t_10, t_11), s_2.2) H2)
          (J_3 ((s_2.1.1, s_2.1.2), s_2.2) H2)))
      (fun J_2 =>
      BinP .geq s_1.1.1 (.int .u64 65536) fun t_12 =>
      SplitP t_12
        (BinP .shr s_1.1.1 (.int .u64 16) fun t_13 =>
        BinP .add s_1.1.2 (.int .i64 16) fun t_14 =>
        J_2 ((t_13, t_14), s_1.2) H1)
        (J_2 ((s_1.1.1, s_1.1.2), s_1.2) H1)))
    (fun J_1 =>
    BinP .geq a0_x (.int .u64 4294967296) fun t_15 =>
    SplitP t_15
      (BinP .shr a0_x (.int .u64 32) fun t_16 =>
      J_1 ((t_16, (.int .i64 32)), []) H)
      (J_1 ((a0_x, (.int .i64 0)), []) H))

def a_math_bits_Len64 : Ann := [(9, [0, 2], [3, 4, 5, 6]), (15, [0, 2], [7, 8, 9, 10, 11, 12]), (21, [0, 2], [13, 14, 15, 16, 17, 18])]

theorem e_math_bits_Len64 (a0_x : Value) (H : Heap) (K : Value → Heap → Prop) : bodyX P a_math_bits_Len64 (bodyOf Tryz.f122) Tryz.f122.results.toList [a0_x] H K = c_math_bits_Len64 a0_x H K := by kernel_rfl

theorem ok_math_bits_Len64 : okFn P a_math_bits_Len64 Tryz.f122 1 = true := by kernel_rfl
theorem k_math_bits_Len64 {a0_x : Value} {H : Heap} {K : Value → Heap → Prop} (h : c_math_bits_Len64 a0_x H K) : CallH P f_math_bits_Len64 [a0_x] H K :=
  call_of_bodyX Tryz.func122 ok_math_bits_Len64 ((e_math_bits_Len64 a0_x H K).mpr h)

/-- slices.Backward[[]*palio/skip.node,*palio/skip.node]$1 -/
def c_slices_Backward_s_p_skip_node_p_skip_node_1 (a0_yield : Value) (a1_x : Value) (H : Heap) (K : Value → Heap → Prop) : Prop :=
  LoadP none H a1_x fun t_1 =>
  LenP t_1 fun t_2 =>
  BinP .sub t_2 (.int .i64 1) fun t_3 =>
  LoopP (S := (Value) × List Deferred) (G := Tup 12)
    (fun s_4 g_4 self_4 H4 =>
    BinP .geq s_4.1 (.int .i64 0) fun t_5 =>
    SplitP t_5
      (LoadP none H4 a1_x fun t_6 =>
      IdxSliceP 1 t_6 s_4.1 fun t_7 =>
      LoadP none H4 t_7 fun t_8 =>
      CallV P a0_yield [s_4.1, t_8] H4 fun t_9 H10 =>
      UnP .not t_9 fun t_11 =>
      SplitP t_11
        (RetP s_4.2 H10 fun H12 =>
        K (.tuple #[]) H12)
        (BinP .sub s_4.1 (.int .i64 1) fun t_13 =>
        self_4 (t_13, s_4.2) H10))
      (RetP s_4.2 H4 fun H14 =>
      K (.tuple #[]) H14))
    (t_3, []) H

def a_slices_Backward_s_p_skip_node_p_skip_node_1 : Ann := [(2, [3], [7, 8, 9, 10, 11, 12, 13, 14, 15, 16, 17, 18])]

theorem e_slices_Backward_s_p_skip_node_p_skip_node_1 (a0_yield : Value) (a1_x : Value) (H : Heap) (K : Value → Heap → Prop) : bodyX P a_slices_Backward_s_p_skip_node_p_skip_node_1 (bodyOf Tryz.f123) Tryz.f123.results.toList [a0_yield, a1_x] H K = c_slices_Backward_s_p_skip_node_p_skip_node_1 a0_yield a1_x H K := by kernel_rfl

theorem ok_slices_Backward_s_p_skip_node_p_skip_node_1 : okFn P a_slices_Backward_s_p_skip_node_p_skip_node_1 Tryz.f123 2 = true := by kernel_rfl
theorem k_slices_Backward_s_p_skip_node_p_skip_node_1 {a0_yield a1_x : Value} {H : Heap} {K : Value → Heap → Prop} (h : c_slices_Backward_s_p_skip_node_p_skip_node_1 a0_yield a1_x H K) : CallH P f_slices_Backward_s_p_skip_node_p_skip_node_1 [a0_yield, a1_x] H K :=
  call_of_bodyX Tryz.func123 ok_slices_Backward_s_p_skip_node_p_skip_node_1 ((e_slices_Backward_s_p_skip_node_p_skip_node_1 a0_yield a1_x H K).mpr h)

/-- palio/hash.sizes$1 -/
def c_hash_sizes_1 (a0_yield : Value) (H : Heap) (K : Value → Heap → Prop) : Prop :=
  LoopP (S := (Value) × List Deferred) (G := Tup 8)
    (fun s_1 g_1 self_1 H1 =>
    BinP .leq s_1.1 (.int .i64 65536) fun t_2 =>
    SplitP t_2
      (CallV P a0_yield [s_1.1] H1 fun t_3 H4 =>
      UnP .not t_3 fun t_5 =>
      SplitP t_5
        (RetP s_1.2 H4 fun H6 =>
        K (.tuple #[]) H6)
        (BinP .shl s_1.1 (.int .u64 1) fun t_7 =>
        self_1 (t_7, s_1.2) H4))
      (RetP s_1.2 H1 fun H8 =>
      K (.tuple #[]) H8))
    ((.int .i64 4), []) H

def a_hash_sizes_1 : Ann := [(2, [2], [3, 4, 5, 6, 7, 8, 9, 10])]

theorem e_hash_sizes_1 (a0_yield : Value) (H : Heap) (K : Value → Heap → Prop) : bodyX P a_hash_sizes_1 (bodyOf Tryz.f124) Tryz.f124.results.toList [a0_yield] H K = c_hash_sizes_1 a0_yield H K := by kernel_rfl

theorem ok_hash_sizes_1 : okFn P a_hash_sizes_1 Tryz.f124 1 = true := by kernel_rfl
theorem k_hash_sizes_1 {a0_yield : Value} {H : Heap} {K : Value → Heap → Prop} (h : c_hash_sizes_1 a0_yield H K) : CallH P f_hash_sizes_1 [a0_yield] H K :=
  call_of_bodyX Tryz.func124 ok_hash_sizes_1 ((e_hash_sizes_1 a0_yield H K).mpr h)

/-- palio/hash.each$1 -/
def c_hash_each_1 (a0_yield : Value) (a1_x : Value) (H : Heap) (K : Value → Heap → Prop) : Prop :=
  LoadP none H a1_x fun t_1 =>
  LenStrP t_1 fun t_2 =>
  LoopP (S := (Value) × List Deferred) (G := Tup 11)
    (fun s_3 g_3 self_3 H3 =>
    BinP .lss s_3.1 t_2 fun t_4 =>
    SplitP t_4
      (LoadP none H3 a1_x fun t_5 =>
      IndexStrP t_5 s_3.1 fun t_6 =>
      ConvIntP .u32 t_6 fun t_7 =>
      CallV P a0_yield [t_7] H3 fun t_8 H9 =>
      UnP .not t_8 fun t_10 =>
      SplitP t_10
        (RetP s_3.2 H9 fun H11 =>
        K (.tuple #[]) H11)
        (BinP .add s_3.1 (.int .i64 1) fun t_12 =>
        self_3 (t_12, s_3.2) H9))
      (RetP s_3.2 H3 fun H13 =>
      K (.tuple #[]) H13))
    ((.int .i64 0), []) H

def a_hash_each_1 : Ann := [(2, [6], [3, 7, 8, 9, 10, 11, 12, 13, 14, 15, 16])]

theorem e_hash_each_1 (a0_yield : Value) (a1_x : Value) (H : Heap) (K : Value → Heap → Prop) : bodyX P a_hash_each_1 (bodyOf Tryz.f125) Tryz.f125.results.toList [a0_yield, a1_x] H K = c_hash_each_1 a0_yield a1_x H K := by kernel_rfl

theorem ok_hash_each_1 : okFn P a_hash_each_1 Tryz.f125 2 = true := by kernel_rfl
theorem k_hash_each_1 {a0_yield a1_x : Value} {H : Heap} {K : Value → Heap → Prop} (h : c_hash_each_1 a0_yield a1_x H K) : CallH P f_hash_each_1 [a0_yield, a1_x] H K :=
  call_of_bodyX Tryz.func125 ok_hash_each_1 ((e_hash_each_1 a0_yield a1_x H K).mpr h)

/-- slices.siftDownOrdered[string] -/
def c_slices_siftDownOrdered_string (a0_data : Value) (a1_lo : Value) (a2_hi : Value) (a3_first : Value) (H : Heap) (K : Value → Heap → Prop) : Prop :=
  LoopP (S := (Value) × List Deferred) (G := Tup 66)
    (fun s_1 g_1 self_1 H1 =>
    BinP .mul (.int .i64 2) s_1.1 fun t_2 =>
    BinP .add t_2 (.int .i64 1) fun t_3 =>
    BinP .geq t_3 a2_hi fun t_4 =>
    SplitP t_4
      (RetP s_1.2 H1 fun H5 =>
      K (.tuple #[]) H5)
      (JoinP (S := (Value) × List Deferred) (G := Tup 22)
        (fun s_6 g_6 H6 =>
        BinP .add a3_first s_1.1 fun t_7 =>
        IdxSliceP 1 a0_data t_7 fun t_8 =>
        LoadP none H6 t_8 fun t_9 =>
        BinP .add a3_first s_6.1 fun t_10 =>
        IdxSliceP 1 a0_data t_10 fun t_11 =>
        LoadP none H6 t_11 fun t_12 =>
        CallH P f_cmp_Less_string [t_9, t_12] H6 fun t_13 H14 =>
        UnP .not t_13 fun t_15 =>
        SplitP t_15
          (RetP s_6.2 H14 fun H16 =>
          K (.tuple #[]) H16)
          (BinP .add a3_first s_1.1 fun t_17 =>
          BinP .add a3_first s_6.1 fun t_18 =>
          BinP .add a3_first s_6.1 fun t_19 =>
          IdxSliceP 1 a0_data t_19 fun t_20 =>
          LoadP none H14 t_20 fun t_21 =>
          BinP .add a3_first s_1.1 fun t_22 =>
          IdxSliceP 1 a0_data t_22 fun t_23 =>
          LoadP none H14 t_23 fun t_24 =>
          IdxSliceP 1 a0_data t_17 fun t_25 =>
          StoreP none H14 t_25 t_21 fun H26 =>
          IdxSliceP 1 a0_data t_18 fun t_27 =>
          StoreP none H26 t_27 t_24 fun H28 =>
          self_1 (s_6.1, s_6.2) H28))
        (fun J_6 =>
        BinP .add t_3 (.int .i64 1) fun t_29 =>
        BinP .lss t_29 a2_hi fun t_30 =>
        SplitP t_30
          (BinP .add a3_first t_3 fun t_31 =>
          IdxSliceP 1 a0_data t_31 fun t_32 =>
          LoadP none H1 t_32 fun t_33 =>
          BinP .add a3_first t_3 fun t_34 =>
          BinP .add t_34 (.int .i64 1) fun t_35 =>
          IdxSliceP 1 a0_data t_35 fun t_36 =>
          LoadP none H1 t_36 fun t_37 =>
          CallH P f_cmp_Less_string [t_33, t_37] H1 fun t_38 H39 =>
          SplitP t_38
            (BinP .add t_3 (.int .i64 1) fun t_40 =>
            J_6 (t_40, s_1.2) H39)
            (J_6 (t_3, s_1.2) H39))
          (J_6 (t_3, s_1.2) H1))))
    (a1_lo, []) H

def a_slices_siftDownOrdered_string : Ann := [(2, [8], [9, 11, 12, 13, 14, 15, 16, 17, 18, 19, 20, 21, 22, 23, 24, 25, 26, 27, 28, 29, 30, 31, 32, 33, 34, 35, 36, 37, 38, 39, 40, 41, 42, 43, 44, 45, 46, 47, 48, 49, 50, 51, 52, 53, 54, 55, 56, 57, 58, 59, 60, 61, 62, 63, 64, 65, 66, 67, 68, 69, 70, 71, 72, 73, 74, 75]), (11, [9], [17, 18, 19, 20, 21, 22, 23, 24, 25, 26, 27, 28, 29, 30, 31, 32, 33, 34, 35, 36, 37, 38])]

theorem e_slices_siftDownOrdered_string (a0_data : Value) (a1_lo : Value) (a2_hi : Value) (a3_first : Value) (H : Heap) (K : Value → Heap → Prop) : bodyX P a_slices_siftDownOrdered_string (bodyOf Tryz.f126) Tryz.f126.results.toList [a0_data, a1_lo, a2_hi, a3_first] H K = c_slices_siftDownOrdered_string a0_data a1_lo a2_hi a3_first H K := by kernel_rfl

theorem ok_slices_siftDownOrdered_string : okFn P a_slices_siftDownOrdered_string Tryz.f126 4 = true := by kernel_rfl
theorem k_slices_siftDownOrdered_string {a0_data a1_lo a2_hi a3_first : Value} {H : Heap} {K : Value → Heap → Prop} (h : c_slices_siftDownOrdered_string a0_data a1_lo a2_hi a3_first H K) : CallH P f_slices_siftDownOrdered_string [a0_data, a1_lo, a2_hi, a3_first] H K :=
  call_of_bodyX Tryz.func126 ok_slices_siftDownOrdered_string ((e_slices_siftDownOrdered_string a0_data a1_lo a2_hi a3_first H K).mpr h)

/-- slices.nextPowerOfTwo -/
def c_slices_nextPowerOfTwo (a0_length : Value) (H : Heap) (K : Value → Heap → Prop) : Prop :=
  ConvIntP .u64 a0_length fun t_1 =>
  CallH P f_math_bits_Len [t_1] H fun t_2 H3 =>
  BinP .shl (.int .u64 1) t_2 fun t_4 =>
  K t_4 H3

def a_slices_nextPowerOfTwo : Ann := []

theorem e_slices_nextPowerOfTwo (a0_length : Value) (H : Heap) (K : Value → Heap → Prop) : bodyX P a_slices_nextPowerOfTwo (bodyOf Tryz.f127) Tryz.f127.results.toList [a0_length] H K = c_slices_nextPowerOfTwo a0_length H K := by kernel_rfl

theorem ok_slices_nextPowerOfTwo : okFn P a_slices_nextPowerOfTwo Tryz.f127 1 = true := by kernel_rfl
theorem k_slices_nextPowerOfTwo {a0_length : Value} {H : Heap} {K : Value → Heap → Prop} (h : c_slices_nextPowerOfTwo a0_length H K) : CallH P f_slices_nextPowerOfTwo [a0_length] H K :=
  call_of_bodyX Tryz.func127 ok_slices_nextPowerOfTwo ((e_slices_nextPowerOfTwo a0_length H K).mpr h)

/-- (*slices.xorshift).Next -/
def c_slices_xorshift_Next (a0_r : Value) (H : Heap) (K : Value → Heap → Prop) : Prop :=
  NilP a0_r fun t_1 =>
  LoadP none H t_1 fun t_2 =>
  NilP a0_r fun t_3 =>
  LoadP none H t_3 fun t_4 =>
  BinP .shl t_4 (.int .u64 13) fun t_5 =>
  BinP .xor t_2 t_5 fun t_6 =>
  NilP a0_r fun t_7 =>
  StoreP none H t_7 t_6 fun H8 =>
  NilP a0_r fun t_9 =>
  LoadP none H8 t_9 fun t_10 =>
  NilP a0_r fun t_11 =>
  LoadP none H8 t_11 fun t_12 =>
  BinP .shr t_12 (.int .u64 7) fun t_13 =>
  BinP .xor t_10 t_13 fun t_14 =>
  NilP a0_r fun t_15 =>
  StoreP none H8 t_15 t_14 fun H16 =>
  NilP a0_r fun t_17 =>
  LoadP none H16 t_17 fun t_18 =>
  NilP a0_r fun t_19 =>
  LoadP none H16 t_19 fun t_20 =>
  BinP .shl t_20 (.int .u64 17) fun t_21 =>
  BinP .xor t_18 t_21 fun t_22 =>
  NilP a0_r fun t_23 =>
  StoreP none H16 t_23 t_22 fun H24 =>
  NilP a0_r fun t_25 =>
  LoadP none H24 t_25 fun t_26 =>
  K t_26 H24

def a_slices_xorshift_Next : Ann := []

theorem e_slices_xorshift_Next (a0_r : Value) (H : Heap) (K : Value → Heap → Prop) : bodyX P a_slices_xorshift_Next (bodyOf Tryz.f128) Tryz.f128.results.toList [a0_r] H K = c_slices_xorshift_Next a0_r H K := by kernel_rfl

theorem ok_slices_xorshift_Next : okFn P a_slices_xorshift_Next Tryz.f128 1 = true := by kernel_rfl
theorem k_slices_xorshift_Next {a0_r : Value} {H : Heap} {K : Value → Heap → Prop} (h : c_slices_xorshift_Next a0_r H K) : CallH P f_slices_xorshift_Next [a0_r] H K :=
  call_of_bodyX Tryz.func128 ok_slices_xorshift_Next ((e_slices_xorshift_Next a0_r H K).mpr h)

/-- slices.medianAdjacentOrdered[string] -/
def c_slices_medianAdjacentOrdered_string (a0_data : Value) (a1_a : Value) (a2_swaps : Value) (H : Heap) (K : Value → Heap → Prop) : Prop :=
  BinP .sub a1_a (.int .i64 1) fun t_1 =>
  BinP .add a1_a (.int .i64 1) fun t_2 =>
  CallH P f_slices_medianOrdered_string [a0_data, t_1, a1_a, t_2, a2_swaps] H fun t_3 H4 =>
  K t_3 H4

def a_slices_medianAdjacentOrdered_string : Ann := []

theorem e_slices_medianAdjacentOrdered_string (a0_data : Value) (a1_a : Value) (a2_swaps : Value) (H : Heap) (K : Value → Heap → Prop) : bodyX P a_slices_medianAdjacentOrdered_string (bodyOf Tryz.f129) Tryz.f129.results.toList [a0_data, a1_a, a2_swaps] H K = c_slices_medianAdjacentOrdered_string a0_data a1_a a2_swaps H K := by kernel_rfl

theorem ok_slices_medianAdjacentOrdered_string : okFn P a_slices_medianAdjacentOrdered_string Tryz.f129 3 = true := by kernel_rfl
theorem k_slices_medianAdjacentOrdered_string {a0_data a1_a a2_swaps : Value} {H : Heap} {K : Value → Heap → Prop} (h : c_slices_medianAdjacentOrdered_string a0_data a1_a a2_swaps H K) : CallH P f_slices_medianAdjacentOrdered_string [a0_data, a1_a, a2_swaps] H K :=
  call_of_bodyX Tryz.func129 ok_slices_medianAdjacentOrdered_string ((e_slices_medianAdjacentOrdered_string a0_data a1_a a2_swaps H K).mpr h)

/-- slices.medianOrdered[string] -/
def c_slices_medianOrdered_string (a0_data : Value) (a1_a : Value) (a2_b : Value) (a3_c : Value) (a4_swaps : Value) (H : Heap) (K : Value → Heap → Prop) : Prop :=
  CallH P f_slices_order2Ordered_string [a0_data, a1_a, a2_b, a4_swaps] H fun t_1 H2 =>
  ExtractP t_1 0 fun t_3 =>
  ExtractP t_1 1 fun t_4 =>
  CallH P f_slices_order2Ordered_string [a0_data, t_4, a3_c, a4_swaps] H2 fun t_5 H6 =>
  ExtractP t_5 0 fun t_7 =>
  ExtractP t_5 1 fun t_8 =>
  CallH P f_slices_order2Ordered_string [a0_data, t_3, t_7, a4_swaps] H6 fun t_9 H10 =>
  ExtractP t_9 0 fun t_11 =>
  ExtractP t_9 1 fun t_12 =>
  K t_12 H10

def a_slices_medianOrdered_string : Ann := []

theorem e_slices_medianOrdered_string (a0_data : Value) (a1_a : Value) (a2_b : Value) (a3_c : Value) (a4_swaps : Value) (H : Heap) (K : Value → Heap → Prop) : bodyX P a_slices_medianOrdered_string (bodyOf Tryz.f130) Tryz.f130.results.toList [a0_data, a1_a, a2_b, a3_c, a4_swaps] H K = c_slices_medianOrdered_string a0_data a1_a a2_b a3_c a4_swaps H K := by kernel_rfl

theorem ok_slices_medianOrdered_string : okFn P a_slices_medianOrdered_string Tryz.f130 5 = true := by kernel_rfl
theorem k_slices_medianOrdered_string {a0_data a1_a a2_b a3_c a4_swaps : Value} {H : Heap} {K : Value → Heap → Prop} (h : c_slices_medianOrdered_string a0_data a1_a a2_b a3_c a4_swaps H K) : CallH P f_slices_medianOrdered_string [a0_data, a1_a, a2_b, a3_c, a4_swaps] H K :=
  call_of_bodyX Tryz.func130 ok_slices_medianOrdered_string ((e_slices_medianOrdered_string a0_data a1_a a2_b a3_c a4_swaps H K).mpr h)

/-- slices.order2Ordered[string] -/
def c_slices_order2Ordered_string (a0_data : Value) (a1_a : Value) (a2_b : Value) (a3_swaps : Value) (H : Heap) (K : Value → Heap → Prop) : Prop :=
  IdxSliceP 1 a0_data a2_b fun t_1 =>
  LoadP none H t_1 fun t_2 =>
  IdxSliceP 1 a0_data a1_a fun t_3 =>
  LoadP none H t_3 fun t_4 =>
  CallH P f_cmp_Less_string [t_2, t_4] H fun t_5 H6 =>
  SplitP t_5
    (NilP a3_swaps fun t_7 =>
    LoadP none H6 t_7 fun t_8 =>
    BinP .add t_8 (.int .i64 1) fun t_9 =>
    NilP a3_swaps fun t_10 =>
    StoreP none H6 t_10 t_9 fun H11 =>
    K (.tuple #[a2_b, a1_a]) H11)
    (K (.tuple #[a1_a, a2_b]) H6)

def a_slices_order2Ordered_string : Ann := []

theorem e_slices_order2Ordered_string (a0_data : Value) (a1_a : Value) (a2_b : Value) (a3_swaps : Value) (H : Heap) (K : Value → Heap → Prop) : bodyX P a_slices_order2Ordered_string (bodyOf Tryz.f131) Tryz.f131.results.toList [a0_data, a1_a, a2_b, a3_swaps] H K = c_slices_order2Ordered_string a0_data a1_a a2_b a3_swaps H K := by kernel_rfl

theorem ok_slices_order2Ordered_string : okFn P a_slices_order2Ordered_string Tryz.f131 4 = true := by kernel_rfl
theorem k_slices_order2Ordered_string {a0_data a1_a a2_b a3_swaps : Value} {H : Heap} {K : Value → Heap → Prop} (h : c_slices_order2Ordered_string a0_data a1_a a2_b a3_swaps H K) : CallH P f_slices_order2Ordered_string [a0_data, a1_a, a2_b, a3_swaps] H K :=
  call_of_bodyX Tryz.func131 ok_slices_order2Ordered_string ((e_slices_order2Ordered_string a0_data a1_a a2_b a3_swaps H K).mpr h)

/-- (*palio/zset.packed).Cut -/
def c_zset_packed_Cut (a0_x : Value) (a1_from : Value) (a2_to : Value) (H : Heap) (K : Value → Heap → Prop) : Prop :=
  CallH P f_zset_packed_Len [a0_x] H fun t_1 H2 =>
  CallH P f_zset_within [a1_from, a2_to, t_1] H2 fun t_3 H4 =>
  ExtractP t_3 0 fun t_5 =>
  ExtractP t_3 1 fun t_6 =>
  BinP .sub t_6 t_5 fun t_7 =>
  LoopP (S := (Value) × List Deferred) (G := Tup 14)
    (fun s_8 g_8 self_8 H8 =>
    BinP .lss s_8.1 t_7 fun t_9 =>
    SplitP t_9
      (NilP a0_x fun t_10 =>
      FieldAddrP 0 t_10 fun t_11 =>
      LoadP none H8 t_11 fun t_12 =>
      CallH P f_pack_Delete [t_12, t_5] H8 fun t_13 H14 =>
      ExtractP t_13 0 fun t_15 =>
      ExtractP t_13 1 fun t_16 =>
      NilP a0_x fun t_17 =>
      FieldAddrP 0 t_17 fun t_18 =>
      StoreP none H14 t_18 t_15 fun H19 =>
      BinP .add s_8.1 (.int .i64 1) fun t_20 =>
      self_8 (t_20, s_8.2) H19)
      (BinP .sub t_6 t_5 fun t_21 =>
      RetP s_8.2 H8 fun H22 =>
      K t_21 H22))
    ((.int .i64 0), []) H4

def a_zset_packed_Cut : Ann := [(6, [18], [19, 20, 21, 22, 23, 24, 25, 26, 27, 28, 29, 30, 31, 32])]

theorem e_zset_packed_Cut (a0_x : Value) (a1_from : Value) (a2_to : Value) (H : Heap) (K : Value → Heap → Prop) : bodyX P a_zset_packed_Cut (bodyOf Tryz.f148) Tryz.f148.results.toList [a0_x, a1_from, a2_to] H K = c_zset_packed_Cut a0_x a1_from a2_to H K := by kernel_rfl

theorem ok_zset_packed_Cut : okFn P a_zset_packed_Cut Tryz.f148 3 = true := by kernel_rfl
theorem k_zset_packed_Cut {a0_x a1_from a2_to : Value} {H : Heap} {K : Value → Heap → Prop} (h : c_zset_packed_Cut a0_x a1_from a2_to H K) : CallH P f_zset_packed_Cut [a0_x, a1_from, a2_to] H K :=
  call_of_bodyX Tryz.func148 ok_zset_packed_Cut ((e_zset_packed_Cut a0_x a1_from a2_to H K).mpr h)

/-- (*palio/zset.packed).Len -/
def c_zset_packed_Len (a0_x : Value) (H : Heap) (K : Value → Heap → Prop) : Prop :=
  CallH P f_zset_packed_entries [a0_x] H fun t_1 H2 =>
  LenP t_1 fun t_3 =>
  K t_3 H2

def a_zset_packed_Len : Ann := []

theorem e_zset_packed_Len (a0_x : Value) (H : Heap) (K : Value → Heap → Prop) : bodyX P a_zset_packed_Len (bodyOf Tryz.f149) Tryz.f149.results.toList [a0_x] H K = c_zset_packed_Len a0_x H K := by kernel_rfl

theorem ok_zset_packed_Len : okFn P a_zset_packed_Len Tryz.f149 1 = true := by kernel_rfl
theorem k_zset_packed_Len {a0_x : Value} {H : Heap} {K : Value → Heap → Prop} (h : c_zset_packed_Len a0_x H K) : CallH P f_zset_packed_Len [a0_x] H K :=
  call_of_bodyX Tryz.func149 ok_zset_packed_Len ((e_zset_packed_Len a0_x H K).mpr h)

/-- (*palio/zset.packed).Range -/
def c_zset_packed_Range (a0_x : Value) (a1_from : Value) (a2_to : Value) (H : Heap) (K : Value → Heap → Prop) : Prop :=
  CallH P f_zset_packed_entries [a0_x] H fun t_1 H2 =>
  LenP t_1 fun t_3 =>
  CallH P f_zset_within [a1_from, a2_to, t_3] H2 fun t_4 H5 =>
  ExtractP t_4 0 fun t_6 =>
  ExtractP t_4 1 fun t_7 =>
  SliceSlP 2 t_1 (some t_6) (some t_7) none fun t_8 =>
  CallH P f_slices_Clone_s_api_Entry_api_Entry [t_8] H5 fun t_9 H10 =>
  K t_9 H10

def a_zset_packed_Range : Ann := []

theorem e_zset_packed_Range (a0_x : Value) (a1_from : Value) (a2_to : Value) (H : Heap) (K : Value → Heap → Prop) : bodyX P a_zset_packed_Range (bodyOf Tryz.f150) Tryz.f150.results.toList [a0_x, a1_from, a2_to] H K = c_zset_packed_Range a0_x a1_from a2_to H K := by kernel_rfl

theorem ok_zset_packed_Range : okFn P a_zset_packed_Range Tryz.f150 3 = true := by kernel_rfl
theorem k_zset_packed_Range {a0_x a1_from a2_to : Value} {H : Heap} {K : Value → Heap → Prop} (h : c_zset_packed_Range a0_x a1_from a2_to H K) : CallH P f_zset_packed_Range [a0_x, a1_from, a2_to] H K :=
  call_of_bodyX Tryz.func150 ok_zset_packed_Range ((e_zset_packed_Range a0_x a1_from a2_to H K).mpr h)

/-- (*palio/zset.packed).bytes -/
def c_zset_packed_bytes (a0_x : Value) (H : Heap) (K : Value → Heap → Prop) : Prop :=
  NilP a0_x fun t_1 =>
  FieldAddrP 0 t_1 fun t_2 =>
  LoadP none H t_2 fun t_3 =>
  LenStrP t_3 fun t_4 =>
  K t_4 H

def a_zset_packed_bytes : Ann := []

theorem e_zset_packed_bytes (a0_x : Value) (H : Heap) (K : Value → Heap → Prop) : bodyX P a_zset_packed_bytes (bodyOf Tryz.f151) Tryz.f151.results.toList [a0_x] H K = c_zset_packed_bytes a0_x H K := by kernel_rfl

theorem ok_zset_packed_bytes : okFn P a_zset_packed_bytes Tryz.f151 1 = true := by kernel_rfl
theorem k_zset_packed_bytes {a0_x : Value} {H : Heap} {K : Value → Heap → Prop} (h : c_zset_packed_bytes a0_x H K) : CallH P f_zset_packed_bytes [a0_x] H K :=
  call_of_bodyX Tryz.func151 ok_zset_packed_bytes ((e_zset_packed_bytes a0_x H K).mpr h)

/-- (*palio/zset.packed).drop -/
def c_zset_packed_drop (a0_x : Value) (a1_e : Value) (H : Heap) (K : Value → Heap → Prop) : Prop :=
  BoxP (some 2) T_api_Entry a1_e H fun e_1 H2 =>
  NilP a0_x fun t_3 =>
  FieldAddrP 0 t_3 fun t_4 =>
  LoadP none H2 t_4 fun t_5 =>
  NilP a0_x fun t_6 =>
  FieldAddrP 0 t_6 fun t_7 =>
  LoadP none H2 t_7 fun t_8 =>
  FieldAddrP 0 e_1 fun t_9 =>
  LoadP none H2 t_9 fun t_10 =>
  CallH P f_pack_Find [t_8, t_10] H2 fun t_11 H12 =>
  LoadIs none H12 t_4 t_5 ∧
  CallH P f_pack_Delete [t_5, t_11] H12 fun t_13 H14 =>
  ExtractP t_13 0 fun t_15 =>
  ExtractP t_13 1 fun t_16 =>
  NilP a0_x fun t_17 =>
  FieldAddrP 0 t_17 fun t_18 =>
  StoreP none H14 t_18 t_15 fun H19 =>
  K (.tuple #[]) H19

def a_zset_packed_drop : Ann := []

theorem e_zset_packed_drop (a0_x : Value) (a1_e : Value) (H : Heap) (K : Value → Heap → Prop) : bodyX P a_zset_packed_drop (bodyOf Tryz.f152) Tryz.f152.results.toList [a0_x, a1_e] H K = c_zset_packed_drop a0_x a1_e H K := by kernel_rfl

theorem ok_zset_packed_drop : okFn P a_zset_packed_drop Tryz.f152 2 = true := by kernel_rfl
theorem k_zset_packed_drop {a0_x a1_e : Value} {H : Heap} {K : Value → Heap → Prop} (h : c_zset_packed_drop a0_x a1_e H K) : CallH P f_zset_packed_drop [a0_x, a1_e] H K :=
  call_of_bodyX Tryz.func152 ok_zset_packed_drop ((e_zset_packed_drop a0_x a1_e H K).mpr h)

/-- (*palio/zset.packed).put -/
def c_zset_packed_put (a0_x : Value) (a1_e : Value) (a2_level : Value) (H : Heap) (K : Value → Heap → Prop) : Prop :=
  BoxP (some 2) T_api_Entry a1_e H fun e_1 H2 =>
  CallH P f_zset_packed_entries [a0_x] H2 fun t_3 H4 =>
  AllocP #[(.slice none 0 0)] T_s_api_Entry H4 fun l_5 H6 =>
  StoreP none H6 l_5 t_3 fun H7 =>
  LoadP none H7 l_5 fun t_8 =>
  LenP t_8 fun t_9 =>
  CallH P f_sort_Search [t_9, (.func (.func f_zset_packed_put_1) #[] #[e_1, l_5])] H7 fun t_10 H11 =>
  NilP a0_x fun t_12 =>
  FieldAddrP 0 t_12 fun t_13 =>
  LoadP none H11 t_13 fun t_14 =>
  LoadP (some 2) H11 e_1 fun t_15 =>
  CallH P f_pack_Insert [t_14, t_10, t_15] H11 fun t_16 H17 =>
  ExtractP t_16 0 fun t_18 =>
  ExtractP t_16 1 fun t_19 =>
  NilP a0_x fun t_20 =>
  FieldAddrP 0 t_20 fun t_21 =>
  StoreP none H17 t_21 t_18 fun H22 =>
  K (.tuple #[]) H22

def a_zset_packed_put : Ann := []

theorem e_zset_packed_put (a0_x : Value) (a1_e : Value) (a2_level : Value) (H : Heap) (K : Value → Heap → Prop) : bodyX P a_zset_packed_put (bodyOf Tryz.f153) Tryz.f153.results.toList [a0_x, a1_e, a2_level] H K = c_zset_packed_put a0_x a1_e a2_level H K := by kernel_rfl

theorem ok_zset_packed_put : okFn P a_zset_packed_put Tryz.f153 3 = true := by kernel_rfl
theorem k_zset_packed_put {a0_x a1_e a2_level : Value} {H : Heap} {K : Value → Heap → Prop} (h : c_zset_packed_put a0_x a1_e a2_level H K) : CallH P f_zset_packed_put [a0_x, a1_e, a2_level] H K :=
  call_of_bodyX Tryz.func153 ok_zset_packed_put ((e_zset_packed_put a0_x a1_e a2_level H K).mpr h)

/-- (*palio/zset.packed).score -/
def c_zset_packed_score (a0_x : Value) (a1_member : Value) (H : Heap) (K : Value → Heap → Prop) : Prop :=
  JoinP (S := (Value × Value) × List Deferred) (G := Tup 14)
    (fun s_1 g_1 H1 =>
    FieldAddrP 1 s_1.1.1 fun t_2 =>
    LoadP none H1 t_2 fun t_3 =>
    BinP .eql s_1.1.2 (.int .i64 0) fun t_4 =>
    RetP s_1.2 H1 fun H5 =>
    K (.tuple #[t_3, t_4]) H5)
    (fun J_1 =>
    NilP a0_x fun t_6 =>
    FieldAddrP 0 t_6 fun t_7 =>
    LoadP none H t_7 fun t_8 =>
    NilP a0_x fun t_9 =>
    FieldAddrP 0 t_9 fun t_10 =>
    LoadP none H t_10 fun t_11 =>
    (CallH P f_pack_Find [t_11, a1_member] H fun t_12 H13 =>
    LoadIs none H13 t_7 t_8 ∧
    (CallH P f_pack_Get [t_8, t_12] H13 fun t_14 H15 =>
    ExtractP t_14 0 fun t_16 =>
    ExtractP t_14 1 fun t_17 =>
    AllocP #[(.string ⟨#[]⟩), (.int .i64 0)] T_api_Entry H15 fun e_18 H19 =>
    StoreP (some 2) H19 e_18 t_16 fun H20 =>
    J_1 ((e_18, t_17), []) H20) ∧
    (AllocP #[(.string ⟨#[]⟩), (.int .i64 0)] T_api_Entry H13 fun e_21 H22 =>
    LoadIs none H22 t_7 t_8 ∧
    CallH P f_pack_Get [t_8, t_12] H22 fun t_23 H24 =>
    ExtractP t_23 0 fun t_25 =>
    ExtractP t_23 1 fun t_26 =>
    StoreP (some 2) H24 e_21 t_25 fun H27 =>
    J_1 ((e_21, t_26), []) H27)) ∧
    (AllocP #[(.string ⟨#[]⟩), (.int .i64 0)] T_api_Entry H fun e_28 H29 =>
    LoadIs none H29 t_10 t_11 ∧
    LoadIs none H29 t_7 t_8 ∧
    CallH P f_pack_Find [t_11, a1_member] H29 fun t_30 H31 =>
    LoadIs none H31 t_7 t_8 ∧
    CallH P f_pack_Get [t_8, t_30] H31 fun t_32 H33 =>
    ExtractP t_32 0 fun t_34 =>
    ExtractP t_32 1 fun t_35 =>
    StoreP (some 2) H33 e_28 t_34 fun H36 =>
    J_1 ((e_28, t_35), []) H36))

def a_zset_packed_score : Ann := [(5, [6, 7], [8, 9, 10, 11, 12, 13, 14, 15, 16, 17, 18, 19, 20, 21])]

theorem e_zset_packed_score (a0_x : Value) (a1_member : Value) (H : Heap) (K : Value → Heap → Prop) : bodyX P a_zset_packed_score (bodyOf Tryz.f154) Tryz.f154.results.toList [a0_x, a1_member] H K = c_zset_packed_score a0_x a1_member H K := by kernel_rfl

theorem ok_zset_packed_score : okFn P a_zset_packed_score Tryz.f154 2 = true := by kernel_rfl
theorem k_zset_packed_score {a0_x a1_member : Value} {H : Heap} {K : Value → Heap → Prop} (h : c_zset_packed_score a0_x a1_member H K) : CallH P f_zset_packed_score [a0_x, a1_member] H K :=
  call_of_bodyX Tryz.func154 ok_zset_packed_score ((e_zset_packed_score a0_x a1_member H K).mpr h)

/-- palio/zset.within -/
def c_zset_within (a0_from : Value) (a1_to : Value) (a2_n : Value) (H : Heap) (K : Value → Heap → Prop) : Prop :=
  MinP a0_from [a2_n] fun t_1 =>
  MaxP (.int .i64 0) [t_1] fun t_2 =>
  MinP a1_to [a2_n] fun t_3 =>
  MaxP t_2 [t_3] fun t_4 =>
  K (.tuple #[t_2, t_4]) H

def a_zset_within : Ann := []

theorem e_zset_within (a0_from : Value) (a1_to : Value) (a2_n : Value) (H : Heap) (K : Value → Heap → Prop) : bodyX P a_zset_within (bodyOf Tryz.f155) Tryz.f155.results.toList [a0_from, a1_to, a2_n] H K = c_zset_within a0_from a1_to a2_n H K := by kernel_rfl

theorem ok_zset_within : okFn P a_zset_within Tryz.f155 3 = true := by kernel_rfl
theorem k_zset_within {a0_from a1_to a2_n : Value} {H : Heap} {K : Value → Heap → Prop} (h : c_zset_within a0_from a1_to a2_n H K) : CallH P f_zset_within [a0_from, a1_to, a2_n] H K :=
  call_of_bodyX Tryz.func155 ok_zset_within ((e_zset_within a0_from a1_to a2_n H K).mpr h)

/-- palio/pack.Delete -/
def c_pack_Delete (a0_p : Value) (a1_at : Value) (H : Heap) (K : Value → Heap → Prop) : Prop :=
  CallH P f_pack_spotAt [a0_p, a1_at] H fun t_1 H2 =>
  ExtractP t_1 0 fun t_3 =>
  ExtractP t_1 1 fun t_4 =>
  AllocP #[(.string ⟨#[]⟩), (.int .i64 0), (.int .i64 0), (.int .i64 0)] T_pack_spot H2 fun s_5 H6 =>
  StoreP (some 4) H6 s_5 t_3 fun H7 =>
  BinP .neq t_4 (.int .i64 0) fun t_8 =>
  SplitP t_8
    (K (.tuple #[(.string ⟨#[]⟩), t_4]) H7)
    (FieldAddrP 2 s_5 fun t_9 =>
    LoadP none H7 t_9 fun t_10 =>
    FieldAddrP 3 s_5 fun t_11 =>
    LoadP none H7 t_11 fun t_12 =>
    CallH P f_pack_count [a0_p] H7 fun t_13 H14 =>
    LoadIs none H14 t_11 t_12 ∧
    LoadIs none H14 t_9 t_10 ∧
    BinP .sub t_13 (.int .i64 1) fun t_15 =>
    CallH P f_pack_changed [a0_p, t_15, t_10, t_12, (.slice none 0 0)] H14 fun t_16 H17 =>
    K (.tuple #[t_16, (.int .i64 0)]) H17)

def a_pack_Delete : Ann := []

theorem e_pack_Delete (a0_p : Value) (a1_at : Value) (H : Heap) (K : Value → Heap → Prop) : bodyX P a_pack_Delete (bodyOf Tryz.f156) Tryz.f156.results.toList [a0_p, a1_at] H K = c_pack_Delete a0_p a1_at H K := by kernel_rfl

theorem ok_pack_Delete : okFn P a_pack_Delete Tryz.f156 2 = true := by kernel_rfl
theorem k_pack_Delete {a0_p a1_at : Value} {H : Heap} {K : Value → Heap → Prop} (h : c_pack_Delete a0_p a1_at H K) : CallH P f_pack_Delete [a0_p, a1_at] H K :=
  call_of_bodyX Tryz.func156 ok_pack_Delete ((e_pack_Delete a0_p a1_at H K).mpr h)

/-- (*palio/zset.packed).entries -/
def c_zset_packed_entries (a0_x : Value) (H : Heap) (K : Value → Heap → Prop) : Prop :=
  NilP a0_x fun t_1 =>
  FieldAddrP 0 t_1 fun t_2 =>
  LoadP none H t_2 fun t_3 =>
  CallH P f_pack_Entries [t_3] H fun t_4 H5 =>
  ExtractP t_4 0 fun t_6 =>
  ExtractP t_4 1 fun t_7 =>
  K t_6 H5

def a_zset_packed_entries : Ann := []

theorem e_zset_packed_entries (a0_x : Value) (H : Heap) (K : Value → Heap → Prop) : bodyX P a_zset_packed_entries (bodyOf Tryz.f157) Tryz.f157.results.toList [a0_x] H K = c_zset_packed_entries a0_x H K := by kernel_rfl

theorem ok_zset_packed_entries : okFn P a_zset_packed_entries Tryz.f157 1 = true := by kernel_rfl
theorem k_zset_packed_entries {a0_x : Value} {H : Heap} {K : Value → Heap → Prop} (h : c_zset_packed_entries a0_x H K) : CallH P f_zset_packed_entries [a0_x] H K :=
  call_of_bodyX Tryz.func157 ok_zset_packed_entries ((e_zset_packed_entries a0_x H K).mpr h)

/-- slices.Clone[[]palio/api.Entry,palio/api.Entry] -/
def c_slices_Clone_s_api_Entry_api_Entry (a0_s : Value) (H : Heap) (K : Value → Heap → Prop) : Prop :=
  EqP P T_s_api_Entry true H a0_s (.slice none 0 0) fun b_1 =>
  SplitP (.bool b_1)
    (K (.slice none 0 0) H)
    (BuildP (zerosN #[(.string ⟨#[]⟩), (.int .i64 0)] 0) [] fun t_2 =>
    BuildSliceP T_api_Entry 0 t_2 H fun t_3 H4 =>
    AppendP P T_api_Entry t_3 a0_s H4 fun t_5 H6 =>
    K t_5 H6)

def a_slices_Clone_s_api_Entry_api_Entry : Ann := []

theorem e_slices_Clone_s_api_Entry_api_Entry (a0_s : Value) (H : Heap) (K : Value → Heap → Prop) : bodyX P a_slices_Clone_s_api_Entry_api_Entry (bodyOf Tryz.f158) Tryz.f158.results.toList [a0_s] H K = c_slices_Clone_s_api_Entry_api_Entry a0_s H K := by kernel_rfl

theorem ok_slices_Clone_s_api_Entry_api_Entry : okFn P a_slices_Clone_s_api_Entry_api_Entry Tryz.f158 1 = true := by kernel_rfl
theorem k_slices_Clone_s_api_Entry_api_Entry {a0_s : Value} {H : Heap} {K : Value → Heap → Prop} (h : c_slices_Clone_s_api_Entry_api_Entry a0_s H K) : CallH P f_slices_Clone_s_api_Entry_api_Entry [a0_s] H K :=
  call_of_bodyX Tryz.func158 ok_slices_Clone_s_api_Entry_api_Entry ((e_slices_Clone_s_api_Entry_api_Entry a0_s H K).mpr h)

/-- palio/pack.Find -/
def c_pack_Find (a0_p : Value) (a1_member : Value) (H : Heap) (K : Value → Heap → Prop) : Prop :=
  BoxP none T_string a1_member H fun member_1 H2 =>
  CallH P f_pack_Right [a0_p] H2 fun t_3 H4 =>
  UnP .not t_3 fun t_5 =>
  SplitP t_5
    (K (.int .i64 (-1)) H4)
    (AllocP #[(.int .i64 0)] T_int H4 fun atx_6 H7 =>
    AllocP #[(.int .i64 0)] T_int H7 fun found_8 H9 =>
    StoreP none H9 atx_6 (.int .i64 0) fun H10 =>
    StoreP none H10 found_8 (.int .i64 (-1)) fun H11 =>
    CallH P f_pack_spots [a0_p] H11 fun t_12 H13 =>
    RangeP P none t_12 1
      (fun l_14 vs_14 H14 K_14 =>
      AllocP #[(.string ⟨#[]⟩), (.int .i64 0), (.int .i64 0), (.int .i64 0)] T_pack_spot H14 fun s_15 H16 =>
      StoreP (some 4) H16 s_15 vs_14 fun H17 =>
      BeginP l_14 H17 fun H18 =>
      LoadP none H18 member_1 fun t_19 =>
      FieldAddrP 0 s_15 fun t_20 =>
      FieldAddrP 1 t_20 fun t_21 =>
      LoadP none H18 t_21 fun t_22 =>
      BuildP [(.string ⟨#[]⟩), (.int .i64 0)] [(0, none, t_19), (1, none, t_22)] fun t_23 =>
      AllocP #[(.string ⟨#[]⟩), (.int .i64 0)] T_api_Entry H18 fun same_24 H25 =>
      StoreP (some 2) H25 same_24 (.agg t_23.toArray) fun H26 =>
      FieldAddrP 0 s_15 fun t_27 =>
      LoadP (some 2) H26 t_27 fun t_28 =>
      LoadP (some 2) H26 same_24 fun t_29 =>
      EqP P T_api_Entry false H26 t_28 t_29 fun b_30 =>
      SplitP (.bool b_30)
        (LoadP none H26 atx_6 fun t_31 =>
        StoreP none H26 found_8 t_31 fun H32 =>
        EndP l_14 (.exit 0) H32 K_14)
        (LoadP none H26 atx_6 fun t_33 =>
        BinP .add t_33 (.int .i64 1) fun t_34 =>
        StoreP none H26 atx_6 t_34 fun H35 =>
        EndP l_14 .normal H35 K_14))
      (fun p_14 ds_14 Ha14 => AltP p_14 [
      (.normal, LoadP none Ha14 found_8 fun t_36 =>
      RetP (ds_14 ++ []) Ha14 fun H37 =>
      K t_36 H37),
      (.exit 0, LoadP none Ha14 found_8 fun t_38 =>
      RetP (ds_14 ++ []) Ha14 fun H39 =>
      K t_38 H39)]) H13)

def a_pack_Find : Ann := []

theorem e_pack_Find (a0_p : Value) (a1_member : Value) (H : Heap) (K : Value → Heap → Prop) : bodyX P a_pack_Find (bodyOf Tryz.f159) Tryz.f159.results.toList [a0_p, a1_member] H K = c_pack_Find a0_p a1_member H K := by kernel_rfl

theorem ok_pack_Find : okFn P a_pack_Find Tryz.f159 2 = true := by kernel_rfl
theorem k_pack_Find {a0_p a1_member : Value} {H : Heap} {K : Value → Heap → Prop} (h : c_pack_Find a0_p a1_member H K) : CallH P f_pack_Find [a0_p, a1_member] H K :=
  call_of_bodyX Tryz.func159 ok_pack_Find ((e_pack_Find a0_p a1_member H K).mpr h)

/-- (*palio/zset.packed).put$1 -/
def c_zset_packed_put_1 (a0_i : Value) (a1_x : Value) (a2_x : Value) (H : Heap) (K : Value → Heap → Prop) : Prop :=
  LoadP (some 2) H a1_x fun t_1 =>
  LoadP none H a2_x fun t_2 =>
  IdxSliceP 2 t_2 a0_i fun t_3 =>
  LoadP (some 2) H t_3 fun t_4 =>
  CallH P f_bound_Less [t_1, t_4] H fun t_5 H6 =>
  K t_5 H6

def a_zset_packed_put_1 : Ann := []

theorem e_zset_packed_put_1 (a0_i : Value) (a1_x : Value) (a2_x : Value) (H : Heap) (K : Value → Heap → Prop) : bodyX P a_zset_packed_put_1 (bodyOf Tryz.f160) Tryz.f160.results.toList [a0_i, a1_x, a2_x] H K = c_zset_packed_put_1 a0_i a1_x a2_x H K := by kernel_rfl

theorem ok_zset_packed_put_1 : okFn P a_zset_packed_put_1 Tryz.f160 3 = true := by kernel_rfl
theorem k_zset_packed_put_1 {a0_i a1_x a2_x : Value} {H : Heap} {K : Value → Heap → Prop} (h : c_zset_packed_put_1 a0_i a1_x a2_x H K) : CallH P f_zset_packed_put_1 [a0_i, a1_x, a2_x] H K :=
  call_of_bodyX Tryz.func160 ok_zset_packed_put_1 ((e_zset_packed_put_1 a0_i a1_x a2_x H K).mpr h)

/-- palio/pack.Insert -/
def c_pack_Insert (a0_p : Value) (a1_at : Value) (a2_x : Value) (H : Heap) (K : Value → Heap → Prop) : Prop :=
  BoxP (some 2) T_api_Entry a2_x H fun x_1 H2 =>
  CallH P f_pack_all [a0_p] H2 fun t_3 H4 =>
  ExtractP t_3 0 fun t_5 =>
  ExtractP t_3 1 fun t_6 =>
  BinP .neq t_6 (.int .i64 0) fun t_7 =>
  SplitP t_7
    (K (.tuple #[(.string ⟨#[]⟩), t_6]) H4)
    (LenP t_5 fun t_8 =>
    BinP .eql t_8 (.int .i64 200) fun t_9 =>
    SplitP t_9
      (K (.tuple #[(.string ⟨#[]⟩), (.int .i64 51)]) H4)
      (BinP .lss a1_at (.int .i64 0) fun t_10 =>
      SplitP t_10
        (K (.tuple #[(.string ⟨#[]⟩), (.int .i64 2)]) H4)
        (LenP t_5 fun t_11 =>
        BinP .gtr a1_at t_11 fun t_12 =>
        SplitP t_12
          (K (.tuple #[(.string ⟨#[]⟩), (.int .i64 2)]) H4)
          (FieldAddrP 0 x_1 fun t_13 =>
          LoadP none H4 t_13 fun t_14 =>
          LenStrP t_14 fun t_15 =>
          BinP .gtr t_15 (.int .i64 64) fun t_16 =>
          SplitP t_16
            (K (.tuple #[(.string ⟨#[]⟩), (.int .i64 2)]) H4)
            (LenStrP a0_p fun t_17 =>
            JoinP (S := (Value) × List Deferred) (G := Tup 9)
              (fun s_18 g_18 H18 =>
              LenP t_5 fun t_19 =>
              BinP .add t_19 (.int .i64 1) fun t_20 =>
              LoadP (some 2) H18 x_1 fun t_21 =>
              CallH P f_pack_entry [t_21] H18 fun t_22 H23 =>
              CallH P f_pack_changed [a0_p, t_20, s_18.1, s_18.1, t_22] H23 fun t_24 H25 =>
              RetP s_18.2 H25 fun H26 =>
              K (.tuple #[t_24, (.int .i64 0)]) H26)
              (fun J_18 =>
              LenP t_5 fun t_27 =>
              BinP .lss a1_at t_27 fun t_28 =>
              SplitP t_28
                (IdxSliceP 4 t_5 a1_at fun t_29 =>
                FieldAddrP 2 t_29 fun t_30 =>
                LoadP none H4 t_30 fun t_31 =>
                J_18 (t_31, []) H4)
                (J_18 (t_17, []) H4)))))))

def a_pack_Insert : Ann := [(23, [10], [41, 42, 43, 44, 45, 46, 47, 48, 49])]

theorem e_pack_Insert (a0_p : Value) (a1_at : Value) (a2_x : Value) (H : Heap) (K : Value → Heap → Prop) : bodyX P a_pack_Insert (bodyOf Tryz.f161) Tryz.f161.results.toList [a0_p, a1_at, a2_x] H K = c_pack_Insert a0_p a1_at a2_x H K := by kernel_rfl

theorem ok_pack_Insert : okFn P a_pack_Insert Tryz.f161 3 = true := by kernel_rfl
theorem k_pack_Insert {a0_p a1_at a2_x : Value} {H : Heap} {K : Value → Heap → Prop} (h : c_pack_Insert a0_p a1_at a2_x H K) : CallH P f_pack_Insert [a0_p, a1_at, a2_x] H K :=
  call_of_bodyX Tryz.func161 ok_pack_Insert ((e_pack_Insert a0_p a1_at a2_x H K).mpr h)

/-- palio/pack.Get -/
def c_pack_Get (a0_p : Value) (a1_at : Value) (H : Heap) (K : Value → Heap → Prop) : Prop :=
  AllocP #[(.string ⟨#[]⟩), (.int .i64 0)] T_api_Entry H fun t_1 H2 =>
  CallH P f_pack_spotAt [a0_p, a1_at] H2 fun t_3 H4 =>
  ExtractP t_3 0 fun t_5 =>
  ExtractP t_3 1 fun t_6 =>
  AllocP #[(.string ⟨#[]⟩), (.int .i64 0), (.int .i64 0), (.int .i64 0)] T_pack_spot H4 fun s_7 H8 =>
  StoreP (some 4) H8 s_7 t_5 fun H9 =>
  FieldAddrP 0 s_7 fun t_10 =>
  LoadP (some 2) H9 t_10 fun t_11 =>
  StoreP (some 2) H9 t_1 t_11 fun H12 =>
  LoadP (some 2) H12 t_1 fun t_13 =>
  K (.tuple #[t_13, t_6]) H12

def a_pack_Get : Ann := []

theorem e_pack_Get (a0_p : Value) (a1_at : Value) (H : Heap) (K : Value → Heap → Prop) : bodyX P a_pack_Get (bodyOf Tryz.f162) Tryz.f162.results.toList [a0_p, a1_at] H K = c_pack_Get a0_p a1_at H K := by kernel_rfl

theorem ok_pack_Get : okFn P a_pack_Get Tryz.f162 2 = true := by kernel_rfl
theorem k_pack_Get {a0_p a1_at : Value} {H : Heap} {K : Value → Heap → Prop} (h : c_pack_Get a0_p a1_at H K) : CallH P f_pack_Get [a0_p, a1_at] H K :=
  call_of_bodyX Tryz.func162 ok_pack_Get ((e_pack_Get a0_p a1_at H K).mpr h)

/-- palio/pack.spotAt -/
def c_pack_spotAt (a0_p : Value) (a1_at : Value) (H : Heap) (K : Value → Heap → Prop) : Prop :=
  AllocP #[(.string ⟨#[]⟩), (.int .i64 0), (.int .i64 0), (.int .i64 0)] T_pack_spot H fun t_1 H2 =>
  CallH P f_pack_all [a0_p] H2 fun t_3 H4 =>
  ExtractP t_3 0 fun t_5 =>
  ExtractP t_3 1 fun t_6 =>
  BinP .neq t_6 (.int .i64 0) fun t_7 =>
  SplitP t_7
    (BuildP [(.string ⟨#[]⟩), (.int .i64 0), (.int .i64 0), (.int .i64 0)] [] fun t_8 =>
    StoreP (some 4) H4 t_1 (.agg t_8.toArray) fun H9 =>
    LoadP (some 4) H9 t_1 fun t_10 =>
    K (.tuple #[t_10, t_6]) H9)
    (BinP .lss a1_at (.int .i64 0) fun t_11 =>
    SplitP t_11
      (BuildP [(.string ⟨#[]⟩), (.int .i64 0), (.int .i64 0), (.int .i64 0)] [] fun t_12 =>
      StoreP (some 4) H4 t_1 (.agg t_12.toArray) fun H13 =>
      LoadP (some 4) H13 t_1 fun t_14 =>
      K (.tuple #[t_14, (.int .i64 2)]) H13)
      (LenP t_5 fun t_15 =>
      BinP .geq a1_at t_15 fun t_16 =>
      SplitP t_16
        (BuildP [(.string ⟨#[]⟩), (.int .i64 0), (.int .i64 0), (.int .i64 0)] [] fun t_17 =>
        StoreP (some 4) H4 t_1 (.agg t_17.toArray) fun H18 =>
        LoadP (some 4) H18 t_1 fun t_19 =>
        K (.tuple #[t_19, (.int .i64 2)]) H18)
        (IdxSliceP 4 t_5 a1_at fun t_20 =>
        LoadP (some 4) H4 t_20 fun t_21 =>
        StoreP (some 4) H4 t_1 t_21 fun H22 =>
        LoadP (some 4) H22 t_1 fun t_23 =>
        K (.tuple #[t_23, (.int .i64 0)]) H22)))

def a_pack_spotAt : Ann := []

theorem e_pack_spotAt (a0_p : Value) (a1_at : Value) (H : Heap) (K : Value → Heap → Prop) : bodyX P a_pack_spotAt (bodyOf Tryz.f163) Tryz.f163.results.toList [a0_p, a1_at] H K = c_pack_spotAt a0_p a1_at H K := by kernel_rfl

theorem ok_pack_spotAt : okFn P a_pack_spotAt Tryz.f163 2 = true := by kernel_rfl
theorem k_pack_spotAt {a0_p a1_at : Value} {H : Heap} {K : Value → Heap → Prop} (h : c_pack_spotAt a0_p a1_at H K) : CallH P f_pack_spotAt [a0_p, a1_at] H K :=
  call_of_bodyX Tryz.func163 ok_pack_spotAt ((e_pack_spotAt a0_p a1_at H K).mpr h)

/-- palio/pack.changed -/
def c_pack_changed (a0_p : Value) (a1_n : Value) (a2_from : Value) (a3_to : Value) (a4_l : Value) (H : Heap) (K : Value → Heap → Prop) : Prop :=
  SliceStrP a0_p (some (.int .i64 2)) (some a2_from) fun t_1 =>
  SliceStrP a0_p (some a3_to) none fun t_2 =>
  (CallH P f_pack_head [a1_n] H fun t_3 H4 =>
  (StrBytesP T_uint8 t_1 H4 fun t_5 H6 =>
  StrBytesP T_uint8 t_2 H6 fun t_7 H8 =>
  BuildP (zerosN #[(.slice none 0 0)] 4) [(0, none, t_3), (1, none, t_5), (2, none, a4_l), (3, none, t_7)] fun t_9 =>
  BuildSliceP T_s_uint8 4 t_9 H8 fun t_10 H11 =>
  CallH P f_slices_Concat_s_byte_byte [t_10] H11 fun t_12 H13 =>
  BytesStrP t_12 H13 fun t_14 =>
  K t_14 H13) ∧
  (StrBytesP T_uint8 t_2 H4 fun t_15 H16 =>
  StrBytesP T_uint8 t_1 H16 fun t_17 H18 =>
  BuildP (zerosN #[(.slice none 0 0)] 4) [(0, none, t_3), (1, none, t_17), (2, none, a4_l), (3, none, t_15)] fun t_19 =>
  BuildSliceP T_s_uint8 4 t_19 H18 fun t_20 H21 =>
  CallH P f_slices_Concat_s_byte_byte [t_20] H21 fun t_22 H23 =>
  BytesStrP t_22 H23 fun t_24 =>
  K t_24 H23)) ∧
  (StrBytesP T_uint8 t_1 H fun t_25 H26 =>
  (CallH P f_pack_head [a1_n] H26 fun t_27 H28 =>
  StrBytesP T_uint8 t_2 H28 fun t_29 H30 =>
  BuildP (zerosN #[(.slice none 0 0)] 4) [(0, none, t_27), (1, none, t_25), (2, none, a4_l), (3, none, t_29)] fun t_31 =>
  BuildSliceP T_s_uint8 4 t_31 H30 fun t_32 H33 =>
  CallH P f_slices_Concat_s_byte_byte [t_32] H33 fun t_34 H35 =>
  BytesStrP t_34 H35 fun t_36 =>
  K t_36 H35) ∧
  (StrBytesP T_uint8 t_2 H26 fun t_37 H38 =>
  CallH P f_pack_head [a1_n] H38 fun t_39 H40 =>
  BuildP (zerosN #[(.slice none 0 0)] 4) [(0, none, t_39), (1, none, t_25), (2, none, a4_l), (3, none, t_37)] fun t_41 =>
  BuildSliceP T_s_uint8 4 t_41 H40 fun t_42 H43 =>
  CallH P f_slices_Concat_s_byte_byte [t_42] H43 fun t_44 H45 =>
  BytesStrP t_44 H45 fun t_46 =>
  K t_46 H45)) ∧
  (StrBytesP T_uint8 t_2 H fun t_47 H48 =>
  (CallH P f_pack_head [a1_n] H48 fun t_49 H50 =>
  StrBytesP T_uint8 t_1 H50 fun t_51 H52 =>
  BuildP (zerosN #[(.slice none 0 0)] 4) [(0, none, t_49), (1, none, t_51), (2, none, a4_l), (3, none, t_47)] fun t_53 =>
  BuildSliceP T_s_uint8 4 t_53 H52 fun t_54 H55 =>
  CallH P f_slices_Concat_s_byte_byte [t_54] H55 fun t_56 H57 =>
  BytesStrP t_56 H57 fun t_58 =>
  K t_58 H57) ∧
  (StrBytesP T_uint8 t_1 H48 fun t_59 H60 =>
  CallH P f_pack_head [a1_n] H60 fun t_61 H62 =>
  BuildP (zerosN #[(.slice none 0 0)] 4) [(0, none, t_61), (1, none, t_59), (2, none, a4_l), (3, none, t_47)] fun t_63 =>
  BuildSliceP T_s_uint8 4 t_63 H62 fun t_64 H65 =>
  CallH P f_slices_Concat_s_byte_byte [t_64] H65 fun t_66 H67 =>
  BytesStrP t_66 H67 fun t_68 =>
  K t_68 H67))

def a_pack_changed : Ann := []

theorem e_pack_changed (a0_p : Value) (a1_n : Value) (a2_from : Value) (a3_to : Value) (a4_l : Value) (H : Heap) (K : Value → Heap → Prop) : bodyX P a_pack_changed (bodyOf Tryz.f164) Tryz.f164.results.toList [a0_p, a1_n, a2_from, a3_to, a4_l] H K = c_pack_changed a0_p a1_n a2_from a3_to a4_l H K := by kernel_rfl

theorem ok_pack_changed : okFn P a_pack_changed Tryz.f164 5 = true := by kernel_rfl
theorem k_pack_changed {a0_p a1_n a2_from a3_to a4_l : Value} {H : Heap} {K : Value → Heap → Prop} (h : c_pack_changed a0_p a1_n a2_from a3_to a4_l H K) : CallH P f_pack_changed [a0_p, a1_n, a2_from, a3_to, a4_l] H K :=
  call_of_bodyX Tryz.func164 ok_pack_changed ((e_pack_changed a0_p a1_n a2_from a3_to a4_l H K).mpr h)

/-- palio/pack.count -/
def c_pack_count (a0_p : Value) (H : Heap) (K : Value → Heap → Prop) : Prop :=
  LenStrP a0_p fun t_1 =>
  BinP .lss t_1 (.int .i64 2) fun t_2 =>
  SplitP t_2
    (K (.int .i64 (-1)) H)
    (IndexStrP a0_p (.int .i64 0) fun t_3 =>
    ConvIntP .i64 t_3 fun t_4 =>
    BinP .shl t_4 (.int .u64 8) fun t_5 =>
    IndexStrP a0_p (.int .i64 1) fun t_6 =>
    ConvIntP .i64 t_6 fun t_7 =>
    BinP .or t_5 t_7 fun t_8 =>
    BinP .leq t_8 (.int .i64 200) fun t_9 =>
    SplitP t_9
      (K t_8 H)
      (K (.int .i64 (-1)) H))

def a_pack_count : Ann := []

theorem e_pack_count (a0_p : Value) (H : Heap) (K : Value → Heap → Prop) : bodyX P a_pack_count (bodyOf Tryz.f165) Tryz.f165.results.toList [a0_p] H K = c_pack_count a0_p H K := by kernel_rfl

theorem ok_pack_count : okFn P a_pack_count Tryz.f165 1 = true := by kernel_rfl
theorem k_pack_count {a0_p : Value} {H : Heap} {K : Value → Heap → Prop} (h : c_pack_count a0_p H K) : CallH P f_pack_count [a0_p] H K :=
  call_of_bodyX Tryz.func165 ok_pack_count ((e_pack_count a0_p H K).mpr h)

/-- palio/pack.Entries -/
def c_pack_Entries (a0_p : Value) (H : Heap) (K : Value → Heap → Prop) : Prop :=
  CallH P f_pack_all [a0_p] H fun t_1 H2 =>
  ExtractP t_1 0 fun t_3 =>
  ExtractP t_1 1 fun t_4 =>
  BinP .neq t_4 (.int .i64 0) fun t_5 =>
  SplitP t_5
    (K (.tuple #[(.slice none 0 0), t_4]) H2)
    (LenP t_3 fun t_6 =>
    LoopP (S := (Value × Value) × List Deferred) (G := Tup 10)
      (fun s_7 g_7 self_7 H7 =>
      BinP .lss s_7.1.2 t_6 fun t_8 =>
      SplitP t_8
        (IdxSliceP 4 t_3 s_7.1.2 fun t_9 =>
        LoadP (some 4) H7 t_9 fun t_10 =>
        AllocP #[(.string ⟨#[]⟩), (.int .i64 0), (.int .i64 0), (.int .i64 0)] T_pack_spot H7 fun s_11 H12 =>
        StoreP (some 4) H12 s_11 t_10 fun H13 =>
        FieldAddrP 0 s_11 fun t_14 =>
        LoadP (some 2) H13 t_14 fun t_15 =>
        BuildP (zerosN #[(.string ⟨#[]⟩), (.int .i64 0)] 1) [(0, (some 2), t_15)] fun t_16 =>
        BuildSliceP T_api_Entry 1 t_16 H13 fun t_17 H18 =>
        AppendP P T_api_Entry s_7.1.1 t_17 H18 fun t_19 H20 =>
        BinP .add s_7.1.2 (.int .i64 1) fun t_21 =>
        self_7 ((t_19, t_21), s_7.2) H20)
        (RetP s_7.2 H7 fun H22 =>
        K (.tuple #[s_7.1.1, (.int .i64 0)]) H22))
      (((.slice none 0 0), (.int .i64 0)), []) H2)

def a_pack_Entries : Ann := [(12, [6, 19], [8, 20, 21, 22, 23, 24, 25, 26, 27, 28])]

theorem e_pack_Entries (a0_p : Value) (H : Heap) (K : Value → Heap → Prop) : bodyX P a_pack_Entries (bodyOf Tryz.f166) Tryz.f166.results.toList [a0_p] H K = c_pack_Entries a0_p H K := by kernel_rfl

theorem ok_pack_Entries : okFn P a_pack_Entries Tryz.f166 1 = true := by kernel_rfl
theorem k_pack_Entries {a0_p : Value} {H : Heap} {K : Value → Heap → Prop} (h : c_pack_Entries a0_p H K) : CallH P f_pack_Entries [a0_p] H K :=
  call_of_bodyX Tryz.func166 ok_pack_Entries ((e_pack_Entries a0_p H K).mpr h)

/-- palio/pack.Right -/
def c_pack_Right (a0_p : Value) (H : Heap) (K : Value → Heap → Prop) : Prop :=
  CallH P f_pack_all [a0_p] H fun t_1 H2 =>
  ExtractP t_1 0 fun t_3 =>
  ExtractP t_1 1 fun t_4 =>
  BinP .eql t_4 (.int .i64 0) fun t_5 =>
  K t_5 H2

def a_pack_Right : Ann := []

theorem e_pack_Right (a0_p : Value) (H : Heap) (K : Value → Heap → Prop) : bodyX P a_pack_Right (bodyOf Tryz.f167) Tryz.f167.results.toList [a0_p] H K = c_pack_Right a0_p H K := by kernel_rfl

theorem ok_pack_Right : okFn P a_pack_Right Tryz.f167 1 = true := by kernel_rfl
theorem k_pack_Right {a0_p : Value} {H : Heap} {K : Value → Heap → Prop} (h : c_pack_Right a0_p H K) : CallH P f_pack_Right [a0_p] H K :=
  call_of_bodyX Tryz.func167 ok_pack_Right ((e_pack_Right a0_p H K).mpr h)

end Go.X.W
