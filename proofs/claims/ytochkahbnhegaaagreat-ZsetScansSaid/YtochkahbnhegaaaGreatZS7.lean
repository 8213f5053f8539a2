/- Clean words of Go functions, printed by a program of our own; each is equal to the evaluator's result. -/
import Derived.Test.YtochkahbnhegaaaGreatZS3
set_option linter.unusedVariables false
set_option maxRecDepth 100000
namespace Go.X.W
open Go Go.X Go.Proofs

/-- cmp.Compare[string] -/
def c_cmp_Compare_string (a0_x : Value) (a1_y : Value) (H : Heap) (K : Value → Heap → Prop) : Prop :=
  CallH P f_cmp_isNaN_string [a0_x] H fun t_1 H2 =>
  CallH P f_cmp_isNaN_string [a1_y] H2 fun t_3 H4 =>
  SplitP t_1
    (SplitP t_3
      (K (.int .i64 0) H4)
      (K (.int .i64 (-1)) H4))
    (SplitP t_3
      (K (.int .i64 1) H4)
      (BinP .lss a0_x a1_y fun t_5 =>
      SplitP t_5
        (K (.int .i64 (-1)) H4)
        (BinP .gtr a0_x a1_y fun t_6 =>
        SplitP t_6
          (K (.int .i64 1) H4)
          (K (.int .i64 0) H4))))

def a_cmp_Compare_string : Ann := []

theorem e_cmp_Compare_string (a0_x : Value) (a1_y : Value) (H : Heap) (K : Value → Heap → Prop) : bodyX P a_cmp_Compare_string (bodyOf Tryz.f62) Tryz.f62.results.toList [a0_x, a1_y] H K = c_cmp_Compare_string a0_x a1_y H K := by kernel_rfl

theorem ok_cmp_Compare_string : okFn P a_cmp_Compare_string Tryz.f62 2 = true := by kernel_rfl
theorem k_cmp_Compare_string {a0_x a1_y : Value} {H : Heap} {K : Value → Heap → Prop} (h : c_cmp_Compare_string a0_x a1_y H K) : CallH P f_cmp_Compare_string [a0_x, a1_y] H K :=
  call_of_bodyX Tryz.func62 ok_cmp_Compare_string ((e_cmp_Compare_string a0_x a1_y H K).mpr h)

/-- palio/bound.isBehind[int64] -/
def c_bound_isBehind_int64 (a0_x : Value) (a1_at : Value) (a2_e : Value) (a3_sign : Value) (H : Heap) (K : Value → Heap → Prop) : Prop :=
  TypeAssertP T_bound_value (.agg #[(.bool false)]) true a2_e fun t_1 =>
  ExtractP t_1 0 fun t_2 =>
  ExtractP t_1 1 fun t_3 =>
  AllocP #[(.bool false)] T_bound_value H fun v_4 H5 =>
  StoreP (some 1) H5 v_4 t_2 fun H6 =>
  SplitP t_3
    (CallH P f_cmp_Compare_int64 [a0_x, a1_at] H6 fun t_7 H8 =>
    BinP .mul a3_sign t_7 fun t_9 =>
    BinP .gtr t_9 (.int .i64 0) fun t_10 =>
    SplitP t_10
      (K (.bool true) H8)
      (BinP .eql t_9 (.int .i64 0) fun t_11 =>
      SplitP t_11
        (FieldAddrP 0 v_4 fun t_12 =>
        LoadP none H8 t_12 fun t_13 =>
        UnP .not t_13 fun t_14 =>
        K t_14 H8)
        (K (.bool false) H8)))
    (InvokeP P a2_e "palio/bound.sign" [] H6 fun t_15 H16 =>
    UnP .neg a3_sign fun t_17 =>
    BinP .eql t_15 t_17 fun t_18 =>
    K t_18 H16)

def a_bound_isBehind_int64 : Ann := []

theorem e_bound_isBehind_int64 (a0_x : Value) (a1_at : Value) (a2_e : Value) (a3_sign : Value) (H : Heap) (K : Value → Heap → Prop) : bodyX P a_bound_isBehind_int64 (bodyOf Tryz.f63) Tryz.f63.results.toList [a0_x, a1_at, a2_e, a3_sign] H K = c_bound_isBehind_int64 a0_x a1_at a2_e a3_sign H K := by kernel_rfl

theorem ok_bound_isBehind_int64 : okFn P a_bound_isBehind_int64 Tryz.f63 4 = true := by kernel_rfl
theorem k_bound_isBehind_int64 {a0_x a1_at a2_e a3_sign : Value} {H : Heap} {K : Value → Heap → Prop} (h : c_bound_isBehind_int64 a0_x a1_at a2_e a3_sign H K) : CallH P f_bound_isBehind_int64 [a0_x, a1_at, a2_e, a3_sign] H K :=
  call_of_bodyX Tryz.func63 ok_bound_isBehind_int64 ((e_bound_isBehind_int64 a0_x a1_at a2_e a3_sign H K).mpr h)

/-- palio/bound.of -/
def c_bound_of (a0_inf : Value) (a1_out : Value) (H : Heap) (K : Value → Heap → Prop) : Prop :=
  BinP .neq a0_inf (.int .i64 0) fun t_1 =>
  SplitP t_1
    (BuildP [(.int .i64 0)] [(0, none, a0_inf)] fun t_2 =>
    K (.iface T_bound_limit (.agg t_2.toArray)) H)
    (BuildP [(.bool false)] [(0, none, a1_out)] fun t_3 =>
    K (.iface T_bound_value (.agg t_3.toArray)) H)

def a_bound_of : Ann := []

theorem e_bound_of (a0_inf : Value) (a1_out : Value) (H : Heap) (K : Value → Heap → Prop) : bodyX P a_bound_of (bodyOf Tryz.f64) Tryz.f64.results.toList [a0_inf, a1_out] H K = c_bound_of a0_inf a1_out H K := by kernel_rfl

theorem ok_bound_of : okFn P a_bound_of Tryz.f64 2 = true := by kernel_rfl
theorem k_bound_of {a0_inf a1_out : Value} {H : Heap} {K : Value → Heap → Prop} (h : c_bound_of a0_inf a1_out H K) : CallH P f_bound_of [a0_inf, a1_out] H K :=
  call_of_bodyX Tryz.func64 ok_bound_of ((e_bound_of a0_inf a1_out H K).mpr h)

/-- slices.Values[[]palio/api.Entry,palio/api.Entry] -/
def c_slices_Values_s_api_Entry_api_Entry (a0_s : Value) (H : Heap) (K : Value → Heap → Prop) : Prop :=
  BoxP none T_s_api_Entry a0_s H fun s_1 H2 =>
  K (.func (.func f_slices_Values_s_api_Entry_api_Entry_1) #[] #[s_1]) H2

def a_slices_Values_s_api_Entry_api_Entry : Ann := []

theorem e_slices_Values_s_api_Entry_api_Entry (a0_s : Value) (H : Heap) (K : Value → Heap → Prop) : bodyX P a_slices_Values_s_api_Entry_api_Entry (bodyOf Tryz.f65) Tryz.f65.results.toList [a0_s] H K = c_slices_Values_s_api_Entry_api_Entry a0_s H K := by kernel_rfl

theorem ok_slices_Values_s_api_Entry_api_Entry : okFn P a_slices_Values_s_api_Entry_api_Entry Tryz.f65 1 = true := by kernel_rfl
theorem k_slices_Values_s_api_Entry_api_Entry {a0_s : Value} {H : Heap} {K : Value → Heap → Prop} (h : c_slices_Values_s_api_Entry_api_Entry a0_s H K) : CallH P f_slices_Values_s_api_Entry_api_Entry [a0_s] H K :=
  call_of_bodyX Tryz.func65 ok_slices_Values_s_api_Entry_api_Entry ((e_slices_Values_s_api_Entry_api_Entry a0_s H K).mpr h)

/-- palio/bound.isBehind[string] -/
def c_bound_isBehind_string (a0_x : Value) (a1_at : Value) (a2_e : Value) (a3_sign : Value) (H : Heap) (K : Value → Heap → Prop) : Prop :=
  TypeAssertP T_bound_value (.agg #[(.bool false)]) true a2_e fun t_1 =>
  ExtractP t_1 0 fun t_2 =>
  ExtractP t_1 1 fun t_3 =>
  AllocP #[(.bool false)] T_bound_value H fun v_4 H5 =>
  StoreP (some 1) H5 v_4 t_2 fun H6 =>
  SplitP t_3
    (CallH P f_cmp_Compare_string [a0_x, a1_at] H6 fun t_7 H8 =>
    BinP .mul a3_sign t_7 fun t_9 =>
    BinP .gtr t_9 (.int .i64 0) fun t_10 =>
    SplitP t_10
      (K (.bool true) H8)
      (BinP .eql t_9 (.int .i64 0) fun t_11 =>
      SplitP t_11
        (FieldAddrP 0 v_4 fun t_12 =>
        LoadP none H8 t_12 fun t_13 =>
        UnP .not t_13 fun t_14 =>
        K t_14 H8)
        (K (.bool false) H8)))
    (InvokeP P a2_e "palio/bound.sign" [] H6 fun t_15 H16 =>
    UnP .neg a3_sign fun t_17 =>
    BinP .eql t_15 t_17 fun t_18 =>
    K t_18 H16)

def a_bound_isBehind_string : Ann := []

theorem e_bound_isBehind_string (a0_x : Value) (a1_at : Value) (a2_e : Value) (a3_sign : Value) (H : Heap) (K : Value → Heap → Prop) : bodyX P a_bound_isBehind_string (bodyOf Tryz.f66) Tryz.f66.results.toList [a0_x, a1_at, a2_e, a3_sign] H K = c_bound_isBehind_string a0_x a1_at a2_e a3_sign H K := by kernel_rfl

theorem ok_bound_isBehind_string : okFn P a_bound_isBehind_string Tryz.f66 4 = true := by kernel_rfl
theorem k_bound_isBehind_string {a0_x a1_at a2_e a3_sign : Value} {H : Heap} {K : Value → Heap → Prop} (h : c_bound_isBehind_string a0_x a1_at a2_e a3_sign H K) : CallH P f_bound_isBehind_string [a0_x, a1_at, a2_e, a3_sign] H K :=
  call_of_bodyX Tryz.func66 ok_bound_isBehind_string ((e_bound_isBehind_string a0_x a1_at a2_e a3_sign H K).mpr h)

/-- palio/palioref07.Less -/
def c_palioref07_Less (a0_a : Value) (a1_b : Value) (H : Heap) (K : Value → Heap → Prop) : Prop :=
  JoinP (S := (Unit) × List Deferred) (G := Tup 28)
    (fun s_1 g_1 H1 =>
    LenStrP a0_a fun t_2 =>
    LenStrP a1_b fun t_3 =>
    BinP .lss t_2 t_3 fun t_4 =>
    RetP s_1.2 H1 fun H5 =>
    K t_4 H5)
    (fun J_1 =>
    LoopP (S := (Value) × List Deferred) (G := Tup 27)
      (fun s_6 g_6 self_6 H6 =>
      LenStrP a0_a fun t_7 =>
      BinP .lss s_6.1 t_7 fun t_8 =>
      SplitP t_8
        (LenStrP a1_b fun t_9 =>
        BinP .lss s_6.1 t_9 fun t_10 =>
        SplitP t_10
          (IndexStrP a0_a s_6.1 fun t_11 =>
          IndexStrP a1_b s_6.1 fun t_12 =>
          BinP .neq t_11 t_12 fun t_13 =>
          SplitP t_13
            (IndexStrP a0_a s_6.1 fun t_14 =>
            IndexStrP a1_b s_6.1 fun t_15 =>
            BinP .lss t_14 t_15 fun t_16 =>
            RetP s_6.2 H6 fun H17 =>
            K t_16 H17)
            (BinP .add s_6.1 (.int .i64 1) fun t_18 =>
            self_6 (t_18, s_6.2) H6))
          (J_1 ((), s_6.2) H6))
        (J_1 ((), s_6.2) H6))
      ((.int .i64 0), []) H)

def a_palioref07_Less : Ann := [(4, [5], [4, 6, 7, 8, 9, 10, 11, 12, 13, 14, 15, 16, 17, 18, 19, 20, 21, 22, 23, 24, 25, 26, 27, 28, 29, 30, 31]), (13, [], [4, 5, 6, 7, 8, 9, 10, 11, 12, 13, 14, 15, 16, 17, 18, 19, 20, 21, 22, 23, 24, 25, 26, 27, 28, 29, 30, 31])]

theorem e_palioref07_Less (a0_a : Value) (a1_b : Value) (H : Heap) (K : Value → Heap → Prop) : bodyX P a_palioref07_Less (bodyOf Tryz.f67) Tryz.f67.results.toList [a0_a, a1_b] H K = c_palioref07_Less a0_a a1_b H K := by kernel_rfl

theorem ok_palioref07_Less : okFn P a_palioref07_Less Tryz.f67 2 = true := by kernel_rfl
theorem k_palioref07_Less {a0_a a1_b : Value} {H : Heap} {K : Value → Heap → Prop} (h : c_palioref07_Less a0_a a1_b H K) : CallH P f_palioref07_Less [a0_a, a1_b] H K :=
  call_of_bodyX Tryz.func67 ok_palioref07_Less ((e_palioref07_Less a0_a a1_b H K).mpr h)

/-- (*palio/dict.Dict[int64]).Sizes -/
def c_dict_Dict_int64_Sizes (a0_d : Value) (H : Heap) (K : Value → Heap → Prop) : Prop :=
  EqP P T_p_dict_Dict_int64 true H a0_d (.pointer none) fun b_1 =>
  SplitP (.bool b_1)
    (K (.tuple #[(.int .i64 0), (.int .i64 0), (.int .i64 0)]) H)
    (NilP a0_d fun t_2 =>
    FieldAddrP 1 t_2 fun t_3 =>
    IdxArrP 2 1 t_3 (.int .i64 0) fun t_4 =>
    LoadP none H t_4 fun t_5 =>
    LenP t_5 fun t_6 =>
    NilP a0_d fun t_7 =>
    FieldAddrP 1 t_7 fun t_8 =>
    IdxArrP 2 1 t_8 (.int .i64 1) fun t_9 =>
    LoadP none H t_9 fun t_10 =>
    LenP t_10 fun t_11 =>
    NilP a0_d fun t_12 =>
    FieldAddrP 3 t_12 fun t_13 =>
    LoadP none H t_13 fun t_14 =>
    K (.tuple #[t_6, t_11, t_14]) H)

def a_dict_Dict_int64_Sizes : Ann := []

theorem e_dict_Dict_int64_Sizes (a0_d : Value) (H : Heap) (K : Value → Heap → Prop) : bodyX P a_dict_Dict_int64_Sizes (bodyOf Tryz.f68) Tryz.f68.results.toList [a0_d] H K = c_dict_Dict_int64_Sizes a0_d H K := by kernel_rfl

theorem ok_dict_Dict_int64_Sizes : okFn P a_dict_Dict_int64_Sizes Tryz.f68 1 = true := by kernel_rfl
theorem k_dict_Dict_int64_Sizes {a0_d : Value} {H : Heap} {K : Value → Heap → Prop} (h : c_dict_Dict_int64_Sizes a0_d H K) : CallH P f_dict_Dict_int64_Sizes [a0_d] H K :=
  call_of_bodyX Tryz.func68 ok_dict_Dict_int64_Sizes ((e_dict_Dict_int64_Sizes a0_d H K).mpr h)

/-- palio/scan.gathered[int64] -/
def c_scan_gathered_int64 (a0_d : Value) (a1_table : Value) (a2_l : Value) (H : Heap) (K : Value → Heap → Prop) : Prop :=
  LenP a2_l fun t_1 =>
  LoopP (S := (Value × Value) × List Deferred) (G := Tup 17)
    (fun s_2 g_2 self_2 H2 =>
    BinP .lss s_2.1.2 t_1 fun t_3 =>
    SplitP t_3
      (IdxSliceP 1 a2_l s_2.1.2 fun t_4 =>
      LoadP none H2 t_4 fun t_5 =>
      CallH P f_dict_Dict_int64_Bucket [a0_d, a1_table, t_5] H2 fun t_6 H7 =>
      ExtractP t_6 0 fun t_8 =>
      ExtractP t_6 1 fun t_9 =>
      AppendP P T_string s_2.1.1 t_8 H7 fun t_10 H11 =>
      BinP .add s_2.1.2 (.int .i64 1) fun t_12 =>
      self_2 ((t_10, t_12), s_2.2) H11)
      (RetP s_2.2 H2 fun H13 =>
      K s_2.1.1 H13))
    (((.slice none 0 0), (.int .i64 0)), []) H

def a_scan_gathered_int64 : Ann := [(6, [7, 14], [9, 10, 11, 15, 16, 17, 18, 19, 20, 21, 22, 23, 24, 25, 26, 27, 28])]

theorem e_scan_gathered_int64 (a0_d : Value) (a1_table : Value) (a2_l : Value) (H : Heap) (K : Value → Heap → Prop) : bodyX P a_scan_gathered_int64 (bodyOf Tryz.f69) Tryz.f69.results.toList [a0_d, a1_table, a2_l] H K = c_scan_gathered_int64 a0_d a1_table a2_l H K := by kernel_rfl

theorem ok_scan_gathered_int64 : okFn P a_scan_gathered_int64 Tryz.f69 3 = true := by kernel_rfl
theorem k_scan_gathered_int64 {a0_d a1_table a2_l : Value} {H : Heap} {K : Value → Heap → Prop} (h : c_scan_gathered_int64 a0_d a1_table a2_l H K) : CallH P f_scan_gathered_int64 [a0_d, a1_table, a2_l] H K :=
  call_of_bodyX Tryz.func69 ok_scan_gathered_int64 ((e_scan_gathered_int64 a0_d a1_table a2_l H K).mpr h)

/-- palio/scan.mask -/
def c_scan_mask (a0_size : Value) (H : Heap) (K : Value → Heap → Prop) : Prop :=
  BinP .sub a0_size (.int .i64 1) fun t_1 =>
  ConvIntP .u32 t_1 fun t_2 =>
  K t_2 H

def a_scan_mask : Ann := []

theorem e_scan_mask (a0_size : Value) (H : Heap) (K : Value → Heap → Prop) : bodyX P a_scan_mask (bodyOf Tryz.f70) Tryz.f70.results.toList [a0_size] H K = c_scan_mask a0_size H K := by kernel_rfl

theorem ok_scan_mask : okFn P a_scan_mask Tryz.f70 1 = true := by kernel_rfl
theorem k_scan_mask {a0_size : Value} {H : Heap} {K : Value → Heap → Prop} (h : c_scan_mask a0_size H K) : CallH P f_scan_mask [a0_size] H K :=
  call_of_bodyX Tryz.func70 ok_scan_mask ((e_scan_mask a0_size H K).mpr h)

/-- palio/scan.next -/
def c_scan_next (a0_c : Value) (a1_size : Value) (H : Heap) (K : Value → Heap → Prop) : Prop :=
  CallH P f_scan_mask [a1_size] H fun t_1 H2 =>
  UnP .xor t_1 fun t_3 =>
  BinP .or a0_c t_3 fun t_4 =>
  CallH P f_hash_Turn [t_4] H2 fun t_5 H6 =>
  BinP .add t_5 (.int .u32 1) fun t_7 =>
  CallH P f_hash_Turn [t_7] H6 fun t_8 H9 =>
  K t_8 H9

def a_scan_next : Ann := []

theorem e_scan_next (a0_c : Value) (a1_size : Value) (H : Heap) (K : Value → Heap → Prop) : bodyX P a_scan_next (bodyOf Tryz.f71) Tryz.f71.results.toList [a0_c, a1_size] H K = c_scan_next a0_c a1_size H K := by kernel_rfl

theorem ok_scan_next : okFn P a_scan_next Tryz.f71 2 = true := by kernel_rfl
theorem k_scan_next {a0_c a1_size : Value} {H : Heap} {K : Value → Heap → Prop} (h : c_scan_next a0_c a1_size H K) : CallH P f_scan_next [a0_c, a1_size] H K :=
  call_of_bodyX Tryz.func71 ok_scan_next ((e_scan_next a0_c a1_size H K).mpr h)

/-- palio/scan.slots -/
def c_scan_slots (a0_c : Value) (a1_small : Value) (a2_great : Value) (H : Heap) (K : Value → Heap → Prop) : Prop :=
  BoxP none T_uint32 a0_c H fun c_1 H2 =>
  BoxP none T_int a1_small H2 fun small_3 H4 =>
  BoxP none T_int a2_great H4 fun great_5 H6 =>
  K (.func (.func f_scan_slots_1) #[] #[c_1, great_5, small_3]) H6

def a_scan_slots : Ann := []

theorem e_scan_slots (a0_c : Value) (a1_small : Value) (a2_great : Value) (H : Heap) (K : Value → Heap → Prop) : bodyX P a_scan_slots (bodyOf Tryz.f72) Tryz.f72.results.toList [a0_c, a1_small, a2_great] H K = c_scan_slots a0_c a1_small a2_great H K := by kernel_rfl

theorem ok_scan_slots : okFn P a_scan_slots Tryz.f72 3 = true := by kernel_rfl
theorem k_scan_slots {a0_c a1_small a2_great : Value} {H : Heap} {K : Value → Heap → Prop} (h : c_scan_slots a0_c a1_small a2_great H K) : CallH P f_scan_slots [a0_c, a1_small, a2_great] H K :=
  call_of_bodyX Tryz.func72 ok_scan_slots ((e_scan_slots a0_c a1_small a2_great H K).mpr h)

/-- (*palio/dict.Dict[int64]).Get -/
def c_dict_Dict_int64_Get (a0_d : Value) (a1_key : Value) (H : Heap) (K : Value → Heap → Prop) : Prop :=
  AllocP #[(.int .i64 0)] T_int64 H fun out_1 H2 =>
  EqP P T_p_dict_Dict_int64 true H2 a0_d (.pointer none) fun b_3 =>
  SplitP (.bool b_3)
    (LoadP none H2 out_1 fun t_4 =>
    K (.tuple #[t_4, (.bool false)]) H2)
    (CallH P f_dict_Dict_int64_Step [a0_d, (.int .i64 1)] H2 fun t_5 H6 =>
    CallH P f_dict_Dict_int64_with [a0_d, a1_key, (.func (.func f_dict_Dict_int64_Get_1) #[] #[out_1])] H6 fun t_7 H8 =>
    LoadP none H8 out_1 fun t_9 =>
    K (.tuple #[t_9, t_7]) H8)

def a_dict_Dict_int64_Get : Ann := []

theorem e_dict_Dict_int64_Get (a0_d : Value) (a1_key : Value) (H : Heap) (K : Value → Heap → Prop) : bodyX P a_dict_Dict_int64_Get (bodyOf Tryz.f73) Tryz.f73.results.toList [a0_d, a1_key] H K = c_dict_Dict_int64_Get a0_d a1_key H K := by kernel_rfl

theorem ok_dict_Dict_int64_Get : okFn P a_dict_Dict_int64_Get Tryz.f73 2 = true := by kernel_rfl
theorem k_dict_Dict_int64_Get {a0_d a1_key : Value} {H : Heap} {K : Value → Heap → Prop} (h : c_dict_Dict_int64_Get a0_d a1_key H K) : CallH P f_dict_Dict_int64_Get [a0_d, a1_key] H K :=
  call_of_bodyX Tryz.func73 ok_dict_Dict_int64_Get ((e_dict_Dict_int64_Get a0_d a1_key H K).mpr h)

/-- palio/pack.bytes -/
def c_pack_bytes (a0_l : Value) (H : Heap) (K : Value → Heap → Prop) : Prop :=
  LenP a0_l fun t_1 =>
  LenP a0_l fun t_2 =>
  SliceSlP 1 a0_l none (some t_1) (some t_2) fun t_3 =>
  K t_3 H

def a_pack_bytes : Ann := []

theorem e_pack_bytes (a0_l : Value) (H : Heap) (K : Value → Heap → Prop) : bodyX P a_pack_bytes (bodyOf Tryz.f74) Tryz.f74.results.toList [a0_l] H K = c_pack_bytes a0_l H K := by kernel_rfl

theorem ok_pack_bytes : okFn P a_pack_bytes Tryz.f74 1 = true := by kernel_rfl
theorem k_pack_bytes {a0_l : Value} {H : Heap} {K : Value → Heap → Prop} (h : c_pack_bytes a0_l H K) : CallH P f_pack_bytes [a0_l] H K :=
  call_of_bodyX Tryz.func74 ok_pack_bytes ((e_pack_bytes a0_l H K).mpr h)

/-- (*palio/skip.List).Insert -/
def c_skip_List_Insert (a0_l : Value) (a1_e : Value) (a2_level : Value) (H : Heap) (K : Value → Heap → Prop) : Prop :=
  BoxP (some 2) T_api_Entry a1_e H fun e_1 H2 =>
  EqP P T_p_skip_List true H2 a0_l (.pointer none) fun b_3 =>
  SplitP (.bool b_3)
    (K (.int .i64 1) H2)
    (BinP .lss a2_level (.int .i64 1) fun t_4 =>
    SplitP t_4
      (K (.int .i64 2) H2)
      (BinP .gtr a2_level (.int .i64 32) fun t_5 =>
      SplitP t_5
        (K (.int .i64 2) H2)
        (LoadP (some 2) H2 e_1 fun t_6 =>
        CallH P f_skip_List_Seek [a0_l, t_6] H2 fun t_7 H8 =>
        ExtractP t_7 0 fun t_9 =>
        ExtractP t_7 1 fun t_10 =>
        SplitP t_10
          (K (.int .i64 90) H8)
          (LoadP (some 2) H8 e_1 fun t_11 =>
          CallH P f_skip_List_to [a0_l, t_11] H8 fun t_12 H13 =>
          ExtractP t_12 0 fun t_14 =>
          ExtractP t_12 1 fun t_15 =>
          AllocP (zeroT P T_a32_p_skip_node).cells T_a32_p_skip_node H13 fun nodes_16 H17 =>
          AllocP (zeroT P T_a32_int).cells T_a32_int H17 fun places_18 H19 =>
          StoreP (some 32) H19 nodes_16 t_14 fun H20 =>
          StoreP (some 32) H20 places_18 t_15 fun H21 =>
          NilP a0_l fun t_22 =>
          FieldAddrP 69 t_22 fun t_23 =>
          LoadP none H21 t_23 fun t_24 =>
          LoopP (S := (Value) × List Deferred) (G := Tup 23)
            (fun s_25 g_25 self_25 H25 =>
            BinP .lss s_25.1 a2_level fun t_26 =>
            SplitP t_26
              (NilP a0_l fun t_27 =>
              FieldAddrP 0 t_27 fun t_28 =>
              IdxArrP 32 1 nodes_16 s_25.1 fun t_29 =>
              StoreP none H25 t_29 t_28 fun H30 =>
              IdxArrP 32 1 places_18 s_25.1 fun t_31 =>
              StoreP none H30 t_31 (.int .i64 0) fun H32 =>
              NilP a0_l fun t_33 =>
              FieldAddrP 70 t_33 fun t_34 =>
              LoadP none H32 t_34 fun t_35 =>
              BuildP [(.pointer none), (.int .i64 0)] [(0, none, (.pointer none)), (1, none, t_35)] fun t_36 =>
              NilP a0_l fun t_37 =>
              FieldAddrP 0 t_37 fun t_38 =>
              FieldAddrP 2 t_38 fun t_39 =>
              IdxArrP 32 2 t_39 s_25.1 fun t_40 =>
              StoreP (some 2) H32 t_40 (.agg t_36.toArray) fun H41 =>
              BinP .add s_25.1 (.int .i64 1) fun t_42 =>
              self_25 (t_42, s_25.2) H41)
              (NilP a0_l fun t_43 =>
              FieldAddrP 69 t_43 fun t_44 =>
              LoadP none H25 t_44 fun t_45 =>
              BuildP (zerosN #[(.int .i64 0)] 2) [(0, none, t_45), (1, none, a2_level)] fun t_46 =>
              BuildSliceP T_int 2 t_46 H25 fun t_47 H48 =>
              CallH P f_skip_highest [t_47] H48 fun t_49 H50 =>
              NilP a0_l fun t_51 =>
              FieldAddrP 69 t_51 fun t_52 =>
              StoreP none H50 t_52 t_49 fun H53 =>
              LoadP (some 2) H53 e_1 fun t_54 =>
              BuildP (zeroT P T_skip_node).cells.toList [(0, (some 2), t_54), (66, none, a2_level)] fun t_55 =>
              BoxP (some 68) T_skip_node (.agg t_55.toArray) H53 fun t_56 H57 =>
              IdxArrP 32 1 places_18 (.int .i64 0) fun t_58 =>
              LoadP none H57 t_58 fun t_59 =>
              NilP a0_l fun t_60 =>
              FieldAddrP 69 t_60 fun t_61 =>
              LoadP none H57 t_61 fun t_62 =>
              LoopP (S := (Value) × List Deferred) (G := Tup 50)
                (fun s_63 g_63 self_63 H63 =>
                BinP .lss s_63.1 t_62 fun t_64 =>
                SplitP t_64
                  (IdxArrP 32 1 nodes_16 s_63.1 fun t_65 =>
                  LoadP none H63 t_65 fun t_66 =>
                  NilP t_66 fun t_67 =>
                  FieldAddrP 2 t_67 fun t_68 =>
                  IdxArrP 32 2 t_68 s_63.1 fun t_69 =>
                  BinP .geq s_63.1 a2_level fun t_70 =>
                  SplitP t_70
                    (NilP t_69 fun t_71 =>
                    FieldAddrP 1 t_71 fun t_72 =>
                    LoadP none H63 t_72 fun t_73 =>
                    BinP .add t_73 (.int .i64 1) fun t_74 =>
                    NilP t_69 fun t_75 =>
                    FieldAddrP 1 t_75 fun t_76 =>
                    StoreP none H63 t_76 t_74 fun H77 =>
                    BinP .add s_63.1 (.int .i64 1) fun t_78 =>
                    self_63 (t_78, s_63.2) H77)
                    (IdxArrP 32 1 places_18 s_63.1 fun t_79 =>
                    LoadP none H63 t_79 fun t_80 =>
                    BinP .sub t_59 t_80 fun t_81 =>
                    NilP t_69 fun t_82 =>
                    FieldAddrP 0 t_82 fun t_83 =>
                    LoadP none H63 t_83 fun t_84 =>
                    NilP t_69 fun t_85 =>
                    FieldAddrP 1 t_85 fun t_86 =>
                    LoadP none H63 t_86 fun t_87 =>
                    BinP .sub t_87 t_81 fun t_88 =>
                    BuildP [(.pointer none), (.int .i64 0)] [(0, none, t_84), (1, none, t_88)] fun t_89 =>
                    NilP t_56 fun t_90 =>
                    FieldAddrP 2 t_90 fun t_91 =>
                    IdxArrP 32 2 t_91 s_63.1 fun t_92 =>
                    StoreP (some 2) H63 t_92 (.agg t_89.toArray) fun H93 =>
                    BinP .add t_81 (.int .i64 1) fun t_94 =>
                    BuildP [(.pointer none), (.int .i64 0)] [(0, none, t_56), (1, none, t_94)] fun t_95 =>
                    NilP t_69 fun t_96 =>
                    StoreP (some 2) H93 t_96 (.agg t_95.toArray) fun H97 =>
                    BinP .add s_63.1 (.int .i64 1) fun t_98 =>
                    self_63 (t_98, s_63.2) H97))
                  (JoinP (S := (Unit) × List Deferred) (G := Tup 11)
                    (fun s_99 g_99 H99 =>
                    JoinP (S := (Unit) × List Deferred) (G := Tup 17)
                      (fun s_100 g_100 H100 =>
                      NilP a0_l fun t_101 =>
                      FieldAddrP 70 t_101 fun t_102 =>
                      LoadP none H100 t_102 fun t_103 =>
                      BinP .add t_103 (.int .i64 1) fun t_104 =>
                      NilP a0_l fun t_105 =>
                      FieldAddrP 70 t_105 fun t_106 =>
                      StoreP none H100 t_106 t_104 fun H107 =>
                      RetP s_100.2 H107 fun H108 =>
                      K (.int .i64 0) H108)
                      (fun J_100 =>
                      NilP t_56 fun t_109 =>
                      FieldAddrP 2 t_109 fun t_110 =>
                      IdxArrP 32 2 t_110 (.int .i64 0) fun t_111 =>
                      FieldAddrP 0 t_111 fun t_112 =>
                      LoadP none H99 t_112 fun t_113 =>
                      EqP P T_p_skip_node true H99 t_113 (.pointer none) fun b_114 =>
                      SplitP (.bool (!b_114))
                        (NilP t_113 fun t_115 =>
                        FieldAddrP 67 t_115 fun t_116 =>
                        StoreP none H99 t_116 t_56 fun H117 =>
                        J_100 ((), s_99.2) H117)
                        (NilP a0_l fun t_118 =>
                        FieldAddrP 68 t_118 fun t_119 =>
                        StoreP none H99 t_119 t_56 fun H120 =>
                        J_100 ((), s_99.2) H120)))
                    (fun J_99 =>
                    IdxArrP 32 1 nodes_16 (.int .i64 0) fun t_121 =>
                    LoadP none H63 t_121 fun t_122 =>
                    NilP a0_l fun t_123 =>
                    FieldAddrP 0 t_123 fun t_124 =>
                    EqP P T_p_skip_node false H63 t_122 t_124 fun b_125 =>
                    SplitP (.bool (!b_125))
                      (IdxArrP 32 1 nodes_16 (.int .i64 0) fun t_126 =>
                      LoadP none H63 t_126 fun t_127 =>
                      NilP t_56 fun t_128 =>
                      FieldAddrP 67 t_128 fun t_129 =>
                      StoreP none H63 t_129 t_127 fun H130 =>
                      J_99 ((), s_63.2) H130)
                      (J_99 ((), s_63.2) H63))))
                ((.int .i64 0), s_25.2) H57))
            (t_24, []) H21))))

def a_skip_List_Insert : Ann := [(20, [11], [45, 46, 47, 48, 49, 50, 51, 52, 53, 54, 55, 56, 57, 58, 59, 60, 61, 62, 63, 64, 65, 66, 67]), (36, [88], [14, 15, 16, 89, 90, 91, 92, 93, 94, 95, 96, 97, 98, 99, 100, 101, 102, 103, 104, 105, 106, 107, 108, 109, 110, 111, 112, 113, 114, 115, 116, 117, 118, 119, 120, 121, 122, 123, 124, 125, 126, 127, 128, 129, 130, 131, 132, 133, 134, 135]), (59, [], [136, 137, 138, 139, 140, 141, 142, 143, 144, 145, 146]), (67, [], [17, 147, 148, 149, 150, 151, 152, 153, 154, 155, 156, 157, 158, 159, 160, 161, 162])]

theorem e_skip_List_Insert (a0_l : Value) (a1_e : Value) (a2_level : Value) (H : Heap) (K : Value → Heap → Prop) : bodyX P a_skip_List_Insert (bodyOf Tryz.f75) Tryz.f75.results.toList [a0_l, a1_e, a2_level] H K = c_skip_List_Insert a0_l a1_e a2_level H K := by kernel_rfl

theorem ok_skip_List_Insert : okFn P a_skip_List_Insert Tryz.f75 3 = true := by kernel_rfl
theorem k_skip_List_Insert {a0_l a1_e a2_level : Value} {H : Heap} {K : Value → Heap → Prop} (h : c_skip_List_Insert a0_l a1_e a2_level H K) : CallH P f_skip_List_Insert [a0_l, a1_e, a2_level] H K :=
  call_of_bodyX Tryz.func75 ok_skip_List_Insert ((e_skip_List_Insert a0_l a1_e a2_level H K).mpr h)

/-- (*palio/dict.Dict[int64]).Set -/
def c_dict_Dict_int64_Set (a0_d : Value) (a1_key : Value) (a2_v : Value) (H : Heap) (K : Value → Heap → Prop) : Prop :=
  BoxP none T_int64 a2_v H fun v_1 H2 =>
  EqP P T_p_dict_Dict_int64 true H2 a0_d (.pointer none) fun b_3 =>
  SplitP (.bool b_3)
    (K (.bool false) H2)
    (CallH P f_dict_Dict_int64_Step [a0_d, (.int .i64 1)] H2 fun t_4 H5 =>
    CallH P f_dict_Dict_int64_with [a0_d, a1_key, (.func (.func f_dict_Dict_int64_Set_1) #[] #[v_1])] H5 fun t_6 H7 =>
    SplitP t_6
      (K (.bool false) H7)
      (NilP a0_d fun t_8 =>
      FieldAddrP 1 t_8 fun t_9 =>
      IdxArrP 2 1 t_9 (.int .i64 0) fun t_10 =>
      LoadP none H7 t_10 fun t_11 =>
      LenP t_11 fun t_12 =>
      JoinP (S := (Value) × List Deferred) (G := Tup 14)
        (fun s_13 g_13 H13 =>
        SplitP s_13.1
          (NilP a0_d fun t_14 =>
          FieldAddrP 4 t_14 fun t_15 =>
          LoadP none H13 t_15 fun t_16 =>
          BinP .mul (.int .i64 2) t_16 fun t_17 =>
          CallH P f_dict_Dict_int64_moves [a0_d, t_17] H13 fun t_18 H19 =>
          NilP a0_d fun t_20 =>
          FieldAddrP 1 t_20 fun t_21 =>
          IdxArrP 2 1 t_21 (.int .i64 0) fun t_22 =>
          LoadP none H19 t_22 fun t_23 =>
          JoinP (S := (Value) × List Deferred) (G := Tup 7)
            (fun s_24 g_24 H24 =>
            LoadP none H24 v_1 fun t_25 =>
            CallH P f_dict_Dict_int64_of [a0_d, a1_key] H24 fun t_26 H27 =>
            LoadIs none H27 v_1 t_25 ∧
            BuildP [(.int .u32 0), (.string ⟨#[]⟩), (.int .i64 0), (.pointer none)] [(0, (some 2), t_26), (2, none, t_25)] fun t_28 =>
            BoxP (some 4) T_dict_node_int64 (.agg t_28.toArray) H27 fun t_29 H30 =>
            BuildP (zerosN #[(.pointer none)] 1) [(0, none, t_29)] fun t_31 =>
            BuildSliceP T_p_dict_node_int64 1 t_31 H30 fun t_32 H33 =>
            CallH P f_dict_put_int64 [s_24.1, t_32] H33 fun t_34 H35 =>
            NilP a0_d fun t_36 =>
            FieldAddrP 4 t_36 fun t_37 =>
            LoadP none H35 t_37 fun t_38 =>
            BinP .add t_38 (.int .i64 1) fun t_39 =>
            NilP a0_d fun t_40 =>
            FieldAddrP 4 t_40 fun t_41 =>
            StoreP none H35 t_41 t_39 fun H42 =>
            RetP s_24.2 H42 fun H43 =>
            K (.bool true) H43)
            (fun J_24 =>
            CallH P f_dict_Dict_int64_isMoving [a0_d] H19 fun t_44 H45 =>
            SplitP t_44
              (NilP a0_d fun t_46 =>
              FieldAddrP 1 t_46 fun t_47 =>
              IdxArrP 2 1 t_47 (.int .i64 1) fun t_48 =>
              LoadP none H45 t_48 fun t_49 =>
              J_24 (t_49, s_13.2) H45)
              (J_24 (t_23, s_13.2) H45)))
          (NilP a0_d fun t_50 =>
          FieldAddrP 1 t_50 fun t_51 =>
          IdxArrP 2 1 t_51 (.int .i64 0) fun t_52 =>
          LoadP none H13 t_52 fun t_53 =>
          JoinP (S := (Value) × List Deferred) (G := Tup 7)
            (fun s_54 g_54 H54 =>
            LoadP none H54 v_1 fun t_55 =>
            CallH P f_dict_Dict_int64_of [a0_d, a1_key] H54 fun t_56 H57 =>
            LoadIs none H57 v_1 t_55 ∧
            BuildP [(.int .u32 0), (.string ⟨#[]⟩), (.int .i64 0), (.pointer none)] [(0, (some 2), t_56), (2, none, t_55)] fun t_58 =>
            BoxP (some 4) T_dict_node_int64 (.agg t_58.toArray) H57 fun t_59 H60 =>
            BuildP (zerosN #[(.pointer none)] 1) [(0, none, t_59)] fun t_61 =>
            BuildSliceP T_p_dict_node_int64 1 t_61 H60 fun t_62 H63 =>
            CallH P f_dict_put_int64 [s_54.1, t_62] H63 fun t_64 H65 =>
            NilP a0_d fun t_66 =>
            FieldAddrP 4 t_66 fun t_67 =>
            LoadP none H65 t_67 fun t_68 =>
            BinP .add t_68 (.int .i64 1) fun t_69 =>
            NilP a0_d fun t_70 =>
            FieldAddrP 4 t_70 fun t_71 =>
            StoreP none H65 t_71 t_69 fun H72 =>
            RetP s_54.2 H72 fun H73 =>
            K (.bool true) H73)
            (fun J_54 =>
            CallH P f_dict_Dict_int64_isMoving [a0_d] H13 fun t_74 H75 =>
            SplitP t_74
              (NilP a0_d fun t_76 =>
              FieldAddrP 1 t_76 fun t_77 =>
              IdxArrP 2 1 t_77 (.int .i64 1) fun t_78 =>
              LoadP none H75 t_78 fun t_79 =>
              J_54 (t_79, s_13.2) H75)
              (J_54 (t_53, s_13.2) H75))))
        (fun J_13 =>
        CallH P f_dict_Dict_int64_isMoving [a0_d] H7 fun t_80 H81 =>
        UnP .not t_80 fun t_82 =>
        SplitP t_82
          (NilP a0_d fun t_83 =>
          FieldAddrP 4 t_83 fun t_84 =>
          LoadP none H81 t_84 fun t_85 =>
          BinP .geq t_85 t_12 fun t_86 =>
          SplitP t_86
            (BinP .lss t_12 (.int .i64 65536) fun t_87 =>
            J_13 (t_87, []) H81)
            (J_13 ((.bool false), []) H81))
          (J_13 ((.bool false), []) H81))))

def a_dict_Dict_int64_Set : Ann := [(17, [37], [23, 24, 25, 26, 27, 28, 29, 30, 31, 32, 33, 34, 35, 36]), (25, [8], [50, 51, 52, 53, 54, 55, 56])]

theorem e_dict_Dict_int64_Set (a0_d : Value) (a1_key : Value) (a2_v : Value) (H : Heap) (K : Value → Heap → Prop) : bodyX P a_dict_Dict_int64_Set (bodyOf Tryz.f76) Tryz.f76.results.toList [a0_d, a1_key, a2_v] H K = c_dict_Dict_int64_Set a0_d a1_key a2_v H K := by kernel_rfl

theorem ok_dict_Dict_int64_Set : okFn P a_dict_Dict_int64_Set Tryz.f76 3 = true := by kernel_rfl
theorem k_dict_Dict_int64_Set {a0_d a1_key a2_v : Value} {H : Heap} {K : Value → Heap → Prop} (h : c_dict_Dict_int64_Set a0_d a1_key a2_v H K) : CallH P f_dict_Dict_int64_Set [a0_d, a1_key, a2_v] H K :=
  call_of_bodyX Tryz.func76 ok_dict_Dict_int64_Set ((e_dict_Dict_int64_Set a0_d a1_key a2_v H K).mpr h)

/-- palio/palioref09.Less -/
def c_palioref09_Less (a0_a : Value) (a1_b : Value) (H : Heap) (K : Value → Heap → Prop) : Prop :=
  BoxP (some 2) T_api_Entry a0_a H fun a_1 H2 =>
  BoxP (some 2) T_api_Entry a1_b H2 fun b_3 H4 =>
  FieldAddrP 1 a_1 fun t_5 =>
  LoadP none H4 t_5 fun t_6 =>
  FieldAddrP 1 b_3 fun t_7 =>
  LoadP none H4 t_7 fun t_8 =>
  BinP .lss t_6 t_8 fun t_9 =>
  SplitP t_9
    (K (.bool true) H4)
    (FieldAddrP 1 a_1 fun t_10 =>
    LoadP none H4 t_10 fun t_11 =>
    FieldAddrP 1 b_3 fun t_12 =>
    LoadP none H4 t_12 fun t_13 =>
    BinP .eql t_11 t_13 fun t_14 =>
    SplitP t_14
      (FieldAddrP 0 a_1 fun t_15 =>
      LoadP none H4 t_15 fun t_16 =>
      FieldAddrP 0 b_3 fun t_17 =>
      LoadP none H4 t_17 fun t_18 =>
      CallH P f_palioref07_Less [t_16, t_18] H4 fun t_19 H20 =>
      K t_19 H20)
      (K (.bool false) H4))

def a_palioref09_Less : Ann := []

theorem e_palioref09_Less (a0_a : Value) (a1_b : Value) (H : Heap) (K : Value → Heap → Prop) : bodyX P a_palioref09_Less (bodyOf Tryz.f77) Tryz.f77.results.toList [a0_a, a1_b] H K = c_palioref09_Less a0_a a1_b H K := by kernel_rfl

theorem ok_palioref09_Less : okFn P a_palioref09_Less Tryz.f77 2 = true := by kernel_rfl
theorem k_palioref09_Less {a0_a a1_b : Value} {H : Heap} {K : Value → Heap → Prop} (h : c_palioref09_Less a0_a a1_b H K) : CallH P f_palioref09_Less [a0_a, a1_b] H K :=
  call_of_bodyX Tryz.func77 ok_palioref09_Less ((e_palioref09_Less a0_a a1_b H K).mpr h)

/-- palio/palioref05.Insert -/
def c_palioref05_Insert (a0_l : Value) (a1_at : Value) (a2_e : Value) (H : Heap) (K : Value → Heap → Prop) : Prop :=
  BoxP (some 2) T_api_Entry a2_e H fun e_1 H2 =>
  JoinP (S := (Value) × List Deferred) (G := Tup 8)
    (fun s_3 g_3 H3 =>
    SliceSlP 2 a0_l (some a1_at) none none fun t_4 =>
    AppendP P T_api_Entry s_3.1 t_4 H3 fun t_5 H6 =>
    RetP s_3.2 H6 fun H7 =>
    K t_5 H7)
    (fun J_3 =>
    SliceSlP 2 a0_l none (some a1_at) none fun t_8 =>
    LoadP (some 2) H2 e_1 fun t_9 =>
    (AppendP P T_api_Entry (.slice none 0 0) t_8 H2 fun t_10 H11 =>
    LoadIs (some 2) H11 e_1 t_9 ∧
    BuildP (zerosN #[(.string ⟨#[]⟩), (.int .i64 0)] 1) [(0, (some 2), t_9)] fun t_12 =>
    BuildSliceP T_api_Entry 1 t_12 H11 fun t_13 H14 =>
    AppendP P T_api_Entry t_10 t_13 H14 fun t_15 H16 =>
    J_3 (t_15, []) H16) ∧
    (BuildP (zerosN #[(.string ⟨#[]⟩), (.int .i64 0)] 1) [(0, (some 2), t_9)] fun t_17 =>
    BuildSliceP T_api_Entry 1 t_17 H2 fun t_18 H19 =>
    AppendP P T_api_Entry (.slice none 0 0) t_8 H19 fun t_20 H21 =>
    AppendP P T_api_Entry t_20 t_18 H21 fun t_22 H23 =>
    J_3 (t_22, []) H23))

def a_palioref05_Insert : Ann := [(7, [7], [8, 9, 10, 11, 12, 13, 14, 15])]

theorem e_palioref05_Insert (a0_l : Value) (a1_at : Value) (a2_e : Value) (H : Heap) (K : Value → Heap → Prop) : bodyX P a_palioref05_Insert (bodyOf Tryz.f78) Tryz.f78.results.toList [a0_l, a1_at, a2_e] H K = c_palioref05_Insert a0_l a1_at a2_e H K := by kernel_rfl

theorem ok_palioref05_Insert : okFn P a_palioref05_Insert Tryz.f78 3 = true := by kernel_rfl
theorem k_palioref05_Insert {a0_l a1_at a2_e : Value} {H : Heap} {K : Value → Heap → Prop} (h : c_palioref05_Insert a0_l a1_at a2_e H K) : CallH P f_palioref05_Insert [a0_l, a1_at, a2_e] H K :=
  call_of_bodyX Tryz.func78 ok_palioref05_Insert ((e_palioref05_Insert a0_l a1_at a2_e H K).mpr h)

/-- cmp.isNaN[int64] -/
def c_cmp_isNaN_int64 (a0_x : Value) (H : Heap) (K : Value → Heap → Prop) : Prop :=
  BinP .neq a0_x a0_x fun t_1 =>
  K t_1 H

def a_cmp_isNaN_int64 : Ann := []

theorem e_cmp_isNaN_int64 (a0_x : Value) (H : Heap) (K : Value → Heap → Prop) : bodyX P a_cmp_isNaN_int64 (bodyOf Tryz.f79) Tryz.f79.results.toList [a0_x] H K = c_cmp_isNaN_int64 a0_x H K := by kernel_rfl

theorem ok_cmp_isNaN_int64 : okFn P a_cmp_isNaN_int64 Tryz.f79 1 = true := by kernel_rfl
theorem k_cmp_isNaN_int64 {a0_x : Value} {H : Heap} {K : Value → Heap → Prop} (h : c_cmp_isNaN_int64 a0_x H K) : CallH P f_cmp_isNaN_int64 [a0_x] H K :=
  call_of_bodyX Tryz.func79 ok_cmp_isNaN_int64 ((e_cmp_isNaN_int64 a0_x H K).mpr h)

/-- cmp.isNaN[string] -/
def c_cmp_isNaN_string (a0_x : Value) (H : Heap) (K : Value → Heap → Prop) : Prop :=
  BinP .neq a0_x a0_x fun t_1 =>
  K t_1 H

def a_cmp_isNaN_string : Ann := []

theorem e_cmp_isNaN_string (a0_x : Value) (H : Heap) (K : Value → Heap → Prop) : bodyX P a_cmp_isNaN_string (bodyOf Tryz.f80) Tryz.f80.results.toList [a0_x] H K = c_cmp_isNaN_string a0_x H K := by kernel_rfl

theorem ok_cmp_isNaN_string : okFn P a_cmp_isNaN_string Tryz.f80 1 = true := by kernel_rfl
theorem k_cmp_isNaN_string {a0_x : Value} {H : Heap} {K : Value → Heap → Prop} (h : c_cmp_isNaN_string a0_x H K) : CallH P f_cmp_isNaN_string [a0_x] H K :=
  call_of_bodyX Tryz.func80 ok_cmp_isNaN_string ((e_cmp_isNaN_string a0_x H K).mpr h)

/-- slices.Values[[]palio/api.Entry,palio/api.Entry]$1 -/
def c_slices_Values_s_api_Entry_api_Entry_1 (a0_yield : Value) (a1_x : Value) (H : Heap) (K : Value → Heap → Prop) : Prop :=
  LoadP none H a1_x fun t_1 =>
  LenP t_1 fun t_2 =>
  LoopP (S := (Value) × List Deferred) (G := Tup 9)
    (fun s_3 g_3 self_3 H3 =>
    BinP .lss s_3.1 t_2 fun t_4 =>
    SplitP t_4
      (IdxSliceP 2 t_1 s_3.1 fun t_5 =>
      LoadP (some 2) H3 t_5 fun t_6 =>
      AllocP #[(.string ⟨#[]⟩), (.int .i64 0)] T_api_Entry H3 fun v_7 H8 =>
      StoreP (some 2) H8 v_7 t_6 fun H9 =>
      LoadP (some 2) H9 v_7 fun t_10 =>
      CallV P a0_yield [t_10] H9 fun t_11 H12 =>
      UnP .not t_11 fun t_13 =>
      SplitP t_13
        (RetP s_3.2 H12 fun H14 =>
        K (.tuple #[]) H14)
        (BinP .add s_3.1 (.int .i64 1) fun t_15 =>
        self_3 (t_15, s_3.2) H12))
      (RetP s_3.2 H3 fun H16 =>
      K (.tuple #[]) H16))
    ((.int .i64 0), []) H

def a_slices_Values_s_api_Entry_api_Entry_1 : Ann := [(2, [7], [4, 8, 9, 10, 11, 12, 13, 14, 15])]

theorem e_slices_Values_s_api_Entry_api_Entry_1 (a0_yield : Value) (a1_x : Value) (H : Heap) (K : Value → Heap → Prop) : bodyX P a_slices_Values_s_api_Entry_api_Entry_1 (bodyOf Tryz.f81) Tryz.f81.results.toList [a0_yield, a1_x] H K = c_slices_Values_s_api_Entry_api_Entry_1 a0_yield a1_x H K := by kernel_rfl

theorem ok_slices_Values_s_api_Entry_api_Entry_1 : okFn P a_slices_Values_s_api_Entry_api_Entry_1 Tryz.f81 2 = true := by kernel_rfl
theorem k_slices_Values_s_api_Entry_api_Entry_1 {a0_yield a1_x : Value} {H : Heap} {K : Value → Heap → Prop} (h : c_slices_Values_s_api_Entry_api_Entry_1 a0_yield a1_x H K) : CallH P f_slices_Values_s_api_Entry_api_Entry_1 [a0_yield, a1_x] H K :=
  call_of_bodyX Tryz.func81 ok_slices_Values_s_api_Entry_api_Entry_1 ((e_slices_Values_s_api_Entry_api_Entry_1 a0_yield a1_x H K).mpr h)

/-- (*palio/dict.Dict[int64]).Bucket -/
def c_dict_Dict_int64_Bucket (a0_d : Value) (a1_table : Value) (a2_slot : Value) (H : Heap) (K : Value → Heap → Prop) : Prop :=
  EqP P T_p_dict_Dict_int64 true H a0_d (.pointer none) fun b_1 =>
  SplitP (.bool b_1)
    (K (.tuple #[(.slice none 0 0), (.int .i64 2)]) H)
    (BinP .lss a1_table (.int .i64 0) fun t_2 =>
    SplitP t_2
      (K (.tuple #[(.slice none 0 0), (.int .i64 2)]) H)
      (BinP .geq a1_table (.int .i64 2) fun t_3 =>
      SplitP t_3
        (K (.tuple #[(.slice none 0 0), (.int .i64 2)]) H)
        (BinP .lss a2_slot (.int .i64 0) fun t_4 =>
        SplitP t_4
          (K (.tuple #[(.slice none 0 0), (.int .i64 2)]) H)
          (NilP a0_d fun t_5 =>
          FieldAddrP 1 t_5 fun t_6 =>
          IdxArrP 2 1 t_6 a1_table fun t_7 =>
          LoadP none H t_7 fun t_8 =>
          LenP t_8 fun t_9 =>
          BinP .geq a2_slot t_9 fun t_10 =>
          SplitP t_10
            (K (.tuple #[(.slice none 0 0), (.int .i64 2)]) H)
            (AllocP #[(.slice none 0 0)] T_s_string H fun out_11 H12 =>
            NilP a0_d fun t_13 =>
            FieldAddrP 1 t_13 fun t_14 =>
            IdxArrP 2 1 t_14 a1_table fun t_15 =>
            LoadP none H12 t_15 fun t_16 =>
            IdxSliceP 1 t_16 a2_slot fun t_17 =>
            LoadP none H12 t_17 fun t_18 =>
            CallH P f_dict_chain_int64 [t_18] H12 fun t_19 H20 =>
            RangeP P none t_19 1
              (fun l_21 vs_21 H21 K_21 =>
              BeginP l_21 H21 fun H22 =>
              LoadP none H22 out_11 fun t_23 =>
              NilP vs_21 fun t_24 =>
              FieldAddrP 0 t_24 fun t_25 =>
              FieldAddrP 1 t_25 fun t_26 =>
              LoadP none H22 t_26 fun t_27 =>
              BuildP (zerosN #[(.string ⟨#[]⟩)] 1) [(0, none, t_27)] fun t_28 =>
              BuildSliceP T_string 1 t_28 H22 fun t_29 H30 =>
              LoadIs none H30 out_11 t_23 ∧
              AppendP P T_string t_23 t_29 H30 fun t_31 H32 =>
              StoreP none H32 out_11 t_31 fun H33 =>
              EndP l_21 .normal H33 K_21)
              (fun p_21 ds_21 Ha21 => AltP p_21 [
              (.normal, LoadP none Ha21 out_11 fun t_34 =>
              CallH P f_slices_Sort_s_string_string [t_34] Ha21 fun t_35 H36 =>
              LoadP none H36 out_11 fun t_37 =>
              RetP (ds_21 ++ []) H36 fun H38 =>
              K (.tuple #[t_37, (.int .i64 0)]) H38)]) H20)))))

def a_dict_Dict_int64_Bucket : Ann := []

theorem e_dict_Dict_int64_Bucket (a0_d : Value) (a1_table : Value) (a2_slot : Value) (H : Heap) (K : Value → Heap → Prop) : bodyX P a_dict_Dict_int64_Bucket (bodyOf Tryz.f82) Tryz.f82.results.toList [a0_d, a1_table, a2_slot] H K = c_dict_Dict_int64_Bucket a0_d a1_table a2_slot H K := by kernel_rfl

theorem ok_dict_Dict_int64_Bucket : okFn P a_dict_Dict_int64_Bucket Tryz.f82 3 = true := by kernel_rfl
theorem k_dict_Dict_int64_Bucket {a0_d a1_table a2_slot : Value} {H : Heap} {K : Value → Heap → Prop} (h : c_dict_Dict_int64_Bucket a0_d a1_table a2_slot H K) : CallH P f_dict_Dict_int64_Bucket [a0_d, a1_table, a2_slot] H K :=
  call_of_bodyX Tryz.func82 ok_dict_Dict_int64_Bucket ((e_dict_Dict_int64_Bucket a0_d a1_table a2_slot H K).mpr h)

/-- palio/hash.Turn -/
def c_hash_Turn (a0_n : Value) (H : Heap) (K : Value → Heap → Prop) : Prop :=
  LoopP (S := (Value × Value × Value) × List Deferred) (G := Tup 9)
    (fun s_1 g_1 self_1 H1 =>
    BinP .lss s_1.1.2.2 (.int .i64 32) fun t_2 =>
    SplitP t_2
      (BinP .shl s_1.1.2.1 (.int .u64 1) fun t_3 =>
      BinP .and s_1.1.1 (.int .u32 1) fun t_4 =>
      BinP .or t_3 t_4 fun t_5 =>
      BinP .shr s_1.1.1 (.int .u64 1) fun t_6 =>
      BinP .add s_1.1.2.2 (.int .i64 1) fun t_7 =>
      self_1 ((t_6, t_5, t_7), s_1.2) H1)
      (RetP s_1.2 H1 fun H8 =>
      K s_1.1.2.1 H8))
    ((a0_n, (.int .u32 0), (.int .i64 0)), []) H

def a_hash_Turn : Ann := [(6, [0, 3, 4], [5, 6, 7, 8, 9, 10, 11, 12, 13])]

theorem e_hash_Turn (a0_n : Value) (H : Heap) (K : Value → Heap → Prop) : bodyX P a_hash_Turn (bodyOf Tryz.f83) Tryz.f83.results.toList [a0_n] H K = c_hash_Turn a0_n H K := by kernel_rfl

theorem ok_hash_Turn : okFn P a_hash_Turn Tryz.f83 1 = true := by kernel_rfl
theorem k_hash_Turn {a0_n : Value} {H : Heap} {K : Value → Heap → Prop} (h : c_hash_Turn a0_n H K) : CallH P f_hash_Turn [a0_n] H K :=
  call_of_bodyX Tryz.func83 ok_hash_Turn ((e_hash_Turn a0_n H K).mpr h)

/-- palio/scan.slots$1 -/
def c_scan_slots_1 (a0_yield : Value) (a1_x : Value) (a2_x : Value) (a3_x : Value) (H : Heap) (K : Value → Heap → Prop) : Prop :=
  LoopP (S := (Unit) × List Deferred) (G := Tup 22)
    (fun s_1 g_1 self_1 H1 =>
    LoadP none H1 a1_x fun t_2 =>
    LoadP none H1 a2_x fun t_3 =>
    CallH P f_scan_mask [t_3] H1 fun t_4 H5 =>
    LoadIs none H5 a1_x t_2 ∧
    BinP .and t_2 t_4 fun t_6 =>
    ConvIntP .i64 t_6 fun t_7 =>
    LoadP none H5 a1_x fun t_8 =>
    LoadP none H5 a2_x fun t_9 =>
    CallH P f_scan_next [t_8, t_9] H5 fun t_10 H11 =>
    StoreP none H11 a1_x t_10 fun H12 =>
    LoadP none H12 a1_x fun t_13 =>
    CallV P a0_yield [t_7, t_13] H12 fun t_14 H15 =>
    UnP .not t_14 fun t_16 =>
    SplitP t_16
      (RetP s_1.2 H15 fun H17 =>
      K (.tuple #[]) H17)
      (LoadP none H15 a1_x fun t_18 =>
      LoadP none H15 a3_x fun t_19 =>
      LoadP none H15 a2_x fun t_20 =>
      CallH P f_scan_within [t_19, t_20] H15 fun t_21 H22 =>
      LoadIs none H22 a1_x t_18 ∧
      BinP .and t_18 t_21 fun t_23 =>
      BinP .eql t_23 (.int .u32 0) fun t_24 =>
      SplitP t_24
        (RetP s_1.2 H22 fun H25 =>
        K (.tuple #[]) H25)
        (self_1 ((), s_1.2) H22)))
    ((), []) H

def a_scan_slots_1 : Ann := [(0, [], [5, 6, 7, 8, 9, 10, 11, 12, 13, 14, 15, 16, 17, 18, 19, 20, 21, 22, 23, 24, 25, 26])]

theorem e_scan_slots_1 (a0_yield : Value) (a1_x : Value) (a2_x : Value) (a3_x : Value) (H : Heap) (K : Value → Heap → Prop) : bodyX P a_scan_slots_1 (bodyOf Tryz.f84) Tryz.f84.results.toList [a0_yield, a1_x, a2_x, a3_x] H K = c_scan_slots_1 a0_yield a1_x a2_x a3_x H K := by kernel_rfl

theorem ok_scan_slots_1 : okFn P a_scan_slots_1 Tryz.f84 4 = true := by kernel_rfl
theorem k_scan_slots_1 {a0_yield a1_x a2_x a3_x : Value} {H : Heap} {K : Value → Heap → Prop} (h : c_scan_slots_1 a0_yield a1_x a2_x a3_x H K) : CallH P f_scan_slots_1 [a0_yield, a1_x, a2_x, a3_x] H K :=
  call_of_bodyX Tryz.func84 ok_scan_slots_1 ((e_scan_slots_1 a0_yield a1_x a2_x a3_x H K).mpr h)

/-- palio/scan.within -/
def c_scan_within (a0_small : Value) (a1_great : Value) (H : Heap) (K : Value → Heap → Prop) : Prop :=
  CallH P f_scan_mask [a1_great] H fun t_1 H2 =>
  CallH P f_scan_mask [a0_small] H2 fun t_3 H4 =>
  BinP .andNot t_1 t_3 fun t_5 =>
  K t_5 H4

def a_scan_within : Ann := []

theorem e_scan_within (a0_small : Value) (a1_great : Value) (H : Heap) (K : Value → Heap → Prop) : bodyX P a_scan_within (bodyOf Tryz.f85) Tryz.f85.results.toList [a0_small, a1_great] H K = c_scan_within a0_small a1_great H K := by kernel_rfl

theorem ok_scan_within : okFn P a_scan_within Tryz.f85 2 = true := by kernel_rfl
theorem k_scan_within {a0_small a1_great : Value} {H : Heap} {K : Value → Heap → Prop} (h : c_scan_within a0_small a1_great H K) : CallH P f_scan_within [a0_small, a1_great] H K :=
  call_of_bodyX Tryz.func85 ok_scan_within ((e_scan_within a0_small a1_great H K).mpr h)

/-- (*palio/dict.Dict[int64]).Step -/
def c_dict_Dict_int64_Step (a0_d : Value) (a1_n : Value) (H : Heap) (K : Value → Heap → Prop) : Prop :=
  BoxP none T_p_dict_Dict_int64 a0_d H fun d_1 H2 =>
  LoadP none H2 d_1 fun t_3 =>
  EqP P T_p_dict_Dict_int64 true H2 t_3 (.pointer none) fun b_4 =>
  SplitP (.bool b_4)
    (K (.int .i64 0) H2)
    (LoopP (S := (Value) × List Deferred) (G := Tup 61)
      (fun s_5 g_5 self_5 H5 =>
      BinP .lss s_5.1 a1_n fun t_6 =>
      SplitP t_6
        (LoadP none H5 d_1 fun t_7 =>
        CallH P f_dict_Dict_int64_isMoving [t_7] H5 fun t_8 H9 =>
        SplitP t_8
          (LoadP none H9 d_1 fun t_10 =>
          NilP t_10 fun t_11 =>
          FieldAddrP 1 t_11 fun t_12 =>
          IdxArrP 2 1 t_12 (.int .i64 0) fun t_13 =>
          LoadP none H9 t_13 fun t_14 =>
          LoadP none H9 d_1 fun t_15 =>
          NilP t_15 fun t_16 =>
          FieldAddrP 3 t_16 fun t_17 =>
          LoadP none H9 t_17 fun t_18 =>
          IdxSliceP 1 t_14 t_18 fun t_19 =>
          LoadP none H9 t_19 fun t_20 =>
          CallH P f_dict_chain_int64 [t_20] H9 fun t_21 H22 =>
          RangeP P none t_21 1
            (fun l_23 vs_23 H23 K_23 =>
            BeginP l_23 H23 fun H24 =>
            LoadP none H24 d_1 fun t_25 =>
            NilP t_25 fun t_26 =>
            FieldAddrP 1 t_26 fun t_27 =>
            IdxArrP 2 1 t_27 (.int .i64 1) fun t_28 =>
            LoadP none H24 t_28 fun t_29 =>
            BuildP (zerosN #[(.pointer none)] 1) [(0, none, vs_23)] fun t_30 =>
            BuildSliceP T_p_dict_node_int64 1 t_30 H24 fun t_31 H32 =>
            CallH P f_dict_put_int64 [t_29, t_31] H32 fun t_33 H34 =>
            EndP l_23 .normal H34 K_23)
            (fun p_23 ds_23 Ha23 => AltP p_23 [
            (.normal, LoadP none Ha23 d_1 fun t_35 =>
            NilP t_35 fun t_36 =>
            FieldAddrP 1 t_36 fun t_37 =>
            IdxArrP 2 1 t_37 (.int .i64 0) fun t_38 =>
            LoadP none Ha23 t_38 fun t_39 =>
            LoadP none Ha23 d_1 fun t_40 =>
            NilP t_40 fun t_41 =>
            FieldAddrP 3 t_41 fun t_42 =>
            LoadP none Ha23 t_42 fun t_43 =>
            IdxSliceP 1 t_39 t_43 fun t_44 =>
            StoreP none Ha23 t_44 (.pointer none) fun H45 =>
            LoadP none H45 d_1 fun t_46 =>
            NilP t_46 fun t_47 =>
            FieldAddrP 3 t_47 fun t_48 =>
            LoadP none H45 t_48 fun t_49 =>
            BinP .add t_49 (.int .i64 1) fun t_50 =>
            NilP t_46 fun t_51 =>
            FieldAddrP 3 t_51 fun t_52 =>
            StoreP none H45 t_52 t_50 fun H53 =>
            BinP .add s_5.1 (.int .i64 1) fun t_54 =>
            LoadP none H53 d_1 fun t_55 =>
            NilP t_55 fun t_56 =>
            FieldAddrP 3 t_56 fun t_57 =>
            LoadP none H53 t_57 fun t_58 =>
            LoadP none H53 d_1 fun t_59 =>
            NilP t_59 fun t_60 =>
            FieldAddrP 1 t_60 fun t_61 =>
            IdxArrP 2 1 t_61 (.int .i64 0) fun t_62 =>
            LoadP none H53 t_62 fun t_63 =>
            LenP t_63 fun t_64 =>
            BinP .eql t_58 t_64 fun t_65 =>
            SplitP t_65
              (LoadP none H53 d_1 fun t_66 =>
              LoadP none H53 d_1 fun t_67 =>
              LoadP none H53 d_1 fun t_68 =>
              NilP t_68 fun t_69 =>
              FieldAddrP 1 t_69 fun t_70 =>
              IdxArrP 2 1 t_70 (.int .i64 1) fun t_71 =>
              LoadP none H53 t_71 fun t_72 =>
              BuildP [(.slice none 0 0), (.slice none 0 0)] [(0, none, t_72)] fun t_73 =>
              NilP t_66 fun t_74 =>
              FieldAddrP 1 t_74 fun t_75 =>
              StoreP (some 2) H53 t_75 (.agg t_73.toArray) fun H76 =>
              LoadIs none H76 d_1 t_67 ∧
              NilP t_67 fun t_77 =>
              FieldAddrP 3 t_77 fun t_78 =>
              StoreP none H76 t_78 (.int .i64 0) fun H79 =>
              self_5 (t_54, (ds_23 ++ s_5.2)) H79)
              (self_5 (t_54, (ds_23 ++ s_5.2)) H53))]) H22)
          (RetP s_5.2 H9 fun H80 =>
          K s_5.1 H80))
        (RetP s_5.2 H5 fun H81 =>
        K s_5.1 H81))
      ((.int .i64 0), []) H2)

def a_dict_Dict_int64_Step : Ann := [(8, [5], [9, 10, 11, 12, 13, 14, 15, 16, 17, 18, 19, 20, 21, 22, 23, 24, 25, 26, 27, 37, 38, 39, 40, 41, 42, 43, 44, 45, 46, 47, 48, 49, 50, 51, 52, 53, 54, 55, 56, 57, 58, 59, 60, 61, 62, 63, 64, 65, 66, 67, 68, 69, 70, 71, 72, 73, 74, 75, 76, 77, 78])]

theorem e_dict_Dict_int64_Step (a0_d : Value) (a1_n : Value) (H : Heap) (K : Value → Heap → Prop) : bodyX P a_dict_Dict_int64_Step (bodyOf Tryz.f86) Tryz.f86.results.toList [a0_d, a1_n] H K = c_dict_Dict_int64_Step a0_d a1_n H K := by kernel_rfl

theorem ok_dict_Dict_int64_Step : okFn P a_dict_Dict_int64_Step Tryz.f86 2 = true := by kernel_rfl
theorem k_dict_Dict_int64_Step {a0_d a1_n : Value} {H : Heap} {K : Value → Heap → Prop} (h : c_dict_Dict_int64_Step a0_d a1_n H K) : CallH P f_dict_Dict_int64_Step [a0_d, a1_n] H K :=
  call_of_bodyX Tryz.func86 ok_dict_Dict_int64_Step ((e_dict_Dict_int64_Step a0_d a1_n H K).mpr h)

/-- (*palio/dict.Dict[int64]).with -/
def c_dict_Dict_int64_with (a0_d : Value) (a1_key : Value) (a2_do : Value) (H : Heap) (K : Value → Heap → Prop) : Prop :=
  CallH P f_dict_Dict_int64_of [a0_d, a1_key] H fun t_1 H2 =>
  AllocP #[(.int .u32 0), (.string ⟨#[]⟩)] T_dict_id H2 fun want_3 H4 =>
  StoreP (some 2) H4 want_3 t_1 fun H5 =>
  NilP a0_d fun t_6 =>
  FieldAddrP 1 t_6 fun t_7 =>
  LoadP (some 2) H5 t_7 fun t_8 =>
  LoopP (S := (Value × Value) × List Deferred) (G := Tup 33)
    (fun s_9 g_9 self_9 H9 =>
    BinP .lss s_9.1.2 (.int .i64 2) fun t_10 =>
    SplitP t_10
      (IndexArrP 2 1 none t_8 s_9.1.2 fun t_11 =>
      EqP P T_s_p_dict_node_int64 true H9 t_11 (.slice none 0 0) fun b_12 =>
      SplitP (.bool b_12)
        (RetP s_9.2 H9 fun H13 =>
        K s_9.1.1 H13)
        (FieldAddrP 0 want_3 fun t_14 =>
        LoadP none H9 t_14 fun t_15 =>
        CallH P f_dict_slot_int64 [t_11, t_15] H9 fun t_16 H17 =>
        IdxSliceP 1 t_11 t_16 fun t_18 =>
        LoopP (S := (Value × Value) × List Deferred) (G := Tup 20)
          (fun s_19 g_19 self_19 H19 =>
          NilP s_19.1.2 fun t_20 =>
          LoadP none H19 t_20 fun t_21 =>
          EqP P T_p_dict_node_int64 true H19 t_21 (.pointer none) fun b_22 =>
          SplitP (.bool (!b_22))
            (NilP s_19.1.2 fun t_23 =>
            LoadP none H19 t_23 fun t_24 =>
            NilP t_24 fun t_25 =>
            FieldAddrP 0 t_25 fun t_26 =>
            LoadP (some 2) H19 t_26 fun t_27 =>
            LoadP (some 2) H19 want_3 fun t_28 =>
            EqP P T_dict_id false H19 t_27 t_28 fun b_29 =>
            SplitP (.bool b_29)
              (CallV P a2_do [s_19.1.2] H19 fun t_30 H31 =>
              RetP s_19.2 H31 fun H32 =>
              K (.bool true) H32)
              (NilP s_19.1.2 fun t_33 =>
              LoadP none H19 t_33 fun t_34 =>
              NilP t_34 fun t_35 =>
              FieldAddrP 3 t_35 fun t_36 =>
              self_19 ((s_19.1.1, t_36), s_19.2) H19))
            (BinP .add s_9.1.2 (.int .i64 1) fun t_37 =>
            self_9 ((s_19.1.1, t_37), s_19.2) H19))
          ((s_9.1.1, t_18), s_9.2) H17))
      (RetP s_9.2 H9 fun H38 =>
      K s_9.1.1 H38))
    (((.bool false), (.int .i64 0)), []) H5

def a_dict_Dict_int64_with : Ann := [(8, [8, 19], [10, 11, 20, 21, 22, 23, 24, 25, 26, 27, 28, 29, 30, 31, 32, 33, 34, 35, 36, 37, 38, 39, 40, 41, 42, 43, 44, 45, 46, 47, 48, 49, 50]), (16, [8, 11], [30, 31, 32, 33, 34, 35, 36, 37, 38, 39, 40, 41, 42, 43, 44, 45, 46, 47, 48, 49])]

theorem e_dict_Dict_int64_with (a0_d : Value) (a1_key : Value) (a2_do : Value) (H : Heap) (K : Value → Heap → Prop) : bodyX P a_dict_Dict_int64_with (bodyOf Tryz.f87) Tryz.f87.results.toList [a0_d, a1_key, a2_do] H K = c_dict_Dict_int64_with a0_d a1_key a2_do H K := by kernel_rfl

theorem ok_dict_Dict_int64_with : okFn P a_dict_Dict_int64_with Tryz.f87 3 = true := by kernel_rfl
theorem k_dict_Dict_int64_with {a0_d a1_key a2_do : Value} {H : Heap} {K : Value → Heap → Prop} (h : c_dict_Dict_int64_with a0_d a1_key a2_do H K) : CallH P f_dict_Dict_int64_with [a0_d, a1_key, a2_do] H K :=
  call_of_bodyX Tryz.func87 ok_dict_Dict_int64_with ((e_dict_Dict_int64_with a0_d a1_key a2_do H K).mpr h)

/-- (*palio/dict.Dict[int64]).Get$1 -/
def c_dict_Dict_int64_Get_1 (a0_at : Value) (a1_x : Value) (H : Heap) (K : Value → Heap → Prop) : Prop :=
  NilP a0_at fun t_1 =>
  LoadP none H t_1 fun t_2 =>
  NilP t_2 fun t_3 =>
  FieldAddrP 2 t_3 fun t_4 =>
  LoadP none H t_4 fun t_5 =>
  StoreP none H a1_x t_5 fun H6 =>
  K (.tuple #[]) H6

def a_dict_Dict_int64_Get_1 : Ann := []

theorem e_dict_Dict_int64_Get_1 (a0_at : Value) (a1_x : Value) (H : Heap) (K : Value → Heap → Prop) : bodyX P a_dict_Dict_int64_Get_1 (bodyOf Tryz.f88) Tryz.f88.results.toList [a0_at, a1_x] H K = c_dict_Dict_int64_Get_1 a0_at a1_x H K := by kernel_rfl

theorem ok_dict_Dict_int64_Get_1 : okFn P a_dict_Dict_int64_Get_1 Tryz.f88 2 = true := by kernel_rfl
theorem k_dict_Dict_int64_Get_1 {a0_at a1_x : Value} {H : Heap} {K : Value → Heap → Prop} (h : c_dict_Dict_int64_Get_1 a0_at a1_x H K) : CallH P f_dict_Dict_int64_Get_1 [a0_at, a1_x] H K :=
  call_of_bodyX Tryz.func88 ok_dict_Dict_int64_Get_1 ((e_dict_Dict_int64_Get_1 a0_at a1_x H K).mpr h)

/-- (*palio/skip.List).Seek -/
def c_skip_List_Seek (a0_l : Value) (a1_e : Value) (H : Heap) (K : Value → Heap → Prop) : Prop :=
  BoxP (some 2) T_api_Entry a1_e H fun e_1 H2 =>
  EqP P T_p_skip_List true H2 a0_l (.pointer none) fun b_3 =>
  SplitP (.bool b_3)
    (K (.tuple #[(.int .i64 0), (.bool false)]) H2)
    (NilP a0_l fun t_4 =>
    FieldAddrP 69 t_4 fun t_5 =>
    LoadP none H2 t_5 fun t_6 =>
    BinP .eql t_6 (.int .i64 0) fun t_7 =>
    SplitP t_7
      (K (.tuple #[(.int .i64 0), (.bool false)]) H2)
      (LoadP (some 2) H2 e_1 fun t_8 =>
      CallH P f_skip_List_to [a0_l, t_8] H2 fun t_9 H10 =>
      ExtractP t_9 0 fun t_11 =>
      ExtractP t_9 1 fun t_12 =>
      AllocP (zeroT P T_a32_p_skip_node).cells T_a32_p_skip_node H10 fun nodes_13 H14 =>
      AllocP (zeroT P T_a32_int).cells T_a32_int H14 fun places_15 H16 =>
      StoreP (some 32) H16 nodes_13 t_11 fun H17 =>
      StoreP (some 32) H17 places_15 t_12 fun H18 =>
      IdxArrP 32 1 nodes_13 (.int .i64 0) fun t_19 =>
      LoadP none H18 t_19 fun t_20 =>
      NilP t_20 fun t_21 =>
      FieldAddrP 2 t_21 fun t_22 =>
      IdxArrP 32 2 t_22 (.int .i64 0) fun t_23 =>
      FieldAddrP 0 t_23 fun t_24 =>
      LoadP none H18 t_24 fun t_25 =>
      IdxArrP 32 1 places_15 (.int .i64 0) fun t_26 =>
      LoadP none H18 t_26 fun t_27 =>
      EqP P T_p_skip_node true H18 t_25 (.pointer none) fun b_28 =>
      SplitP (.bool (!b_28))
        (NilP t_25 fun t_29 =>
        FieldAddrP 0 t_29 fun t_30 =>
        LoadP (some 2) H18 t_30 fun t_31 =>
        LoadP (some 2) H18 e_1 fun t_32 =>
        EqP P T_api_Entry false H18 t_31 t_32 fun b_33 =>
        K (.tuple #[t_27, (.bool b_33)]) H18)
        (K (.tuple #[t_27, (.bool false)]) H18)))

def a_skip_List_Seek : Ann := []

theorem e_skip_List_Seek (a0_l : Value) (a1_e : Value) (H : Heap) (K : Value → Heap → Prop) : bodyX P a_skip_List_Seek (bodyOf Tryz.f89) Tryz.f89.results.toList [a0_l, a1_e] H K = c_skip_List_Seek a0_l a1_e H K := by kernel_rfl

theorem ok_skip_List_Seek : okFn P a_skip_List_Seek Tryz.f89 2 = true := by kernel_rfl
theorem k_skip_List_Seek {a0_l a1_e : Value} {H : Heap} {K : Value → Heap → Prop} (h : c_skip_List_Seek a0_l a1_e H K) : CallH P f_skip_List_Seek [a0_l, a1_e] H K :=
  call_of_bodyX Tryz.func89 ok_skip_List_Seek ((e_skip_List_Seek a0_l a1_e H K).mpr h)

/-- (*palio/skip.List).to -/
def c_skip_List_to (a0_l : Value) (a1_e : Value) (H : Heap) (K : Value → Heap → Prop) : Prop :=
  BoxP (some 2) T_api_Entry a1_e H fun e_1 H2 =>
  AllocP (zeroT P T_a32_p_skip_node).cells T_a32_p_skip_node H2 fun t_3 H4 =>
  AllocP (zeroT P T_a32_int).cells T_a32_int H4 fun t_5 H6 =>
  CallH P f_skip_List_path [a0_l, (.func (.func f_skip_List_to_1) #[] #[e_1])] H6 fun t_7 H8 =>
  ExtractP t_7 0 fun t_9 =>
  ExtractP t_7 1 fun t_10 =>
  StoreP (some 32) H8 t_3 t_9 fun H11 =>
  StoreP (some 32) H11 t_5 t_10 fun H12 =>
  LoadP (some 32) H12 t_3 fun t_13 =>
  LoadP (some 32) H12 t_5 fun t_14 =>
  K (.tuple #[t_13, t_14]) H12

def a_skip_List_to : Ann := []

theorem e_skip_List_to (a0_l : Value) (a1_e : Value) (H : Heap) (K : Value → Heap → Prop) : bodyX P a_skip_List_to (bodyOf Tryz.f90) Tryz.f90.results.toList [a0_l, a1_e] H K = c_skip_List_to a0_l a1_e H K := by kernel_rfl

theorem ok_skip_List_to : okFn P a_skip_List_to Tryz.f90 2 = true := by kernel_rfl
theorem k_skip_List_to {a0_l a1_e : Value} {H : Heap} {K : Value → Heap → Prop} (h : c_skip_List_to a0_l a1_e H K) : CallH P f_skip_List_to [a0_l, a1_e] H K :=
  call_of_bodyX Tryz.func90 ok_skip_List_to ((e_skip_List_to a0_l a1_e H K).mpr h)

/-- palio/skip.highest -/
def c_skip_highest (a0_l : Value) (H : Heap) (K : Value → Heap → Prop) : Prop :=
  CallH P f_slices_Max_s_int_int [a0_l] H fun t_1 H2 =>
  K t_1 H2

def a_skip_highest : Ann := []

theorem e_skip_highest (a0_l : Value) (H : Heap) (K : Value → Heap → Prop) : bodyX P a_skip_highest (bodyOf Tryz.f91) Tryz.f91.results.toList [a0_l] H K = c_skip_highest a0_l H K := by kernel_rfl

theorem ok_skip_highest : okFn P a_skip_highest Tryz.f91 1 = true := by kernel_rfl
theorem k_skip_highest {a0_l : Value} {H : Heap} {K : Value → Heap → Prop} (h : c_skip_highest a0_l H K) : CallH P f_skip_highest [a0_l] H K :=
  call_of_bodyX Tryz.func91 ok_skip_highest ((e_skip_highest a0_l H K).mpr h)

end Go.X.W
