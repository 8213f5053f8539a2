/- Clean words of Go functions, printed by a program of our own; each is equal to the evaluator's result. -/
import Derived.Test.YtochkahbnhegaaaGreatZS3
set_option linter.unusedVariables false
set_option maxRecDepth 100000
namespace Go.X.W
open Go Go.X Go.Proofs

/-- (*palio/dict.Dict[int64]).Set$1 -/
def c_dict_Dict_int64_Set_1 (a0_at : Value) (a1_x : Value) (H : Heap) (K : Value → Heap → Prop) : Prop :=
  NilP a0_at fun t_1 =>
  LoadP none H t_1 fun t_2 =>
  LoadP none H a1_x fun t_3 =>
  NilP t_2 fun t_4 =>
  FieldAddrP 2 t_4 fun t_5 =>
  StoreP none H t_5 t_3 fun H6 =>
  K (.tuple #[]) H6

def a_dict_Dict_int64_Set_1 : Ann := []

theorem e_dict_Dict_int64_Set_1 (a0_at : Value) (a1_x : Value) (H : Heap) (K : Value → Heap → Prop) : bodyX P a_dict_Dict_int64_Set_1 (bodyOf Tryz.f92) Tryz.f92.results.toList [a0_at, a1_x] H K = c_dict_Dict_int64_Set_1 a0_at a1_x H K := by kernel_rfl

theorem ok_dict_Dict_int64_Set_1 : okFn P a_dict_Dict_int64_Set_1 Tryz.f92 2 = true := by kernel_rfl
theorem k_dict_Dict_int64_Set_1 {a0_at a1_x : Value} {H : Heap} {K : Value → Heap → Prop} (h : c_dict_Dict_int64_Set_1 a0_at a1_x H K) : CallH P f_dict_Dict_int64_Set_1 [a0_at, a1_x] H K :=
  call_of_bodyX Tryz.func92 ok_dict_Dict_int64_Set_1 ((e_dict_Dict_int64_Set_1 a0_at a1_x H K).mpr h)

/-- (*palio/dict.Dict[int64]).isMoving -/
def c_dict_Dict_int64_isMoving (a0_d : Value) (H : Heap) (K : Value → Heap → Prop) : Prop :=
  NilP a0_d fun t_1 =>
  FieldAddrP 1 t_1 fun t_2 =>
  IdxArrP 2 1 t_2 (.int .i64 1) fun t_3 =>
  LoadP none H t_3 fun t_4 =>
  EqP P T_s_p_dict_node_int64 true H t_4 (.slice none 0 0) fun b_5 =>
  K (.bool (!b_5)) H

def a_dict_Dict_int64_isMoving : Ann := []

theorem e_dict_Dict_int64_isMoving (a0_d : Value) (H : Heap) (K : Value → Heap → Prop) : bodyX P a_dict_Dict_int64_isMoving (bodyOf Tryz.f93) Tryz.f93.results.toList [a0_d] H K = c_dict_Dict_int64_isMoving a0_d H K := by kernel_rfl

theorem ok_dict_Dict_int64_isMoving : okFn P a_dict_Dict_int64_isMoving Tryz.f93 1 = true := by kernel_rfl
theorem k_dict_Dict_int64_isMoving {a0_d : Value} {H : Heap} {K : Value → Heap → Prop} (h : c_dict_Dict_int64_isMoving a0_d H K) : CallH P f_dict_Dict_int64_isMoving [a0_d] H K :=
  call_of_bodyX Tryz.func93 ok_dict_Dict_int64_isMoving ((e_dict_Dict_int64_isMoving a0_d H K).mpr h)

/-- (*palio/dict.Dict[int64]).moves -/
def c_dict_Dict_int64_moves (a0_d : Value) (a1_n : Value) (H : Heap) (K : Value → Heap → Prop) : Prop :=
  NilP a0_d fun t_1 =>
  FieldAddrP 1 t_1 fun t_2 =>
  CallH P f_hash_SizeFor [a1_n] H fun t_3 H4 =>
  MakeSliceP P T_p_dict_node_int64 t_3 t_3 H4 fun t_5 H6 =>
  IdxArrP 2 1 t_2 (.int .i64 1) fun t_7 =>
  StoreP none H6 t_7 t_5 fun H8 =>
  K (.tuple #[]) H8

def a_dict_Dict_int64_moves : Ann := []

theorem e_dict_Dict_int64_moves (a0_d : Value) (a1_n : Value) (H : Heap) (K : Value → Heap → Prop) : bodyX P a_dict_Dict_int64_moves (bodyOf Tryz.f94) Tryz.f94.results.toList [a0_d, a1_n] H K = c_dict_Dict_int64_moves a0_d a1_n H K := by kernel_rfl

theorem ok_dict_Dict_int64_moves : okFn P a_dict_Dict_int64_moves Tryz.f94 2 = true := by kernel_rfl
theorem k_dict_Dict_int64_moves {a0_d a1_n : Value} {H : Heap} {K : Value → Heap → Prop} (h : c_dict_Dict_int64_moves a0_d a1_n H K) : CallH P f_dict_Dict_int64_moves [a0_d, a1_n] H K :=
  call_of_bodyX Tryz.func94 ok_dict_Dict_int64_moves ((e_dict_Dict_int64_moves a0_d a1_n H K).mpr h)

/-- palio/dict.put[int64] -/
def c_dict_put_int64 (a0_t : Value) (a1_l : Value) (H : Heap) (K : Value → Heap → Prop) : Prop :=
  LenP a1_l fun t_1 =>
  LoopP (S := (Value) × List Deferred) (G := Tup 24)
    (fun s_2 g_2 self_2 H2 =>
    BinP .lss s_2.1 t_1 fun t_3 =>
    SplitP t_3
      (IdxSliceP 1 a1_l s_2.1 fun t_4 =>
      LoadP none H2 t_4 fun t_5 =>
      NilP t_5 fun t_6 =>
      FieldAddrP 0 t_6 fun t_7 =>
      FieldAddrP 0 t_7 fun t_8 =>
      LoadP none H2 t_8 fun t_9 =>
      CallH P f_dict_slot_int64 [a0_t, t_9] H2 fun t_10 H11 =>
      IdxSliceP 1 a0_t t_10 fun t_12 =>
      LoadP none H11 t_12 fun t_13 =>
      NilP t_5 fun t_14 =>
      FieldAddrP 3 t_14 fun t_15 =>
      StoreP none H11 t_15 t_13 fun H16 =>
      IdxSliceP 1 a0_t t_10 fun t_17 =>
      StoreP none H16 t_17 t_5 fun H18 =>
      BinP .add s_2.1 (.int .i64 1) fun t_19 =>
      self_2 (t_19, s_2.2) H18)
      (RetP s_2.2 H2 fun H20 =>
      K (.tuple #[]) H20))
    ((.int .i64 0), []) H

def a_dict_put_int64 : Ann := [(2, [9], [5, 6, 10, 11, 12, 13, 14, 15, 16, 17, 18, 19, 20, 21, 22, 23, 24, 25, 26, 27, 28, 29, 30, 31])]

theorem e_dict_put_int64 (a0_t : Value) (a1_l : Value) (H : Heap) (K : Value → Heap → Prop) : bodyX P a_dict_put_int64 (bodyOf Tryz.f95) Tryz.f95.results.toList [a0_t, a1_l] H K = c_dict_put_int64 a0_t a1_l H K := by kernel_rfl

theorem ok_dict_put_int64 : okFn P a_dict_put_int64 Tryz.f95 2 = true := by kernel_rfl
theorem k_dict_put_int64 {a0_t a1_l : Value} {H : Heap} {K : Value → Heap → Prop} (h : c_dict_put_int64 a0_t a1_l H K) : CallH P f_dict_put_int64 [a0_t, a1_l] H K :=
  call_of_bodyX Tryz.func95 ok_dict_put_int64 ((e_dict_put_int64 a0_t a1_l H K).mpr h)

/-- (*palio/dict.Dict[int64]).of -/
def c_dict_Dict_int64_of (a0_d : Value) (a1_key : Value) (H : Heap) (K : Value → Heap → Prop) : Prop :=
  AllocP #[(.int .u32 0), (.string ⟨#[]⟩)] T_dict_id H fun t_1 H2 =>
  NilP a0_d fun t_3 =>
  FieldAddrP 0 t_3 fun t_4 =>
  LoadP none H2 t_4 fun t_5 =>
  CallH P f_hash_Sum [t_5, a1_key] H2 fun t_6 H7 =>
  BuildP [(.int .u32 0), (.string ⟨#[]⟩)] [(0, none, t_6), (1, none, a1_key)] fun t_8 =>
  StoreP (some 2) H7 t_1 (.agg t_8.toArray) fun H9 =>
  LoadP (some 2) H9 t_1 fun t_10 =>
  K t_10 H9

def a_dict_Dict_int64_of : Ann := []

theorem e_dict_Dict_int64_of (a0_d : Value) (a1_key : Value) (H : Heap) (K : Value → Heap → Prop) : bodyX P a_dict_Dict_int64_of (bodyOf Tryz.f96) Tryz.f96.results.toList [a0_d, a1_key] H K = c_dict_Dict_int64_of a0_d a1_key H K := by kernel_rfl

theorem ok_dict_Dict_int64_of : okFn P a_dict_Dict_int64_of Tryz.f96 2 = true := by kernel_rfl
theorem k_dict_Dict_int64_of {a0_d a1_key : Value} {H : Heap} {K : Value → Heap → Prop} (h : c_dict_Dict_int64_of a0_d a1_key H K) : CallH P f_dict_Dict_int64_of [a0_d, a1_key] H K :=
  call_of_bodyX Tryz.func96 ok_dict_Dict_int64_of ((e_dict_Dict_int64_of a0_d a1_key H K).mpr h)

/-- palio/dict.chain[int64] -/
def c_dict_chain_int64 (a0_x : Value) (H : Heap) (K : Value → Heap → Prop) : Prop :=
  BoxP none T_p_dict_node_int64 a0_x H fun x_1 H2 =>
  K (.func (.func f_dict_chain_int64_1) #[] #[x_1]) H2

def a_dict_chain_int64 : Ann := []

theorem e_dict_chain_int64 (a0_x : Value) (H : Heap) (K : Value → Heap → Prop) : bodyX P a_dict_chain_int64 (bodyOf Tryz.f97) Tryz.f97.results.toList [a0_x] H K = c_dict_chain_int64 a0_x H K := by kernel_rfl

theorem ok_dict_chain_int64 : okFn P a_dict_chain_int64 Tryz.f97 1 = true := by kernel_rfl
theorem k_dict_chain_int64 {a0_x : Value} {H : Heap} {K : Value → Heap → Prop} (h : c_dict_chain_int64 a0_x H K) : CallH P f_dict_chain_int64 [a0_x] H K :=
  call_of_bodyX Tryz.func97 ok_dict_chain_int64 ((e_dict_chain_int64 a0_x H K).mpr h)

/-- slices.Sort[[]string,string] -/
def c_slices_Sort_s_string_string (a0_x : Value) (H : Heap) (K : Value → Heap → Prop) : Prop :=
  LenP a0_x fun t_1 =>
  ConvIntP .u64 t_1 fun t_2 =>
  CallH P f_math_bits_Len [t_2] H fun t_3 H4 =>
  CallH P f_slices_pdqsortOrdered_string [a0_x, (.int .i64 0), t_1, t_3] H4 fun t_5 H6 =>
  K (.tuple #[]) H6

def a_slices_Sort_s_string_string : Ann := []

theorem e_slices_Sort_s_string_string (a0_x : Value) (H : Heap) (K : Value → Heap → Prop) : bodyX P a_slices_Sort_s_string_string (bodyOf Tryz.f98) Tryz.f98.results.toList [a0_x] H K = c_slices_Sort_s_string_string a0_x H K := by kernel_rfl

theorem ok_slices_Sort_s_string_string : okFn P a_slices_Sort_s_string_string Tryz.f98 1 = true := by kernel_rfl
theorem k_slices_Sort_s_string_string {a0_x : Value} {H : Heap} {K : Value → Heap → Prop} (h : c_slices_Sort_s_string_string a0_x H K) : CallH P f_slices_Sort_s_string_string [a0_x] H K :=
  call_of_bodyX Tryz.func98 ok_slices_Sort_s_string_string ((e_slices_Sort_s_string_string a0_x H K).mpr h)

/-- palio/dict.slot[int64] -/
def c_dict_slot_int64 (a0_t : Value) (a1_sum : Value) (H : Heap) (K : Value → Heap → Prop) : Prop :=
  LenP a0_t fun t_1 =>
  BinP .sub t_1 (.int .i64 1) fun t_2 =>
  ConvIntP .u32 t_2 fun t_3 =>
  BinP .and a1_sum t_3 fun t_4 =>
  ConvIntP .i64 t_4 fun t_5 =>
  K t_5 H

def a_dict_slot_int64 : Ann := []

theorem e_dict_slot_int64 (a0_t : Value) (a1_sum : Value) (H : Heap) (K : Value → Heap → Prop) : bodyX P a_dict_slot_int64 (bodyOf Tryz.f99) Tryz.f99.results.toList [a0_t, a1_sum] H K = c_dict_slot_int64 a0_t a1_sum H K := by kernel_rfl

theorem ok_dict_slot_int64 : okFn P a_dict_slot_int64 Tryz.f99 2 = true := by kernel_rfl
theorem k_dict_slot_int64 {a0_t a1_sum : Value} {H : Heap} {K : Value → Heap → Prop} (h : c_dict_slot_int64 a0_t a1_sum H K) : CallH P f_dict_slot_int64 [a0_t, a1_sum] H K :=
  call_of_bodyX Tryz.func99 ok_dict_slot_int64 ((e_dict_slot_int64 a0_t a1_sum H K).mpr h)

/-- (*palio/skip.List).path -/
def c_skip_List_path (a0_l : Value) (a1_ahead : Value) (H : Heap) (K : Value → Heap → Prop) : Prop :=
  BoxP none T_func_p_skip_node_int_bool a1_ahead H fun ahead_1 H2 =>
  AllocP (zeroT P T_a32_p_skip_node).cells T_a32_p_skip_node H2 fun t_3 H4 =>
  AllocP (zeroT P T_a32_int).cells T_a32_int H4 fun t_5 H6 =>
  AllocP (zeroT P T_a32_p_skip_node).cells T_a32_p_skip_node H6 fun nodes_7 H8 =>
  AllocP (zeroT P T_a32_int).cells T_a32_int H8 fun places_9 H10 =>
  NilP a0_l fun t_11 =>
  FieldAddrP 0 t_11 fun t_12 =>
  AllocP #[(.pointer none)] T_p_skip_node H10 fun x_13 H14 =>
  AllocP #[(.int .i64 0)] T_int H14 fun place_15 H16 =>
  StoreP none H16 x_13 t_12 fun H17 =>
  StoreP none H17 place_15 (.int .i64 0) fun H18 =>
  NilP a0_l fun t_19 =>
  FieldAddrP 69 t_19 fun t_20 =>
  LoadP none H18 t_20 fun t_21 =>
  SliceArrP 32 1 nodes_7 none (some t_21) none fun t_22 =>
  CallH P f_slices_Backward_s_p_skip_node_p_skip_node [t_22] H18 fun t_23 H24 =>
  RangeP P none t_23 2
    (fun l_25 vs_25 H25 K_25 =>
    BeginP l_25 H25 fun H26 =>
    JoinP (S := (Unit) × List Deferred) (G := Tup 27)
      (fun s_27 g_27 H27 =>
      LoadP none H27 x_13 fun t_28 =>
      LoadP none H27 place_15 fun t_29 =>
      IdxArrP 32 1 nodes_7 vs_25.1 fun t_30 =>
      StoreP none H27 t_30 t_28 fun H31 =>
      LoadIs none H31 place_15 t_29 ∧
      IdxArrP 32 1 places_9 vs_25.1 fun t_32 =>
      StoreP none H31 t_32 t_29 fun H33 =>
      EndP l_25 .normal H33 K_25)
      (fun J_27 =>
      LoopP (S := (Unit) × List Deferred) (G := Tup 27)
        (fun s_34 g_34 self_34 H34 =>
        LoadP none H34 x_13 fun t_35 =>
        NilP t_35 fun t_36 =>
        FieldAddrP 2 t_36 fun t_37 =>
        IdxArrP 32 2 t_37 vs_25.1 fun t_38 =>
        LoadP (some 2) H34 t_38 fun t_39 =>
        AllocP #[(.pointer none), (.int .i64 0)] T_skip_link H34 fun next_40 H41 =>
        StoreP (some 2) H41 next_40 t_39 fun H42 =>
        FieldAddrP 0 next_40 fun t_43 =>
        LoadP none H42 t_43 fun t_44 =>
        EqP P T_p_skip_node true H42 t_44 (.pointer none) fun b_45 =>
        SplitP (.bool b_45)
          (J_27 ((), s_34.2) H42)
          (LoadP none H42 ahead_1 fun t_46 =>
          FieldAddrP 0 next_40 fun t_47 =>
          LoadP none H42 t_47 fun t_48 =>
          LoadP none H42 place_15 fun t_49 =>
          FieldAddrP 1 next_40 fun t_50 =>
          LoadP none H42 t_50 fun t_51 =>
          BinP .add t_49 t_51 fun t_52 =>
          CallV P t_46 [t_48, t_52] H42 fun t_53 H54 =>
          UnP .not t_53 fun t_55 =>
          SplitP t_55
            (J_27 ((), s_34.2) H54)
            (FieldAddrP 0 next_40 fun t_56 =>
            LoadP none H54 t_56 fun t_57 =>
            LoadP none H54 place_15 fun t_58 =>
            FieldAddrP 1 next_40 fun t_59 =>
            LoadP none H54 t_59 fun t_60 =>
            BinP .add t_58 t_60 fun t_61 =>
            StoreP none H54 x_13 t_57 fun H62 =>
            LoadIs none H62 t_59 t_60 ∧
            LoadIs none H62 place_15 t_58 ∧
            StoreP none H62 place_15 t_61 fun H63 =>
            self_34 ((), s_34.2) H63)))
        ((), []) H26))
    (fun p_25 ds_25 Ha25 => AltP p_25 [
    (.normal, LoadP (some 32) Ha25 nodes_7 fun t_64 =>
    LoadP (some 32) Ha25 places_9 fun t_65 =>
    StoreP (some 32) Ha25 t_3 t_64 fun H66 =>
    LoadIs (some 32) H66 places_9 t_65 ∧
    StoreP (some 32) H66 t_5 t_65 fun H67 =>
    RetP (ds_25 ++ []) H67 fun H68 =>
    LoadP (some 32) H68 t_3 fun t_69 =>
    LoadP (some 32) H68 t_5 fun t_70 =>
    K (.tuple #[t_69, t_70]) H68)]) H24

def a_skip_List_path : Ann := [(12, [], [11, 23, 24, 25, 26, 27, 28, 29, 30, 31, 32, 33, 34, 35, 36, 37, 38, 39, 40, 41, 42, 43, 44, 45, 46, 47, 48]), (19, [], [11, 23, 24, 25, 26, 27, 28, 29, 30, 31, 32, 33, 34, 35, 36, 37, 38, 39, 40, 41, 42, 43, 44, 45, 46, 47, 48])]

theorem e_skip_List_path (a0_l : Value) (a1_ahead : Value) (H : Heap) (K : Value → Heap → Prop) : bodyX P a_skip_List_path (bodyOf Tryz.f100) Tryz.f100.results.toList [a0_l, a1_ahead] H K = c_skip_List_path a0_l a1_ahead H K := by kernel_rfl

theorem ok_skip_List_path : okFn P a_skip_List_path Tryz.f100 2 = true := by kernel_rfl
theorem k_skip_List_path {a0_l a1_ahead : Value} {H : Heap} {K : Value → Heap → Prop} (h : c_skip_List_path a0_l a1_ahead H K) : CallH P f_skip_List_path [a0_l, a1_ahead] H K :=
  call_of_bodyX Tryz.func100 ok_skip_List_path ((e_skip_List_path a0_l a1_ahead H K).mpr h)

/-- (*palio/skip.List).to$1 -/
def c_skip_List_to_1 (a0_x : Value) (a1_place : Value) (a2_x : Value) (H : Heap) (K : Value → Heap → Prop) : Prop :=
  NilP a0_x fun t_1 =>
  FieldAddrP 0 t_1 fun t_2 =>
  LoadP (some 2) H t_2 fun t_3 =>
  LoadP (some 2) H a2_x fun t_4 =>
  CallH P f_bound_Less [t_3, t_4] H fun t_5 H6 =>
  K t_5 H6

def a_skip_List_to_1 : Ann := []

theorem e_skip_List_to_1 (a0_x : Value) (a1_place : Value) (a2_x : Value) (H : Heap) (K : Value → Heap → Prop) : bodyX P a_skip_List_to_1 (bodyOf Tryz.f101) Tryz.f101.results.toList [a0_x, a1_place, a2_x] H K = c_skip_List_to_1 a0_x a1_place a2_x H K := by kernel_rfl

theorem ok_skip_List_to_1 : okFn P a_skip_List_to_1 Tryz.f101 3 = true := by kernel_rfl
theorem k_skip_List_to_1 {a0_x a1_place a2_x : Value} {H : Heap} {K : Value → Heap → Prop} (h : c_skip_List_to_1 a0_x a1_place a2_x H K) : CallH P f_skip_List_to_1 [a0_x, a1_place, a2_x] H K :=
  call_of_bodyX Tryz.func101 ok_skip_List_to_1 ((e_skip_List_to_1 a0_x a1_place a2_x H K).mpr h)

/-- slices.Max[[]int,int] -/
def c_slices_Max_s_int_int (a0_x : Value) (H : Heap) (K : Value → Heap → Prop) : Prop :=
  LenP a0_x fun t_1 =>
  BinP .lss t_1 (.int .i64 1) fun t_2 =>
  SplitP t_2
    (False)
    (IdxSliceP 1 a0_x (.int .i64 0) fun t_3 =>
    LoadP none H t_3 fun t_4 =>
    LoopP (S := (Value × Value) × List Deferred) (G := Tup 12)
      (fun s_5 g_5 self_5 H5 =>
      LenP a0_x fun t_6 =>
      BinP .lss s_5.1.2 t_6 fun t_7 =>
      SplitP t_7
        (IdxSliceP 1 a0_x s_5.1.2 fun t_8 =>
        LoadP none H5 t_8 fun t_9 =>
        MaxP s_5.1.1 [t_9] fun t_10 =>
        BinP .add s_5.1.2 (.int .i64 1) fun t_11 =>
        self_5 ((t_10, t_11), s_5.2) H5)
        (RetP s_5.2 H5 fun H12 =>
        K s_5.1.1 H12))
      ((t_4, (.int .i64 1)), []) H)

def a_slices_Max_s_int_int : Ann := [(10, [3, 4], [12, 13, 14, 15, 16, 17, 18, 19, 20, 21, 22, 23])]

theorem e_slices_Max_s_int_int (a0_x : Value) (H : Heap) (K : Value → Heap → Prop) : bodyX P a_slices_Max_s_int_int (bodyOf Tryz.f102) Tryz.f102.results.toList [a0_x] H K = c_slices_Max_s_int_int a0_x H K := by kernel_rfl

theorem ok_slices_Max_s_int_int : okFn P a_slices_Max_s_int_int Tryz.f102 1 = true := by kernel_rfl
theorem k_slices_Max_s_int_int {a0_x : Value} {H : Heap} {K : Value → Heap → Prop} (h : c_slices_Max_s_int_int a0_x H K) : CallH P f_slices_Max_s_int_int [a0_x] H K :=
  call_of_bodyX Tryz.func102 ok_slices_Max_s_int_int ((e_slices_Max_s_int_int a0_x H K).mpr h)

/-- palio/hash.SizeFor -/
def c_hash_SizeFor (a0_n : Value) (H : Heap) (K : Value → Heap → Prop) : Prop :=
  BoxP none T_int a0_n H fun n_1 H2 =>
  AllocP #[(.int .i64 0)] T_int H2 fun out_3 H4 =>
  StoreP none H4 out_3 (.int .i64 65536) fun H5 =>
  CallH P f_hash_sizes [] H5 fun t_6 H7 =>
  RangeP P none t_6 1
    (fun l_8 vs_8 H8 K_8 =>
    BeginP l_8 H8 fun H9 =>
    LoadP none H9 n_1 fun t_10 =>
    BinP .geq vs_8 t_10 fun t_11 =>
    SplitP t_11
      (StoreP none H9 out_3 vs_8 fun H12 =>
      EndP l_8 (.exit 0) H12 K_8)
      (EndP l_8 .normal H9 K_8))
    (fun p_8 ds_8 Ha8 => AltP p_8 [
    (.normal, LoadP none Ha8 out_3 fun t_13 =>
    RetP (ds_8 ++ []) Ha8 fun H14 =>
    K t_13 H14),
    (.exit 0, LoadP none Ha8 out_3 fun t_15 =>
    RetP (ds_8 ++ []) Ha8 fun H16 =>
    K t_15 H16)]) H7

def a_hash_SizeFor : Ann := []

theorem e_hash_SizeFor (a0_n : Value) (H : Heap) (K : Value → Heap → Prop) : bodyX P a_hash_SizeFor (bodyOf Tryz.f103) Tryz.f103.results.toList [a0_n] H K = c_hash_SizeFor a0_n H K := by kernel_rfl

theorem ok_hash_SizeFor : okFn P a_hash_SizeFor Tryz.f103 1 = true := by kernel_rfl
theorem k_hash_SizeFor {a0_n : Value} {H : Heap} {K : Value → Heap → Prop} (h : c_hash_SizeFor a0_n H K) : CallH P f_hash_SizeFor [a0_n] H K :=
  call_of_bodyX Tryz.func103 ok_hash_SizeFor ((e_hash_SizeFor a0_n H K).mpr h)

/-- palio/hash.Sum -/
def c_hash_Sum (a0_seed : Value) (a1_s : Value) (H : Heap) (K : Value → Heap → Prop) : Prop :=
  BinP .xor a0_seed (.int .u32 2166136261) fun t_1 =>
  AllocP #[(.int .u32 0)] T_uint32 H fun h_2 H3 =>
  StoreP none H3 h_2 t_1 fun H4 =>
  CallH P f_hash_each [a1_s] H4 fun t_5 H6 =>
  RangeP P none t_5 1
    (fun l_7 vs_7 H7 K_7 =>
    BeginP l_7 H7 fun H8 =>
    LoadP none H8 h_2 fun t_9 =>
    BuildP (zerosN #[(.int .u32 0)] 1) [(0, none, vs_7)] fun t_10 =>
    BuildSliceP T_uint32 1 t_10 H8 fun t_11 H12 =>
    CallH P f_hash_mixed [t_9, t_11] H12 fun t_13 H14 =>
    StoreP none H14 h_2 t_13 fun H15 =>
    EndP l_7 .normal H15 K_7)
    (fun p_7 ds_7 Ha7 => AltP p_7 [
    (.normal, LoadP none Ha7 h_2 fun t_16 =>
    LoadP none Ha7 h_2 fun t_17 =>
    BinP .shr t_17 (.int .u64 15) fun t_18 =>
    BinP .xor t_16 t_18 fun t_19 =>
    StoreP none Ha7 h_2 t_19 fun H20 =>
    LoadP none H20 h_2 fun t_21 =>
    BinP .mul t_21 (.int .u32 2246822519) fun t_22 =>
    StoreP none H20 h_2 t_22 fun H23 =>
    LoadP none H23 h_2 fun t_24 =>
    LoadP none H23 h_2 fun t_25 =>
    BinP .shr t_25 (.int .u64 13) fun t_26 =>
    BinP .xor t_24 t_26 fun t_27 =>
    RetP (ds_7 ++ []) H23 fun H28 =>
    K t_27 H28)]) H6

def a_hash_Sum : Ann := []

theorem e_hash_Sum (a0_seed : Value) (a1_s : Value) (H : Heap) (K : Value → Heap → Prop) : bodyX P a_hash_Sum (bodyOf Tryz.f104) Tryz.f104.results.toList [a0_seed, a1_s] H K = c_hash_Sum a0_seed a1_s H K := by kernel_rfl

theorem ok_hash_Sum : okFn P a_hash_Sum Tryz.f104 2 = true := by kernel_rfl
theorem k_hash_Sum {a0_seed a1_s : Value} {H : Heap} {K : Value → Heap → Prop} (h : c_hash_Sum a0_seed a1_s H K) : CallH P f_hash_Sum [a0_seed, a1_s] H K :=
  call_of_bodyX Tryz.func104 ok_hash_Sum ((e_hash_Sum a0_seed a1_s H K).mpr h)

/-- palio/dict.chain[int64]$1 -/
def c_dict_chain_int64_1 (a0_yield : Value) (a1_x : Value) (H : Heap) (K : Value → Heap → Prop) : Prop :=
  LoopP (S := (Unit) × List Deferred) (G := Tup 12)
    (fun s_1 g_1 self_1 H1 =>
    LoadP none H1 a1_x fun t_2 =>
    EqP P T_p_dict_node_int64 true H1 t_2 (.pointer none) fun b_3 =>
    SplitP (.bool (!b_3))
      (LoadP none H1 a1_x fun t_4 =>
      NilP t_4 fun t_5 =>
      FieldAddrP 3 t_5 fun t_6 =>
      LoadP none H1 t_6 fun t_7 =>
      LoadP none H1 a1_x fun t_8 =>
      CallV P a0_yield [t_8] H1 fun t_9 H10 =>
      UnP .not t_9 fun t_11 =>
      SplitP t_11
        (RetP s_1.2 H10 fun H12 =>
        K (.tuple #[]) H12)
        (StoreP none H10 a1_x t_7 fun H13 =>
        self_1 ((), s_1.2) H13))
      (RetP s_1.2 H1 fun H14 =>
      K (.tuple #[]) H14))
    ((), []) H

def a_dict_chain_int64_1 : Ann := [(0, [], [3, 4, 5, 6, 7, 8, 9, 10, 11, 12, 13, 14])]

theorem e_dict_chain_int64_1 (a0_yield : Value) (a1_x : Value) (H : Heap) (K : Value → Heap → Prop) : bodyX P a_dict_chain_int64_1 (bodyOf Tryz.f105) Tryz.f105.results.toList [a0_yield, a1_x] H K = c_dict_chain_int64_1 a0_yield a1_x H K := by kernel_rfl

theorem ok_dict_chain_int64_1 : okFn P a_dict_chain_int64_1 Tryz.f105 2 = true := by kernel_rfl
theorem k_dict_chain_int64_1 {a0_yield a1_x : Value} {H : Heap} {K : Value → Heap → Prop} (h : c_dict_chain_int64_1 a0_yield a1_x H K) : CallH P f_dict_chain_int64_1 [a0_yield, a1_x] H K :=
  call_of_bodyX Tryz.func105 ok_dict_chain_int64_1 ((e_dict_chain_int64_1 a0_yield a1_x H K).mpr h)

/-- slices.pdqsortOrdered[string] -/
def c_slices_pdqsortOrdered_string (a0_data : Value) (a1_a : Value) (a2_b : Value) (a3_limit : Value) (H : Heap) (K : Value → Heap → Prop) : Prop :=
  LoopP (S := (Value × Value × Value × Value × Value) × List Deferred) (G := Tup 124)
    (fun s_1 g_1 self_1 H1 =>
    BinP .sub s_1.1.2.1 s_1.1.1 fun t_2 =>
    BinP .leq t_2 (.int .i64 12) fun t_3 =>
    SplitP t_3
      (CallH P f_slices_insertionSortOrdered_string [a0_data, s_1.1.1, s_1.1.2.1] H1 fun t_4 H5 =>
      RetP s_1.2 H5 fun H6 =>
      K (.tuple #[]) H6)
      (BinP .eql s_1.1.2.2.1 (.int .i64 0) fun t_7 =>
      SplitP t_7
        (CallH P f_slices_heapSortOrdered_string [a0_data, s_1.1.1, s_1.1.2.1] H1 fun t_8 H9 =>
        RetP s_1.2 H9 fun H10 =>
        K (.tuple #[]) H10)
        (JoinP (S := (Value) × List Deferred) (G := Tup 8)
          (fun s_11 g_11 H11 =>
          CallH P f_slices_choosePivotOrdered_string [a0_data, s_1.1.1, s_1.1.2.1] H11 fun t_12 H13 =>
          ExtractP t_12 0 fun t_14 =>
          ExtractP t_12 1 fun t_15 =>
          JoinP (S := (Value × Value) × List Deferred) (G := Tup 12)
            (fun s_16 g_16 H16 =>
            JoinP (S := (Unit) × List Deferred) (G := Tup 12)
              (fun s_17 g_17 H17 =>
              JoinP (S := (Value) × List Deferred) (G := Tup 14)
                (fun s_18 g_18 H18 =>
                SplitP s_18.1
                  (CallH P f_slices_partitionEqualOrdered_string [a0_data, s_1.1.1, s_1.1.2.1, s_16.1.1] H18 fun t_19 H20 =>
                  self_1 ((t_19, s_1.1.2.1, s_11.1, s_1.1.2.2.2.1, s_1.1.2.2.2.2), s_18.2) H20)
                  (CallH P f_slices_partitionOrdered_string [a0_data, s_1.1.1, s_1.1.2.1, s_16.1.1] H18 fun t_21 H22 =>
                  ExtractP t_21 0 fun t_23 =>
                  ExtractP t_21 1 fun t_24 =>
                  BinP .sub t_23 s_1.1.1 fun t_25 =>
                  BinP .sub s_1.1.2.1 t_23 fun t_26 =>
                  BinP .quo t_2 (.int .i64 8) fun t_27 =>
                  BinP .lss t_25 t_26 fun t_28 =>
                  SplitP t_28
                    (BinP .geq t_25 t_27 fun t_29 =>
                    CallH P f_slices_pdqsortOrdered_string [a0_data, s_1.1.1, t_23, s_11.1] H22 fun t_30 H31 =>
                    BinP .add t_23 (.int .i64 1) fun t_32 =>
                    self_1 ((t_32, s_1.1.2.1, s_11.1, t_29, t_24), s_18.2) H31)
                    (BinP .geq t_26 t_27 fun t_33 =>
                    BinP .add t_23 (.int .i64 1) fun t_34 =>
                    CallH P f_slices_pdqsortOrdered_string [a0_data, t_34, s_1.1.2.1, s_11.1] H22 fun t_35 H36 =>
                    self_1 ((s_1.1.1, t_23, s_11.1, t_33, t_24), s_18.2) H36)))
                (fun J_18 =>
                BinP .gtr s_1.1.1 (.int .i64 0) fun t_37 =>
                SplitP t_37
                  (BinP .sub s_1.1.1 (.int .i64 1) fun t_38 =>
                  IdxSliceP 1 a0_data t_38 fun t_39 =>
                  LoadP none H17 t_39 fun t_40 =>
                  IdxSliceP 1 a0_data s_16.1.1 fun t_41 =>
                  LoadP none H17 t_41 fun t_42 =>
                  CallH P f_cmp_Less_string [t_40, t_42] H17 fun t_43 H44 =>
                  UnP .not t_43 fun t_45 =>
                  J_18 (t_45, s_17.2) H44)
                  (J_18 ((.bool false), s_17.2) H17)))
              (fun J_17 =>
              SplitP s_1.1.2.2.2.1
                (SplitP s_1.1.2.2.2.2
                  (BinP .eql s_16.1.2 (.int .i64 1) fun t_46 =>
                  SplitP t_46
                    (CallH P f_slices_partialInsertionSortOrdered_string [a0_data, s_1.1.1, s_1.1.2.1] H16 fun t_47 H48 =>
                    SplitP t_47
                      (RetP s_16.2 H48 fun H49 =>
                      K (.tuple #[]) H49)
                      (J_17 ((), s_16.2) H48))
                    (J_17 ((), s_16.2) H16))
                  (J_17 ((), s_16.2) H16))
                (J_17 ((), s_16.2) H16)))
            (fun J_16 =>
            BinP .eql t_15 (.int .i64 2) fun t_50 =>
            SplitP t_50
              (CallH P f_slices_reverseRangeOrdered_string [a0_data, s_1.1.1, s_1.1.2.1] H13 fun t_51 H52 =>
              BinP .sub s_1.1.2.1 (.int .i64 1) fun t_53 =>
              BinP .sub t_14 s_1.1.1 fun t_54 =>
              BinP .sub t_53 t_54 fun t_55 =>
              J_16 ((t_55, (.int .i64 1)), s_11.2) H52)
              (J_16 ((t_14, t_15), s_11.2) H13)))
          (fun J_11 =>
          UnP .not s_1.1.2.2.2.1 fun t_56 =>
          SplitP t_56
            (CallH P f_slices_breakPatternsOrdered_string [a0_data, s_1.1.1, s_1.1.2.1] H1 fun t_57 H58 =>
            BinP .sub s_1.1.2.2.1 (.int .i64 1) fun t_59 =>
            J_11 (t_59, s_1.2) H58)
            (J_11 (s_1.1.2.2.1, s_1.2) H1)))))
    ((a1_a, a2_b, a3_limit, (.bool true), (.bool true)), []) H

def a_slices_pdqsortOrdered_string : Ann := [(4, [1, 2, 3, 8, 9], [10, 11, 12, 13, 14, 15, 16, 17, 18, 19, 20, 21, 22, 23, 24, 25, 26, 27, 28, 29, 30, 31, 32, 33, 34, 35, 36, 37, 38, 39, 40, 41, 42, 43, 44, 45, 46, 47, 48, 49, 50, 51, 52, 53, 54, 55, 56, 57, 58, 59, 60, 61, 62, 63, 64, 65, 66, 67, 68, 69, 70, 71, 72, 73, 74, 75, 76, 77, 78, 79, 80, 81, 82, 83, 84, 85, 86, 87, 88, 89, 90, 91, 92, 93, 94, 95, 96, 97, 98, 99, 100, 101, 102, 103, 104, 105, 106, 107, 108, 109, 110, 111, 112, 113, 114, 115, 116, 117, 118, 119, 120, 121, 122, 123, 124, 125, 126, 127, 128, 129, 130, 131, 132, 133]), (21, [3], [34, 35, 36, 37, 38, 39, 40, 41]), (31, [11, 12], [49, 50, 51, 52, 53, 54, 55, 56, 57, 58, 59, 60]), (35, [], [61, 62, 63, 64, 65, 66, 67, 68, 69, 70, 71, 72]), (37, [87], [73, 74, 75, 76, 77, 78, 79, 80, 81, 82, 83, 84, 85, 86])]

theorem e_slices_pdqsortOrdered_string (a0_data : Value) (a1_a : Value) (a2_b : Value) (a3_limit : Value) (H : Heap) (K : Value → Heap → Prop) : bodyX P a_slices_pdqsortOrdered_string (bodyOf Tryz.f106) Tryz.f106.results.toList [a0_data, a1_a, a2_b, a3_limit] H K = c_slices_pdqsortOrdered_string a0_data a1_a a2_b a3_limit H K := by kernel_rfl

theorem ok_slices_pdqsortOrdered_string : okFn P a_slices_pdqsortOrdered_string Tryz.f106 4 = true := by kernel_rfl
theorem k_slices_pdqsortOrdered_string {a0_data a1_a a2_b a3_limit : Value} {H : Heap} {K : Value → Heap → Prop} (h : c_slices_pdqsortOrdered_string a0_data a1_a a2_b a3_limit H K) : CallH P f_slices_pdqsortOrdered_string [a0_data, a1_a, a2_b, a3_limit] H K :=
  call_of_bodyX Tryz.func106 ok_slices_pdqsortOrdered_string ((e_slices_pdqsortOrdered_string a0_data a1_a a2_b a3_limit H K).mpr h)

/-- math/bits.Len -/
def c_math_bits_Len (a0_x : Value) (H : Heap) (K : Value → Heap → Prop) : Prop :=
  CallH P f_math_bits_Len64 [a0_x] H fun t_1 H2 =>
  K t_1 H2

def a_math_bits_Len : Ann := []

theorem e_math_bits_Len (a0_x : Value) (H : Heap) (K : Value → Heap → Prop) : bodyX P a_math_bits_Len (bodyOf Tryz.f107) Tryz.f107.results.toList [a0_x] H K = c_math_bits_Len a0_x H K := by kernel_rfl

theorem ok_math_bits_Len : okFn P a_math_bits_Len Tryz.f107 1 = true := by kernel_rfl
theorem k_math_bits_Len {a0_x : Value} {H : Heap} {K : Value → Heap → Prop} (h : c_math_bits_Len a0_x H K) : CallH P f_math_bits_Len [a0_x] H K :=
  call_of_bodyX Tryz.func107 ok_math_bits_Len ((e_math_bits_Len a0_x H K).mpr h)

/-- slices.Backward[[]*palio/skip.node,*palio/skip.node] -/
def c_slices_Backward_s_p_skip_node_p_skip_node (a0_s : Value) (H : Heap) (K : Value → Heap → Prop) : Prop :=
  BoxP none T_s_p_skip_node a0_s H fun s_1 H2 =>
  K (.func (.func f_slices_Backward_s_p_skip_node_p_skip_node_1) #[] #[s_1]) H2

def a_slices_Backward_s_p_skip_node_p_skip_node : Ann := []

theorem e_slices_Backward_s_p_skip_node_p_skip_node (a0_s : Value) (H : Heap) (K : Value → Heap → Prop) : bodyX P a_slices_Backward_s_p_skip_node_p_skip_node (bodyOf Tryz.f108) Tryz.f108.results.toList [a0_s] H K = c_slices_Backward_s_p_skip_node_p_skip_node a0_s H K := by kernel_rfl

theorem ok_slices_Backward_s_p_skip_node_p_skip_node : okFn P a_slices_Backward_s_p_skip_node_p_skip_node Tryz.f108 1 = true := by kernel_rfl
theorem k_slices_Backward_s_p_skip_node_p_skip_node {a0_s : Value} {H : Heap} {K : Value → Heap → Prop} (h : c_slices_Backward_s_p_skip_node_p_skip_node a0_s H K) : CallH P f_slices_Backward_s_p_skip_node_p_skip_node [a0_s] H K :=
  call_of_bodyX Tryz.func108 ok_slices_Backward_s_p_skip_node_p_skip_node ((e_slices_Backward_s_p_skip_node_p_skip_node a0_s H K).mpr h)

/-- palio/hash.sizes -/
def c_hash_sizes (H : Heap) (K : Value → Heap → Prop) : Prop :=
  K (.func (.func f_hash_sizes_1) #[] #[]) H

def a_hash_sizes : Ann := []

theorem e_hash_sizes (H : Heap) (K : Value → Heap → Prop) : bodyX P a_hash_sizes (bodyOf Tryz.f109) Tryz.f109.results.toList [] H K = c_hash_sizes H K := by kernel_rfl

theorem ok_hash_sizes : okFn P a_hash_sizes Tryz.f109 0 = true := by kernel_rfl
theorem k_hash_sizes {H : Heap} {K : Value → Heap → Prop} (h : c_hash_sizes H K) : CallH P f_hash_sizes [] H K :=
  call_of_bodyX Tryz.func109 ok_hash_sizes ((e_hash_sizes H K).mpr h)

/-- palio/hash.each -/
def c_hash_each (a0_s : Value) (H : Heap) (K : Value → Heap → Prop) : Prop :=
  BoxP none T_string a0_s H fun s_1 H2 =>
  K (.func (.func f_hash_each_1) #[] #[s_1]) H2

def a_hash_each : Ann := []

theorem e_hash_each (a0_s : Value) (H : Heap) (K : Value → Heap → Prop) : bodyX P a_hash_each (bodyOf Tryz.f110) Tryz.f110.results.toList [a0_s] H K = c_hash_each a0_s H K := by kernel_rfl

theorem ok_hash_each : okFn P a_hash_each Tryz.f110 1 = true := by kernel_rfl
theorem k_hash_each {a0_s : Value} {H : Heap} {K : Value → Heap → Prop} (h : c_hash_each a0_s H K) : CallH P f_hash_each [a0_s] H K :=
  call_of_bodyX Tryz.func110 ok_hash_each ((e_hash_each a0_s H K).mpr h)

/-- palio/hash.mixed -/
def c_hash_mixed (a0_h : Value) (a1_l : Value) (H : Heap) (K : Value → Heap → Prop) : Prop :=
  LenP a1_l fun t_1 =>
  LoopP (S := (Value × Value) × List Deferred) (G := Tup 9)
    (fun s_2 g_2 self_2 H2 =>
    BinP .lss s_2.1.2 t_1 fun t_3 =>
    SplitP t_3
      (IdxSliceP 1 a1_l s_2.1.2 fun t_4 =>
      LoadP none H2 t_4 fun t_5 =>
      BinP .xor s_2.1.1 t_5 fun t_6 =>
      BinP .mul t_6 (.int .u32 16777619) fun t_7 =>
      BinP .add s_2.1.2 (.int .i64 1) fun t_8 =>
      self_2 ((t_7, t_8), s_2.2) H2)
      (RetP s_2.2 H2 fun H9 =>
      K s_2.1.1 H9))
    ((a0_h, (.int .i64 0)), []) H

def a_hash_mixed : Ann := [(4, [0, 9], [6, 10, 11, 12, 13, 14, 15, 16, 17])]

theorem e_hash_mixed (a0_h : Value) (a1_l : Value) (H : Heap) (K : Value → Heap → Prop) : bodyX P a_hash_mixed (bodyOf Tryz.f111) Tryz.f111.results.toList [a0_h, a1_l] H K = c_hash_mixed a0_h a1_l H K := by kernel_rfl

theorem ok_hash_mixed : okFn P a_hash_mixed Tryz.f111 2 = true := by kernel_rfl
theorem k_hash_mixed {a0_h a1_l : Value} {H : Heap} {K : Value → Heap → Prop} (h : c_hash_mixed a0_h a1_l H K) : CallH P f_hash_mixed [a0_h, a1_l] H K :=
  call_of_bodyX Tryz.func111 ok_hash_mixed ((e_hash_mixed a0_h a1_l H K).mpr h)

/-- slices.insertionSortOrdered[string] -/
def c_slices_insertionSortOrdered_string (a0_data : Value) (a1_a : Value) (a2_b : Value) (H : Heap) (K : Value → Heap → Prop) : Prop :=
  BinP .add a1_a (.int .i64 1) fun t_1 =>
  LoopP (S := (Value) × List Deferred) (G := Tup 40)
    (fun s_2 g_2 self_2 H2 =>
    BinP .lss s_2.1 a2_b fun t_3 =>
    SplitP t_3
      (LoopP (S := (Value) × List Deferred) (G := Tup 33)
        (fun s_4 g_4 self_4 H4 =>
        BinP .gtr s_4.1 a1_a fun t_5 =>
        SplitP t_5
          (IdxSliceP 1 a0_data s_4.1 fun t_6 =>
          LoadP none H4 t_6 fun t_7 =>
          BinP .sub s_4.1 (.int .i64 1) fun t_8 =>
          IdxSliceP 1 a0_data t_8 fun t_9 =>
          LoadP none H4 t_9 fun t_10 =>
          CallH P f_cmp_Less_string [t_7, t_10] H4 fun t_11 H12 =>
          SplitP t_11
            (BinP .sub s_4.1 (.int .i64 1) fun t_13 =>
            BinP .sub s_4.1 (.int .i64 1) fun t_14 =>
            IdxSliceP 1 a0_data t_14 fun t_15 =>
            LoadP none H12 t_15 fun t_16 =>
            IdxSliceP 1 a0_data s_4.1 fun t_17 =>
            LoadP none H12 t_17 fun t_18 =>
            IdxSliceP 1 a0_data s_4.1 fun t_19 =>
            StoreP none H12 t_19 t_16 fun H20 =>
            IdxSliceP 1 a0_data t_13 fun t_21 =>
            StoreP none H20 t_21 t_18 fun H22 =>
            BinP .sub s_4.1 (.int .i64 1) fun t_23 =>
            self_4 (t_23, s_4.2) H22)
            (BinP .add s_2.1 (.int .i64 1) fun t_24 =>
            self_2 (t_24, s_4.2) H12))
          (BinP .add s_2.1 (.int .i64 1) fun t_25 =>
          self_2 (t_25, s_4.2) H4))
        (s_2.1, s_2.2) H2)
      (RetP s_2.2 H2 fun H26 =>
      K (.tuple #[]) H26))
    (t_1, []) H

def a_slices_insertionSortOrdered_string : Ann := [(2, [6], [7, 10, 11, 12, 13, 14, 15, 16, 17, 18, 19, 20, 21, 22, 23, 24, 25, 26, 27, 28, 29, 30, 31, 32, 33, 34, 35, 36, 37, 38, 39, 40, 41, 42, 43, 44, 45, 46, 47, 48]), (8, [7], [16, 17, 18, 19, 20, 21, 22, 23, 24, 25, 26, 27, 28, 29, 30, 31, 32, 33, 34, 35, 36, 37, 38, 39, 40, 41, 42, 43, 44, 45, 46, 47, 48])]

theorem e_slices_insertionSortOrdered_string (a0_data : Value) (a1_a : Value) (a2_b : Value) (H : Heap) (K : Value → Heap → Prop) : bodyX P a_slices_insertionSortOrdered_string (bodyOf Tryz.f112) Tryz.f112.results.toList [a0_data, a1_a, a2_b] H K = c_slices_insertionSortOrdered_string a0_data a1_a a2_b H K := by kernel_rfl

theorem ok_slices_insertionSortOrdered_string : okFn P a_slices_insertionSortOrdered_string Tryz.f112 3 = true := by kernel_rfl
theorem k_slices_insertionSortOrdered_string {a0_data a1_a a2_b : Value} {H : Heap} {K : Value → Heap → Prop} (h : c_slices_insertionSortOrdered_string a0_data a1_a a2_b H K) : CallH P f_slices_insertionSortOrdered_string [a0_data, a1_a, a2_b] H K :=
  call_of_bodyX Tryz.func112 ok_slices_insertionSortOrdered_string ((e_slices_insertionSortOrdered_string a0_data a1_a a2_b H K).mpr h)

/-- slices.heapSortOrdered[string] -/
def c_slices_heapSortOrdered_string (a0_data : Value) (a1_a : Value) (a2_b : Value) (H : Heap) (K : Value → Heap → Prop) : Prop :=
  BinP .sub a2_b a1_a fun t_1 =>
  BinP .sub t_1 (.int .i64 1) fun t_2 =>
  BinP .quo t_2 (.int .i64 2) fun t_3 =>
  LoopP (S := (Value) × List Deferred) (G := Tup 9)
    (fun s_4 g_4 self_4 H4 =>
    BinP .geq s_4.1 (.int .i64 0) fun t_5 =>
    SplitP t_5
      (CallH P f_slices_siftDownOrdered_string [a0_data, s_4.1, t_1, a1_a] H4 fun t_6 H7 =>
      BinP .sub s_4.1 (.int .i64 1) fun t_8 =>
      self_4 (t_8, s_4.2) H7)
      (BinP .sub t_1 (.int .i64 1) fun t_9 =>
      LoopP (S := (Value) × List Deferred) (G := Tup 27)
        (fun s_10 g_10 self_10 H10 =>
        BinP .geq s_10.1 (.int .i64 0) fun t_11 =>
        SplitP t_11
          (BinP .add a1_a s_10.1 fun t_12 =>
          BinP .add a1_a s_10.1 fun t_13 =>
          IdxSliceP 1 a0_data t_13 fun t_14 =>
          LoadP none H10 t_14 fun t_15 =>
          IdxSliceP 1 a0_data a1_a fun t_16 =>
          LoadP none H10 t_16 fun t_17 =>
          IdxSliceP 1 a0_data a1_a fun t_18 =>
          StoreP none H10 t_18 t_15 fun H19 =>
          IdxSliceP 1 a0_data t_12 fun t_20 =>
          StoreP none H19 t_20 t_17 fun H21 =>
          CallH P f_slices_siftDownOrdered_string [a0_data, (.int .i64 0), s_10.1, a1_a] H21 fun t_22 H23 =>
          BinP .sub s_10.1 (.int .i64 1) fun t_24 =>
          self_10 (t_24, s_10.2) H23)
          (RetP s_10.2 H10 fun H25 =>
          K (.tuple #[]) H25))
        (t_9, s_4.2) H4))
    (t_3, []) H

def a_slices_heapSortOrdered_string : Ann := [(8, [9], [18, 19, 20, 21, 22, 23, 24, 25, 26]), (16, [10], [29, 30, 31, 32, 33, 34, 35, 36, 37, 38, 39, 40, 41, 42, 43, 44, 45, 46, 47, 48, 49, 50, 51, 52, 53, 54, 55])]

theorem e_slices_heapSortOrdered_string (a0_data : Value) (a1_a : Value) (a2_b : Value) (H : Heap) (K : Value → Heap → Prop) : bodyX P a_slices_heapSortOrdered_string (bodyOf Tryz.f113) Tryz.f113.results.toList [a0_data, a1_a, a2_b] H K = c_slices_heapSortOrdered_string a0_data a1_a a2_b H K := by kernel_rfl

theorem ok_slices_heapSortOrdered_string : okFn P a_slices_heapSortOrdered_string Tryz.f113 3 = true := by kernel_rfl
theorem k_slices_heapSortOrdered_string {a0_data a1_a a2_b : Value} {H : Heap} {K : Value → Heap → Prop} (h : c_slices_heapSortOrdered_string a0_data a1_a a2_b H K) : CallH P f_slices_heapSortOrdered_string [a0_data, a1_a, a2_b] H K :=
  call_of_bodyX Tryz.func113 ok_slices_heapSortOrdered_string ((e_slices_heapSortOrdered_string a0_data a1_a a2_b H K).mpr h)

/-- slices.breakPatternsOrdered[string] -/
def c_slices_breakPatternsOrdered_string (a0_data : Value) (a1_a : Value) (a2_b : Value) (H : Heap) (K : Value → Heap → Prop) : Prop :=
  BinP .sub a2_b a1_a fun t_1 =>
  BinP .geq t_1 (.int .i64 8) fun t_2 =>
  SplitP t_2
    (ConvIntP .u64 t_1 fun t_3 =>
    AllocP #[(.int .u64 0)] T_slices_xorshift H fun random_4 H5 =>
    StoreP none H5 random_4 t_3 fun H6 =>
    CallH P f_slices_nextPowerOfTwo [t_1] H6 fun t_7 H8 =>
    BinP .quo t_1 (.int .i64 4) fun t_9 =>
    BinP .mul t_9 (.int .i64 2) fun t_10 =>
    BinP .add a1_a t_10 fun t_11 =>
    BinP .sub t_11 (.int .i64 1) fun t_12 =>
    LoopP (S := (Value) × List Deferred) (G := Tup 40)
      (fun s_13 g_13 self_13 H13 =>
      BinP .quo t_1 (.int .i64 4) fun t_14 =>
      BinP .mul t_14 (.int .i64 2) fun t_15 =>
      BinP .add a1_a t_15 fun t_16 =>
      BinP .add t_16 (.int .i64 1) fun t_17 =>
      BinP .leq s_13.1 t_17 fun t_18 =>
      SplitP t_18
        (CallH P f_slices_xorshift_Next [random_4] H13 fun t_19 H20 =>
        BinP .sub t_7 (.int .u64 1) fun t_21 =>
        BinP .and t_19 t_21 fun t_22 =>
        ConvIntP .i64 t_22 fun t_23 =>
        JoinP (S := (Value) × List Deferred) (G := Tup 6)
          (fun s_24 g_24 H24 =>
          BinP .add a1_a s_24.1 fun t_25 =>
          BinP .add a1_a s_24.1 fun t_26 =>
          IdxSliceP 1 a0_data t_26 fun t_27 =>
          LoadP none H24 t_27 fun t_28 =>
          IdxSliceP 1 a0_data s_13.1 fun t_29 =>
          LoadP none H24 t_29 fun t_30 =>
          IdxSliceP 1 a0_data s_13.1 fun t_31 =>
          StoreP none H24 t_31 t_28 fun H32 =>
          IdxSliceP 1 a0_data t_25 fun t_33 =>
          StoreP none H32 t_33 t_30 fun H34 =>
          BinP .add s_13.1 (.int .i64 1) fun t_35 =>
          self_13 (t_35, s_24.2) H34)
          (fun J_24 =>
          BinP .geq t_23 t_1 fun t_36 =>
          SplitP t_36
            (BinP .sub t_23 t_1 fun t_37 =>
            J_24 (t_37, s_13.2) H20)
            (J_24 (t_23, s_13.2) H20)))
        (RetP s_13.2 H13 fun H38 =>
        K (.tuple #[]) H38))
      (t_12, []) H8)
    (K (.tuple #[]) H)

def a_slices_breakPatternsOrdered_string : Ann := [(10, [9], [10, 26, 27, 28, 29, 30, 31, 32, 33, 34, 35, 36, 37, 38, 39, 40, 41, 42, 43, 44, 45, 46, 47, 48, 49, 50, 51, 52, 53, 54, 55, 56, 57, 58, 59, 60, 61, 62, 63, 64]), (21, [10], [41, 42, 43, 44, 45, 46])]

theorem e_slices_breakPatternsOrdered_string (a0_data : Value) (a1_a : Value) (a2_b : Value) (H : Heap) (K : Value → Heap → Prop) : bodyX P a_slices_breakPatternsOrdered_string (bodyOf Tryz.f114) Tryz.f114.results.toList [a0_data, a1_a, a2_b] H K = c_slices_breakPatternsOrdered_string a0_data a1_a a2_b H K := by kernel_rfl

theorem ok_slices_breakPatternsOrdered_string : okFn P a_slices_breakPatternsOrdered_string Tryz.f114 3 = true := by kernel_rfl
theorem k_slices_breakPatternsOrdered_string {a0_data a1_a a2_b : Value} {H : Heap} {K : Value → Heap → Prop} (h : c_slices_breakPatternsOrdered_string a0_data a1_a a2_b H K) : CallH P f_slices_breakPatternsOrdered_string [a0_data, a1_a, a2_b] H K :=
  call_of_bodyX Tryz.func114 ok_slices_breakPatternsOrdered_string ((e_slices_breakPatternsOrdered_string a0_data a1_a a2_b H K).mpr h)

/-- slices.choosePivotOrdered[string] -/
def c_slices_choosePivotOrdered_string (a0_data : Value) (a1_a : Value) (a2_b : Value) (H : Heap) (K : Value → Heap → Prop) : Prop :=
  BinP .sub a2_b a1_a fun t_1 =>
  AllocP #[(.int .i64 0)] T_int H fun swaps_2 H3 =>
  BinP .quo t_1 (.int .i64 4) fun t_4 =>
  BinP .mul t_4 (.int .i64 1) fun t_5 =>
  BinP .add a1_a t_5 fun t_6 =>
  BinP .quo t_1 (.int .i64 4) fun t_7 =>
  BinP .mul t_7 (.int .i64 2) fun t_8 =>
  BinP .add a1_a t_8 fun t_9 =>
  BinP .quo t_1 (.int .i64 4) fun t_10 =>
  BinP .mul t_10 (.int .i64 3) fun t_11 =>
  BinP .add a1_a t_11 fun t_12 =>
  JoinP (S := (Value) × List Deferred) (G := Tup 20)
    (fun s_13 g_13 H13 =>
    LoadP none H13 swaps_2 fun t_14 =>
    BinP .eql t_14 (.int .i64 0) fun t_15 =>
    SplitP t_15
      (RetP s_13.2 H13 fun H16 =>
      K (.tuple #[s_13.1, (.int .i64 1)]) H16)
      (BinP .eql t_14 (.int .i64 12) fun t_17 =>
      SplitP t_17
        (RetP s_13.2 H13 fun H18 =>
        K (.tuple #[s_13.1, (.int .i64 2)]) H18)
        (RetP s_13.2 H13 fun H19 =>
        K (.tuple #[s_13.1, (.int .i64 0)]) H19)))
    (fun J_13 =>
    BinP .geq t_1 (.int .i64 8) fun t_20 =>
    SplitP t_20
      (JoinP (S := (Value × Value × Value) × List Deferred) (G := Tup 11)
        (fun s_21 g_21 H21 =>
        CallH P f_slices_medianOrdered_string [a0_data, s_21.1.1, s_21.1.2.1, s_21.1.2.2, swaps_2] H21 fun t_22 H23 =>
        J_13 (t_22, s_21.2) H23)
        (fun J_21 =>
        BinP .geq t_1 (.int .i64 50) fun t_24 =>
        SplitP t_24
          (CallH P f_slices_medianAdjacentOrdered_string [a0_data, t_6, swaps_2] H3 fun t_25 H26 =>
          CallH P f_slices_medianAdjacentOrdered_string [a0_data, t_9, swaps_2] H26 fun t_27 H28 =>
          CallH P f_slices_medianAdjacentOrdered_string [a0_data, t_12, swaps_2] H28 fun t_29 H30 =>
          J_21 ((t_25, t_27, t_29), []) H30)
          (J_21 ((t_6, t_9, t_12), []) H3)))
      (J_13 (t_9, []) H3))

def a_slices_choosePivotOrdered_string : Ann := [(23, [10, 11, 12], [33, 34, 35, 36, 37, 38, 39, 40, 41, 42, 43]), (25, [11], [10, 12, 31, 32, 33, 34, 35, 36, 37, 38, 39, 40, 41, 42, 43, 44, 45, 46, 47, 48])]

theorem e_slices_choosePivotOrdered_string (a0_data : Value) (a1_a : Value) (a2_b : Value) (H : Heap) (K : Value → Heap → Prop) : bodyX P a_slices_choosePivotOrdered_string (bodyOf Tryz.f115) Tryz.f115.results.toList [a0_data, a1_a, a2_b] H K = c_slices_choosePivotOrdered_string a0_data a1_a a2_b H K := by kernel_rfl

theorem ok_slices_choosePivotOrdered_string : okFn P a_slices_choosePivotOrdered_string Tryz.f115 3 = true := by kernel_rfl
theorem k_slices_choosePivotOrdered_string {a0_data a1_a a2_b : Value} {H : Heap} {K : Value → Heap → Prop} (h : c_slices_choosePivotOrdered_string a0_data a1_a a2_b H K) : CallH P f_slices_choosePivotOrdered_string [a0_data, a1_a, a2_b] H K :=
  call_of_bodyX Tryz.func115 ok_slices_choosePivotOrdered_string ((e_slices_choosePivotOrdered_string a0_data a1_a a2_b H K).mpr h)

/-- slices.reverseRangeOrdered[string] -/
def c_slices_reverseRangeOrdered_string (a0_data : Value) (a1_a : Value) (a2_b : Value) (H : Heap) (K : Value → Heap → Prop) : Prop :=
  BinP .sub a2_b (.int .i64 1) fun t_1 =>
  LoopP (S := (Value × Value) × List Deferred) (G := Tup 21)
    (fun s_2 g_2 self_2 H2 =>
    BinP .lss s_2.1.1 s_2.1.2 fun t_3 =>
    SplitP t_3
      (IdxSliceP 1 a0_data s_2.1.2 fun t_4 =>
      LoadP none H2 t_4 fun t_5 =>
      IdxSliceP 1 a0_data s_2.1.1 fun t_6 =>
      LoadP none H2 t_6 fun t_7 =>
      IdxSliceP 1 a0_data s_2.1.1 fun t_8 =>
      StoreP none H2 t_8 t_5 fun H9 =>
      IdxSliceP 1 a0_data s_2.1.2 fun t_10 =>
      StoreP none H9 t_10 t_7 fun H11 =>
      BinP .add s_2.1.1 (.int .i64 1) fun t_12 =>
      BinP .sub s_2.1.2 (.int .i64 1) fun t_13 =>
      self_2 ((t_12, t_13), s_2.2) H11)
      (RetP s_2.2 H2 fun H14 =>
      K (.tuple #[]) H14))
    ((a1_a, t_1), []) H

def a_slices_reverseRangeOrdered_string : Ann := [(4, [6, 7], [11, 12, 13, 14, 15, 16, 17, 18, 19, 20, 21, 22, 23, 24, 25, 26, 27, 28, 29, 30, 31])]

theorem e_slices_reverseRangeOrdered_string (a0_data : Value) (a1_a : Value) (a2_b : Value) (H : Heap) (K : Value → Heap → Prop) : bodyX P a_slices_reverseRangeOrdered_string (bodyOf Tryz.f116) Tryz.f116.results.toList [a0_data, a1_a, a2_b] H K = c_slices_reverseRangeOrdered_string a0_data a1_a a2_b H K := by kernel_rfl

theorem ok_slices_reverseRangeOrdered_string : okFn P a_slices_reverseRangeOrdered_string Tryz.f116 3 = true := by kernel_rfl
theorem k_slices_reverseRangeOrdered_string {a0_data a1_a a2_b : Value} {H : Heap} {K : Value → Heap → Prop} (h : c_slices_reverseRangeOrdered_string a0_data a1_a a2_b H K) : CallH P f_slices_reverseRangeOrdered_string [a0_data, a1_a, a2_b] H K :=
  call_of_bodyX Tryz.func116 ok_slices_reverseRangeOrdered_string ((e_slices_reverseRangeOrdered_string a0_data a1_a a2_b H K).mpr h)

/-- slices.partialInsertionSortOrdered[string] -/
def c_slices_partialInsertionSortOrdered_string (a0_data : Value) (a1_a : Value) (a2_b : Value) (H : Heap) (K : Value → Heap → Prop) : Prop :=
  BinP .add a1_a (.int .i64 1) fun t_1 =>
  LoopP (S := (Value × Value) × List Deferred) (G := Tup 123)
    (fun s_2 g_2 self_2 H2 =>
    BinP .lss s_2.1.2 (.int .i64 5) fun t_3 =>
    SplitP t_3
      (JoinP (S := (Value) × List Deferred) (G := Tup 18)
        (fun s_4 g_4 H4 =>
        BinP .eql s_4.1 a2_b fun t_5 =>
        SplitP t_5
          (RetP s_4.2 H4 fun H6 =>
          K (.bool true) H6)
          (BinP .sub a2_b a1_a fun t_7 =>
          BinP .lss t_7 (.int .i64 50) fun t_8 =>
          SplitP t_8
            (RetP s_4.2 H4 fun H9 =>
            K (.bool false) H9)
            (BinP .sub s_4.1 (.int .i64 1) fun t_10 =>
            BinP .sub s_4.1 (.int .i64 1) fun t_11 =>
            IdxSliceP 1 a0_data t_11 fun t_12 =>
            LoadP none H4 t_12 fun t_13 =>
            IdxSliceP 1 a0_data s_4.1 fun t_14 =>
            LoadP none H4 t_14 fun t_15 =>
            IdxSliceP 1 a0_data s_4.1 fun t_16 =>
            StoreP none H4 t_16 t_13 fun H17 =>
            IdxSliceP 1 a0_data t_10 fun t_18 =>
            StoreP none H17 t_18 t_15 fun H19 =>
            JoinP (S := (Unit) × List Deferred) (G := Tup 38)
              (fun s_20 g_20 H20 =>
              BinP .sub a2_b s_4.1 fun t_21 =>
              BinP .geq t_21 (.int .i64 2) fun t_22 =>
              SplitP t_22
                (BinP .add s_4.1 (.int .i64 1) fun t_23 =>
                LoopP (S := (Value) × List Deferred) (G := Tup 32)
                  (fun s_24 g_24 self_24 H24 =>
                  BinP .lss s_24.1 a2_b fun t_25 =>
                  SplitP t_25
                    (IdxSliceP 1 a0_data s_24.1 fun t_26 =>
                    LoadP none H24 t_26 fun t_27 =>
                    BinP .sub s_24.1 (.int .i64 1) fun t_28 =>
                    IdxSliceP 1 a0_data t_28 fun t_29 =>
                    LoadP none H24 t_29 fun t_30 =>
                    CallH P f_cmp_Less_string [t_27, t_30] H24 fun t_31 H32 =>
                    UnP .not t_31 fun t_33 =>
                    SplitP t_33
                      (BinP .add s_2.1.2 (.int .i64 1) fun t_34 =>
                      self_2 ((s_4.1, t_34), s_24.2) H32)
                      (BinP .sub s_24.1 (.int .i64 1) fun t_35 =>
                      BinP .sub s_24.1 (.int .i64 1) fun t_36 =>
                      IdxSliceP 1 a0_data t_36 fun t_37 =>
                      LoadP none H32 t_37 fun t_38 =>
                      IdxSliceP 1 a0_data s_24.1 fun t_39 =>
                      LoadP none H32 t_39 fun t_40 =>
                      IdxSliceP 1 a0_data s_24.1 fun t_41 =>
                      StoreP none H32 t_41 t_38 fun H42 =>
                      IdxSliceP 1 a0_data t_35 fun t_43 =>
                      StoreP none H42 t_43 t_40 fun H44 =>
                      BinP .add s_24.1 (.int .i64 1) fun t_45 =>
                      self_24 (t_45, s_24.2) H44))
                    (BinP .add s_2.1.2 (.int .i64 1) fun t_46 =>
                    self_2 ((s_4.1, t_46), s_24.2) H24))
                  (t_23, s_20.2) H20)
                (BinP .add s_2.1.2 (.int .i64 1) fun t_47 =>
                self_2 ((s_4.1, t_47), s_20.2) H20))
              (fun J_20 =>
              BinP .sub s_4.1 a1_a fun t_48 =>
              BinP .geq t_48 (.int .i64 2) fun t_49 =>
              SplitP t_49
                (BinP .sub s_4.1 (.int .i64 1) fun t_50 =>
                LoopP (S := (Value) × List Deferred) (G := Tup 31)
                  (fun s_51 g_51 self_51 H51 =>
                  BinP .geq s_51.1 (.int .i64 1) fun t_52 =>
                  SplitP t_52
                    (IdxSliceP 1 a0_data s_51.1 fun t_53 =>
                    LoadP none H51 t_53 fun t_54 =>
                    BinP .sub s_51.1 (.int .i64 1) fun t_55 =>
                    IdxSliceP 1 a0_data t_55 fun t_56 =>
                    LoadP none H51 t_56 fun t_57 =>
                    CallH P f_cmp_Less_string [t_54, t_57] H51 fun t_58 H59 =>
                    UnP .not t_58 fun t_60 =>
                    SplitP t_60
                      (J_20 ((), s_51.2) H59)
                      (BinP .sub s_51.1 (.int .i64 1) fun t_61 =>
                      BinP .sub s_51.1 (.int .i64 1) fun t_62 =>
                      IdxSliceP 1 a0_data t_62 fun t_63 =>
                      LoadP none H59 t_63 fun t_64 =>
                      IdxSliceP 1 a0_data s_51.1 fun t_65 =>
                      LoadP none H59 t_65 fun t_66 =>
                      IdxSliceP 1 a0_data s_51.1 fun t_67 =>
                      StoreP none H59 t_67 t_64 fun H68 =>
                      IdxSliceP 1 a0_data t_61 fun t_69 =>
                      StoreP none H68 t_69 t_66 fun H70 =>
                      BinP .sub s_51.1 (.int .i64 1) fun t_71 =>
                      self_51 (t_71, s_51.2) H70))
                    (J_20 ((), s_51.2) H51))
                  (t_50, s_4.2) H19)
                (J_20 ((), s_4.2) H19)))))
        (fun J_4 =>
        LoopP (S := (Value) × List Deferred) (G := Tup 18)
          (fun s_72 g_72 self_72 H72 =>
          BinP .lss s_72.1 a2_b fun t_73 =>
          SplitP t_73
            (IdxSliceP 1 a0_data s_72.1 fun t_74 =>
            LoadP none H72 t_74 fun t_75 =>
            BinP .sub s_72.1 (.int .i64 1) fun t_76 =>
            IdxSliceP 1 a0_data t_76 fun t_77 =>
            LoadP none H72 t_77 fun t_78 =>
            CallH P f_cmp_Less_string [t_75, t_78] H72 fun t_79 H80 =>
            UnP .not t_79 fun t_81 =>
            SplitP t_81
              (BinP .add s_72.1 (.int .i64 1) fun t_82 =>
              self_72 (t_82, s_72.2) H80)
              (J_4 (s_72.1, s_72.2) H80))
            (J_4 (s_72.1, s_72.2) H72))
          (s_2.1.1, s_2.2) H2))
      (RetP s_2.2 H2 fun H83 =>
      K (.bool false) H83))
    ((t_1, (.int .i64 0)), []) H

def a_slices_partialInsertionSortOrdered_string : Ann := [(6, [7, 8], [6, 9, 10, 13, 14, 15, 16, 17, 18, 19, 20, 21, 22, 23, 24, 25, 26, 27, 28, 29, 30, 31, 32, 33, 34, 35, 36, 37, 38, 39, 40, 41, 42, 43, 44, 45, 46, 47, 48, 49, 50, 51, 52, 53, 54, 55, 56, 57, 58, 59, 60, 61, 62, 63, 64, 65, 66, 67, 68, 69, 70, 71, 72, 73, 74, 75, 76, 77, 78, 79, 80, 81, 82, 83, 84, 85, 86, 87, 88, 89, 90, 91, 92, 93, 94, 95, 96, 97, 98, 99, 100, 101, 102, 103, 104, 105, 106, 107, 108, 109, 110, 111, 112, 113, 114, 115, 116, 117, 118, 119, 120, 121, 122, 123, 124, 125, 126, 127, 128, 129, 130, 131, 132]), (10, [7], [17, 18, 19, 20, 21, 22, 23, 24, 25, 26, 27, 28, 29, 30, 31, 32, 33, 34]), (15, [7], [17, 18, 19, 20, 21, 22, 23, 24, 25, 26, 27, 28, 29, 30, 31, 32, 33, 34]), (28, [9], [64, 65, 66, 67, 68, 69, 70, 71, 72, 73, 74, 75, 76, 77, 78, 79, 80, 81, 82, 83, 84, 85, 86, 87, 88, 89, 90, 91, 92, 93, 94]), (37, [], [9, 58, 59, 60, 61, 62, 63, 64, 65, 66, 67, 68, 69, 70, 71, 72, 73, 74, 75, 76, 77, 78, 79, 80, 81, 82, 83, 84, 85, 86, 87, 88, 89, 90, 91, 92, 93, 94]), (40, [10], [101, 102, 103, 104, 105, 106, 107, 108, 109, 110, 111, 112, 113, 114, 115, 116, 117, 118, 119, 120, 121, 122, 123, 124, 125, 126, 127, 128, 129, 130, 131, 132])]

theorem e_slices_partialInsertionSortOrdered_string (a0_data : Value) (a1_a : Value) (a2_b : Value) (H : Heap) (K : Value → Heap → Prop) : bodyX P a_slices_partialInsertionSortOrdered_string (bodyOf Tryz.f117) Tryz.f117.results.toList [a0_data, a1_a, a2_b] H K = c_slices_partialInsertionSortOrdered_string a0_data a1_a a2_b H K := by kernel_rfl

theorem ok_slices_partialInsertionSortOrdered_string : okFn P a_slices_partialInsertionSortOrdered_string Tryz.f117 3 = true := by kernel_rfl
theorem k_slices_partialInsertionSortOrdered_string {a0_data a1_a a2_b : Value} {H : Heap} {K : Value → Heap → Prop} (h : c_slices_partialInsertionSortOrdered_string a0_data a1_a a2_b H K) : CallH P f_slices_partialInsertionSortOrdered_string [a0_data, a1_a, a2_b] H K :=
  call_of_bodyX Tryz.func117 ok_slices_partialInsertionSortOrdered_string ((e_slices_partialInsertionSortOrdered_string a0_data a1_a a2_b H K).mpr h)

/-- cmp.Less[string] -/
def c_cmp_Less_string (a0_x : Value) (a1_y : Value) (H : Heap) (K : Value → Heap → Prop) : Prop :=
  CallH P f_cmp_isNaN_string [a0_x] H fun t_1 H2 =>
  SplitP t_1
    (CallH P f_cmp_isNaN_string [a1_y] H2 fun t_3 H4 =>
    UnP .not t_3 fun t_5 =>
    SplitP t_5
      (K (.bool true) H4)
      (BinP .lss a0_x a1_y fun t_6 =>
      K t_6 H4))
    (BinP .lss a0_x a1_y fun t_7 =>
    K t_7 H2)

def a_cmp_Less_string : Ann := []

theorem e_cmp_Less_string (a0_x : Value) (a1_y : Value) (H : Heap) (K : Value → Heap → Prop) : bodyX P a_cmp_Less_string (bodyOf Tryz.f118) Tryz.f118.results.toList [a0_x, a1_y] H K = c_cmp_Less_string a0_x a1_y H K := by kernel_rfl

theorem ok_cmp_Less_string : okFn P a_cmp_Less_string Tryz.f118 2 = true := by kernel_rfl
theorem k_cmp_Less_string {a0_x a1_y : Value} {H : Heap} {K : Value → Heap → Prop} (h : c_cmp_Less_string a0_x a1_y H K) : CallH P f_cmp_Less_string [a0_x, a1_y] H K :=
  call_of_bodyX Tryz.func118 ok_cmp_Less_string ((e_cmp_Less_string a0_x a1_y H K).mpr h)

/-- slices.partitionEqualOrdered[string] -/
def c_slices_partitionEqualOrdered_string (a0_data : Value) (a1_a : Value) (a2_b : Value) (a3_pivot : Value) (H : Heap) (K : Value → Heap → Prop) : Prop :=
  IdxSliceP 1 a0_data a3_pivot fun t_1 =>
  LoadP none H t_1 fun t_2 =>
  IdxSliceP 1 a0_data a1_a fun t_3 =>
  LoadP none H t_3 fun t_4 =>
  IdxSliceP 1 a0_data a1_a fun t_5 =>
  StoreP none H t_5 t_2 fun H6 =>
  IdxSliceP 1 a0_data a3_pivot fun t_7 =>
  StoreP none H6 t_7 t_4 fun H8 =>
  BinP .add a1_a (.int .i64 1) fun t_9 =>
  BinP .sub a2_b (.int .i64 1) fun t_10 =>
  LoopP (S := (Value × Value) × List Deferred) (G := Tup 54)
    (fun s_11 g_11 self_11 H11 =>
    JoinP (S := (Value) × List Deferred) (G := Tup 17)
      (fun s_12 g_12 H12 =>
      JoinP (S := (Value) × List Deferred) (G := Tup 16)
        (fun s_13 g_13 H13 =>
        BinP .gtr s_12.1 s_13.1 fun t_14 =>
        SplitP t_14
          (RetP s_13.2 H13 fun H15 =>
          K s_12.1 H15)
          (IdxSliceP 1 a0_data s_13.1 fun t_16 =>
          LoadP none H13 t_16 fun t_17 =>
          IdxSliceP 1 a0_data s_12.1 fun t_18 =>
          LoadP none H13 t_18 fun t_19 =>
          IdxSliceP 1 a0_data s_12.1 fun t_20 =>
          StoreP none H13 t_20 t_17 fun H21 =>
          IdxSliceP 1 a0_data s_13.1 fun t_22 =>
          StoreP none H21 t_22 t_19 fun H23 =>
          BinP .add s_12.1 (.int .i64 1) fun t_24 =>
          BinP .sub s_13.1 (.int .i64 1) fun t_25 =>
          self_11 ((t_24, t_25), s_13.2) H23))
        (fun J_13 =>
        LoopP (S := (Value) × List Deferred) (G := Tup 16)
          (fun s_26 g_26 self_26 H26 =>
          BinP .leq s_12.1 s_26.1 fun t_27 =>
          SplitP t_27
            (IdxSliceP 1 a0_data a1_a fun t_28 =>
            LoadP none H26 t_28 fun t_29 =>
            IdxSliceP 1 a0_data s_26.1 fun t_30 =>
            LoadP none H26 t_30 fun t_31 =>
            CallH P f_cmp_Less_string [t_29, t_31] H26 fun t_32 H33 =>
            SplitP t_32
              (BinP .sub s_26.1 (.int .i64 1) fun t_34 =>
              self_26 (t_34, s_26.2) H33)
              (J_13 (s_26.1, s_26.2) H33))
            (J_13 (s_26.1, s_26.2) H26))
          (s_11.1.2, s_12.2) H12))
      (fun J_12 =>
      LoopP (S := (Value) × List Deferred) (G := Tup 17)
        (fun s_35 g_35 self_35 H35 =>
        BinP .leq s_35.1 s_11.1.2 fun t_36 =>
        SplitP t_36
          (IdxSliceP 1 a0_data a1_a fun t_37 =>
          LoadP none H35 t_37 fun t_38 =>
          IdxSliceP 1 a0_data s_35.1 fun t_39 =>
          LoadP none H35 t_39 fun t_40 =>
          CallH P f_cmp_Less_string [t_38, t_40] H35 fun t_41 H42 =>
          UnP .not t_41 fun t_43 =>
          SplitP t_43
            (BinP .add s_35.1 (.int .i64 1) fun t_44 =>
            self_35 (t_44, s_35.2) H42)
            (J_12 (s_35.1, s_35.2) H42))
          (J_12 (s_35.1, s_35.2) H35))
        (s_11.1.1, s_11.2) H11))
    ((t_9, t_10), []) H8

def a_slices_partitionEqualOrdered_string : Ann := [(6, [9], [29, 30, 31, 32, 33, 34, 35, 36, 37, 38, 39, 40, 41, 42, 43, 44, 45]), (10, [10], [46, 47, 48, 49, 50, 51, 52, 53, 54, 55, 56, 57, 58, 59, 60, 61]), (15, [10], [46, 47, 48, 49, 50, 51, 52, 53, 54, 55, 56, 57, 58, 59, 60, 61]), (200006, [9, 10], [29, 30, 31, 32, 33, 34, 35, 36, 37, 38, 39, 40, 41, 42, 43, 44, 45, 46, 47, 48, 49, 50, 51, 52, 53, 54, 55, 56, 57, 58, 59, 60, 61, 62, 63, 64, 65, 66, 67, 68, 69, 70, 71, 72, 73, 74, 75, 76, 77, 78, 79, 80, 81, 82]), (200011, [9], [29, 30, 31, 32, 33, 34, 35, 36, 37, 38, 39, 40, 41, 42, 43, 44, 45])]

theorem e_slices_partitionEqualOrdered_string (a0_data : Value) (a1_a : Value) (a2_b : Value) (a3_pivot : Value) (H : Heap) (K : Value → Heap → Prop) : bodyX P a_slices_partitionEqualOrdered_string (bodyOf Tryz.f119) Tryz.f119.results.toList [a0_data, a1_a, a2_b, a3_pivot] H K = c_slices_partitionEqualOrdered_string a0_data a1_a a2_b a3_pivot H K := by kernel_rfl

theorem ok_slices_partitionEqualOrdered_string : okFn P a_slices_partitionEqualOrdered_string Tryz.f119 4 = true := by kernel_rfl
theorem k_slices_partitionEqualOrdered_string {a0_data a1_a a2_b a3_pivot : Value} {H : Heap} {K : Value → Heap → Prop} (h : c_slices_partitionEqualOrdered_string a0_data a1_a a2_b a3_pivot H K) : CallH P f_slices_partitionEqualOrdered_string [a0_data, a1_a, a2_b, a3_pivot] H K :=
  call_of_bodyX Tryz.func119 ok_slices_partitionEqualOrdered_string ((e_slices_partitionEqualOrdered_string a0_data a1_a a2_b a3_pivot H K).mpr h)

/-- slices.partitionOrdered[string] -/
def c_slices_partitionOrdered_string (a0_data : Value) (a1_a : Value) (a2_b : Value) (a3_pivot : Value) (H : Heap) (K : Value → Heap → Prop) : Prop :=
  IdxSliceP 1 a0_data a3_pivot fun t_1 =>
  LoadP none H t_1 fun t_2 =>
  IdxSliceP 1 a0_data a1_a fun t_3 =>
  LoadP none H t_3 fun t_4 =>
  IdxSliceP 1 a0_data a1_a fun t_5 =>
  StoreP none H t_5 t_2 fun H6 =>
  IdxSliceP 1 a0_data a3_pivot fun t_7 =>
  StoreP none H6 t_7 t_4 fun H8 =>
  BinP .add a1_a (.int .i64 1) fun t_9 =>
  BinP .sub a2_b (.int .i64 1) fun t_10 =>
  JoinP (S := (Value) × List Deferred) (G := Tup 16)
    (fun s_11 g_11 H11 =>
    JoinP (S := (Value) × List Deferred) (G := Tup 17)
      (fun s_12 g_12 H12 =>
      BinP .gtr s_11.1 s_12.1 fun t_13 =>
      SplitP t_13
        (IdxSliceP 1 a0_data a1_a fun t_14 =>
        LoadP none H12 t_14 fun t_15 =>
        IdxSliceP 1 a0_data s_12.1 fun t_16 =>
        LoadP none H12 t_16 fun t_17 =>
        IdxSliceP 1 a0_data s_12.1 fun t_18 =>
        StoreP none H12 t_18 t_15 fun H19 =>
        IdxSliceP 1 a0_data a1_a fun t_20 =>
        StoreP none H19 t_20 t_17 fun H21 =>
        RetP s_12.2 H21 fun H22 =>
        K (.tuple #[s_12.1, (.bool true)]) H22)
        (IdxSliceP 1 a0_data s_12.1 fun t_23 =>
        LoadP none H12 t_23 fun t_24 =>
        IdxSliceP 1 a0_data s_11.1 fun t_25 =>
        LoadP none H12 t_25 fun t_26 =>
        IdxSliceP 1 a0_data s_11.1 fun t_27 =>
        StoreP none H12 t_27 t_24 fun H28 =>
        IdxSliceP 1 a0_data s_12.1 fun t_29 =>
        StoreP none H28 t_29 t_26 fun H30 =>
        BinP .add s_11.1 (.int .i64 1) fun t_31 =>
        BinP .sub s_12.1 (.int .i64 1) fun t_32 =>
        LoopP (S := (Value × Value) × List Deferred) (G := Tup 54)
          (fun s_33 g_33 self_33 H33 =>
          JoinP (S := (Value) × List Deferred) (G := Tup 16)
            (fun s_34 g_34 H34 =>
            JoinP (S := (Value) × List Deferred) (G := Tup 17)
              (fun s_35 g_35 H35 =>
              BinP .gtr s_34.1 s_35.1 fun t_36 =>
              SplitP t_36
                (IdxSliceP 1 a0_data a1_a fun t_37 =>
                LoadP none H35 t_37 fun t_38 =>
                IdxSliceP 1 a0_data s_35.1 fun t_39 =>
                LoadP none H35 t_39 fun t_40 =>
                IdxSliceP 1 a0_data s_35.1 fun t_41 =>
                StoreP none H35 t_41 t_38 fun H42 =>
                IdxSliceP 1 a0_data a1_a fun t_43 =>
                StoreP none H42 t_43 t_40 fun H44 =>
                RetP s_35.2 H44 fun H45 =>
                K (.tuple #[s_35.1, (.bool false)]) H45)
                (IdxSliceP 1 a0_data s_35.1 fun t_46 =>
                LoadP none H35 t_46 fun t_47 =>
                IdxSliceP 1 a0_data s_34.1 fun t_48 =>
                LoadP none H35 t_48 fun t_49 =>
                IdxSliceP 1 a0_data s_34.1 fun t_50 =>
                StoreP none H35 t_50 t_47 fun H51 =>
                IdxSliceP 1 a0_data s_35.1 fun t_52 =>
                StoreP none H51 t_52 t_49 fun H53 =>
                BinP .add s_34.1 (.int .i64 1) fun t_54 =>
                BinP .sub s_35.1 (.int .i64 1) fun t_55 =>
                self_33 ((t_54, t_55), s_35.2) H53))
              (fun J_35 =>
              LoopP (S := (Value) × List Deferred) (G := Tup 17)
                (fun s_56 g_56 self_56 H56 =>
                BinP .leq s_34.1 s_56.1 fun t_57 =>
                SplitP t_57
                  (IdxSliceP 1 a0_data s_56.1 fun t_58 =>
                  LoadP none H56 t_58 fun t_59 =>
                  IdxSliceP 1 a0_data a1_a fun t_60 =>
                  LoadP none H56 t_60 fun t_61 =>
                  CallH P f_cmp_Less_string [t_59, t_61] H56 fun t_62 H63 =>
                  UnP .not t_62 fun t_64 =>
                  SplitP t_64
                    (BinP .sub s_56.1 (.int .i64 1) fun t_65 =>
                    self_56 (t_65, s_56.2) H63)
                    (J_35 (s_56.1, s_56.2) H63))
                  (J_35 (s_56.1, s_56.2) H56))
                (s_33.1.2, s_34.2) H34))
            (fun J_34 =>
            LoopP (S := (Value) × List Deferred) (G := Tup 16)
              (fun s_66 g_66 self_66 H66 =>
              BinP .leq s_66.1 s_33.1.2 fun t_67 =>
              SplitP t_67
                (IdxSliceP 1 a0_data s_66.1 fun t_68 =>
                LoadP none H66 t_68 fun t_69 =>
                IdxSliceP 1 a0_data a1_a fun t_70 =>
                LoadP none H66 t_70 fun t_71 =>
                CallH P f_cmp_Less_string [t_69, t_71] H66 fun t_72 H73 =>
                SplitP t_72
                  (BinP .add s_66.1 (.int .i64 1) fun t_74 =>
                  self_66 (t_74, s_66.2) H73)
                  (J_34 (s_66.1, s_66.2) H73))
                (J_34 (s_66.1, s_66.2) H66))
              (s_33.1.1, s_33.2) H33))
          ((t_31, t_32), s_12.2) H30))
      (fun J_12 =>
      LoopP (S := (Value) × List Deferred) (G := Tup 17)
        (fun s_75 g_75 self_75 H75 =>
        BinP .leq s_11.1 s_75.1 fun t_76 =>
        SplitP t_76
          (IdxSliceP 1 a0_data s_75.1 fun t_77 =>
          LoadP none H75 t_77 fun t_78 =>
          IdxSliceP 1 a0_data a1_a fun t_79 =>
          LoadP none H75 t_79 fun t_80 =>
          CallH P f_cmp_Less_string [t_78, t_80] H75 fun t_81 H82 =>
          UnP .not t_81 fun t_83 =>
          SplitP t_83
            (BinP .sub s_75.1 (.int .i64 1) fun t_84 =>
            self_75 (t_84, s_75.2) H82)
            (J_12 (s_75.1, s_75.2) H82))
          (J_12 (s_75.1, s_75.2) H75))
        (t_10, s_11.2) H11))
    (fun J_11 =>
    LoopP (S := (Value) × List Deferred) (G := Tup 16)
      (fun s_85 g_85 self_85 H85 =>
      BinP .leq s_85.1 t_10 fun t_86 =>
      SplitP t_86
        (IdxSliceP 1 a0_data s_85.1 fun t_87 =>
        LoadP none H85 t_87 fun t_88 =>
        IdxSliceP 1 a0_data a1_a fun t_89 =>
        LoadP none H85 t_89 fun t_90 =>
        CallH P f_cmp_Less_string [t_88, t_90] H85 fun t_91 H92 =>
        SplitP t_91
          (BinP .add s_85.1 (.int .i64 1) fun t_93 =>
          self_85 (t_93, s_85.2) H92)
          (J_11 (s_85.1, s_85.2) H92))
        (J_11 (s_85.1, s_85.2) H85))
      (t_9, []) H8)

def a_slices_partitionOrdered_string : Ann := [(6, [10], [30, 31, 32, 33, 34, 35, 36, 37, 38, 39, 40, 41, 42, 43, 44, 45]), (10, [11], [46, 47, 48, 49, 50, 51, 52, 53, 54, 55, 56, 57, 58, 59, 60, 61, 62]), (15, [11], [46, 47, 48, 49, 50, 51, 52, 53, 54, 55, 56, 57, 58, 59, 60, 61, 62]), (26, [10], [99, 100, 101, 102, 103, 104, 105, 106, 107, 108, 109, 110, 111, 112, 113, 114]), (30, [11], [115, 116, 117, 118, 119, 120, 121, 122, 123, 124, 125, 126, 127, 128, 129, 130, 131]), (35, [11], [115, 116, 117, 118, 119, 120, 121, 122, 123, 124, 125, 126, 127, 128, 129, 130, 131]), (200011, [10], [30, 31, 32, 33, 34, 35, 36, 37, 38, 39, 40, 41, 42, 43, 44, 45]), (200026, [10, 11], [99, 100, 101, 102, 103, 104, 105, 106, 107, 108, 109, 110, 111, 112, 113, 114, 115, 116, 117, 118, 119, 120, 121, 122, 123, 124, 125, 126, 127, 128, 129, 130, 131, 132, 133, 134, 135, 136, 137, 138, 139, 140, 141, 142, 143, 144, 145, 146, 147, 148, 149, 150, 151, 152]), (200031, [10], [99, 100, 101, 102, 103, 104, 105, 106, 107, 108, 109, 110, 111, 112, 113, 114])]

theorem e_slices_partitionOrdered_string (a0_data : Value) (a1_a : Value) (a2_b : Value) (a3_pivot : Value) (H : Heap) (K : Value → Heap → Prop) : bodyX P a_slices_partitionOrdered_string (bodyOf Tryz.f120) Tryz.f120.results.toList [a0_data, a1_a, a2_b, a3_pivot] H K = c_slices_partitionOrdered_string a0_data a1_a a2_b a3_pivot H K := by kernel_rfl

theorem ok_slices_partitionOrdered_string : okFn P a_slices_partitionOrdered_string Tryz.f120 4 = true := by kernel_rfl
theorem k_slices_partitionOrdered_string {a0_data a1_a a2_b a3_pivot : Value} {H : Heap} {K : Value → Heap → Prop} (h : c_slices_partitionOrdered_string a0_data a1_a a2_b a3_pivot H K) : CallH P f_slices_partitionOrdered_string [a0_data, a1_a, a2_b, a3_pivot] H K :=
  call_of_bodyX Tryz.func120 ok_slices_partitionOrdered_string ((e_slices_partitionOrdered_string a0_data a1_a a2_b a3_pivot H K).mpr h)

/-- math/bits.Len32 -/
def c_math_bits_Len32 (a0_x : Value) (H : Heap) (K : Value → Heap → Prop) : Prop :=
  JoinP (S := (Value × Value) × List Deferred) (G := Tup 4)
    (fun s_1 g_1 H1 =>
    JoinP (S := (Value × Value) × List Deferred) (G := Tup 6)
      (fun s_2 g_2 H2 =>
      ConvIntP .u8 s_2.1.1 fun t_3 =>
      IndexStrP (.string ⟨#[0, 1, 2, 2, 3, 3, 3, 3, 4, 4, 4, 4, 4, 4, 4, 4, 5, 5, 5, 5, 5, 5, 5, 5, 5, 5, 5, 5, 5, 5, 5, 5, 6, 6, 6, 6, 6, 6, 6, 6, 6, 6, 6, 6, 6, 6, 6, 6, 6, 6, 6, 6, 6, 6, 6, 6, 6, 6, 6, 6, 6, 6, 6, 6, 7, 7, 7, 7, 7, 7, 7, 7, 7, 7, 7, 7, 7, 7, 7, 7, 7, 7, 7, 7, 7, 7, 7, 7, 7, 7, 7, 7, 7, 7, 7, 7, 7, 7, 7, 7, 7, 7, 7, 7, 7, 7, 7, 7, 7, 7, 7, 7, 7, 7, 7, 7, 7, 7, 7, 7, 7, 7, 7, 7, 7, 7, 7, 7, 8, 8, 8, 8, 8, 8, 8, 8, 8, 8, 8, 8, 8, 8, 8, 8, 8, 8, 8, 8, 8, 8, 8, 8, 8, 8, 8, 8, 8, 8, 8, 8, 8, 8, 8, 8, 8, 8, 8, 8, 8, 8, 8, 8, 8, 8, 8, 8, 8, 8, 8, 8, 8, 8, 8, 8, 8, 8, 8, 8, 8, 8, 8, 8, 8, 8, 8, 8, 8, 8, 8, 8, 8, 8, 8, 8, 8, 8, 8, 8, 8, 8, 8, 8, 8, 8, 8, 8, 8, 8, 8, 8, 8, 8, 8, 8, 8, 8, 8, 8, 8, 8, 8, 8, 8, 8, 8, 8, 8, 8, 8, 8, 8, 8, 8, 8, 8, 8, 8, 8, 8, 8, 8, 8, 8, 8, 8, 8]⟩) t_3 fun t_4 =>
      ConvIntP .i64 t_4 fun t_5 =>
      BinP .add s_2.1.2 t_5 fun t_6 =>
      RetP s_2.2 H2 fun H7 =>
      K t_6 H7)
      (fun J_2 =>
      BinP .geq s_1.1.1 (.int .u32 256) fun t_8 =>
      SplitP t_8
        (BinP .shr s_1.1.1 (.int .u64 8) fun t_9 =>
        BinP .add s_1.1.2 (.int .i64 8) fun t_10 =>
        J_2 ((t_9, t_10), s_1.2) H1)
        (J_2 ((s_1.1.1, s_1.1.2), s_1.2) H1)))
    (fun J_1 =>
    BinP .geq a0_x (.int .u32 65536) fun t_11 =>
    SplitP t_11
      (BinP .shr a0_x (.int .u64 16) fun t_12 =>
      J_1 ((t_12, (.int .i64 16)), []) H)
      (J_1 ((a0_x, (.int .i64 0)), []) H))

def a_math_bits_Len32 : Ann := [(9, [0, 2], [3, 4, 5, 6]), (15, [0, 2], [7, 8, 9, 10, 11, 12])]

theorem e_math_bits_Len32 (a0_x : Value) (H : Heap) (K : Value → Heap → Prop) : bodyX P a_math_bits_Len32 (bodyOf Tryz.f121) Tryz.f121.results.toList [a0_x] H K = c_math_bits_Len32 a0_x H K := by kernel_rfl

theorem ok_math_bits_Len32 : okFn P a_math_bits_Len32 Tryz.f121 1 = true := by kernel_rfl
theorem k_math_bits_Len32 {a0_x : Value} {H : Heap} {K : Value → Heap → Prop} (h : c_math_bits_Len32 a0_x H K) : CallH P f_math_bits_Len32 [a0_x] H K :=
  call_of_bodyX Tryz.func121 ok_math_bits_Len32 ((e_math_bits_Len32 a0_x H K).mpr h)

end Go.X.W
