/- Clean words of Go functions, printed by a program of our own; each is equal to the evaluator's result. -/
import Derived.Test.YtochkahbnhegaaaGreatZS3
set_option linter.unusedVariables false
set_option maxRecDepth 100000
namespace Go.X.W
open Go Go.X Go.Proofs

/-- (*palio/zset.Set).Members -/
def c_zset_Set_Members (a0_s : Value) (a1_from : Value) (a2_to : Value) (H : Heap) (K : Value → Heap → Prop) : Prop :=
  BoxP (some 3) T_api_Edge a1_from H fun fromx_1 H2 =>
  BoxP (some 3) T_api_Edge a2_to H2 fun tox_3 H4 =>
  AllocP #[(.slice none 0 0)] T_s_api_Entry H4 fun out_5 H6 =>
  CallH P f_zset_Set_each [a0_s] H6 fun t_7 H8 =>
  RangeP P none t_7 1
    (fun l_9 vs_9 H9 K_9 =>
    AllocP #[(.string ⟨#[]⟩), (.int .i64 0)] T_api_Entry H9 fun e_10 H11 =>
    StoreP (some 2) H11 e_10 vs_9 fun H12 =>
    BeginP l_9 H12 fun H13 =>
    FieldAddrP 0 e_10 fun t_14 =>
    LoadP none H13 t_14 fun t_15 =>
    LoadP (some 3) H13 fromx_1 fun t_16 =>
    LoadP (some 3) H13 tox_3 fun t_17 =>
    CallH P f_bound_InEdge [t_15, t_16, t_17] H13 fun t_18 H19 =>
    UnP .not t_18 fun t_20 =>
    SplitP t_20
      (EndP l_9 .normal H19 K_9)
      (LoadP none H19 out_5 fun t_21 =>
      LoadP (some 2) H19 e_10 fun t_22 =>
      BuildP (zerosN #[(.string ⟨#[]⟩), (.int .i64 0)] 1) [(0, (some 2), t_22)] fun t_23 =>
      BuildSliceP T_api_Entry 1 t_23 H19 fun t_24 H25 =>
      AppendP P T_api_Entry t_21 t_24 H25 fun t_26 H27 =>
      StoreP none H27 out_5 t_26 fun H28 =>
      EndP l_9 .normal H28 K_9))
    (fun p_9 ds_9 Ha9 => AltP p_9 [
    (.normal, LoadP none Ha9 out_5 fun t_29 =>
    RetP (ds_9 ++ []) Ha9 fun H30 =>
    K t_29 H30)]) H8

def a_zset_Set_Members : Ann := []

theorem e_zset_Set_Members (a0_s : Value) (a1_from : Value) (a2_to : Value) (H : Heap) (K : Value → Heap → Prop) : bodyX P a_zset_Set_Members (bodyOf Tryz.f32) Tryz.f32.results.toList [a0_s, a1_from, a2_to] H K = c_zset_Set_Members a0_s a1_from a2_to H K := by kernel_rfl

theorem ok_zset_Set_Members : okFn P a_zset_Set_Members Tryz.f32 3 = true := by kernel_rfl
theorem k_zset_Set_Members {a0_s a1_from a2_to : Value} {H : Heap} {K : Value → Heap → Prop} (h : c_zset_Set_Members a0_s a1_from a2_to H K) : CallH P f_zset_Set_Members [a0_s, a1_from, a2_to] H K :=
  call_of_bodyX Tryz.func32 ok_zset_Set_Members ((e_zset_Set_Members a0_s a1_from a2_to H K).mpr h)

/-- (*palio/palioref11.Set).Members -/
def c_palioref11_Set_Members (a0_s : Value) (a1_from : Value) (a2_to : Value) (H : Heap) (K : Value → Heap → Prop) : Prop :=
  BoxP (some 3) T_api_Edge a1_from H fun fromx_1 H2 =>
  BoxP (some 3) T_api_Edge a2_to H2 fun tox_3 H4 =>
  LoopP (S := (Value × Value) × List Deferred) (G := Tup 30)
    (fun s_5 g_5 self_5 H5 =>
    NilP a0_s fun t_6 =>
    FieldAddrP 0 t_6 fun t_7 =>
    LoadP none H5 t_7 fun t_8 =>
    LenP t_8 fun t_9 =>
    BinP .lss s_5.1.2 t_9 fun t_10 =>
    SplitP t_10
      (NilP a0_s fun t_11 =>
      FieldAddrP 0 t_11 fun t_12 =>
      LoadP none H5 t_12 fun t_13 =>
      IdxSliceP 2 t_13 s_5.1.2 fun t_14 =>
      FieldAddrP 0 t_14 fun t_15 =>
      LoadP none H5 t_15 fun t_16 =>
      LoadP (some 3) H5 fromx_1 fun t_17 =>
      LoadP (some 3) H5 tox_3 fun t_18 =>
      CallH P f_palioref09_InEdge [t_16, t_17, t_18] H5 fun t_19 H20 =>
      SplitP t_19
        (NilP a0_s fun t_21 =>
        FieldAddrP 0 t_21 fun t_22 =>
        LoadP none H20 t_22 fun t_23 =>
        IdxSliceP 2 t_23 s_5.1.2 fun t_24 =>
        LoadP (some 2) H20 t_24 fun t_25 =>
        BuildP (zerosN #[(.string ⟨#[]⟩), (.int .i64 0)] 1) [(0, (some 2), t_25)] fun t_26 =>
        BuildSliceP T_api_Entry 1 t_26 H20 fun t_27 H28 =>
        AppendP P T_api_Entry s_5.1.1 t_27 H28 fun t_29 H30 =>
        BinP .add s_5.1.2 (.int .i64 1) fun t_31 =>
        self_5 ((t_29, t_31), s_5.2) H30)
        (BinP .add s_5.1.2 (.int .i64 1) fun t_32 =>
        self_5 ((s_5.1.1, t_32), s_5.2) H20))
      (RetP s_5.2 H5 fun H33 =>
      K s_5.1.1 H33))
    (((.slice none 0 0), (.int .i64 0)), []) H4

def a_palioref11_Set_Members : Ann := [(6, [7, 8], [9, 10, 11, 12, 13, 14, 15, 16, 17, 18, 19, 20, 21, 22, 23, 24, 25, 26, 27, 28, 29, 30, 31, 32, 33, 34, 35, 36, 37, 38])]

theorem e_palioref11_Set_Members (a0_s : Value) (a1_from : Value) (a2_to : Value) (H : Heap) (K : Value → Heap → Prop) : bodyX P a_palioref11_Set_Members (bodyOf Tryz.f33) Tryz.f33.results.toList [a0_s, a1_from, a2_to] H K = c_palioref11_Set_Members a0_s a1_from a2_to H K := by kernel_rfl

theorem ok_palioref11_Set_Members : okFn P a_palioref11_Set_Members Tryz.f33 3 = true := by kernel_rfl
theorem k_palioref11_Set_Members {a0_s a1_from a2_to : Value} {H : Heap} {K : Value → Heap → Prop} (h : c_palioref11_Set_Members a0_s a1_from a2_to H K) : CallH P f_palioref11_Set_Members [a0_s, a1_from, a2_to] H K :=
  call_of_bodyX Tryz.func33 ok_palioref11_Set_Members ((e_palioref11_Set_Members a0_s a1_from a2_to H K).mpr h)

/-- (*palio/zset.Set).Scan -/
def c_zset_Set_Scan (a0_s : Value) (a1_cursor : Value) (H : Heap) (K : Value → Heap → Prop) : Prop :=
  EqP P T_p_zset_Set true H a0_s (.pointer none) fun b_1 =>
  SplitP (.bool b_1)
    (K (.tuple #[(.slice none 0 0), (.int .u32 0)]) H)
    (NilP a0_s fun t_2 =>
    FieldAddrP 0 t_2 fun t_3 =>
    LoadP none H t_3 fun t_4 =>
    TypeAssertP T_p_zset_listed (.pointer none) true t_4 fun t_5 =>
    ExtractP t_5 0 fun t_6 =>
    ExtractP t_5 1 fun t_7 =>
    UnP .not t_7 fun t_8 =>
    SplitP t_8
      (CallH P f_zset_Set_Len [a0_s] H fun t_9 H10 =>
      CallH P f_zset_Set_Range [a0_s, (.int .i64 0), t_9] H10 fun t_11 H12 =>
      K (.tuple #[t_11, (.int .u32 0)]) H12)
      (NilP t_6 fun t_13 =>
      FieldAddrP 1 t_13 fun t_14 =>
      LoadP none H t_14 fun t_15 =>
      CallH P f_scan_Scan_int64 [t_15, a1_cursor] H fun t_16 H17 =>
      ExtractP t_16 0 fun t_18 =>
      ExtractP t_16 1 fun t_19 =>
      LenP t_18 fun t_20 =>
      LoopP (S := (Value × Value) × List Deferred) (G := Tup 19)
        (fun s_21 g_21 self_21 H21 =>
        BinP .lss s_21.1.2 t_20 fun t_22 =>
        SplitP t_22
          (IdxSliceP 1 t_18 s_21.1.2 fun t_23 =>
          LoadP none H21 t_23 fun t_24 =>
          CallH P f_zset_listed_score [t_6, t_24] H21 fun t_25 H26 =>
          ExtractP t_25 0 fun t_27 =>
          ExtractP t_25 1 fun t_28 =>
          BuildP [(.string ⟨#[]⟩), (.int .i64 0)] [(0, none, t_24), (1, none, t_27)] fun t_29 =>
          BuildP (zerosN #[(.string ⟨#[]⟩), (.int .i64 0)] 1) [(0, (some 2), (.agg t_29.toArray))] fun t_30 =>
          BuildSliceP T_api_Entry 1 t_30 H26 fun t_31 H32 =>
          AppendP P T_api_Entry s_21.1.1 t_31 H32 fun t_33 H34 =>
          BinP .add s_21.1.2 (.int .i64 1) fun t_35 =>
          self_21 ((t_33, t_35), s_21.2) H34)
          (RetP s_21.2 H21 fun H36 =>
          K (.tuple #[s_21.1.1, t_19]) H36))
        (((.slice none 0 0), (.int .i64 0)), []) H17))

def a_zset_Set_Scan : Ann := [(18, [10, 42], [12, 13, 14, 43, 44, 45, 46, 47, 48, 49, 50, 51, 52, 53, 54, 55, 56, 57, 58])]

theorem e_zset_Set_Scan (a0_s : Value) (a1_cursor : Value) (H : Heap) (K : Value → Heap → Prop) : bodyX P a_zset_Set_Scan (bodyOf Tryz.f34) Tryz.f34.results.toList [a0_s, a1_cursor] H K = c_zset_Set_Scan a0_s a1_cursor H K := by kernel_rfl

theorem ok_zset_Set_Scan : okFn P a_zset_Set_Scan Tryz.f34 2 = true := by kernel_rfl
theorem k_zset_Set_Scan {a0_s a1_cursor : Value} {H : Heap} {K : Value → Heap → Prop} (h : c_zset_Set_Scan a0_s a1_cursor H K) : CallH P f_zset_Set_Scan [a0_s, a1_cursor] H K :=
  call_of_bodyX Tryz.func34 ok_zset_Set_Scan ((e_zset_Set_Scan a0_s a1_cursor H K).mpr h)

/-- palio/pack.New -/
def c_pack_New (H : Heap) (K : Value → Heap → Prop) : Prop :=
  CallH P f_pack_head [(.int .i64 0)] H fun t_1 H2 =>
  BytesStrP t_1 H2 fun t_3 =>
  K t_3 H2

def a_pack_New : Ann := []

theorem e_pack_New (H : Heap) (K : Value → Heap → Prop) : bodyX P a_pack_New (bodyOf Tryz.f35) Tryz.f35.results.toList [] H K = c_pack_New H K := by kernel_rfl

theorem ok_pack_New : okFn P a_pack_New Tryz.f35 0 = true := by kernel_rfl
theorem k_pack_New {H : Heap} {K : Value → Heap → Prop} (h : c_pack_New H K) : CallH P f_pack_New [] H K :=
  call_of_bodyX Tryz.func35 ok_pack_New ((e_pack_New H K).mpr h)

/-- (*palio/zset.Set).lists -/
def c_zset_Set_lists (a0_s : Value) (H : Heap) (K : Value → Heap → Prop) : Prop :=
  NilP a0_s fun t_1 =>
  FieldAddrP 0 t_1 fun t_2 =>
  LoadP none H t_2 fun t_3 =>
  TypeAssertP T_p_zset_packed (.pointer none) true t_3 fun t_4 =>
  ExtractP t_4 0 fun t_5 =>
  ExtractP t_4 1 fun t_6 =>
  UnP .not t_6 fun t_7 =>
  SplitP t_7
    (K (.tuple #[]) H)
    (NilP a0_s fun t_8 =>
    FieldAddrP 3 t_8 fun t_9 =>
    LoadP none H t_9 fun t_10 =>
    CallH P f_skip_New [] H fun t_11 H12 =>
    LoadIs none H12 t_9 t_10 ∧
    CallH P f_dict_New_int64 [t_10] H12 fun t_13 H14 =>
    BuildP [(.pointer none), (.pointer none)] [(0, none, t_11), (1, none, t_13)] fun t_15 =>
    BoxP (some 2) T_zset_listed (.agg t_15.toArray) H14 fun t_16 H17 =>
    NilP a0_s fun t_18 =>
    FieldAddrP 0 t_18 fun t_19 =>
    LoadP none H17 t_19 fun t_20 =>
    NilP a0_s fun t_21 =>
    FieldAddrP 0 t_21 fun t_22 =>
    LoadP none H17 t_22 fun t_23 =>
    NilP t_20 fun t_24 =>
    InvokeP P t_23 "Len" [] H17 fun t_25 H26 =>
    LoadIs none H26 t_19 t_20 ∧
    InvokeP P t_20 "Range" [(.int .i64 0), t_25] H26 fun t_27 H28 =>
    LenP t_27 fun t_29 =>
    LoopP (S := (Value) × List Deferred) (G := Tup 8)
      (fun s_30 g_30 self_30 H30 =>
      BinP .lss s_30.1 t_29 fun t_31 =>
      SplitP t_31
        (IdxSliceP 2 t_27 s_30.1 fun t_32 =>
        LoadP (some 2) H30 t_32 fun t_33 =>
        AllocP #[(.string ⟨#[]⟩), (.int .i64 0)] T_api_Entry H30 fun e_34 H35 =>
        StoreP (some 2) H35 e_34 t_33 fun H36 =>
        LoadP (some 2) H36 e_34 fun t_37 =>
        CallH P f_zset_listed_put [t_16, t_37, (.int .i64 1)] H36 fun t_38 H39 =>
        BinP .add s_30.1 (.int .i64 1) fun t_40 =>
        self_30 (t_40, s_30.2) H39)
        (NilP a0_s fun t_41 =>
        FieldAddrP 0 t_41 fun t_42 =>
        StoreP none H30 t_42 (.iface T_p_zset_listed t_16) fun H43 =>
        RetP s_30.2 H43 fun H44 =>
        K (.tuple #[]) H44))
      ((.int .i64 0), []) H28)

def a_zset_Set_lists : Ann := [(8, [38], [6, 39, 40, 41, 42, 43, 44, 45])]

theorem e_zset_Set_lists (a0_s : Value) (H : Heap) (K : Value → Heap → Prop) : bodyX P a_zset_Set_lists (bodyOf Tryz.f36) Tryz.f36.results.toList [a0_s] H K = c_zset_Set_lists a0_s H K := by kernel_rfl

theorem ok_zset_Set_lists : okFn P a_zset_Set_lists Tryz.f36 1 = true := by kernel_rfl
theorem k_zset_Set_lists {a0_s : Value} {H : Heap} {K : Value → Heap → Prop} (h : c_zset_Set_lists a0_s H K) : CallH P f_zset_Set_lists [a0_s] H K :=
  call_of_bodyX Tryz.func36 ok_zset_Set_lists ((e_zset_Set_lists a0_s H K).mpr h)

/-- (*palio/palioref11.Set).Add -/
def c_palioref11_Set_Add (a0_s : Value) (a1_member : Value) (a2_score : Value) (a3_level : Value) (H : Heap) (K : Value → Heap → Prop) : Prop :=
  LenStrP a1_member fun t_1 =>
  BinP .gtr t_1 (.int .i64 64) fun t_2 =>
  SplitP t_2
    (K (.tuple #[(.bool false), (.int .i64 2)]) H)
    (BinP .lss a3_level (.int .i64 1) fun t_3 =>
    SplitP t_3
      (K (.tuple #[(.bool false), (.int .i64 2)]) H)
      (BinP .gtr a3_level (.int .i64 32) fun t_4 =>
      SplitP t_4
        (K (.tuple #[(.bool false), (.int .i64 2)]) H)
        (NilP a0_s fun t_5 =>
        FieldAddrP 0 t_5 fun t_6 =>
        LoadP none H t_6 fun t_7 =>
        CallH P f_palioref05_Find [t_7, a1_member] H fun t_8 H9 =>
        JoinP (S := (Unit) × List Deferred) (G := Tup 12)
          (fun s_10 g_10 H10 =>
          JoinP (S := (Unit) × List Deferred) (G := Tup 11)
            (fun s_11 g_11 H11 =>
            NilP a0_s fun t_12 =>
            FieldAddrP 0 t_12 fun t_13 =>
            LoadP none H11 t_13 fun t_14 =>
            BuildP [(.string ⟨#[]⟩), (.int .i64 0)] [(0, none, a1_member), (1, none, a2_score)] fun t_15 =>
            CallH P f_palioref11_Sorted [t_14, (.agg t_15.toArray)] H11 fun t_16 H17 =>
            NilP a0_s fun t_18 =>
            FieldAddrP 0 t_18 fun t_19 =>
            StoreP none H17 t_19 t_16 fun H20 =>
            NilP a0_s fun t_21 =>
            FieldAddrP 0 t_21 fun t_22 =>
            LoadP none H20 t_22 fun t_23 =>
            LenP t_23 fun t_24 =>
            NilP a0_s fun t_25 =>
            FieldAddrP 1 t_25 fun t_26 =>
            FieldAddrP 0 t_26 fun t_27 =>
            LoadP none H20 t_27 fun t_28 =>
            BinP .gtr t_24 t_28 fun t_29 =>
            SplitP t_29
              (NilP a0_s fun t_30 =>
              FieldAddrP 3 t_30 fun t_31 =>
              StoreP none H20 t_31 (.bool true) fun H32 =>
              BinP .lss t_8 (.int .i64 0) fun t_33 =>
              RetP s_11.2 H32 fun H34 =>
              K (.tuple #[t_33, (.int .i64 0)]) H34)
              (LenStrP a1_member fun t_35 =>
              NilP a0_s fun t_36 =>
              FieldAddrP 1 t_36 fun t_37 =>
              FieldAddrP 1 t_37 fun t_38 =>
              LoadP none H20 t_38 fun t_39 =>
              BinP .gtr t_35 t_39 fun t_40 =>
              SplitP t_40
                (NilP a0_s fun t_41 =>
                FieldAddrP 3 t_41 fun t_42 =>
                StoreP none H20 t_42 (.bool true) fun H43 =>
                BinP .lss t_8 (.int .i64 0) fun t_44 =>
                RetP s_11.2 H43 fun H45 =>
                K (.tuple #[t_44, (.int .i64 0)]) H45)
                (BinP .lss t_8 (.int .i64 0) fun t_46 =>
                RetP s_11.2 H20 fun H47 =>
                K (.tuple #[t_46, (.int .i64 0)]) H47)))
            (fun J_11 =>
            BinP .geq t_8 (.int .i64 0) fun t_48 =>
            SplitP t_48
              (NilP a0_s fun t_49 =>
              FieldAddrP 0 t_49 fun t_50 =>
              LoadP none H10 t_50 fun t_51 =>
              CallH P f_palioref05_Delete [t_51, t_8] H10 fun t_52 H53 =>
              NilP a0_s fun t_54 =>
              FieldAddrP 0 t_54 fun t_55 =>
              StoreP none H53 t_55 t_52 fun H56 =>
              J_11 ((), s_10.2) H56)
              (J_11 ((), s_10.2) H10)))
          (fun J_10 =>
          BinP .lss t_8 (.int .i64 0) fun t_57 =>
          SplitP t_57
            (NilP a0_s fun t_58 =>
            FieldAddrP 0 t_58 fun t_59 =>
            LoadP none H9 t_59 fun t_60 =>
            LenP t_60 fun t_61 =>
            BinP .geq t_61 (.int .i64 400) fun t_62 =>
            SplitP t_62
              (K (.tuple #[(.bool false), (.int .i64 51)]) H9)
              (J_10 ((), []) H9))
            (J_10 ((), []) H9)))))

def a_palioref11_Set_Add : Ann := [(13, [], [8, 9, 28, 29, 30, 31, 32, 33, 34, 35, 36, 37]), (17, [], [38, 39, 40, 41, 42, 43, 44, 45, 46, 47, 48])]

theorem e_palioref11_Set_Add (a0_s : Value) (a1_member : Value) (a2_score : Value) (a3_level : Value) (H : Heap) (K : Value → Heap → Prop) : bodyX P a_palioref11_Set_Add (bodyOf Tryz.f37) Tryz.f37.results.toList [a0_s, a1_member, a2_score, a3_level] H K = c_palioref11_Set_Add a0_s a1_member a2_score a3_level H K := by kernel_rfl

theorem ok_palioref11_Set_Add : okFn P a_palioref11_Set_Add Tryz.f37 4 = true := by kernel_rfl
theorem k_palioref11_Set_Add {a0_s a1_member a2_score a3_level : Value} {H : Heap} {K : Value → Heap → Prop} (h : c_palioref11_Set_Add a0_s a1_member a2_score a3_level H K) : CallH P f_palioref11_Set_Add [a0_s, a1_member, a2_score, a3_level] H K :=
  call_of_bodyX Tryz.func37 ok_palioref11_Set_Add ((e_palioref11_Set_Add a0_s a1_member a2_score a3_level H K).mpr h)

/-- (*palio/palioref11.Set).Remove -/
def c_palioref11_Set_Remove (a0_s : Value) (a1_member : Value) (H : Heap) (K : Value → Heap → Prop) : Prop :=
  NilP a0_s fun t_1 =>
  FieldAddrP 0 t_1 fun t_2 =>
  LoadP none H t_2 fun t_3 =>
  CallH P f_palioref05_Find [t_3, a1_member] H fun t_4 H5 =>
  BinP .geq t_4 (.int .i64 0) fun t_6 =>
  SplitP t_6
    (NilP a0_s fun t_7 =>
    FieldAddrP 0 t_7 fun t_8 =>
    LoadP none H5 t_8 fun t_9 =>
    CallH P f_palioref05_Delete [t_9, t_4] H5 fun t_10 H11 =>
    NilP a0_s fun t_12 =>
    FieldAddrP 0 t_12 fun t_13 =>
    StoreP none H11 t_13 t_10 fun H14 =>
    BinP .geq t_4 (.int .i64 0) fun t_15 =>
    K t_15 H14)
    (BinP .geq t_4 (.int .i64 0) fun t_16 =>
    K t_16 H5)

def a_palioref11_Set_Remove : Ann := []

theorem e_palioref11_Set_Remove (a0_s : Value) (a1_member : Value) (H : Heap) (K : Value → Heap → Prop) : bodyX P a_palioref11_Set_Remove (bodyOf Tryz.f38) Tryz.f38.results.toList [a0_s, a1_member] H K = c_palioref11_Set_Remove a0_s a1_member H K := by kernel_rfl

theorem ok_palioref11_Set_Remove : okFn P a_palioref11_Set_Remove Tryz.f38 2 = true := by kernel_rfl
theorem k_palioref11_Set_Remove {a0_s a1_member : Value} {H : Heap} {K : Value → Heap → Prop} (h : c_palioref11_Set_Remove a0_s a1_member H K) : CallH P f_palioref11_Set_Remove [a0_s, a1_member] H K :=
  call_of_bodyX Tryz.func38 ok_palioref11_Set_Remove ((e_palioref11_Set_Remove a0_s a1_member H K).mpr h)

/-- (*palio/palioref11.Set).Cut -/
def c_palioref11_Set_Cut (a0_s : Value) (a1_from : Value) (a2_to : Value) (H : Heap) (K : Value → Heap → Prop) : Prop :=
  NilP a0_s fun t_1 =>
  FieldAddrP 0 t_1 fun t_2 =>
  LoadP none H t_2 fun t_3 =>
  LenP t_3 fun t_4 =>
  MinP a1_from [t_4] fun t_5 =>
  MaxP (.int .i64 0) [t_5] fun t_6 =>
  NilP a0_s fun t_7 =>
  FieldAddrP 0 t_7 fun t_8 =>
  LoadP none H t_8 fun t_9 =>
  LenP t_9 fun t_10 =>
  MinP a2_to [t_10] fun t_11 =>
  MaxP t_6 [t_11] fun t_12 =>
  NilP a0_s fun t_13 =>
  FieldAddrP 0 t_13 fun t_14 =>
  LoadP none H t_14 fun t_15 =>
  SliceSlP 2 t_15 none (some t_6) none fun t_16 =>
  AppendP P T_api_Entry (.slice none 0 0) t_16 H fun t_17 H18 =>
  NilP a0_s fun t_19 =>
  FieldAddrP 0 t_19 fun t_20 =>
  LoadP none H18 t_20 fun t_21 =>
  SliceSlP 2 t_21 (some t_12) none none fun t_22 =>
  AppendP P T_api_Entry t_17 t_22 H18 fun t_23 H24 =>
  NilP a0_s fun t_25 =>
  FieldAddrP 0 t_25 fun t_26 =>
  StoreP none H24 t_26 t_23 fun H27 =>
  BinP .sub t_12 t_6 fun t_28 =>
  K t_28 H27

def a_palioref11_Set_Cut : Ann := []

theorem e_palioref11_Set_Cut (a0_s : Value) (a1_from : Value) (a2_to : Value) (H : Heap) (K : Value → Heap → Prop) : bodyX P a_palioref11_Set_Cut (bodyOf Tryz.f39) Tryz.f39.results.toList [a0_s, a1_from, a2_to] H K = c_palioref11_Set_Cut a0_s a1_from a2_to H K := by kernel_rfl

theorem ok_palioref11_Set_Cut : okFn P a_palioref11_Set_Cut Tryz.f39 3 = true := by kernel_rfl
theorem k_palioref11_Set_Cut {a0_s a1_from a2_to : Value} {H : Heap} {K : Value → Heap → Prop} (h : c_palioref11_Set_Cut a0_s a1_from a2_to H K) : CallH P f_palioref11_Set_Cut [a0_s, a1_from, a2_to] H K :=
  call_of_bodyX Tryz.func39 ok_palioref11_Set_Cut ((e_palioref11_Set_Cut a0_s a1_from a2_to H K).mpr h)

/-- (*palio/zset.Set).place -/
def c_zset_Set_place (a0_s : Value) (a1_isAhead : Value) (H : Heap) (K : Value → Heap → Prop) : Prop :=
  BoxP none T_p_zset_Set a0_s H fun s_1 H2 =>
  BoxP none T_func_api_Entry_bool a1_isAhead H2 fun isAhead_3 H4 =>
  LoadP none H4 s_1 fun t_5 =>
  CallH P f_zset_Set_Len [t_5] H4 fun t_6 H7 =>
  CallH P f_sort_Search [t_6, (.func (.func f_zset_Set_place_1) #[] #[s_1, isAhead_3])] H7 fun t_8 H9 =>
  K t_8 H9

def a_zset_Set_place : Ann := []

theorem e_zset_Set_place (a0_s : Value) (a1_isAhead : Value) (H : Heap) (K : Value → Heap → Prop) : bodyX P a_zset_Set_place (bodyOf Tryz.f40) Tryz.f40.results.toList [a0_s, a1_isAhead] H K = c_zset_Set_place a0_s a1_isAhead H K := by kernel_rfl

theorem ok_zset_Set_place : okFn P a_zset_Set_place Tryz.f40 2 = true := by kernel_rfl
theorem k_zset_Set_place {a0_s a1_isAhead : Value} {H : Heap} {K : Value → Heap → Prop} (h : c_zset_Set_place a0_s a1_isAhead H K) : CallH P f_zset_Set_place [a0_s, a1_isAhead] H K :=
  call_of_bodyX Tryz.func40 ok_zset_Set_place ((e_zset_Set_place a0_s a1_isAhead H K).mpr h)

/-- (*palio/zset.Set).Rank$1 -/
def c_zset_Set_Rank_1 (a0_e : Value) (a1_x : Value) (H : Heap) (K : Value → Heap → Prop) : Prop :=
  BoxP (some 2) T_api_Entry a0_e H fun e_1 H2 =>
  LoadP (some 2) H2 e_1 fun t_3 =>
  LoadP (some 2) H2 a1_x fun t_4 =>
  CallH P f_bound_Less [t_3, t_4] H2 fun t_5 H6 =>
  K t_5 H6

def a_zset_Set_Rank_1 : Ann := []

theorem e_zset_Set_Rank_1 (a0_e : Value) (a1_x : Value) (H : Heap) (K : Value → Heap → Prop) : bodyX P a_zset_Set_Rank_1 (bodyOf Tryz.f41) Tryz.f41.results.toList [a0_e, a1_x] H K = c_zset_Set_Rank_1 a0_e a1_x H K := by kernel_rfl

theorem ok_zset_Set_Rank_1 : okFn P a_zset_Set_Rank_1 Tryz.f41 2 = true := by kernel_rfl
theorem k_zset_Set_Rank_1 {a0_e a1_x : Value} {H : Heap} {K : Value → Heap → Prop} (h : c_zset_Set_Rank_1 a0_e a1_x H K) : CallH P f_zset_Set_Rank_1 [a0_e, a1_x] H K :=
  call_of_bodyX Tryz.func41 ok_zset_Set_Rank_1 ((e_zset_Set_Rank_1 a0_e a1_x H K).mpr h)

/-- palio/bound.Less -/
def c_bound_Less (a0_a : Value) (a1_b : Value) (H : Heap) (K : Value → Heap → Prop) : Prop :=
  BoxP (some 2) T_api_Entry a0_a H fun a_1 H2 =>
  BoxP (some 2) T_api_Entry a1_b H2 fun b_3 H4 =>
  FieldAddrP 1 a_1 fun t_5 =>
  LoadP none H4 t_5 fun t_6 =>
  FieldAddrP 1 b_3 fun t_7 =>
  LoadP none H4 t_7 fun t_8 =>
  FieldAddrP 0 a_1 fun t_9 =>
  LoadP none H4 t_9 fun t_10 =>
  FieldAddrP 0 b_3 fun t_11 =>
  LoadP none H4 t_11 fun t_12 =>
  CallH P f_cmp_Compare_int64 [t_6, t_8] H4 fun t_13 H14 =>
  LoadIs none H14 t_11 t_12 ∧
  LoadIs none H14 t_9 t_10 ∧
  CallH P f_cmp_Compare_string [t_10, t_12] H14 fun t_15 H16 =>
  BuildP (zerosN #[(.int .i64 0)] 2) [(0, none, t_13), (1, none, t_15)] fun t_17 =>
  BuildSliceP T_int 2 t_17 H16 fun t_18 H19 =>
  CallH P f_cmp_Or_int [t_18] H19 fun t_20 H21 =>
  BinP .lss t_20 (.int .i64 0) fun t_22 =>
  K t_22 H21

def a_bound_Less : Ann := []

theorem e_bound_Less (a0_a : Value) (a1_b : Value) (H : Heap) (K : Value → Heap → Prop) : bodyX P a_bound_Less (bodyOf Tryz.f42) Tryz.f42.results.toList [a0_a, a1_b] H K = c_bound_Less a0_a a1_b H K := by kernel_rfl

theorem ok_bound_Less : okFn P a_bound_Less Tryz.f42 2 = true := by kernel_rfl
theorem k_bound_Less {a0_a a1_b : Value} {H : Heap} {K : Value → Heap → Prop} (h : c_bound_Less a0_a a1_b H K) : CallH P f_bound_Less [a0_a, a1_b] H K :=
  call_of_bodyX Tryz.func42 ok_bound_Less ((e_bound_Less a0_a a1_b H K).mpr h)

/-- (*palio/zset.Set).Between$1 -/
def c_zset_Set_Between_1 (a0_e : Value) (a1_x : Value) (a2_x : Value) (H : Heap) (K : Value → Heap → Prop) : Prop :=
  BoxP (some 2) T_api_Entry a0_e H fun e_1 H2 =>
  FieldAddrP 1 e_1 fun t_3 =>
  LoadP none H2 t_3 fun t_4 =>
  LoadP (some 3) H2 a1_x fun t_5 =>
  LoadP (some 3) H2 a2_x fun t_6 =>
  CallH P f_bound_In [t_4, t_5, t_6] H2 fun t_7 H8 =>
  UnP .not t_7 fun t_9 =>
  K t_9 H8

def a_zset_Set_Between_1 : Ann := []

theorem e_zset_Set_Between_1 (a0_e : Value) (a1_x : Value) (a2_x : Value) (H : Heap) (K : Value → Heap → Prop) : bodyX P a_zset_Set_Between_1 (bodyOf Tryz.f43) Tryz.f43.results.toList [a0_e, a1_x, a2_x] H K = c_zset_Set_Between_1 a0_e a1_x a2_x H K := by kernel_rfl

theorem ok_zset_Set_Between_1 : okFn P a_zset_Set_Between_1 Tryz.f43 3 = true := by kernel_rfl
theorem k_zset_Set_Between_1 {a0_e a1_x a2_x : Value} {H : Heap} {K : Value → Heap → Prop} (h : c_zset_Set_Between_1 a0_e a1_x a2_x H K) : CallH P f_zset_Set_Between_1 [a0_e, a1_x, a2_x] H K :=
  call_of_bodyX Tryz.func43 ok_zset_Set_Between_1 ((e_zset_Set_Between_1 a0_e a1_x a2_x H K).mpr h)

/-- palio/bound.In -/
def c_bound_In (a0_n : Value) (a1_from : Value) (a2_to : Value) (H : Heap) (K : Value → Heap → Prop) : Prop :=
  BoxP (some 3) T_api_Bound a1_from H fun fromx_1 H2 =>
  BoxP (some 3) T_api_Bound a2_to H2 fun tox_3 H4 =>
  FieldAddrP 0 fromx_1 fun t_5 =>
  LoadP none H4 t_5 fun t_6 =>
  FieldAddrP 2 fromx_1 fun t_7 =>
  LoadP none H4 t_7 fun t_8 =>
  FieldAddrP 1 fromx_1 fun t_9 =>
  LoadP none H4 t_9 fun t_10 =>
  CallH P f_bound_of [t_8, t_10] H4 fun t_11 H12 =>
  LoadIs none H12 t_5 t_6 ∧
  CallH P f_bound_isBehind_int64 [a0_n, t_6, t_11, (.int .i64 1)] H12 fun t_13 H14 =>
  SplitP t_13
    (FieldAddrP 0 tox_3 fun t_15 =>
    LoadP none H14 t_15 fun t_16 =>
    FieldAddrP 2 tox_3 fun t_17 =>
    LoadP none H14 t_17 fun t_18 =>
    FieldAddrP 1 tox_3 fun t_19 =>
    LoadP none H14 t_19 fun t_20 =>
    CallH P f_bound_of [t_18, t_20] H14 fun t_21 H22 =>
    LoadIs none H22 t_15 t_16 ∧
    CallH P f_bound_isBehind_int64 [a0_n, t_16, t_21, (.int .i64 (-1))] H22 fun t_23 H24 =>
    K t_23 H24)
    (K (.bool false) H14)

def a_bound_In : Ann := []

theorem e_bound_In (a0_n : Value) (a1_from : Value) (a2_to : Value) (H : Heap) (K : Value → Heap → Prop) : bodyX P a_bound_In (bodyOf Tryz.f44) Tryz.f44.results.toList [a0_n, a1_from, a2_to] H K = c_bound_In a0_n a1_from a2_to H K := by kernel_rfl

theorem ok_bound_In : okFn P a_bound_In Tryz.f44 3 = true := by kernel_rfl
theorem k_bound_In {a0_n a1_from a2_to : Value} {H : Heap} {K : Value → Heap → Prop} (h : c_bound_In a0_n a1_from a2_to H K) : CallH P f_bound_In [a0_n, a1_from, a2_to] H K :=
  call_of_bodyX Tryz.func44 ok_bound_In ((e_bound_In a0_n a1_from a2_to H K).mpr h)

/-- (*palio/zset.Set).Between$2 -/
def c_zset_Set_Between_2 (a0_e : Value) (a1_x : Value) (a2_x : Value) (H : Heap) (K : Value → Heap → Prop) : Prop :=
  BoxP (some 2) T_api_Entry a0_e H fun e_1 H2 =>
  FieldAddrP 1 e_1 fun t_3 =>
  LoadP none H2 t_3 fun t_4 =>
  LoadP (some 3) H2 a1_x fun t_5 =>
  LoadP (some 3) H2 a2_x fun t_6 =>
  CallH P f_bound_In [t_4, t_5, t_6] H2 fun t_7 H8 =>
  K t_7 H8

def a_zset_Set_Between_2 : Ann := []

theorem e_zset_Set_Between_2 (a0_e : Value) (a1_x : Value) (a2_x : Value) (H : Heap) (K : Value → Heap → Prop) : bodyX P a_zset_Set_Between_2 (bodyOf Tryz.f45) Tryz.f45.results.toList [a0_e, a1_x, a2_x] H K = c_zset_Set_Between_2 a0_e a1_x a2_x H K := by kernel_rfl

theorem ok_zset_Set_Between_2 : okFn P a_zset_Set_Between_2 Tryz.f45 3 = true := by kernel_rfl
theorem k_zset_Set_Between_2 {a0_e a1_x a2_x : Value} {H : Heap} {K : Value → Heap → Prop} (h : c_zset_Set_Between_2 a0_e a1_x a2_x H K) : CallH P f_zset_Set_Between_2 [a0_e, a1_x, a2_x] H K :=
  call_of_bodyX Tryz.func45 ok_zset_Set_Between_2 ((e_zset_Set_Between_2 a0_e a1_x a2_x H K).mpr h)

/-- palio/palioref09.In -/
def c_palioref09_In (a0_n : Value) (a1_from : Value) (a2_to : Value) (H : Heap) (K : Value → Heap → Prop) : Prop :=
  BoxP (some 3) T_api_Bound a1_from H fun fromx_1 H2 =>
  BoxP (some 3) T_api_Bound a2_to H2 fun tox_3 H4 =>
  JoinP (S := (Value) × List Deferred) (G := Tup 25)
    (fun s_5 g_5 H5 =>
    JoinP (S := (Value) × List Deferred) (G := Tup 25)
      (fun s_6 g_6 H6 =>
      SplitP s_5.1
        (RetP s_6.2 H6 fun H7 =>
        K s_6.1 H7)
        (RetP s_6.2 H6 fun H8 =>
        K (.bool false) H8))
      (fun J_6 =>
      FieldAddrP 2 tox_3 fun t_9 =>
      LoadP none H5 t_9 fun t_10 =>
      BinP .gtr t_10 (.int .i64 0) fun t_11 =>
      SplitP t_11
        (J_6 ((.bool true), s_5.2) H5)
        (FieldAddrP 2 tox_3 fun t_12 =>
        LoadP none H5 t_12 fun t_13 =>
        BinP .eql t_13 (.int .i64 0) fun t_14 =>
        SplitP t_14
          (FieldAddrP 0 tox_3 fun t_15 =>
          LoadP none H5 t_15 fun t_16 =>
          BinP .lss a0_n t_16 fun t_17 =>
          SplitP t_17
            (J_6 ((.bool true), s_5.2) H5)
            (FieldAddrP 0 tox_3 fun t_18 =>
            LoadP none H5 t_18 fun t_19 =>
            BinP .eql a0_n t_19 fun t_20 =>
            SplitP t_20
              (FieldAddrP 1 tox_3 fun t_21 =>
              LoadP none H5 t_21 fun t_22 =>
              UnP .not t_22 fun t_23 =>
              J_6 (t_23, s_5.2) H5)
              (J_6 ((.bool false), s_5.2) H5)))
          (J_6 ((.bool false), s_5.2) H5))))
    (fun J_5 =>
    FieldAddrP 2 fromx_1 fun t_24 =>
    LoadP none H4 t_24 fun t_25 =>
    BinP .lss t_25 (.int .i64 0) fun t_26 =>
    SplitP t_26
      (J_5 ((.bool true), []) H4)
      (FieldAddrP 2 fromx_1 fun t_27 =>
      LoadP none H4 t_27 fun t_28 =>
      BinP .eql t_28 (.int .i64 0) fun t_29 =>
      SplitP t_29
        (FieldAddrP 0 fromx_1 fun t_30 =>
        LoadP none H4 t_30 fun t_31 =>
        BinP .gtr a0_n t_31 fun t_32 =>
        SplitP t_32
          (J_5 ((.bool true), []) H4)
          (FieldAddrP 0 fromx_1 fun t_33 =>
          LoadP none H4 t_33 fun t_34 =>
          BinP .eql a0_n t_34 fun t_35 =>
          SplitP t_35
            (FieldAddrP 1 fromx_1 fun t_36 =>
            LoadP none H4 t_36 fun t_37 =>
            UnP .not t_37 fun t_38 =>
            J_5 (t_38, []) H4)
            (J_5 ((.bool false), []) H4)))
        (J_5 ((.bool false), []) H4)))

def a_palioref09_In : Ann := [(5, [7], [9, 10, 11, 12, 13, 14, 15, 16, 17, 18, 19, 20, 21, 22, 23, 24, 25, 26, 27, 28, 29, 30, 31, 32, 33]), (7, [8], [34, 35, 36, 37, 38, 39, 40, 41, 42, 43, 44, 45, 46, 47, 48, 49, 50, 51, 52, 53, 54, 55, 56, 57, 58])]

theorem e_palioref09_In (a0_n : Value) (a1_from : Value) (a2_to : Value) (H : Heap) (K : Value → Heap → Prop) : bodyX P a_palioref09_In (bodyOf Tryz.f46) Tryz.f46.results.toList [a0_n, a1_from, a2_to] H K = c_palioref09_In a0_n a1_from a2_to H K := by kernel_rfl

theorem ok_palioref09_In : okFn P a_palioref09_In Tryz.f46 3 = true := by kernel_rfl
theorem k_palioref09_In {a0_n a1_from a2_to : Value} {H : Heap} {K : Value → Heap → Prop} (h : c_palioref09_In a0_n a1_from a2_to H K) : CallH P f_palioref09_In [a0_n, a1_from, a2_to] H K :=
  call_of_bodyX Tryz.func46 ok_palioref09_In ((e_palioref09_In a0_n a1_from a2_to H K).mpr h)

/-- (*palio/zset.Set).each -/
def c_zset_Set_each (a0_s : Value) (H : Heap) (K : Value → Heap → Prop) : Prop :=
  CallH P f_zset_Set_Len [a0_s] H fun t_1 H2 =>
  CallH P f_zset_Set_Range [a0_s, (.int .i64 0), t_1] H2 fun t_3 H4 =>
  CallH P f_slices_Values_s_api_Entry_api_Entry [t_3] H4 fun t_5 H6 =>
  K t_5 H6

def a_zset_Set_each : Ann := []

theorem e_zset_Set_each (a0_s : Value) (H : Heap) (K : Value → Heap → Prop) : bodyX P a_zset_Set_each (bodyOf Tryz.f47) Tryz.f47.results.toList [a0_s] H K = c_zset_Set_each a0_s H K := by kernel_rfl

theorem ok_zset_Set_each : okFn P a_zset_Set_each Tryz.f47 1 = true := by kernel_rfl
theorem k_zset_Set_each {a0_s : Value} {H : Heap} {K : Value → Heap → Prop} (h : c_zset_Set_each a0_s H K) : CallH P f_zset_Set_each [a0_s] H K :=
  call_of_bodyX Tryz.func47 ok_zset_Set_each ((e_zset_Set_each a0_s H K).mpr h)

/-- palio/bound.InEdge -/
def c_bound_InEdge (a0_s : Value) (a1_from : Value) (a2_to : Value) (H : Heap) (K : Value → Heap → Prop) : Prop :=
  BoxP (some 3) T_api_Edge a1_from H fun fromx_1 H2 =>
  BoxP (some 3) T_api_Edge a2_to H2 fun tox_3 H4 =>
  FieldAddrP 0 fromx_1 fun t_5 =>
  LoadP none H4 t_5 fun t_6 =>
  FieldAddrP 2 fromx_1 fun t_7 =>
  LoadP none H4 t_7 fun t_8 =>
  FieldAddrP 1 fromx_1 fun t_9 =>
  LoadP none H4 t_9 fun t_10 =>
  CallH P f_bound_of [t_8, t_10] H4 fun t_11 H12 =>
  LoadIs none H12 t_5 t_6 ∧
  CallH P f_bound_isBehind_string [a0_s, t_6, t_11, (.int .i64 1)] H12 fun t_13 H14 =>
  SplitP t_13
    (FieldAddrP 0 tox_3 fun t_15 =>
    LoadP none H14 t_15 fun t_16 =>
    FieldAddrP 2 tox_3 fun t_17 =>
    LoadP none H14 t_17 fun t_18 =>
    FieldAddrP 1 tox_3 fun t_19 =>
    LoadP none H14 t_19 fun t_20 =>
    CallH P f_bound_of [t_18, t_20] H14 fun t_21 H22 =>
    LoadIs none H22 t_15 t_16 ∧
    CallH P f_bound_isBehind_string [a0_s, t_16, t_21, (.int .i64 (-1))] H22 fun t_23 H24 =>
    K t_23 H24)
    (K (.bool false) H14)

def a_bound_InEdge : Ann := []

theorem e_bound_InEdge (a0_s : Value) (a1_from : Value) (a2_to : Value) (H : Heap) (K : Value → Heap → Prop) : bodyX P a_bound_InEdge (bodyOf Tryz.f48) Tryz.f48.results.toList [a0_s, a1_from, a2_to] H K = c_bound_InEdge a0_s a1_from a2_to H K := by kernel_rfl

theorem ok_bound_InEdge : okFn P a_bound_InEdge Tryz.f48 3 = true := by kernel_rfl
theorem k_bound_InEdge {a0_s a1_from a2_to : Value} {H : Heap} {K : Value → Heap → Prop} (h : c_bound_InEdge a0_s a1_from a2_to H K) : CallH P f_bound_InEdge [a0_s, a1_from, a2_to] H K :=
  call_of_bodyX Tryz.func48 ok_bound_InEdge ((e_bound_InEdge a0_s a1_from a2_to H K).mpr h)

/-- palio/palioref09.InEdge -/
def c_palioref09_InEdge (a0_s : Value) (a1_from : Value) (a2_to : Value) (H : Heap) (K : Value → Heap → Prop) : Prop :=
  BoxP (some 3) T_api_Edge a1_from H fun fromx_1 H2 =>
  BoxP (some 3) T_api_Edge a2_to H2 fun tox_3 H4 =>
  JoinP (S := (Value) × List Deferred) (G := Tup 25)
    (fun s_5 g_5 H5 =>
    JoinP (S := (Value) × List Deferred) (G := Tup 25)
      (fun s_6 g_6 H6 =>
      SplitP s_5.1
        (RetP s_6.2 H6 fun H7 =>
        K s_6.1 H7)
        (RetP s_6.2 H6 fun H8 =>
        K (.bool false) H8))
      (fun J_6 =>
      FieldAddrP 2 tox_3 fun t_9 =>
      LoadP none H5 t_9 fun t_10 =>
      BinP .gtr t_10 (.int .i64 0) fun t_11 =>
      SplitP t_11
        (J_6 ((.bool true), s_5.2) H5)
        (FieldAddrP 2 tox_3 fun t_12 =>
        LoadP none H5 t_12 fun t_13 =>
        BinP .eql t_13 (.int .i64 0) fun t_14 =>
        SplitP t_14
          (FieldAddrP 0 tox_3 fun t_15 =>
          LoadP none H5 t_15 fun t_16 =>
          CallH P f_palioref07_Less [a0_s, t_16] H5 fun t_17 H18 =>
          SplitP t_17
            (J_6 ((.bool true), s_5.2) H18)
            (FieldAddrP 0 tox_3 fun t_19 =>
            LoadP none H18 t_19 fun t_20 =>
            BinP .eql a0_s t_20 fun t_21 =>
            SplitP t_21
              (FieldAddrP 1 tox_3 fun t_22 =>
              LoadP none H18 t_22 fun t_23 =>
              UnP .not t_23 fun t_24 =>
              J_6 (t_24, s_5.2) H18)
              (J_6 ((.bool false), s_5.2) H18)))
          (J_6 ((.bool false), s_5.2) H5))))
    (fun J_5 =>
    FieldAddrP 2 fromx_1 fun t_25 =>
    LoadP none H4 t_25 fun t_26 =>
    BinP .lss t_26 (.int .i64 0) fun t_27 =>
    SplitP t_27
      (J_5 ((.bool true), []) H4)
      (FieldAddrP 2 fromx_1 fun t_28 =>
      LoadP none H4 t_28 fun t_29 =>
      BinP .eql t_29 (.int .i64 0) fun t_30 =>
      SplitP t_30
        (FieldAddrP 0 fromx_1 fun t_31 =>
        LoadP none H4 t_31 fun t_32 =>
        CallH P f_palioref07_Less [t_32, a0_s] H4 fun t_33 H34 =>
        SplitP t_33
          (J_5 ((.bool true), []) H34)
          (FieldAddrP 0 fromx_1 fun t_35 =>
          LoadP none H34 t_35 fun t_36 =>
          BinP .eql a0_s t_36 fun t_37 =>
          SplitP t_37
            (FieldAddrP 1 fromx_1 fun t_38 =>
            LoadP none H34 t_38 fun t_39 =>
            UnP .not t_39 fun t_40 =>
            J_5 (t_40, []) H34)
            (J_5 ((.bool false), []) H34)))
        (J_5 ((.bool false), []) H4)))

def a_palioref09_InEdge : Ann := [(5, [7], [9, 10, 11, 12, 13, 14, 15, 16, 17, 18, 19, 20, 21, 22, 23, 24, 25, 26, 27, 28, 29, 30, 31, 32, 33]), (7, [8], [34, 35, 36, 37, 38, 39, 40, 41, 42, 43, 44, 45, 46, 47, 48, 49, 50, 51, 52, 53, 54, 55, 56, 57, 58])]

theorem e_palioref09_InEdge (a0_s : Value) (a1_from : Value) (a2_to : Value) (H : Heap) (K : Value → Heap → Prop) : bodyX P a_palioref09_InEdge (bodyOf Tryz.f49) Tryz.f49.results.toList [a0_s, a1_from, a2_to] H K = c_palioref09_InEdge a0_s a1_from a2_to H K := by kernel_rfl

theorem ok_palioref09_InEdge : okFn P a_palioref09_InEdge Tryz.f49 3 = true := by kernel_rfl
theorem k_palioref09_InEdge {a0_s a1_from a2_to : Value} {H : Heap} {K : Value → Heap → Prop} (h : c_palioref09_InEdge a0_s a1_from a2_to H K) : CallH P f_palioref09_InEdge [a0_s, a1_from, a2_to] H K :=
  call_of_bodyX Tryz.func49 ok_palioref09_InEdge ((e_palioref09_InEdge a0_s a1_from a2_to H K).mpr h)

/-- palio/scan.Scan[int64] -/
def c_scan_Scan_int64 (a0_d : Value) (a1_cursor : Value) (H : Heap) (K : Value → Heap → Prop) : Prop :=
  BoxP none T_p_dict_Dict_int64 a0_d H fun d_1 H2 =>
  LoadP none H2 d_1 fun t_3 =>
  CallH P f_dict_Dict_int64_Sizes [t_3] H2 fun t_4 H5 =>
  ExtractP t_4 0 fun t_6 =>
  ExtractP t_4 1 fun t_7 =>
  ExtractP t_4 2 fun t_8 =>
  BinP .eql t_6 (.int .i64 0) fun t_9 =>
  SplitP t_9
    (K (.tuple #[(.slice none 0 0), (.int .u32 0)]) H5)
    (BinP .eql t_7 (.int .i64 0) fun t_10 =>
    SplitP t_10
      (LoadP none H5 d_1 fun t_11 =>
      CallH P f_scan_mask [t_6] H5 fun t_12 H13 =>
      LoadIs none H13 d_1 t_11 ∧
      BinP .and a1_cursor t_12 fun t_14 =>
      ConvIntP .i64 t_14 fun t_15 =>
      BuildP (zerosN #[(.int .i64 0)] 1) [(0, none, t_15)] fun t_16 =>
      BuildSliceP T_int 1 t_16 H13 fun t_17 H18 =>
      LoadIs none H18 d_1 t_11 ∧
      CallH P f_scan_gathered_int64 [t_11, (.int .i64 0), t_17] H18 fun t_19 H20 =>
      CallH P f_scan_next [a1_cursor, t_6] H20 fun t_21 H22 =>
      K (.tuple #[t_19, t_21]) H22)
      (AllocP #[(.int .i64 0)] T_int H5 fun table_23 H24 =>
      StoreP none H24 table_23 (.int .i64 0) fun H25 =>
      JoinP (S := (Value × Value) × List Deferred) (G := Tup 5)
        (fun s_26 g_26 H26 =>
        JoinP (S := (Value) × List Deferred) (G := Tup 9)
          (fun s_27 g_27 H27 =>
          AllocP #[(.int .u32 0)] T_uint32 H27 fun behind_28 H29 =>
          StoreP none H29 behind_28 a1_cursor fun H30 =>
          CallH P f_scan_slots [a1_cursor, s_26.1.1, s_26.1.2] H30 fun t_31 H32 =>
          RangeP P none t_31 2
            (fun l_33 vs_33 H33 K_33 =>
            BeginP l_33 H33 fun H34 =>
            LoadP none H34 s_27.1 fun t_35 =>
            LoadP none H34 d_1 fun t_36 =>
            LoadP none H34 table_23 fun t_37 =>
            BinP .sub (.int .i64 1) t_37 fun t_38 =>
            BuildP (zerosN #[(.int .i64 0)] 1) [(0, none, vs_33.1)] fun t_39 =>
            BuildSliceP T_int 1 t_39 H34 fun t_40 H41 =>
            LoadIs none H41 table_23 t_37 ∧
            LoadIs none H41 d_1 t_36 ∧
            LoadIs none H41 s_27.1 t_35 ∧
            CallH P f_scan_gathered_int64 [t_36, t_38, t_40] H41 fun t_42 H43 =>
            LoadIs none H43 s_27.1 t_35 ∧
            AppendP P T_string t_35 t_42 H43 fun t_44 H45 =>
            StoreP none H45 s_27.1 t_44 fun H46 =>
            StoreP none H46 behind_28 vs_33.2 fun H47 =>
            EndP l_33 .normal H47 K_33)
            (fun p_33 ds_33 Ha33 => AltP p_33 [
            (.normal, LoadP none Ha33 s_27.1 fun t_48 =>
            LoadP none Ha33 behind_28 fun t_49 =>
            RetP (ds_33 ++ s_27.2) Ha33 fun H50 =>
            K (.tuple #[t_48, t_49]) H50)]) H32)
          (fun J_27 =>
          LoadP none H26 d_1 fun t_51 =>
          LoadP none H26 table_23 fun t_52 =>
          (CallH P f_scan_mask [s_26.1.1] H26 fun t_53 H54 =>
          LoadIs none H54 table_23 t_52 ∧
          LoadIs none H54 d_1 t_51 ∧
          BinP .and a1_cursor t_53 fun t_55 =>
          ConvIntP .i64 t_55 fun t_56 =>
          (BuildP (zerosN #[(.int .i64 0)] 1) [(0, none, t_56)] fun t_57 =>
          BuildSliceP T_int 1 t_57 H54 fun t_58 H59 =>
          LoadIs none H59 table_23 t_52 ∧
          LoadIs none H59 d_1 t_51 ∧
          (CallH P f_scan_gathered_int64 [t_51, t_52, t_58] H59 fun t_60 H61 =>
          AllocP #[(.slice none 0 0)] T_s_string H61 fun out_62 H63 =>
          StoreP none H63 out_62 t_60 fun H64 =>
          J_27 (out_62, s_26.2) H64) ∧
          (AllocP #[(.slice none 0 0)] T_s_string H59 fun out_65 H66 =>
          LoadIs none H66 table_23 t_52 ∧
          LoadIs none H66 d_1 t_51 ∧
          CallH P f_scan_gathered_int64 [t_51, t_52, t_58] H66 fun t_67 H68 =>
          StoreP none H68 out_65 t_67 fun H69 =>
          J_27 (out_65, s_26.2) H69)) ∧
          (AllocP #[(.slice none 0 0)] T_s_string H54 fun out_70 H71 =>
          LoadIs none H71 table_23 t_52 ∧
          LoadIs none H71 d_1 t_51 ∧
          BuildP (zerosN #[(.int .i64 0)] 1) [(0, none, t_56)] fun t_72 =>
          BuildSliceP T_int 1 t_72 H71 fun t_73 H74 =>
          LoadIs none H74 table_23 t_52 ∧
          LoadIs none H74 d_1 t_51 ∧
          CallH P f_scan_gathered_int64 [t_51, t_52, t_73] H74 fun t_75 H76 =>
          StoreP none H76 out_70 t_75 fun H77 =>
          J_27 (out_70, s_26.2) H77)) ∧
          (AllocP #[(.slice none 0 0)] T_s_string H26 fun out_78 H79 =>
          LoadIs none H79 table_23 t_52 ∧
          LoadIs none H79 d_1 t_51 ∧
          CallH P f_scan_mask [s_26.1.1] H79 fun t_80 H81 =>
          LoadIs none H81 table_23 t_52 ∧
          LoadIs none H81 d_1 t_51 ∧
          BinP .and a1_cursor t_80 fun t_82 =>
          ConvIntP .i64 t_82 fun t_83 =>
          BuildP (zerosN #[(.int .i64 0)] 1) [(0, none, t_83)] fun t_84 =>
          BuildSliceP T_int 1 t_84 H81 fun t_85 H86 =>
          LoadIs none H86 table_23 t_52 ∧
          LoadIs none H86 d_1 t_51 ∧
          CallH P f_scan_gathered_int64 [t_51, t_52, t_85] H86 fun t_87 H88 =>
          StoreP none H88 out_78 t_87 fun H89 =>
          J_27 (out_78, s_26.2) H89)))
        (fun J_26 =>
        BinP .lss t_7 t_6 fun t_90 =>
        SplitP t_90
          (StoreP none H25 table_23 (.int .i64 1) fun H91 =>
          J_26 ((t_7, t_6), []) H91)
          (J_26 ((t_6, t_7), []) H25))))

def a_scan_Scan_int64 : Ann := [(19, [9, 10], [41, 42, 43, 44, 45]), (21, [12], [46, 47, 48, 49, 50, 51, 52, 53, 54])]

theorem e_scan_Scan_int64 (a0_d : Value) (a1_cursor : Value) (H : Heap) (K : Value → Heap → Prop) : bodyX P a_scan_Scan_int64 (bodyOf Tryz.f50) Tryz.f50.results.toList [a0_d, a1_cursor] H K = c_scan_Scan_int64 a0_d a1_cursor H K := by kernel_rfl

theorem ok_scan_Scan_int64 : okFn P a_scan_Scan_int64 Tryz.f50 2 = true := by kernel_rfl
theorem k_scan_Scan_int64 {a0_d a1_cursor : Value} {H : Heap} {K : Value → Heap → Prop} (h : c_scan_Scan_int64 a0_d a1_cursor H K) : CallH P f_scan_Scan_int64 [a0_d, a1_cursor] H K :=
  call_of_bodyX Tryz.func50 ok_scan_Scan_int64 ((e_scan_Scan_int64 a0_d a1_cursor H K).mpr h)

/-- (*palio/zset.listed).score -/
def c_zset_listed_score (a0_x : Value) (a1_member : Value) (H : Heap) (K : Value → Heap → Prop) : Prop :=
  NilP a0_x fun t_1 =>
  FieldAddrP 1 t_1 fun t_2 =>
  LoadP none H t_2 fun t_3 =>
  CallH P f_dict_Dict_int64_Get [t_3, a1_member] H fun t_4 H5 =>
  ExtractP t_4 0 fun t_6 =>
  ExtractP t_4 1 fun t_7 =>
  K (.tuple #[t_6, t_7]) H5

def a_zset_listed_score : Ann := []

theorem e_zset_listed_score (a0_x : Value) (a1_member : Value) (H : Heap) (K : Value → Heap → Prop) : bodyX P a_zset_listed_score (bodyOf Tryz.f51) Tryz.f51.results.toList [a0_x, a1_member] H K = c_zset_listed_score a0_x a1_member H K := by kernel_rfl

theorem ok_zset_listed_score : okFn P a_zset_listed_score Tryz.f51 2 = true := by kernel_rfl
theorem k_zset_listed_score {a0_x a1_member : Value} {H : Heap} {K : Value → Heap → Prop} (h : c_zset_listed_score a0_x a1_member H K) : CallH P f_zset_listed_score [a0_x, a1_member] H K :=
  call_of_bodyX Tryz.func51 ok_zset_listed_score ((e_zset_listed_score a0_x a1_member H K).mpr h)

/-- palio/pack.head -/
def c_pack_head (a0_n : Value) (H : Heap) (K : Value → Heap → Prop) : Prop :=
  BinP .shr a0_n (.int .u64 8) fun t_1 =>
  ConvIntP .u8 t_1 fun t_2 =>
  ConvIntP .u8 a0_n fun t_3 =>
  BuildP (zerosN #[(.int .u8 0)] 2) [(0, none, t_2), (1, none, t_3)] fun t_4 =>
  BuildSliceP T_uint8 2 t_4 H fun t_5 H6 =>
  CallH P f_pack_bytes [t_5] H6 fun t_7 H8 =>
  K t_7 H8

def a_pack_head : Ann := []

theorem e_pack_head (a0_n : Value) (H : Heap) (K : Value → Heap → Prop) : bodyX P a_pack_head (bodyOf Tryz.f52) Tryz.f52.results.toList [a0_n] H K = c_pack_head a0_n H K := by kernel_rfl

theorem ok_pack_head : okFn P a_pack_head Tryz.f52 1 = true := by kernel_rfl
theorem k_pack_head {a0_n : Value} {H : Heap} {K : Value → Heap → Prop} (h : c_pack_head a0_n H K) : CallH P f_pack_head [a0_n] H K :=
  call_of_bodyX Tryz.func52 ok_pack_head ((e_pack_head a0_n H K).mpr h)

/-- palio/skip.New -/
def c_skip_New (H : Heap) (K : Value → Heap → Prop) : Prop :=
  BuildP (zeroT P T_skip_List).cells.toList [] fun t_1 =>
  BoxP (some 71) T_skip_List (.agg t_1.toArray) H fun t_2 H3 =>
  K t_2 H3

def a_skip_New : Ann := []

theorem e_skip_New (H : Heap) (K : Value → Heap → Prop) : bodyX P a_skip_New (bodyOf Tryz.f53) Tryz.f53.results.toList [] H K = c_skip_New H K := by kernel_rfl

theorem ok_skip_New : okFn P a_skip_New Tryz.f53 0 = true := by kernel_rfl
theorem k_skip_New {H : Heap} {K : Value → Heap → Prop} (h : c_skip_New H K) : CallH P f_skip_New [] H K :=
  call_of_bodyX Tryz.func53 ok_skip_New ((e_skip_New H K).mpr h)

/-- palio/dict.New[int64] -/
def c_dict_New_int64 (a0_seed : Value) (H : Heap) (K : Value → Heap → Prop) : Prop :=
  MakeSliceP P T_p_dict_node_int64 (.int .i64 4) (.int .i64 4) H fun t_1 H2 =>
  BuildP [(.slice none 0 0), (.slice none 0 0)] [(0, none, t_1)] fun t_3 =>
  BuildP [(.int .u32 0), (.slice none 0 0), (.slice none 0 0), (.int .i64 0), (.int .i64 0)] [(0, none, a0_seed), (1, (some 2), (.agg t_3.toArray))] fun t_4 =>
  BoxP (some 5) T_dict_Dict_int64 (.agg t_4.toArray) H2 fun t_5 H6 =>
  K t_5 H6

def a_dict_New_int64 : Ann := []

theorem e_dict_New_int64 (a0_seed : Value) (H : Heap) (K : Value → Heap → Prop) : bodyX P a_dict_New_int64 (bodyOf Tryz.f54) Tryz.f54.results.toList [a0_seed] H K = c_dict_New_int64 a0_seed H K := by kernel_rfl

theorem ok_dict_New_int64 : okFn P a_dict_New_int64 Tryz.f54 1 = true := by kernel_rfl
theorem k_dict_New_int64 {a0_seed : Value} {H : Heap} {K : Value → Heap → Prop} (h : c_dict_New_int64 a0_seed H K) : CallH P f_dict_New_int64 [a0_seed] H K :=
  call_of_bodyX Tryz.func54 ok_dict_New_int64 ((e_dict_New_int64 a0_seed H K).mpr h)

/-- (*palio/zset.listed).put -/
def c_zset_listed_put (a0_x : Value) (a1_e : Value) (a2_level : Value) (H : Heap) (K : Value → Heap → Prop) : Prop :=
  BoxP (some 2) T_api_Entry a1_e H fun e_1 H2 =>
  NilP a0_x fun t_3 =>
  FieldAddrP 0 t_3 fun t_4 =>
  LoadP none H2 t_4 fun t_5 =>
  LoadP (some 2) H2 e_1 fun t_6 =>
  CallH P f_skip_List_Insert [t_5, t_6, a2_level] H2 fun t_7 H8 =>
  NilP a0_x fun t_9 =>
  FieldAddrP 1 t_9 fun t_10 =>
  LoadP none H8 t_10 fun t_11 =>
  FieldAddrP 0 e_1 fun t_12 =>
  LoadP none H8 t_12 fun t_13 =>
  FieldAddrP 1 e_1 fun t_14 =>
  LoadP none H8 t_14 fun t_15 =>
  CallH P f_dict_Dict_int64_Set [t_11, t_13, t_15] H8 fun t_16 H17 =>
  K (.tuple #[]) H17

def a_zset_listed_put : Ann := []

theorem e_zset_listed_put (a0_x : Value) (a1_e : Value) (a2_level : Value) (H : Heap) (K : Value → Heap → Prop) : bodyX P a_zset_listed_put (bodyOf Tryz.f55) Tryz.f55.results.toList [a0_x, a1_e, a2_level] H K = c_zset_listed_put a0_x a1_e a2_level H K := by kernel_rfl

theorem ok_zset_listed_put : okFn P a_zset_listed_put Tryz.f55 3 = true := by kernel_rfl
theorem k_zset_listed_put {a0_x a1_e a2_level : Value} {H : Heap} {K : Value → Heap → Prop} (h : c_zset_listed_put a0_x a1_e a2_level H K) : CallH P f_zset_listed_put [a0_x, a1_e, a2_level] H K :=
  call_of_bodyX Tryz.func55 ok_zset_listed_put ((e_zset_listed_put a0_x a1_e a2_level H K).mpr h)

/-- palio/palioref05.Delete -/
def c_palioref05_Delete (a0_l : Value) (a1_at : Value) (H : Heap) (K : Value → Heap → Prop) : Prop :=
  SliceSlP 2 a0_l none (some a1_at) none fun t_1 =>
  AppendP P T_api_Entry (.slice none 0 0) t_1 H fun t_2 H3 =>
  BinP .add a1_at (.int .i64 1) fun t_4 =>
  SliceSlP 2 a0_l (some t_4) none none fun t_5 =>
  AppendP P T_api_Entry t_2 t_5 H3 fun t_6 H7 =>
  K t_6 H7

def a_palioref05_Delete : Ann := []

theorem e_palioref05_Delete (a0_l : Value) (a1_at : Value) (H : Heap) (K : Value → Heap → Prop) : bodyX P a_palioref05_Delete (bodyOf Tryz.f56) Tryz.f56.results.toList [a0_l, a1_at] H K = c_palioref05_Delete a0_l a1_at H K := by kernel_rfl

theorem ok_palioref05_Delete : okFn P a_palioref05_Delete Tryz.f56 2 = true := by kernel_rfl
theorem k_palioref05_Delete {a0_l a1_at : Value} {H : Heap} {K : Value → Heap → Prop} (h : c_palioref05_Delete a0_l a1_at H K) : CallH P f_palioref05_Delete [a0_l, a1_at] H K :=
  call_of_bodyX Tryz.func56 ok_palioref05_Delete ((e_palioref05_Delete a0_l a1_at H K).mpr h)

/-- palio/palioref11.Sorted -/
def c_palioref11_Sorted (a0_l : Value) (a1_e : Value) (H : Heap) (K : Value → Heap → Prop) : Prop :=
  BoxP (some 2) T_api_Entry a1_e H fun e_1 H2 =>
  JoinP (S := (Value) × List Deferred) (G := Tup 14)
    (fun s_3 g_3 H3 =>
    LoadP (some 2) H3 e_1 fun t_4 =>
    CallH P f_palioref05_Insert [a0_l, s_3.1, t_4] H3 fun t_5 H6 =>
    RetP s_3.2 H6 fun H7 =>
    K t_5 H7)
    (fun J_3 =>
    LoopP (S := (Value) × List Deferred) (G := Tup 14)
      (fun s_8 g_8 self_8 H8 =>
      LenP a0_l fun t_9 =>
      BinP .lss s_8.1 t_9 fun t_10 =>
      SplitP t_10
        (IdxSliceP 2 a0_l s_8.1 fun t_11 =>
        LoadP (some 2) H8 t_11 fun t_12 =>
        LoadP (some 2) H8 e_1 fun t_13 =>
        CallH P f_palioref09_Less [t_12, t_13] H8 fun t_14 H15 =>
        SplitP t_14
          (BinP .add s_8.1 (.int .i64 1) fun t_16 =>
          self_8 (t_16, s_8.2) H15)
          (J_3 (s_8.1, s_8.2) H15))
        (J_3 (s_8.1, s_8.2) H8))
      ((.int .i64 0), []) H2)

def a_palioref11_Sorted : Ann := [(4, [5], [6, 7, 8, 9, 10, 11, 12, 13, 14, 15, 16, 17, 18, 19]), (9, [5], [6, 7, 8, 9, 10, 11, 12, 13, 14, 15, 16, 17, 18, 19])]

theorem e_palioref11_Sorted (a0_l : Value) (a1_e : Value) (H : Heap) (K : Value → Heap → Prop) : bodyX P a_palioref11_Sorted (bodyOf Tryz.f57) Tryz.f57.results.toList [a0_l, a1_e] H K = c_palioref11_Sorted a0_l a1_e H K := by kernel_rfl

theorem ok_palioref11_Sorted : okFn P a_palioref11_Sorted Tryz.f57 2 = true := by kernel_rfl
theorem k_palioref11_Sorted {a0_l a1_e : Value} {H : Heap} {K : Value → Heap → Prop} (h : c_palioref11_Sorted a0_l a1_e H K) : CallH P f_palioref11_Sorted [a0_l, a1_e] H K :=
  call_of_bodyX Tryz.func57 ok_palioref11_Sorted ((e_palioref11_Sorted a0_l a1_e H K).mpr h)

/-- sort.Search -/
def c_sort_Search (a0_n : Value) (a1_f : Value) (H : Heap) (K : Value → Heap → Prop) : Prop :=
  LoopP (S := (Value × Value) × List Deferred) (G := Tup 17)
    (fun s_1 g_1 self_1 H1 =>
    BinP .lss s_1.1.1 s_1.1.2 fun t_2 =>
    SplitP t_2
      (BinP .add s_1.1.1 s_1.1.2 fun t_3 =>
      ConvIntP .u64 t_3 fun t_4 =>
      BinP .shr t_4 (.int .u64 1) fun t_5 =>
      ConvIntP .i64 t_5 fun t_6 =>
      CallV P a1_f [t_6] H1 fun t_7 H8 =>
      UnP .not t_7 fun t_9 =>
      SplitP t_9
        (BinP .add t_6 (.int .i64 1) fun t_10 =>
        self_1 ((t_10, s_1.1.2), s_1.2) H8)
        (self_1 ((s_1.1.1, t_6), s_1.2) H8))
      (RetP s_1.2 H1 fun H11 =>
      K s_1.1.1 H11))
    (((.int .i64 0), a0_n), []) H

def a_sort_Search : Ann := [(4, [5, 6], [7, 9, 10, 11, 12, 13, 14, 15, 16, 17, 18, 19, 20, 21, 22, 23, 24])]

theorem e_sort_Search (a0_n : Value) (a1_f : Value) (H : Heap) (K : Value → Heap → Prop) : bodyX P a_sort_Search (bodyOf Tryz.f58) Tryz.f58.results.toList [a0_n, a1_f] H K = c_sort_Search a0_n a1_f H K := by kernel_rfl

theorem ok_sort_Search : okFn P a_sort_Search Tryz.f58 2 = true := by kernel_rfl
theorem k_sort_Search {a0_n a1_f : Value} {H : Heap} {K : Value → Heap → Prop} (h : c_sort_Search a0_n a1_f H K) : CallH P f_sort_Search [a0_n, a1_f] H K :=
  call_of_bodyX Tryz.func58 ok_sort_Search ((e_sort_Search a0_n a1_f H K).mpr h)

/-- (*palio/zset.Set).place$1 -/
def c_zset_Set_place_1 (a0_i : Value) (a1_x : Value) (a2_x : Value) (H : Heap) (K : Value → Heap → Prop) : Prop :=
  LoadP none H a1_x fun t_1 =>
  BinP .add a0_i (.int .i64 1) fun t_2 =>
  CallH P f_zset_Set_Range [t_1, a0_i, t_2] H fun t_3 H4 =>
  LenP t_3 fun t_5 =>
  LoopP (S := (Value) × List Deferred) (G := Tup 10)
    (fun s_6 g_6 self_6 H6 =>
    BinP .lss s_6.1 t_5 fun t_7 =>
    SplitP t_7
      (IdxSliceP 2 t_3 s_6.1 fun t_8 =>
      LoadP (some 2) H6 t_8 fun t_9 =>
      AllocP #[(.string ⟨#[]⟩), (.int .i64 0)] T_api_Entry H6 fun e_10 H11 =>
      StoreP (some 2) H11 e_10 t_9 fun H12 =>
      LoadP none H12 a2_x fun t_13 =>
      LoadP (some 2) H12 e_10 fun t_14 =>
      CallV P t_13 [t_14] H12 fun t_15 H16 =>
      UnP .not t_15 fun t_17 =>
      RetP s_6.2 H16 fun H18 =>
      K t_17 H18)
      (RetP s_6.2 H6 fun H19 =>
      K (.bool true) H19))
    ((.int .i64 0), []) H4

def a_zset_Set_place_1 : Ann := [(4, [13], [4, 6, 14, 15, 16, 17, 18, 19, 20, 21])]

theorem e_zset_Set_place_1 (a0_i : Value) (a1_x : Value) (a2_x : Value) (H : Heap) (K : Value → Heap → Prop) : bodyX P a_zset_Set_place_1 (bodyOf Tryz.f59) Tryz.f59.results.toList [a0_i, a1_x, a2_x] H K = c_zset_Set_place_1 a0_i a1_x a2_x H K := by kernel_rfl

theorem ok_zset_Set_place_1 : okFn P a_zset_Set_place_1 Tryz.f59 3 = true := by kernel_rfl
theorem k_zset_Set_place_1 {a0_i a1_x a2_x : Value} {H : Heap} {K : Value → Heap → Prop} (h : c_zset_Set_place_1 a0_i a1_x a2_x H K) : CallH P f_zset_Set_place_1 [a0_i, a1_x, a2_x] H K :=
  call_of_bodyX Tryz.func59 ok_zset_Set_place_1 ((e_zset_Set_place_1 a0_i a1_x a2_x H K).mpr h)

/-- cmp.Or[int] -/
def c_cmp_Or_int (a0_vals : Value) (H : Heap) (K : Value → Heap → Prop) : Prop :=
  LenP a0_vals fun t_1 =>
  LoopP (S := (Value) × List Deferred) (G := Tup 10)
    (fun s_2 g_2 self_2 H2 =>
    BinP .lss s_2.1 t_1 fun t_3 =>
    SplitP t_3
      (IdxSliceP 1 a0_vals s_2.1 fun t_4 =>
      LoadP none H2 t_4 fun t_5 =>
      BinP .neq t_5 (.int .i64 0) fun t_6 =>
      SplitP t_6
        (RetP s_2.2 H2 fun H7 =>
        K t_5 H7)
        (BinP .add s_2.1 (.int .i64 1) fun t_8 =>
        self_2 (t_8, s_2.2) H2))
      (RetP s_2.2 H2 fun H9 =>
      K (.int .i64 0) H9))
    ((.int .i64 0), []) H

def a_cmp_Or_int : Ann := [(6, [8], [2, 5, 9, 10, 11, 12, 13, 14, 15, 16])]

theorem e_cmp_Or_int (a0_vals : Value) (H : Heap) (K : Value → Heap → Prop) : bodyX P a_cmp_Or_int (bodyOf Tryz.f60) Tryz.f60.results.toList [a0_vals] H K = c_cmp_Or_int a0_vals H K := by kernel_rfl

theorem ok_cmp_Or_int : okFn P a_cmp_Or_int Tryz.f60 1 = true := by kernel_rfl
theorem k_cmp_Or_int {a0_vals : Value} {H : Heap} {K : Value → Heap → Prop} (h : c_cmp_Or_int a0_vals H K) : CallH P f_cmp_Or_int [a0_vals] H K :=
  call_of_bodyX Tryz.func60 ok_cmp_Or_int ((e_cmp_Or_int a0_vals H K).mpr h)

/-- cmp.Compare[int64] -/
def c_cmp_Compare_int64 (a0_x : Value) (a1_y : Value) (H : Heap) (K : Value → Heap → Prop) : Prop :=
  CallH P f_cmp_isNaN_int64 [a0_x] H fun t_1 H2 =>
  CallH P f_cmp_isNaN_int64 [a1_y] H2 fun t_3 H4 =>
  SplitP t_1
    (SplitP t_3
      (K (.int .i64 0) H4)
      (K (.int .i64 (-1)) H4))
    (SplitP t_3
      (K (.int .i64 1) H4)
      (BinP .lss a0_x a1_y fun t_5 =>
      SplitP t_5
        (K (.int .i64 (-1)) H4)
        (BinP .gtr a0_x a1_y fun t_6 =>
        SplitP t_6
          (K (.int .i64 1) H4)
          (K (.int .i64 0) H4))))

def a_cmp_Compare_int64 : Ann := []

theorem e_cmp_Compare_int64 (a0_x : Value) (a1_y : Value) (H : Heap) (K : Value → Heap → Prop) : bodyX P a_cmp_Compare_int64 (bodyOf Tryz.f61) Tryz.f61.results.toList [a0_x, a1_y] H K = c_cmp_Compare_int64 a0_x a1_y H K := by kernel_rfl

theorem ok_cmp_Compare_int64 : okFn P a_cmp_Compare_int64 Tryz.f61 2 = true := by kernel_rfl
theorem k_cmp_Compare_int64 {a0_x a1_y : Value} {H : Heap} {K : Value → Heap → Prop} (h : c_cmp_Compare_int64 a0_x a1_y H K) : CallH P f_cmp_Compare_int64 [a0_x, a1_y] H K :=
  call_of_bodyX Tryz.func61 ok_cmp_Compare_int64 ((e_cmp_Compare_int64 a0_x a1_y H K).mpr h)

end Go.X.W
