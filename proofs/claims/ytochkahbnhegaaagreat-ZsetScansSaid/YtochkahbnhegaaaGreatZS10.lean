/- Clean words of Go functions, printed by a program of our own; each is equal to the evaluator's result. Contracts: hash. Contracts: sizes of tables. Parts of memory, apart from one another: one fact that holds all that a proof knows of a heap. -/
import Derived.Test.YtochkahbnhegaaaGreatZS3
import Derived.Test.YtochkahbnhegaaaGreatZS4
import Derived.Test.YtochkahbnhegaaaGreatZS5
import Derived.Test.YtochkahbnhegaaaGreatZS6
import Derived.Test.YtochkahbnhegaaaGreatZS7
import Derived.Test.YtochkahbnhegaaaGreatZS8
import Derived.Test.YtochkahbnhegaaaGreatZS9
set_option linter.unusedVariables false
set_option maxRecDepth 100000
namespace Go.X.W
open Go Go.X Go.Proofs

/-- palio/pack.spots -/
def c_pack_spots (a0_p : Value) (H : Heap) (K : Value → Heap → Prop) : Prop :=
  BoxP none T_string a0_p H fun p_1 H2 =>
  K (.func (.func f_pack_spots_1) #[] #[p_1]) H2

def a_pack_spots : Ann := []

theorem e_pack_spots (a0_p : Value) (H : Heap) (K : Value → Heap → Prop) : bodyX P a_pack_spots (bodyOf Tryz.f168) Tryz.f168.results.toList [a0_p] H K = c_pack_spots a0_p H K := by kernel_rfl

theorem ok_pack_spots : okFn P a_pack_spots Tryz.f168 1 = true := by kernel_rfl
theorem k_pack_spots {a0_p : Value} {H : Heap} {K : Value → Heap → Prop} (h : c_pack_spots a0_p H K) : CallH P f_pack_spots [a0_p] H K :=
  call_of_bodyX Tryz.func168 ok_pack_spots ((e_pack_spots a0_p H K).mpr h)

/-- palio/pack.all -/
def c_pack_all (a0_p : Value) (H : Heap) (K : Value → Heap → Prop) : Prop :=
  AllocP #[(.slice none 0 0)] T_s_pack_spot H fun out_1 H2 =>
  AllocP #[(.int .i64 0)] T_int H2 fun endx_3 H4 =>
  StoreP none H4 endx_3 (.int .i64 2) fun H5 =>
  CallH P f_pack_spots [a0_p] H5 fun t_6 H7 =>
  RangeP P none t_6 1
    (fun l_8 vs_8 H8 K_8 =>
    AllocP #[(.string ⟨#[]⟩), (.int .i64 0), (.int .i64 0), (.int .i64 0)] T_pack_spot H8 fun s_9 H10 =>
    StoreP (some 4) H10 s_9 vs_8 fun H11 =>
    BeginP l_8 H11 fun H12 =>
    LoadP none H12 out_1 fun t_13 =>
    LoadP (some 4) H12 s_9 fun t_14 =>
    BuildP (zerosN #[(.string ⟨#[]⟩), (.int .i64 0), (.int .i64 0), (.int .i64 0)] 1) [(0, (some 4), t_14)] fun t_15 =>
    BuildSliceP T_pack_spot 1 t_15 H12 fun t_16 H17 =>
    AppendP P T_pack_spot t_13 t_16 H17 fun t_18 H19 =>
    StoreP none H19 out_1 t_18 fun H20 =>
    FieldAddrP 3 s_9 fun t_21 =>
    LoadP none H20 t_21 fun t_22 =>
    StoreP none H20 endx_3 t_22 fun H23 =>
    EndP l_8 .normal H23 K_8)
    (fun p_8 ds_8 Ha8 => AltP p_8 [
    (.normal, CallH P f_pack_count [a0_p] Ha8 fun t_24 H25 =>
    BinP .lss t_24 (.int .i64 0) fun t_26 =>
    SplitP t_26
      (RetP (ds_8 ++ []) H25 fun H27 =>
      K (.tuple #[(.slice none 0 0), (.int .i64 50)]) H27)
      (LoadP none H25 out_1 fun t_28 =>
      LenP t_28 fun t_29 =>
      BinP .neq t_24 t_29 fun t_30 =>
      SplitP t_30
        (RetP (ds_8 ++ []) H25 fun H31 =>
        K (.tuple #[(.slice none 0 0), (.int .i64 50)]) H31)
        (LoadP none H25 endx_3 fun t_32 =>
        LenStrP a0_p fun t_33 =>
        BinP .neq t_32 t_33 fun t_34 =>
        SplitP t_34
          (RetP (ds_8 ++ []) H25 fun H35 =>
          K (.tuple #[(.slice none 0 0), (.int .i64 50)]) H35)
          (LoadP none H25 out_1 fun t_36 =>
          RetP (ds_8 ++ []) H25 fun H37 =>
          K (.tuple #[t_36, (.int .i64 0)]) H37))))]) H7

def a_pack_all : Ann := []

theorem e_pack_all (a0_p : Value) (H : Heap) (K : Value → Heap → Prop) : bodyX P a_pack_all (bodyOf Tryz.f169) Tryz.f169.results.toList [a0_p] H K = c_pack_all a0_p H K := by kernel_rfl

theorem ok_pack_all : okFn P a_pack_all Tryz.f169 1 = true := by kernel_rfl
theorem k_pack_all {a0_p : Value} {H : Heap} {K : Value → Heap → Prop} (h : c_pack_all a0_p H K) : CallH P f_pack_all [a0_p] H K :=
  call_of_bodyX Tryz.func169 ok_pack_all ((e_pack_all a0_p H K).mpr h)

/-- palio/pack.entry -/
def c_pack_entry (a0_e : Value) (H : Heap) (K : Value → Heap → Prop) : Prop :=
  BoxP (some 2) T_api_Entry a0_e H fun e_1 H2 =>
  FieldAddrP 0 e_1 fun t_3 =>
  LoadP none H2 t_3 fun t_4 =>
  LenStrP t_4 fun t_5 =>
  BinP .add (.int .i64 9) t_5 fun t_6 =>
  BinP .add t_6 (.int .i64 1) fun t_7 =>
  MakeSliceP P T_uint8 t_7 t_7 H2 fun t_8 H9 =>
  ConvIntP .u8 t_5 fun t_10 =>
  IdxSliceP 1 t_8 (.int .i64 0) fun t_11 =>
  StoreP none H9 t_11 t_10 fun H12 =>
  SliceSlP 1 t_8 (some (.int .i64 1)) none none fun t_13 =>
  FieldAddrP 0 e_1 fun t_14 =>
  LoadP none H12 t_14 fun t_15 =>
  CopyP P T_uint8 t_13 t_15 H12 fun t_16 H17 =>
  LoopP (S := (Value) × List Deferred) (G := Tup 18)
    (fun s_18 g_18 self_18 H18 =>
    BinP .lss s_18.1 (.int .i64 8) fun t_19 =>
    SplitP t_19
      (BinP .add (.int .i64 1) t_5 fun t_20 =>
      BinP .add t_20 s_18.1 fun t_21 =>
      FieldAddrP 1 e_1 fun t_22 =>
      LoadP none H18 t_22 fun t_23 =>
      ConvIntP .u64 t_23 fun t_24 =>
      BinP .sub (.int .i64 7) s_18.1 fun t_25 =>
      BinP .mul (.int .i64 8) t_25 fun t_26 =>
      BinP .shr t_24 t_26 fun t_27 =>
      ConvIntP .u8 t_27 fun t_28 =>
      IdxSliceP 1 t_8 t_21 fun t_29 =>
      StoreP none H18 t_29 t_28 fun H30 =>
      BinP .add s_18.1 (.int .i64 1) fun t_31 =>
      self_18 (t_31, s_18.2) H30)
      (LenP t_8 fun t_32 =>
      BinP .sub t_32 (.int .i64 1) fun t_33 =>
      BinP .add (.int .i64 9) t_5 fun t_34 =>
      ConvIntP .u8 t_34 fun t_35 =>
      IdxSliceP 1 t_8 t_33 fun t_36 =>
      StoreP none H18 t_36 t_35 fun H37 =>
      RetP s_18.2 H37 fun H38 =>
      K t_8 H38))
    ((.int .i64 0), []) H17

def a_pack_entry : Ann := [(12, [22], [5, 23, 24, 25, 26, 27, 28, 29, 30, 31, 32, 33, 34, 35, 36, 37, 38, 39])]

theorem e_pack_entry (a0_e : Value) (H : Heap) (K : Value → Heap → Prop) : bodyX P a_pack_entry (bodyOf Tryz.f170) Tryz.f170.results.toList [a0_e] H K = c_pack_entry a0_e H K := by kernel_rfl

theorem ok_pack_entry : okFn P a_pack_entry Tryz.f170 1 = true := by kernel_rfl
theorem k_pack_entry {a0_e : Value} {H : Heap} {K : Value → Heap → Prop} (h : c_pack_entry a0_e H K) : CallH P f_pack_entry [a0_e] H K :=
  call_of_bodyX Tryz.func170 ok_pack_entry ((e_pack_entry a0_e H K).mpr h)

/-- slices.Concat[[]byte,byte] -/
def c_slices_Concat_s_byte_byte (a0_slices : Value) (H : Heap) (K : Value → Heap → Prop) : Prop :=
  LenP a0_slices fun t_1 =>
  LoopP (S := (Value × Value) × List Deferred) (G := Tup 12)
    (fun s_2 g_2 self_2 H2 =>
    BinP .lss s_2.1.2 t_1 fun t_3 =>
    SplitP t_3
      (IdxSliceP 1 a0_slices s_2.1.2 fun t_4 =>
      LoadP none H2 t_4 fun t_5 =>
      LenP t_5 fun t_6 =>
      BinP .add s_2.1.1 t_6 fun t_7 =>
      BinP .lss t_7 (.int .i64 0) fun t_8 =>
      SplitP t_8
        (False)
        (BinP .add s_2.1.2 (.int .i64 1) fun t_9 =>
        self_2 ((t_7, t_9), s_2.2) H2))
      (CallH P f_slices_Grow_s_byte_byte [(.slice none 0 0), s_2.1.1] H2 fun t_10 H11 =>
      LenP a0_slices fun t_12 =>
      LoopP (S := (Value × Value) × List Deferred) (G := Tup 8)
        (fun s_13 g_13 self_13 H13 =>
        BinP .lss s_13.1.2 t_12 fun t_14 =>
        SplitP t_14
          (IdxSliceP 1 a0_slices s_13.1.2 fun t_15 =>
          LoadP none H13 t_15 fun t_16 =>
          AppendP P T_uint8 s_13.1.1 t_16 H13 fun t_17 H18 =>
          BinP .add s_13.1.2 (.int .i64 1) fun t_19 =>
          self_13 ((t_17, t_19), s_13.2) H18)
          (RetP s_13.2 H13 fun H20 =>
          K s_13.1.1 H20))
        ((t_10, (.int .i64 0)), s_2.2) H11))
    (((.int .i64 0), (.int .i64 0)), []) H

def a_slices_Concat_s_byte_byte : Ann := [(6, [3, 11], [5, 12, 13, 14, 15, 16, 17, 18, 19, 20, 21, 22]), (22, [6, 27], [8, 28, 29, 30, 31, 32, 33, 34])]

theorem e_slices_Concat_s_byte_byte (a0_slices : Value) (H : Heap) (K : Value → Heap → Prop) : bodyX P a_slices_Concat_s_byte_byte (bodyOf Tryz.f171) Tryz.f171.results.toList [a0_slices] H K = c_slices_Concat_s_byte_byte a0_slices H K := by kernel_rfl

theorem ok_slices_Concat_s_byte_byte : okFn P a_slices_Concat_s_byte_byte Tryz.f171 1 = true := by kernel_rfl
theorem k_slices_Concat_s_byte_byte {a0_slices : Value} {H : Heap} {K : Value → Heap → Prop} (h : c_slices_Concat_s_byte_byte a0_slices H K) : CallH P f_slices_Concat_s_byte_byte [a0_slices] H K :=
  call_of_bodyX Tryz.func171 ok_slices_Concat_s_byte_byte ((e_slices_Concat_s_byte_byte a0_slices H K).mpr h)

/-- palio/pack.spots$1 -/
def c_pack_spots_1 (a0_yield : Value) (a1_x : Value) (H : Heap) (K : Value → Heap → Prop) : Prop :=
  LoopP (S := (Value) × List Deferred) (G := Tup 24)
    (fun s_1 g_1 self_1 H1 =>
    LoadP none H1 a1_x fun t_2 =>
    CallH P f_pack_read [t_2, s_1.1] H1 fun t_3 H4 =>
    ExtractP t_3 0 fun t_5 =>
    ExtractP t_3 1 fun t_6 =>
    AllocP #[(.string ⟨#[]⟩), (.int .i64 0)] T_api_Entry H4 fun e_7 H8 =>
    StoreP (some 2) H8 e_7 t_5 fun H9 =>
    BinP .eql t_6 (.int .i64 0) fun t_10 =>
    SplitP t_10
      (RetP s_1.2 H9 fun H11 =>
      K (.tuple #[]) H11)
      (LoadP (some 2) H9 e_7 fun t_12 =>
      BinP .add s_1.1 t_6 fun t_13 =>
      BuildP [(.string ⟨#[]⟩), (.int .i64 0), (.int .i64 0), (.int .i64 0)] [(0, (some 2), t_12), (2, none, s_1.1), (3, none, t_13)] fun t_14 =>
      CallV P a0_yield [(.agg t_14.toArray)] H9 fun t_15 H16 =>
      UnP .not t_15 fun t_17 =>
      SplitP t_17
        (RetP s_1.2 H16 fun H18 =>
        K (.tuple #[]) H18)
        (BinP .add s_1.1 t_6 fun t_19 =>
        self_1 (t_19, s_1.2) H16)))
    ((.int .i64 2), []) H

def a_pack_spots_1 : Ann := [(2, [3], [4, 5, 6, 7, 8, 9, 10, 11, 12, 13, 14, 15, 16, 17, 18, 19, 20, 21, 22, 23, 24, 25, 26, 27])]

theorem e_pack_spots_1 (a0_yield : Value) (a1_x : Value) (H : Heap) (K : Value → Heap → Prop) : bodyX P a_pack_spots_1 (bodyOf Tryz.f172) Tryz.f172.results.toList [a0_yield, a1_x] H K = c_pack_spots_1 a0_yield a1_x H K := by kernel_rfl

theorem ok_pack_spots_1 : okFn P a_pack_spots_1 Tryz.f172 2 = true := by kernel_rfl
theorem k_pack_spots_1 {a0_yield a1_x : Value} {H : Heap} {K : Value → Heap → Prop} (h : c_pack_spots_1 a0_yield a1_x H K) : CallH P f_pack_spots_1 [a0_yield, a1_x] H K :=
  call_of_bodyX Tryz.func172 ok_pack_spots_1 ((e_pack_spots_1 a0_yield a1_x H K).mpr h)

/-- palio/pack.read -/
def c_pack_read (a0_p : Value) (a1_at : Value) (H : Heap) (K : Value → Heap → Prop) : Prop :=
  AllocP #[(.string ⟨#[]⟩), (.int .i64 0)] T_api_Entry H fun t_1 H2 =>
  LenStrP a0_p fun t_3 =>
  BinP .geq a1_at t_3 fun t_4 =>
  SplitP t_4
    (BuildP [(.string ⟨#[]⟩), (.int .i64 0)] [] fun t_5 =>
    StoreP (some 2) H2 t_1 (.agg t_5.toArray) fun H6 =>
    LoadP (some 2) H6 t_1 fun t_7 =>
    K (.tuple #[t_7, (.int .i64 0)]) H6)
    (IndexStrP a0_p a1_at fun t_8 =>
    ConvIntP .i64 t_8 fun t_9 =>
    BinP .add a1_at (.int .i64 9) fun t_10 =>
    BinP .add t_10 t_9 fun t_11 =>
    BinP .gtr t_9 (.int .i64 64) fun t_12 =>
    SplitP t_12
      (BuildP [(.string ⟨#[]⟩), (.int .i64 0)] [] fun t_13 =>
      StoreP (some 2) H2 t_1 (.agg t_13.toArray) fun H14 =>
      LoadP (some 2) H14 t_1 fun t_15 =>
      K (.tuple #[t_15, (.int .i64 0)]) H14)
      (LenStrP a0_p fun t_16 =>
      BinP .geq t_11 t_16 fun t_17 =>
      SplitP t_17
        (BuildP [(.string ⟨#[]⟩), (.int .i64 0)] [] fun t_18 =>
        StoreP (some 2) H2 t_1 (.agg t_18.toArray) fun H19 =>
        LoadP (some 2) H19 t_1 fun t_20 =>
        K (.tuple #[t_20, (.int .i64 0)]) H19)
        (IndexStrP a0_p t_11 fun t_21 =>
        ConvIntP .i64 t_21 fun t_22 =>
        BinP .add (.int .i64 9) t_9 fun t_23 =>
        BinP .neq t_22 t_23 fun t_24 =>
        SplitP t_24
          (BuildP [(.string ⟨#[]⟩), (.int .i64 0)] [] fun t_25 =>
          StoreP (some 2) H2 t_1 (.agg t_25.toArray) fun H26 =>
          LoadP (some 2) H26 t_1 fun t_27 =>
          K (.tuple #[t_27, (.int .i64 0)]) H26)
          (LoopP (S := (Value × Value) × List Deferred) (G := Tup 16)
            (fun s_28 g_28 self_28 H28 =>
            BinP .lss s_28.1.2 (.int .i64 8) fun t_29 =>
            SplitP t_29
              (BinP .shl s_28.1.1 (.int .u64 8) fun t_30 =>
              BinP .add a1_at (.int .i64 1) fun t_31 =>
              BinP .add t_31 t_9 fun t_32 =>
              BinP .add t_32 s_28.1.2 fun t_33 =>
              IndexStrP a0_p t_33 fun t_34 =>
              ConvIntP .u64 t_34 fun t_35 =>
              BinP .or t_30 t_35 fun t_36 =>
              BinP .add s_28.1.2 (.int .i64 1) fun t_37 =>
              self_28 ((t_36, t_37), s_28.2) H28)
              (BinP .add a1_at (.int .i64 1) fun t_38 =>
              BinP .add a1_at (.int .i64 1) fun t_39 =>
              BinP .add t_39 t_9 fun t_40 =>
              SliceStrP a0_p (some t_38) (some t_40) fun t_41 =>
              ConvIntP .i64 s_28.1.1 fun t_42 =>
              BuildP [(.string ⟨#[]⟩), (.int .i64 0)] [(0, none, t_41), (1, none, t_42)] fun t_43 =>
              BinP .add (.int .i64 9) t_9 fun t_44 =>
              BinP .add t_44 (.int .i64 1) fun t_45 =>
              StoreP (some 2) H28 t_1 (.agg t_43.toArray) fun H46 =>
              RetP s_28.2 H46 fun H47 =>
              LoadP (some 2) H47 t_1 fun t_48 =>
              K (.tuple #[t_48, t_45]) H47))
            (((.int .u64 0), (.int .i64 0)), []) H2))))

def a_pack_read : Ann := [(18, [8, 41], [9, 42, 43, 44, 45, 46, 47, 48, 49, 50, 51, 52, 53, 54, 55, 56])]

theorem e_pack_read (a0_p : Value) (a1_at : Value) (H : Heap) (K : Value → Heap → Prop) : bodyX P a_pack_read (bodyOf Tryz.f173) Tryz.f173.results.toList [a0_p, a1_at] H K = c_pack_read a0_p a1_at H K := by kernel_rfl

theorem ok_pack_read : okFn P a_pack_read Tryz.f173 2 = true := by kernel_rfl
theorem k_pack_read {a0_p a1_at : Value} {H : Heap} {K : Value → Heap → Prop} (h : c_pack_read a0_p a1_at H K) : CallH P f_pack_read [a0_p, a1_at] H K :=
  call_of_bodyX Tryz.func173 ok_pack_read ((e_pack_read a0_p a1_at H K).mpr h)

/-- slices.Grow[[]byte,byte] -/
def c_slices_Grow_s_byte_byte (a0_s : Value) (a1_n : Value) (H : Heap) (K : Value → Heap → Prop) : Prop :=
  BinP .lss a1_n (.int .i64 0) fun t_1 =>
  SplitP t_1
    (False)
    (CapP a0_s fun t_2 =>
    LenP a0_s fun t_3 =>
    BinP .sub t_2 t_3 fun t_4 =>
    BinP .sub a1_n t_4 fun t_5 =>
    BinP .gtr t_5 (.int .i64 0) fun t_6 =>
    SplitP t_6
      (CapP a0_s fun t_7 =>
      SliceSlP 1 a0_s none (some t_7) none fun t_8 =>
      AppendZP P T_uint8 t_8 t_5 H fun t_9 H10 =>
      LenP a0_s fun t_11 =>
      SliceSlP 1 t_9 none (some t_11) none fun t_12 =>
      K t_12 H10)
      (K a0_s H))

def a_slices_Grow_s_byte_byte : Ann := []

theorem e_slices_Grow_s_byte_byte (a0_s : Value) (a1_n : Value) (H : Heap) (K : Value → Heap → Prop) : bodyX P a_slices_Grow_s_byte_byte (bodyOf Tryz.f174) Tryz.f174.results.toList [a0_s, a1_n] H K = c_slices_Grow_s_byte_byte a0_s a1_n H K := by kernel_rfl

theorem ok_slices_Grow_s_byte_byte : okFn P a_slices_Grow_s_byte_byte Tryz.f174 2 = true := by kernel_rfl
theorem k_slices_Grow_s_byte_byte {a0_s a1_n : Value} {H : Heap} {K : Value → Heap → Prop} (h : c_slices_Grow_s_byte_byte a0_s a1_n H K) : CallH P f_slices_Grow_s_byte_byte [a0_s, a1_n] H K :=
  call_of_bodyX Tryz.func174 ok_slices_Grow_s_byte_byte ((e_slices_Grow_s_byte_byte a0_s a1_n H K).mpr h)

/-- (*palio/zset.listed).Cut -/
def c_zset_listed_Cut (a0_x : Value) (a1_from : Value) (a2_to : Value) (H : Heap) (K : Value → Heap → Prop) : Prop :=
  NilP a0_x fun t_1 =>
  FieldAddrP 0 t_1 fun t_2 =>
  LoadP none H t_2 fun t_3 =>
  CallH P f_skip_List_Range [t_3, a1_from, a2_to] H fun t_4 H5 =>
  LenP t_4 fun t_6 =>
  LoopP (S := (Value) × List Deferred) (G := Tup 12)
    (fun s_7 g_7 self_7 H7 =>
    BinP .lss s_7.1 t_6 fun t_8 =>
    SplitP t_8
      (IdxSliceP 2 t_4 s_7.1 fun t_9 =>
      LoadP (some 2) H7 t_9 fun t_10 =>
      AllocP #[(.string ⟨#[]⟩), (.int .i64 0)] T_api_Entry H7 fun e_11 H12 =>
      StoreP (some 2) H12 e_11 t_10 fun H13 =>
      NilP a0_x fun t_14 =>
      FieldAddrP 1 t_14 fun t_15 =>
      LoadP none H13 t_15 fun t_16 =>
      FieldAddrP 0 e_11 fun t_17 =>
      LoadP none H13 t_17 fun t_18 =>
      CallH P f_dict_Dict_int64_Delete [t_16, t_18] H13 fun t_19 H20 =>
      BinP .add s_7.1 (.int .i64 1) fun t_21 =>
      self_7 (t_21, s_7.2) H20)
      (NilP a0_x fun t_22 =>
      FieldAddrP 0 t_22 fun t_23 =>
      LoadP none H7 t_23 fun t_24 =>
      CallH P f_skip_List_Cut [t_24, a1_from, a2_to] H7 fun t_25 H26 =>
      RetP s_7.2 H26 fun H27 =>
      K t_25 H27))
    ((.int .i64 0), []) H5

def a_zset_listed_Cut : Ann := [(4, [17], [8, 18, 19, 20, 21, 22, 23, 24, 25, 26, 27, 28])]

theorem e_zset_listed_Cut (a0_x : Value) (a1_from : Value) (a2_to : Value) (H : Heap) (K : Value → Heap → Prop) : bodyX P a_zset_listed_Cut (bodyOf Tryz.f175) Tryz.f175.results.toList [a0_x, a1_from, a2_to] H K = c_zset_listed_Cut a0_x a1_from a2_to H K := by kernel_rfl

theorem ok_zset_listed_Cut : okFn P a_zset_listed_Cut Tryz.f175 3 = true := by kernel_rfl
theorem k_zset_listed_Cut {a0_x a1_from a2_to : Value} {H : Heap} {K : Value → Heap → Prop} (h : c_zset_listed_Cut a0_x a1_from a2_to H K) : CallH P f_zset_listed_Cut [a0_x, a1_from, a2_to] H K :=
  call_of_bodyX Tryz.func175 ok_zset_listed_Cut ((e_zset_listed_Cut a0_x a1_from a2_to H K).mpr h)

/-- (*palio/skip.List).Len -/
def c_skip_List_Len (a0_l : Value) (H : Heap) (K : Value → Heap → Prop) : Prop :=
  EqP P T_p_skip_List true H a0_l (.pointer none) fun b_1 =>
  SplitP (.bool b_1)
    (K (.int .i64 0) H)
    (NilP a0_l fun t_2 =>
    FieldAddrP 70 t_2 fun t_3 =>
    LoadP none H t_3 fun t_4 =>
    K t_4 H)

def a_skip_List_Len : Ann := []

theorem e_skip_List_Len (a0_l : Value) (H : Heap) (K : Value → Heap → Prop) : bodyX P a_skip_List_Len (bodyOf Tryz.f176) Tryz.f176.results.toList [a0_l] H K = c_skip_List_Len a0_l H K := by kernel_rfl

theorem ok_skip_List_Len : okFn P a_skip_List_Len Tryz.f176 1 = true := by kernel_rfl
theorem k_skip_List_Len {a0_l : Value} {H : Heap} {K : Value → Heap → Prop} (h : c_skip_List_Len a0_l H K) : CallH P f_skip_List_Len [a0_l] H K :=
  call_of_bodyX Tryz.func176 ok_skip_List_Len ((e_skip_List_Len a0_l H K).mpr h)

/-- (*palio/skip.List).Range -/
def c_skip_List_Range (a0_l : Value) (a1_from : Value) (a2_to : Value) (H : Heap) (K : Value → Heap → Prop) : Prop :=
  AllocP #[(.slice none 0 0)] T_s_api_Entry H fun out_1 H2 =>
  CallH P f_skip_List_nodes [a0_l, a1_from, a2_to] H2 fun t_3 H4 =>
  RangeP P none t_3 1
    (fun l_5 vs_5 H5 K_5 =>
    BeginP l_5 H5 fun H6 =>
    LoadP none H6 out_1 fun t_7 =>
    NilP vs_5 fun t_8 =>
    FieldAddrP 0 t_8 fun t_9 =>
    LoadP (some 2) H6 t_9 fun t_10 =>
    BuildP (zerosN #[(.string ⟨#[]⟩), (.int .i64 0)] 1) [(0, (some 2), t_10)] fun t_11 =>
    BuildSliceP T_api_Entry 1 t_11 H6 fun t_12 H13 =>
    LoadIs none H13 out_1 t_7 ∧
    AppendP P T_api_Entry t_7 t_12 H13 fun t_14 H15 =>
    StoreP none H15 out_1 t_14 fun H16 =>
    EndP l_5 .normal H16 K_5)
    (fun p_5 ds_5 Ha5 => AltP p_5 [
    (.normal, LoadP none Ha5 out_1 fun t_17 =>
    RetP (ds_5 ++ []) Ha5 fun H18 =>
    K t_17 H18)]) H4

def a_skip_List_Range : Ann := []

theorem e_skip_List_Range (a0_l : Value) (a1_from : Value) (a2_to : Value) (H : Heap) (K : Value → Heap → Prop) : bodyX P a_skip_List_Range (bodyOf Tryz.f177) Tryz.f177.results.toList [a0_l, a1_from, a2_to] H K = c_skip_List_Range a0_l a1_from a2_to H K := by kernel_rfl

theorem ok_skip_List_Range : okFn P a_skip_List_Range Tryz.f177 3 = true := by kernel_rfl
theorem k_skip_List_Range {a0_l a1_from a2_to : Value} {H : Heap} {K : Value → Heap → Prop} (h : c_skip_List_Range a0_l a1_from a2_to H K) : CallH P f_skip_List_Range [a0_l, a1_from, a2_to] H K :=
  call_of_bodyX Tryz.func177 ok_skip_List_Range ((e_skip_List_Range a0_l a1_from a2_to H K).mpr h)

/-- (*palio/zset.listed).bytes -/
def c_zset_listed_bytes (a0_x : Value) (H : Heap) (K : Value → Heap → Prop) : Prop :=
  NilP a0_x fun t_1 =>
  FieldAddrP 0 t_1 fun t_2 =>
  LoadP none H t_2 fun t_3 =>
  NilP a0_x fun t_4 =>
  FieldAddrP 0 t_4 fun t_5 =>
  LoadP none H t_5 fun t_6 =>
  NilP a0_x fun t_7 =>
  FieldAddrP 0 t_7 fun t_8 =>
  LoadP none H t_8 fun t_9 =>
  CallH P f_skip_List_Len [t_3] H fun t_10 H11 =>
  LoadIs none H11 t_8 t_9 ∧
  LoadIs none H11 t_5 t_6 ∧
  BinP .mul (.int .i64 64) t_10 fun t_12 =>
  CallH P f_skip_List_Len [t_9] H11 fun t_13 H14 =>
  LoadIs none H14 t_5 t_6 ∧
  CallH P f_skip_List_Range [t_6, (.int .i64 0), t_13] H14 fun t_15 H16 =>
  CallH P f_zset_sizes [t_15] H16 fun t_17 H18 =>
  BinP .mul (.int .i64 2) t_17 fun t_19 =>
  BinP .add t_12 t_19 fun t_20 =>
  K t_20 H18

def a_zset_listed_bytes : Ann := []

theorem e_zset_listed_bytes (a0_x : Value) (H : Heap) (K : Value → Heap → Prop) : bodyX P a_zset_listed_bytes (bodyOf Tryz.f178) Tryz.f178.results.toList [a0_x] H K = c_zset_listed_bytes a0_x H K := by kernel_rfl

theorem ok_zset_listed_bytes : okFn P a_zset_listed_bytes Tryz.f178 1 = true := by kernel_rfl
theorem k_zset_listed_bytes {a0_x : Value} {H : Heap} {K : Value → Heap → Prop} (h : c_zset_listed_bytes a0_x H K) : CallH P f_zset_listed_bytes [a0_x] H K :=
  call_of_bodyX Tryz.func178 ok_zset_listed_bytes ((e_zset_listed_bytes a0_x H K).mpr h)

/-- (*palio/zset.listed).drop -/
def c_zset_listed_drop (a0_x : Value) (a1_e : Value) (H : Heap) (K : Value → Heap → Prop) : Prop :=
  BoxP (some 2) T_api_Entry a1_e H fun e_1 H2 =>
  NilP a0_x fun t_3 =>
  FieldAddrP 0 t_3 fun t_4 =>
  LoadP none H2 t_4 fun t_5 =>
  LoadP (some 2) H2 e_1 fun t_6 =>
  CallH P f_skip_List_Delete [t_5, t_6] H2 fun t_7 H8 =>
  NilP a0_x fun t_9 =>
  FieldAddrP 1 t_9 fun t_10 =>
  LoadP none H8 t_10 fun t_11 =>
  FieldAddrP 0 e_1 fun t_12 =>
  LoadP none H8 t_12 fun t_13 =>
  CallH P f_dict_Dict_int64_Delete [t_11, t_13] H8 fun t_14 H15 =>
  K (.tuple #[]) H15

def a_zset_listed_drop : Ann := []

theorem e_zset_listed_drop (a0_x : Value) (a1_e : Value) (H : Heap) (K : Value → Heap → Prop) : bodyX P a_zset_listed_drop (bodyOf Tryz.f179) Tryz.f179.results.toList [a0_x, a1_e] H K = c_zset_listed_drop a0_x a1_e H K := by kernel_rfl

theorem ok_zset_listed_drop : okFn P a_zset_listed_drop Tryz.f179 2 = true := by kernel_rfl
theorem k_zset_listed_drop {a0_x a1_e : Value} {H : Heap} {K : Value → Heap → Prop} (h : c_zset_listed_drop a0_x a1_e H K) : CallH P f_zset_listed_drop [a0_x, a1_e] H K :=
  call_of_bodyX Tryz.func179 ok_zset_listed_drop ((e_zset_listed_drop a0_x a1_e H K).mpr h)

/-- (*palio/dict.Dict[int64]).Delete -/
def c_dict_Dict_int64_Delete (a0_d : Value) (a1_key : Value) (H : Heap) (K : Value → Heap → Prop) : Prop :=
  EqP P T_p_dict_Dict_int64 true H a0_d (.pointer none) fun b_1 =>
  SplitP (.bool b_1)
    (K (.bool false) H)
    (CallH P f_dict_Dict_int64_Step [a0_d, (.int .i64 1)] H fun t_2 H3 =>
    CallH P f_dict_Dict_int64_with [a0_d, a1_key, (.func (.func f_dict_Dict_int64_Delete_1) #[] #[])] H3 fun t_4 H5 =>
    UnP .not t_4 fun t_6 =>
    SplitP t_6
      (K (.bool false) H5)
      (NilP a0_d fun t_7 =>
      FieldAddrP 4 t_7 fun t_8 =>
      LoadP none H5 t_8 fun t_9 =>
      BinP .sub t_9 (.int .i64 1) fun t_10 =>
      NilP a0_d fun t_11 =>
      FieldAddrP 4 t_11 fun t_12 =>
      StoreP none H5 t_12 t_10 fun H13 =>
      NilP a0_d fun t_14 =>
      FieldAddrP 1 t_14 fun t_15 =>
      IdxArrP 2 1 t_15 (.int .i64 0) fun t_16 =>
      LoadP none H13 t_16 fun t_17 =>
      LenP t_17 fun t_18 =>
      JoinP (S := (Value) × List Deferred) (G := Tup 15)
        (fun s_19 g_19 H19 =>
        SplitP s_19.1
          (NilP a0_d fun t_20 =>
          FieldAddrP 4 t_20 fun t_21 =>
          LoadP none H19 t_21 fun t_22 =>
          CallH P f_dict_Dict_int64_moves [a0_d, t_22] H19 fun t_23 H24 =>
          RetP s_19.2 H24 fun H25 =>
          K (.bool true) H25)
          (RetP s_19.2 H19 fun H26 =>
          K (.bool true) H26))
        (fun J_19 =>
        CallH P f_dict_Dict_int64_isMoving [a0_d] H13 fun t_27 H28 =>
        UnP .not t_27 fun t_29 =>
        SplitP t_29
          (BinP .gtr t_18 (.int .i64 4) fun t_30 =>
          SplitP t_30
            (NilP a0_d fun t_31 =>
            FieldAddrP 4 t_31 fun t_32 =>
            LoadP none H28 t_32 fun t_33 =>
            BinP .mul (.int .i64 8) t_33 fun t_34 =>
            BinP .lss t_34 t_18 fun t_35 =>
            J_19 (t_35, []) H28)
            (J_19 ((.bool false), []) H28))
          (J_19 ((.bool false), []) H28))))

def a_dict_Dict_int64_Delete : Ann := [(19, [42], [27, 28, 29, 30, 31, 32, 33, 34, 35, 36, 37, 38, 39, 40, 41])]

theorem e_dict_Dict_int64_Delete (a0_d : Value) (a1_key : Value) (H : Heap) (K : Value → Heap → Prop) : bodyX P a_dict_Dict_int64_Delete (bodyOf Tryz.f180) Tryz.f180.results.toList [a0_d, a1_key] H K = c_dict_Dict_int64_Delete a0_d a1_key H K := by kernel_rfl

theorem ok_dict_Dict_int64_Delete : okFn P a_dict_Dict_int64_Delete Tryz.f180 2 = true := by kernel_rfl
theorem k_dict_Dict_int64_Delete {a0_d a1_key : Value} {H : Heap} {K : Value → Heap → Prop} (h : c_dict_Dict_int64_Delete a0_d a1_key H K) : CallH P f_dict_Dict_int64_Delete [a0_d, a1_key] H K :=
  call_of_bodyX Tryz.func180 ok_dict_Dict_int64_Delete ((e_dict_Dict_int64_Delete a0_d a1_key H K).mpr h)

/-- (*palio/skip.List).Cut -/
def c_skip_List_Cut (a0_l : Value) (a1_from : Value) (a2_to : Value) (H : Heap) (K : Value → Heap → Prop) : Prop :=
  CallH P f_skip_List_within [a0_l, a1_from, a2_to] H fun t_1 H2 =>
  ExtractP t_1 0 fun t_3 =>
  ExtractP t_1 1 fun t_4 =>
  BinP .sub t_4 t_3 fun t_5 =>
  LoopP (S := (Value) × List Deferred) (G := Tup 20)
    (fun s_6 g_6 self_6 H6 =>
    BinP .lss s_6.1 t_5 fun t_7 =>
    SplitP t_7
      (CallH P f_skip_List_until [a0_l, t_3] H6 fun t_8 H9 =>
      ExtractP t_8 0 fun t_10 =>
      ExtractP t_8 1 fun t_11 =>
      AllocP (zeroT P T_a32_p_skip_node).cells T_a32_p_skip_node H9 fun nodes_12 H13 =>
      AllocP (zeroT P T_a32_int).cells T_a32_int H13 fun t_14 H15 =>
      StoreP (some 32) H15 nodes_12 t_10 fun H16 =>
      StoreP (some 32) H16 t_14 t_11 fun H17 =>
      IdxArrP 32 1 nodes_12 (.int .i64 0) fun t_18 =>
      LoadP none H17 t_18 fun t_19 =>
      NilP t_19 fun t_20 =>
      FieldAddrP 2 t_20 fun t_21 =>
      IdxArrP 32 2 t_21 (.int .i64 0) fun t_22 =>
      FieldAddrP 0 t_22 fun t_23 =>
      LoadP none H17 t_23 fun t_24 =>
      LoadP (some 32) H17 nodes_12 fun t_25 =>
      CallH P f_skip_List_takes [a0_l, t_24, t_25] H17 fun t_26 H27 =>
      BinP .add s_6.1 (.int .i64 1) fun t_28 =>
      self_6 (t_28, s_6.2) H27)
      (BinP .sub t_4 t_3 fun t_29 =>
      RetP s_6.2 H6 fun H30 =>
      K t_29 H30))
    ((.int .i64 0), []) H2

def a_skip_List_Cut : Ann := [(6, [19], [7, 8, 20, 21, 22, 23, 24, 25, 26, 27, 28, 29, 30, 31, 32, 33, 34, 35, 36, 37])]

theorem e_skip_List_Cut (a0_l : Value) (a1_from : Value) (a2_to : Value) (H : Heap) (K : Value → Heap → Prop) : bodyX P a_skip_List_Cut (bodyOf Tryz.f181) Tryz.f181.results.toList [a0_l, a1_from, a2_to] H K = c_skip_List_Cut a0_l a1_from a2_to H K := by kernel_rfl

theorem ok_skip_List_Cut : okFn P a_skip_List_Cut Tryz.f181 3 = true := by kernel_rfl
theorem k_skip_List_Cut {a0_l a1_from a2_to : Value} {H : Heap} {K : Value → Heap → Prop} (h : c_skip_List_Cut a0_l a1_from a2_to H K) : CallH P f_skip_List_Cut [a0_l, a1_from, a2_to] H K :=
  call_of_bodyX Tryz.func181 ok_skip_List_Cut ((e_skip_List_Cut a0_l a1_from a2_to H K).mpr h)

/-- (*palio/skip.List).nodes -/
def c_skip_List_nodes (a0_l : Value) (a1_from : Value) (a2_to : Value) (H : Heap) (K : Value → Heap → Prop) : Prop :=
  BoxP none T_p_skip_List a0_l H fun l_1 H2 =>
  BoxP none T_int a1_from H2 fun fromx_3 H4 =>
  BoxP none T_int a2_to H4 fun tox_5 H6 =>
  K (.func (.func f_skip_List_nodes_1) #[] #[l_1, fromx_3, tox_5]) H6

def a_skip_List_nodes : Ann := []

theorem e_skip_List_nodes (a0_l : Value) (a1_from : Value) (a2_to : Value) (H : Heap) (K : Value → Heap → Prop) : bodyX P a_skip_List_nodes (bodyOf Tryz.f182) Tryz.f182.results.toList [a0_l, a1_from, a2_to] H K = c_skip_List_nodes a0_l a1_from a2_to H K := by kernel_rfl

theorem ok_skip_List_nodes : okFn P a_skip_List_nodes Tryz.f182 3 = true := by kernel_rfl
theorem k_skip_List_nodes {a0_l a1_from a2_to : Value} {H : Heap} {K : Value → Heap → Prop} (h : c_skip_List_nodes a0_l a1_from a2_to H K) : CallH P f_skip_List_nodes [a0_l, a1_from, a2_to] H K :=
  call_of_bodyX Tryz.func182 ok_skip_List_nodes ((e_skip_List_nodes a0_l a1_from a2_to H K).mpr h)

/-- palio/zset.sizes -/
def c_zset_sizes (a0_l : Value) (H : Heap) (K : Value → Heap → Prop) : Prop :=
  LenP a0_l fun t_1 =>
  LoopP (S := (Value × Value) × List Deferred) (G := Tup 10)
    (fun s_2 g_2 self_2 H2 =>
    BinP .lss s_2.1.2 t_1 fun t_3 =>
    SplitP t_3
      (IdxSliceP 2 a0_l s_2.1.2 fun t_4 =>
      LoadP (some 2) H2 t_4 fun t_5 =>
      AllocP #[(.string ⟨#[]⟩), (.int .i64 0)] T_api_Entry H2 fun e_6 H7 =>
      StoreP (some 2) H7 e_6 t_5 fun H8 =>
      FieldAddrP 0 e_6 fun t_9 =>
      LoadP none H8 t_9 fun t_10 =>
      LenStrP t_10 fun t_11 =>
      BinP .add s_2.1.1 t_11 fun t_12 =>
      BinP .add s_2.1.2 (.int .i64 1) fun t_13 =>
      self_2 ((t_12, t_13), s_2.2) H8)
      (RetP s_2.2 H2 fun H14 =>
      K s_2.1.1 H14))
    (((.int .i64 0), (.int .i64 0)), []) H

def a_zset_sizes : Ann := [(6, [3, 8], [5, 9, 10, 11, 12, 13, 14, 15, 16, 17])]

theorem e_zset_sizes (a0_l : Value) (H : Heap) (K : Value → Heap → Prop) : bodyX P a_zset_sizes (bodyOf Tryz.f183) Tryz.f183.results.toList [a0_l] H K = c_zset_sizes a0_l H K := by kernel_rfl

theorem ok_zset_sizes : okFn P a_zset_sizes Tryz.f183 1 = true := by kernel_rfl
theorem k_zset_sizes {a0_l : Value} {H : Heap} {K : Value → Heap → Prop} (h : c_zset_sizes a0_l H K) : CallH P f_zset_sizes [a0_l] H K :=
  call_of_bodyX Tryz.func183 ok_zset_sizes ((e_zset_sizes a0_l H K).mpr h)

/-- (*palio/skip.List).Delete -/
def c_skip_List_Delete (a0_l : Value) (a1_e : Value) (H : Heap) (K : Value → Heap → Prop) : Prop :=
  BoxP (some 2) T_api_Entry a1_e H fun e_1 H2 =>
  LoadP (some 2) H2 e_1 fun t_3 =>
  CallH P f_skip_List_Seek [a0_l, t_3] H2 fun t_4 H5 =>
  ExtractP t_4 0 fun t_6 =>
  ExtractP t_4 1 fun t_7 =>
  UnP .not t_7 fun t_8 =>
  SplitP t_8
    (K (.bool false) H5)
    (LoadP (some 2) H5 e_1 fun t_9 =>
    CallH P f_skip_List_to [a0_l, t_9] H5 fun t_10 H11 =>
    ExtractP t_10 0 fun t_12 =>
    ExtractP t_10 1 fun t_13 =>
    AllocP (zeroT P T_a32_p_skip_node).cells T_a32_p_skip_node H11 fun nodes_14 H15 =>
    AllocP (zeroT P T_a32_int).cells T_a32_int H15 fun t_16 H17 =>
    StoreP (some 32) H17 nodes_14 t_12 fun H18 =>
    StoreP (some 32) H18 t_16 t_13 fun H19 =>
    IdxArrP 32 1 nodes_14 (.int .i64 0) fun t_20 =>
    LoadP none H19 t_20 fun t_21 =>
    NilP t_21 fun t_22 =>
    FieldAddrP 2 t_22 fun t_23 =>
    IdxArrP 32 2 t_23 (.int .i64 0) fun t_24 =>
    FieldAddrP 0 t_24 fun t_25 =>
    LoadP none H19 t_25 fun t_26 =>
    LoadP (some 32) H19 nodes_14 fun t_27 =>
    CallH P f_skip_List_takes [a0_l, t_26, t_27] H19 fun t_28 H29 =>
    K (.bool true) H29)

def a_skip_List_Delete : Ann := []

theorem e_skip_List_Delete (a0_l : Value) (a1_e : Value) (H : Heap) (K : Value → Heap → Prop) : bodyX P a_skip_List_Delete (bodyOf Tryz.f184) Tryz.f184.results.toList [a0_l, a1_e] H K = c_skip_List_Delete a0_l a1_e H K := by kernel_rfl

theorem ok_skip_List_Delete : okFn P a_skip_List_Delete Tryz.f184 2 = true := by kernel_rfl
theorem k_skip_List_Delete {a0_l a1_e : Value} {H : Heap} {K : Value → Heap → Prop} (h : c_skip_List_Delete a0_l a1_e H K) : CallH P f_skip_List_Delete [a0_l, a1_e] H K :=
  call_of_bodyX Tryz.func184 ok_skip_List_Delete ((e_skip_List_Delete a0_l a1_e H K).mpr h)

/-- (*palio/dict.Dict[int64]).Delete$1 -/
def c_dict_Dict_int64_Delete_1 (a0_at : Value) (H : Heap) (K : Value → Heap → Prop) : Prop :=
  NilP a0_at fun t_1 =>
  LoadP none H t_1 fun t_2 =>
  NilP t_2 fun t_3 =>
  FieldAddrP 3 t_3 fun t_4 =>
  LoadP none H t_4 fun t_5 =>
  NilP a0_at fun t_6 =>
  StoreP none H t_6 t_5 fun H7 =>
  K (.tuple #[]) H7

def a_dict_Dict_int64_Delete_1 : Ann := []

theorem e_dict_Dict_int64_Delete_1 (a0_at : Value) (H : Heap) (K : Value → Heap → Prop) : bodyX P a_dict_Dict_int64_Delete_1 (bodyOf Tryz.f185) Tryz.f185.results.toList [a0_at] H K = c_dict_Dict_int64_Delete_1 a0_at H K := by kernel_rfl

theorem ok_dict_Dict_int64_Delete_1 : okFn P a_dict_Dict_int64_Delete_1 Tryz.f185 1 = true := by kernel_rfl
theorem k_dict_Dict_int64_Delete_1 {a0_at : Value} {H : Heap} {K : Value → Heap → Prop} (h : c_dict_Dict_int64_Delete_1 a0_at H K) : CallH P f_dict_Dict_int64_Delete_1 [a0_at] H K :=
  call_of_bodyX Tryz.func185 ok_dict_Dict_int64_Delete_1 ((e_dict_Dict_int64_Delete_1 a0_at H K).mpr h)

/-- (*palio/skip.List).within -/
def c_skip_List_within (a0_l : Value) (a1_from : Value) (a2_to : Value) (H : Heap) (K : Value → Heap → Prop) : Prop :=
  CallH P f_skip_List_Len [a0_l] H fun t_1 H2 =>
  MinP a1_from [t_1] fun t_3 =>
  MaxP (.int .i64 0) [t_3] fun t_4 =>
  CallH P f_skip_List_Len [a0_l] H2 fun t_5 H6 =>
  MinP a2_to [t_5] fun t_7 =>
  MaxP t_4 [t_7] fun t_8 =>
  K (.tuple #[t_4, t_8]) H6

def a_skip_List_within : Ann := []

theorem e_skip_List_within (a0_l : Value) (a1_from : Value) (a2_to : Value) (H : Heap) (K : Value → Heap → Prop) : bodyX P a_skip_List_within (bodyOf Tryz.f186) Tryz.f186.results.toList [a0_l, a1_from, a2_to] H K = c_skip_List_within a0_l a1_from a2_to H K := by kernel_rfl

theorem ok_skip_List_within : okFn P a_skip_List_within Tryz.f186 3 = true := by kernel_rfl
theorem k_skip_List_within {a0_l a1_from a2_to : Value} {H : Heap} {K : Value → Heap → Prop} (h : c_skip_List_within a0_l a1_from a2_to H K) : CallH P f_skip_List_within [a0_l, a1_from, a2_to] H K :=
  call_of_bodyX Tryz.func186 ok_skip_List_within ((e_skip_List_within a0_l a1_from a2_to H K).mpr h)

/-- (*palio/skip.List).until -/
def c_skip_List_until (a0_l : Value) (a1_place : Value) (H : Heap) (K : Value → Heap → Prop) : Prop :=
  BoxP none T_int a1_place H fun place_1 H2 =>
  AllocP (zeroT P T_a32_p_skip_node).cells T_a32_p_skip_node H2 fun t_3 H4 =>
  AllocP (zeroT P T_a32_int).cells T_a32_int H4 fun t_5 H6 =>
  CallH P f_skip_List_path [a0_l, (.func (.func f_skip_List_until_1) #[] #[place_1])] H6 fun t_7 H8 =>
  ExtractP t_7 0 fun t_9 =>
  ExtractP t_7 1 fun t_10 =>
  StoreP (some 32) H8 t_3 t_9 fun H11 =>
  StoreP (some 32) H11 t_5 t_10 fun H12 =>
  LoadP (some 32) H12 t_3 fun t_13 =>
  LoadP (some 32) H12 t_5 fun t_14 =>
  K (.tuple #[t_13, t_14]) H12

def a_skip_List_until : Ann := []

theorem e_skip_List_until (a0_l : Value) (a1_place : Value) (H : Heap) (K : Value → Heap → Prop) : bodyX P a_skip_List_until (bodyOf Tryz.f187) Tryz.f187.results.toList [a0_l, a1_place] H K = c_skip_List_until a0_l a1_place H K := by kernel_rfl

theorem ok_skip_List_until : okFn P a_skip_List_until Tryz.f187 2 = true := by kernel_rfl
theorem k_skip_List_until {a0_l a1_place : Value} {H : Heap} {K : Value → Heap → Prop} (h : c_skip_List_until a0_l a1_place H K) : CallH P f_skip_List_until [a0_l, a1_place] H K :=
  call_of_bodyX Tryz.func187 ok_skip_List_until ((e_skip_List_until a0_l a1_place H K).mpr h)

/-- (*palio/skip.List).takes -/
def c_skip_List_takes (a0_l : Value) (a1_x : Value) (a2_nodes : Value) (H : Heap) (K : Value → Heap → Prop) : Prop :=
  BoxP (some 32) T_a32_p_skip_node a2_nodes H fun nodes_1 H2 =>
  NilP a0_l fun t_3 =>
  FieldAddrP 69 t_3 fun t_4 =>
  LoadP none H2 t_4 fun t_5 =>
  LoopP (S := (Value) × List Deferred) (G := Tup 47)
    (fun s_6 g_6 self_6 H6 =>
    BinP .lss s_6.1 t_5 fun t_7 =>
    SplitP t_7
      (IdxArrP 32 1 nodes_1 s_6.1 fun t_8 =>
      LoadP none H6 t_8 fun t_9 =>
      NilP t_9 fun t_10 =>
      FieldAddrP 2 t_10 fun t_11 =>
      IdxArrP 32 2 t_11 s_6.1 fun t_12 =>
      JoinP (S := (Unit) × List Deferred) (G := Tup 28)
        (fun s_13 g_13 H13 =>
        NilP t_12 fun t_14 =>
        FieldAddrP 1 t_14 fun t_15 =>
        LoadP none H13 t_15 fun t_16 =>
        BinP .sub t_16 (.int .i64 1) fun t_17 =>
        NilP t_12 fun t_18 =>
        FieldAddrP 1 t_18 fun t_19 =>
        StoreP none H13 t_19 t_17 fun H20 =>
        BinP .add s_6.1 (.int .i64 1) fun t_21 =>
        self_6 (t_21, s_13.2) H20)
        (fun J_13 =>
        NilP a1_x fun t_22 =>
        FieldAddrP 66 t_22 fun t_23 =>
        LoadP none H6 t_23 fun t_24 =>
        BinP .lss s_6.1 t_24 fun t_25 =>
        SplitP t_25
          (NilP a1_x fun t_26 =>
          FieldAddrP 2 t_26 fun t_27 =>
          IdxArrP 32 2 t_27 s_6.1 fun t_28 =>
          FieldAddrP 0 t_28 fun t_29 =>
          LoadP none H6 t_29 fun t_30 =>
          NilP t_12 fun t_31 =>
          FieldAddrP 1 t_31 fun t_32 =>
          LoadP none H6 t_32 fun t_33 =>
          NilP a1_x fun t_34 =>
          FieldAddrP 2 t_34 fun t_35 =>
          IdxArrP 32 2 t_35 s_6.1 fun t_36 =>
          FieldAddrP 1 t_36 fun t_37 =>
          LoadP none H6 t_37 fun t_38 =>
          BinP .add t_33 t_38 fun t_39 =>
          BuildP [(.pointer none), (.int .i64 0)] [(0, none, t_30), (1, none, t_39)] fun t_40 =>
          NilP t_12 fun t_41 =>
          StoreP (some 2) H6 t_41 (.agg t_40.toArray) fun H42 =>
          J_13 ((), s_6.2) H42)
          (J_13 ((), s_6.2) H6)))
      (JoinP (S := (Unit) × List Deferred) (G := Tup 23)
        (fun s_43 g_43 H43 =>
        JoinP (S := (Unit) × List Deferred) (G := Tup 27)
          (fun s_44 g_44 H44 =>
          NilP a0_l fun t_45 =>
          FieldAddrP 70 t_45 fun t_46 =>
          LoadP none H44 t_46 fun t_47 =>
          BinP .sub t_47 (.int .i64 1) fun t_48 =>
          NilP a0_l fun t_49 =>
          FieldAddrP 70 t_49 fun t_50 =>
          StoreP none H44 t_50 t_48 fun H51 =>
          RetP s_44.2 H51 fun H52 =>
          K (.tuple #[]) H52)
          (fun J_44 =>
          LoopP (S := (Unit) × List Deferred) (G := Tup 27)
            (fun s_53 g_53 self_53 H53 =>
            NilP a0_l fun t_54 =>
            FieldAddrP 69 t_54 fun t_55 =>
            LoadP none H53 t_55 fun t_56 =>
            BinP .gtr t_56 (.int .i64 0) fun t_57 =>
            SplitP t_57
              (NilP a0_l fun t_58 =>
              FieldAddrP 69 t_58 fun t_59 =>
              LoadP none H53 t_59 fun t_60 =>
              BinP .sub t_60 (.int .i64 1) fun t_61 =>
              NilP a0_l fun t_62 =>
              FieldAddrP 0 t_62 fun t_63 =>
              FieldAddrP 2 t_63 fun t_64 =>
              IdxArrP 32 2 t_64 t_61 fun t_65 =>
              FieldAddrP 0 t_65 fun t_66 =>
              LoadP none H53 t_66 fun t_67 =>
              EqP P T_p_skip_node true H53 t_67 (.pointer none) fun b_68 =>
              SplitP (.bool b_68)
                (NilP a0_l fun t_69 =>
                FieldAddrP 69 t_69 fun t_70 =>
                LoadP none H53 t_70 fun t_71 =>
                BinP .sub t_71 (.int .i64 1) fun t_72 =>
                NilP a0_l fun t_73 =>
                FieldAddrP 69 t_73 fun t_74 =>
                StoreP none H53 t_74 t_72 fun H75 =>
                self_53 ((), s_53.2) H75)
                (J_44 ((), s_53.2) H53))
              (J_44 ((), s_53.2) H53))
            ((), s_43.2) H43))
        (fun J_43 =>
        NilP a1_x fun t_76 =>
        FieldAddrP 2 t_76 fun t_77 =>
        IdxArrP 32 2 t_77 (.int .i64 0) fun t_78 =>
        FieldAddrP 0 t_78 fun t_79 =>
        LoadP none H6 t_79 fun t_80 =>
        EqP P T_p_skip_node true H6 t_80 (.pointer none) fun b_81 =>
        SplitP (.bool (!b_81))
          (NilP a1_x fun t_82 =>
          FieldAddrP 67 t_82 fun t_83 =>
          LoadP none H6 t_83 fun t_84 =>
          NilP t_80 fun t_85 =>
          FieldAddrP 67 t_85 fun t_86 =>
          StoreP none H6 t_86 t_84 fun H87 =>
          J_43 ((), s_6.2) H87)
          (NilP a1_x fun t_88 =>
          FieldAddrP 67 t_88 fun t_89 =>
          LoadP none H6 t_89 fun t_90 =>
          NilP a0_l fun t_91 =>
          FieldAddrP 68 t_91 fun t_92 =>
          StoreP none H6 t_92 t_90 fun H93 =>
          J_43 ((), s_6.2) H93))))
    ((.int .i64 0), []) H2

def a_skip_List_takes : Ann := [(4, [13], [6, 7, 14, 15, 16, 17, 18, 19, 20, 21, 22, 23, 24, 25, 26, 27, 28, 29, 30, 31, 32, 33, 34, 35, 36, 37, 38, 39, 40, 41, 42, 43, 44, 45, 46, 47, 48, 49, 50, 51, 52, 53, 54, 55, 56, 57, 58]), (15, [], [23, 24, 25, 26, 27, 28, 29, 30, 31, 32, 33, 34, 35, 36, 37, 38, 39, 40, 41, 42, 43, 44, 45, 46, 47, 48, 49, 50]), (26, [], [81, 82, 83, 84, 85, 86, 87, 88, 89, 90, 91, 92, 93, 94, 95, 96, 97, 98, 99, 100, 101, 102, 103, 104, 105, 106, 107]), (31, [], [81, 82, 83, 84, 85, 86, 87, 88, 89, 90, 91, 92, 93, 94, 95, 96, 97, 98, 99, 100, 101, 102, 103, 104, 105, 106, 107]), (200027, [], [8, 59, 60, 61, 62, 63, 64, 65, 66, 67, 68, 69, 70, 71, 72, 73, 74, 75, 76, 77, 78, 79, 80])]

theorem e_skip_List_takes (a0_l : Value) (a1_x : Value) (a2_nodes : Value) (H : Heap) (K : Value → Heap → Prop) : bodyX P a_skip_List_takes (bodyOf Tryz.f188) Tryz.f188.results.toList [a0_l, a1_x, a2_nodes] H K = c_skip_List_takes a0_l a1_x a2_nodes H K := by kernel_rfl

theorem ok_skip_List_takes : okFn P a_skip_List_takes Tryz.f188 3 = true := by kernel_rfl
theorem k_skip_List_takes {a0_l a1_x a2_nodes : Value} {H : Heap} {K : Value → Heap → Prop} (h : c_skip_List_takes a0_l a1_x a2_nodes H K) : CallH P f_skip_List_takes [a0_l, a1_x, a2_nodes] H K :=
  call_of_bodyX Tryz.func188 ok_skip_List_takes ((e_skip_List_takes a0_l a1_x a2_nodes H K).mpr h)

/-- (*palio/skip.List).nodes$1 -/
def c_skip_List_nodes_1 (a0_yield : Value) (a1_x : Value) (a2_x : Value) (a3_x : Value) (H : Heap) (K : Value → Heap → Prop) : Prop :=
  LoadP none H a1_x fun t_1 =>
  LoadP none H a2_x fun t_2 =>
  LoadP none H a3_x fun t_3 =>
  CallH P f_skip_List_within [t_1, t_2, t_3] H fun t_4 H5 =>
  ExtractP t_4 0 fun t_6 =>
  ExtractP t_4 1 fun t_7 =>
  BinP .eql t_6 t_7 fun t_8 =>
  SplitP t_8
    (K (.tuple #[]) H5)
    (LoadP none H5 a1_x fun t_9 =>
    CallH P f_skip_List_until [t_9, t_6] H5 fun t_10 H11 =>
    ExtractP t_10 0 fun t_12 =>
    ExtractP t_10 1 fun t_13 =>
    AllocP (zeroT P T_a32_p_skip_node).cells T_a32_p_skip_node H11 fun path_14 H15 =>
    AllocP (zeroT P T_a32_int).cells T_a32_int H15 fun t_16 H17 =>
    StoreP (some 32) H17 path_14 t_12 fun H18 =>
    StoreP (some 32) H18 t_16 t_13 fun H19 =>
    IdxArrP 32 1 path_14 (.int .i64 0) fun t_20 =>
    LoadP none H19 t_20 fun t_21 =>
    NilP t_21 fun t_22 =>
    FieldAddrP 2 t_22 fun t_23 =>
    IdxArrP 32 2 t_23 (.int .i64 0) fun t_24 =>
    FieldAddrP 0 t_24 fun t_25 =>
    LoadP none H19 t_25 fun t_26 =>
    BinP .sub t_7 t_6 fun t_27 =>
    LoopP (S := (Value × Value) × List Deferred) (G := Tup 12)
      (fun s_28 g_28 self_28 H28 =>
      BinP .lss s_28.1.2 t_27 fun t_29 =>
      SplitP t_29
        (CallV P a0_yield [s_28.1.1] H28 fun t_30 H31 =>
        UnP .not t_30 fun t_32 =>
        SplitP t_32
          (RetP s_28.2 H31 fun H33 =>
          K (.tuple #[]) H33)
          (NilP s_28.1.1 fun t_34 =>
          FieldAddrP 2 t_34 fun t_35 =>
          IdxArrP 32 2 t_35 (.int .i64 0) fun t_36 =>
          FieldAddrP 0 t_36 fun t_37 =>
          LoadP none H31 t_37 fun t_38 =>
          BinP .add s_28.1.2 (.int .i64 1) fun t_39 =>
          self_28 ((t_38, t_39), s_28.2) H31))
        (RetP s_28.2 H28 fun H40 =>
        K (.tuple #[]) H40))
      ((t_26, (.int .i64 0)), []) H19)

def a_skip_List_nodes_1 : Ann := [(10, [9, 36], [37, 38, 39, 40, 41, 42, 43, 44, 45, 46, 47, 48])]

theorem e_skip_List_nodes_1 (a0_yield : Value) (a1_x : Value) (a2_x : Value) (a3_x : Value) (H : Heap) (K : Value → Heap → Prop) : bodyX P a_skip_List_nodes_1 (bodyOf Tryz.f189) Tryz.f189.results.toList [a0_yield, a1_x, a2_x, a3_x] H K = c_skip_List_nodes_1 a0_yield a1_x a2_x a3_x H K := by kernel_rfl

theorem ok_skip_List_nodes_1 : okFn P a_skip_List_nodes_1 Tryz.f189 4 = true := by kernel_rfl
theorem k_skip_List_nodes_1 {a0_yield a1_x a2_x a3_x : Value} {H : Heap} {K : Value → Heap → Prop} (h : c_skip_List_nodes_1 a0_yield a1_x a2_x a3_x H K) : CallH P f_skip_List_nodes_1 [a0_yield, a1_x, a2_x, a3_x] H K :=
  call_of_bodyX Tryz.func189 ok_skip_List_nodes_1 ((e_skip_List_nodes_1 a0_yield a1_x a2_x a3_x H K).mpr h)

/-- (*palio/skip.List).until$1 -/
def c_skip_List_until_1 (a0_x : Value) (a1_at : Value) (a2_x : Value) (H : Heap) (K : Value → Heap → Prop) : Prop :=
  LoadP none H a2_x fun t_1 =>
  BinP .leq a1_at t_1 fun t_2 =>
  K t_2 H

def a_skip_List_until_1 : Ann := []

theorem e_skip_List_until_1 (a0_x : Value) (a1_at : Value) (a2_x : Value) (H : Heap) (K : Value → Heap → Prop) : bodyX P a_skip_List_until_1 (bodyOf Tryz.f190) Tryz.f190.results.toList [a0_x, a1_at, a2_x] H K = c_skip_List_until_1 a0_x a1_at a2_x H K := by kernel_rfl

theorem ok_skip_List_until_1 : okFn P a_skip_List_until_1 Tryz.f190 3 = true := by kernel_rfl
theorem k_skip_List_until_1 {a0_x a1_at a2_x : Value} {H : Heap} {K : Value → Heap → Prop} (h : c_skip_List_until_1 a0_x a1_at a2_x H K) : CallH P f_skip_List_until_1 [a0_x, a1_at, a2_x] H K :=
  call_of_bodyX Tryz.func190 ok_skip_List_until_1 ((e_skip_List_until_1 a0_x a1_at a2_x H K).mpr h)

/-- (*palio/dict.Dict[int64]).Len -/
def c_dict_Dict_int64_Len (a0_d : Value) (H : Heap) (K : Value → Heap → Prop) : Prop :=
  EqP P T_p_dict_Dict_int64 true H a0_d (.pointer none) fun b_1 =>
  SplitP (.bool b_1)
    (K (.int .i64 0) H)
    (NilP a0_d fun t_2 =>
    FieldAddrP 4 t_2 fun t_3 =>
    LoadP none H t_3 fun t_4 =>
    K t_4 H)

def a_dict_Dict_int64_Len : Ann := []

theorem e_dict_Dict_int64_Len (a0_d : Value) (H : Heap) (K : Value → Heap → Prop) : bodyX P a_dict_Dict_int64_Len (bodyOf Tryz.f191) Tryz.f191.results.toList [a0_d] H K = c_dict_Dict_int64_Len a0_d H K := by kernel_rfl

theorem ok_dict_Dict_int64_Len : okFn P a_dict_Dict_int64_Len Tryz.f191 1 = true := by kernel_rfl
theorem k_dict_Dict_int64_Len {a0_d : Value} {H : Heap} {K : Value → Heap → Prop} (h : c_dict_Dict_int64_Len a0_d H K) : CallH P f_dict_Dict_int64_Len [a0_d] H K :=
  call_of_bodyX Tryz.func191 ok_dict_Dict_int64_Len ((e_dict_Dict_int64_Len a0_d H K).mpr h)

/-- (palio/bound.value).sign -/
def c_bound_value_sign (a0_v : Value) (H : Heap) (K : Value → Heap → Prop) : Prop :=
  BoxP (some 1) T_bound_value a0_v H fun v_1 H2 =>
  K (.int .i64 0) H2

def a_bound_value_sign : Ann := []

theorem e_bound_value_sign (a0_v : Value) (H : Heap) (K : Value → Heap → Prop) : bodyX P a_bound_value_sign (bodyOf Tryz.f192) Tryz.f192.results.toList [a0_v] H K = c_bound_value_sign a0_v H K := by kernel_rfl

theorem ok_bound_value_sign : okFn P a_bound_value_sign Tryz.f192 1 = true := by kernel_rfl
theorem k_bound_value_sign {a0_v : Value} {H : Heap} {K : Value → Heap → Prop} (h : c_bound_value_sign a0_v H K) : CallH P f_bound_value_sign [a0_v] H K :=
  call_of_bodyX Tryz.func192 ok_bound_value_sign ((e_bound_value_sign a0_v H K).mpr h)

/-- (palio/bound.limit).sign -/
def c_bound_limit_sign (a0_l : Value) (H : Heap) (K : Value → Heap → Prop) : Prop :=
  BoxP (some 1) T_bound_limit a0_l H fun l_1 H2 =>
  FieldAddrP 0 l_1 fun t_3 =>
  LoadP none H2 t_3 fun t_4 =>
  CallH P f_cmp_Compare_int [t_4, (.int .i64 0)] H2 fun t_5 H6 =>
  K t_5 H6

def a_bound_limit_sign : Ann := []

theorem e_bound_limit_sign (a0_l : Value) (H : Heap) (K : Value → Heap → Prop) : bodyX P a_bound_limit_sign (bodyOf Tryz.f193) Tryz.f193.results.toList [a0_l] H K = c_bound_limit_sign a0_l H K := by kernel_rfl

theorem ok_bound_limit_sign : okFn P a_bound_limit_sign Tryz.f193 1 = true := by kernel_rfl
theorem k_bound_limit_sign {a0_l : Value} {H : Heap} {K : Value → Heap → Prop} (h : c_bound_limit_sign a0_l H K) : CallH P f_bound_limit_sign [a0_l] H K :=
  call_of_bodyX Tryz.func193 ok_bound_limit_sign ((e_bound_limit_sign a0_l H K).mpr h)

/-- cmp.Compare[int] -/
def c_cmp_Compare_int (a0_x : Value) (a1_y : Value) (H : Heap) (K : Value → Heap → Prop) : Prop :=
  CallH P f_cmp_isNaN_int [a0_x] H fun t_1 H2 =>
  CallH P f_cmp_isNaN_int [a1_y] H2 fun t_3 H4 =>
  SplitP t_1
    (SplitP t_3
      (K (.int .i64 0) H4)
      (K (.int .i64 (-1)) H4))
    (SplitP t_3
      (K (.int .i64 1) H4)
      (BinP .lss a0_x a1_y fun t_5 =>
      SplitP t_5
        (K (.int .i64 (-1)) H4)
        (BinP .gtr a0_x a1_y fun t_6 =>
        SplitP t_6
          (K (.int .i64 1) H4)
          (K (.int .i64 0) H4))))

def a_cmp_Compare_int : Ann := []

theorem e_cmp_Compare_int (a0_x : Value) (a1_y : Value) (H : Heap) (K : Value → Heap → Prop) : bodyX P a_cmp_Compare_int (bodyOf Tryz.f194) Tryz.f194.results.toList [a0_x, a1_y] H K = c_cmp_Compare_int a0_x a1_y H K := by kernel_rfl

theorem ok_cmp_Compare_int : okFn P a_cmp_Compare_int Tryz.f194 2 = true := by kernel_rfl
theorem k_cmp_Compare_int {a0_x a1_y : Value} {H : Heap} {K : Value → Heap → Prop} (h : c_cmp_Compare_int a0_x a1_y H K) : CallH P f_cmp_Compare_int [a0_x, a1_y] H K :=
  call_of_bodyX Tryz.func194 ok_cmp_Compare_int ((e_cmp_Compare_int a0_x a1_y H K).mpr h)

/-- cmp.isNaN[int] -/
def c_cmp_isNaN_int (a0_x : Value) (H : Heap) (K : Value → Heap → Prop) : Prop :=
  BinP .neq a0_x a0_x fun t_1 =>
  K t_1 H

def a_cmp_isNaN_int : Ann := []

theorem e_cmp_isNaN_int (a0_x : Value) (H : Heap) (K : Value → Heap → Prop) : bodyX P a_cmp_isNaN_int (bodyOf Tryz.f195) Tryz.f195.results.toList [a0_x] H K = c_cmp_isNaN_int a0_x H K := by kernel_rfl

theorem ok_cmp_isNaN_int : okFn P a_cmp_isNaN_int Tryz.f195 1 = true := by kernel_rfl
theorem k_cmp_isNaN_int {a0_x : Value} {H : Heap} {K : Value → Heap → Prop} (h : c_cmp_isNaN_int a0_x H K) : CallH P f_cmp_isNaN_int [a0_x] H K :=
  call_of_bodyX Tryz.func195 ok_cmp_isNaN_int ((e_cmp_isNaN_int a0_x H K).mpr h)

end Go.X.W
set_option linter.unusedVariables false
set_option linter.unusedSimpArgs false
namespace Go.X.W
open Go Go.X Go.Proofs

def mix1 (h b : Int) : Int := IntKind.u32.wrap (IntKind.u32.wrap (BitVec.ofInt 32 h ^^^ BitVec.ofInt 32 b).toNat * 16777619)

theorem hash_mixed_k {h b : Int} {l : Nat} {c : Nat} {H : Heap} {K : Value → Heap → Prop} (hl : Blk H l [.int .u32 b]) (hK : K (.int .u32 (mix1 h b)) H) :
    CallH P f_hash_mixed [.int .u32 h, .slice (some ⟨l, 0, none⟩) 1 c] H K := by
  apply k_hash_mixed
  simp only [c_hash_mixed, xl, qt, decide_eq_true_eq, Int.toNat_zero, Int.toNat_natCast, Nat.zero_mul, Nat.mul_one, Nat.one_mul, List.toList_toArray, List.cons_append, List.nil_append, List.append_nil, true_and, and_true, Nat.zero_add, Nat.add_zero, Bool.not_true, Bool.not_false, if_true, if_false, reduceCtorEq, List.set_cons_zero, List.set_cons_succ]
  refine loop_i (fun k s H' => H' = H ∧ s.2 = [] ∧ ((k = 1 ∧ s.1 = (.int .u32 h, .int .i64 0)) ∨ (k = 0 ∧ s.1 = (.int .u32 (mix1 h b), .int .i64 1)))) 1 ⟨rfl, rfl, .inl ⟨rfl, rfl⟩⟩ ?_
  rintro k ⟨s, ds⟩ g H' ⟨rfl, rfl, ⟨rfl, rfl⟩ | ⟨rfl, rfl⟩⟩
  · (try simp only [xl, qt, decide_eq_true_eq, Int.toNat_zero, Int.toNat_natCast, Nat.zero_mul, Nat.mul_one, Nat.one_mul, List.toList_toArray, List.cons_append, List.nil_append, List.append_nil, true_and, and_true, Nat.zero_add, Nat.add_zero, Bool.not_true, Bool.not_false, if_true, if_false, reduceCtorEq, List.set_cons_zero, List.set_cons_succ])
    rw [if_pos (by omega)]
    refine ⟨by omega, hl.load rfl ?_⟩
    (try simp only [xl, qt, decide_eq_true_eq, Int.toNat_zero, Int.toNat_natCast, Nat.zero_mul, Nat.mul_one, Nat.one_mul, List.toList_toArray, List.cons_append, List.nil_append, List.append_nil, true_and, and_true, Nat.zero_add, Nat.add_zero, Bool.not_true, Bool.not_false, if_true, if_false, reduceCtorEq, List.set_cons_zero, List.set_cons_succ])
    exact ⟨0, by omega, .inr ⟨rfl, rfl⟩⟩
  · (try simp only [xl, qt, decide_eq_true_eq, Int.toNat_zero, Int.toNat_natCast, Nat.zero_mul, Nat.mul_one, Nat.one_mul, List.toList_toArray, List.cons_append, List.nil_append, List.append_nil, true_and, and_true, Nat.zero_add, Nat.add_zero, Bool.not_true, Bool.not_false, if_true, if_false, reduceCtorEq, List.set_cons_zero, List.set_cons_succ])
    rw [if_neg (by omega)]
    exact hK

/-- The bytes of a text are yielded one by one. -/
theorem hash_each_i {s : ByteArray} {x l : Nat} {H : Heap} {K : Value → Heap → Prop} (hn : s.size < 4611686018427387904) (Inv : Nat → Heap → Prop) (hx : ∀ i H, Inv i H → Blk H x [.string s])
    (hY : ∀ i H, (hi : i < s.size) → Inv i H → YieldH P l [.int .u32 s[i].toNat] H (fun v H' => v = .bool true ∧ Inv (i + 1) H'))
    (h0 : Inv 0 H) (hK : ∀ H', Inv s.size H' → K (.tuple #[]) H') :
    CallH P f_hash_each_1 [.func (.yield l) #[] #[], .pointer (some ⟨x, 0, none⟩)] H K := by
  apply k_hash_each_1
  unfold c_hash_each_1
  refine (hx 0 H h0).load rfl ?_
  (try simp only [xl, qt, decide_eq_true_eq, Int.toNat_zero, Int.toNat_natCast, Nat.zero_mul, Nat.mul_one, Nat.one_mul, List.toList_toArray, List.cons_append, List.nil_append, List.append_nil, true_and, and_true, Nat.zero_add, Nat.add_zero, Bool.not_true, Bool.not_false, if_true, if_false, reduceCtorEq, List.set_cons_zero, List.set_cons_succ])
  refine loop_i (fun k s' H' => ∃ i : Nat, i + k = s.size ∧ s' = (.int .i64 i, []) ∧ Inv i H') s.size ⟨0, by omega, rfl, h0⟩ ?_
  rintro k _ g H' ⟨i, hk, rfl, hi⟩
  (try simp only [xl, qt, decide_eq_true_eq, Int.toNat_zero, Int.toNat_natCast, Nat.zero_mul, Nat.mul_one, Nat.one_mul, List.toList_toArray, List.cons_append, List.nil_append, List.append_nil, true_and, and_true, Nat.zero_add, Nat.add_zero, Bool.not_true, Bool.not_false, if_true, if_false, reduceCtorEq, List.set_cons_zero, List.set_cons_succ])
  by_cases hlt : i < s.size
  · rw [if_pos (by omega)]
    refine (hx i H' hi).load rfl ?_
    (try simp only [xl, qt, decide_eq_true_eq, Int.toNat_zero, Int.toNat_natCast, Nat.zero_mul, Nat.mul_one, Nat.one_mul, List.toList_toArray, List.cons_append, List.nil_append, List.append_nil, true_and, and_true, Nat.zero_add, Nat.add_zero, Bool.not_true, Bool.not_false, if_true, if_false, reduceCtorEq, List.set_cons_zero, List.set_cons_succ])
    refine ⟨by omega, s[i], by simp [hlt], ?_⟩
    (try simp only [xl, qt, decide_eq_true_eq, Int.toNat_zero, Int.toNat_natCast, Nat.zero_mul, Nat.mul_one, Nat.one_mul, List.toList_toArray, List.cons_append, List.nil_append, List.append_nil, true_and, and_true, Nat.zero_add, Nat.add_zero, Bool.not_true, Bool.not_false, if_true, if_false, reduceCtorEq, List.set_cons_zero, List.set_cons_succ])

    rw [wu32 (by have := s[i].toNat_lt; omega)]
    refine YieldH.mono (hY i H' hlt hi) ?_
    rintro v H2 ⟨rfl, h2⟩
    (try simp only [xl, qt, decide_eq_true_eq, Int.toNat_zero, Int.toNat_natCast, Nat.zero_mul, Nat.mul_one, Nat.one_mul, List.toList_toArray, List.cons_append, List.nil_append, List.append_nil, true_and, and_true, Nat.zero_add, Nat.add_zero, Bool.not_true, Bool.not_false, if_true, if_false, reduceCtorEq, List.set_cons_zero, List.set_cons_succ])
    refine ⟨k - 1, by omega, i + 1, by omega, ?_, h2⟩
    rw [w64 (by omega)]; rfl
  · rw [if_neg (by omega)]
    have : i = s.size := by omega
    subst this
    exact hK H' hi

/-- The hash before it is stirred. -/
def foldh (s : ByteArray) : Nat → Int → Int
  | 0, h => h
  | i + 1, h => mix1 (foldh s i h) ((s[i]?.getD 0).toNat)
def stir1 (h : Int) : Int := IntKind.u32.wrap (BitVec.ofInt 32 h ^^^ BitVec.ofInt 32 (h.fdiv (2 ^ 15))).toNat
def stir2 (h : Int) : Int := IntKind.u32.wrap (h * 2246822519)
def stir3 (h : Int) : Int := IntKind.u32.wrap (BitVec.ofInt 32 h ^^^ BitVec.ofInt 32 (h.fdiv (2 ^ 13))).toNat
def hsumD (seed : Int) (s : ByteArray) : Int := stir3 (stir2 (stir1 (foldh s s.size (IntKind.u32.wrap (BitVec.ofInt 32 seed ^^^ BitVec.ofInt 32 2166136261).toNat))))

theorem hsum_ex : ∃ f : Int → ByteArray → Int, f = hsumD := ⟨_, rfl⟩
/-- A text's hash (the kernel is not to look into it). -/
noncomputable def hsum : Int → ByteArray → Int := Classical.choose hsum_ex
theorem hsum_def : hsum = hsumD := Classical.choose_spec hsum_ex
theorem hsum_bd (seed : Int) (s : ByteArray) : 0 ≤ hsum seed s ∧ hsum seed s < 4294967296 := by rw [hsum_def]; exact wu32_bd _

theorem hash_Sum_k {seed : Int} {s : ByteArray} {H : Heap} {K : Value → Heap → Prop} (hn : s.size < 4611686018427387904) (hK : ∀ H', Frm E0 H H' → K (.int .u32 (hsum seed s)) H') :
    CallH P f_hash_Sum [.int .u32 seed, .string s] H K := by
  rw [hsum_def] at hK
  apply k_hash_Sum
  unfold c_hash_Sum
  (try simp only [xl, qt, decide_eq_true_eq, Int.toNat_zero, Int.toNat_natCast, Nat.zero_mul, Nat.mul_one, Nat.one_mul, List.toList_toArray, List.cons_append, List.nil_append, List.append_nil, true_and, and_true, Nat.zero_add, Nat.add_zero, Bool.not_true, Bool.not_false, if_true, if_false, reduceCtorEq, List.set_cons_zero, List.set_cons_succ])
  refine alloc_i fun H1 f1 z1 b1 => ?_
  refine b1.store rfl (by simp) fun H2 f2 z2 b2 => ?_
  simp only [List.set_cons_zero] at b2
  apply k_hash_each
  unfold c_hash_each
  (try simp only [xl, qt, decide_eq_true_eq, Int.toNat_zero, Int.toNat_natCast, Nat.zero_mul, Nat.mul_one, Nat.one_mul, List.toList_toArray, List.cons_append, List.nil_append, List.append_nil, true_and, and_true, Nat.zero_add, Nat.add_zero, Bool.not_true, Bool.not_false, if_true, if_false, reduceCtorEq, List.set_cons_zero, List.set_cons_succ])
  refine alloc_i fun H3 f3 z3 b3 => ?_
  refine range_none fun L H4 f4 z4 d4 l4 hst hpd hY => ?_
  (try simp only [xl, qt, decide_eq_true_eq, Int.toNat_zero, Int.toNat_natCast, Nat.zero_mul, Nat.mul_one, Nat.one_mul, List.toList_toArray, List.cons_append, List.nil_append, List.append_nil, true_and, and_true, Nat.zero_add, Nat.add_zero, Bool.not_true, Bool.not_false, if_true, if_false, reduceCtorEq, List.set_cons_zero, List.set_cons_succ])
  have b2' := (f3.blk b2 id)
  have b2'' := (f4.blk b2' id)
  have hne : H.size ≠ H3.size + 1 := by omega
  refine hash_each_i hn (fun i G => G.size ≥ H4.size ∧ Blk G H2.size [.string s] ∧ Blk G H.size [.int .u32 (foldh s i (IntKind.u32.wrap (BitVec.ofInt 32 seed ^^^ BitVec.ofInt 32 2166136261).toNat))] ∧ G[H3.size]? = some (.deferred (some [])) ∧ G[H3.size + 1]? = some (.loop L) ∧ Frm E0 H G)
    (fun i G hi => hi.2.1) ?_ ⟨by omega, f4.blk b3 id, b2'', d4, l4, ((f1.trans' f2 (fun b hb e => by omega)).trans f3).trans f4⟩ ?_
  · rintro i G hi ⟨g1, g2, g3, g4, g5, g6⟩
    refine hY (.int .u32 s[i].toNat) G _ g5 ?_
    refine begin_i g5 hst fun G1 e1 y1 m1 => ?_
    have g3' := e1.blk g3 (by omega)
    refine g3'.load rfl ?_
    (try simp only [xl, qt, decide_eq_true_eq, Int.toNat_zero, Int.toNat_natCast, Nat.zero_mul, Nat.mul_one, Nat.one_mul, List.toList_toArray, List.cons_append, List.nil_append, List.append_nil, true_and, and_true, Nat.zero_add, Nat.add_zero, Bool.not_true, Bool.not_false, if_true, if_false, reduceCtorEq, List.set_cons_zero, List.set_cons_succ])
    refine buildSl_i fun G2 e2 y2 c2 => ?_
    refine hash_mixed_k c2 ?_
    refine (e2.blk g3' id).store rfl (by simp) fun G3 e3 y3 c3 => ?_
    have m2 := e2.obj m1 id
    have m3 := e3.obj m2 (by omega)
    refine end_i m3 hst hpd fun G4 e4 y4 m4 => ?_
    refine ⟨rfl, ?_⟩
    have fr : Frm (fun x => x = H3.size + 1 ∨ x = H.size) G G4 := by
      refine ((((Frm.refl _ _).trans' e1 ?_).trans' e2 ?_).trans' e3 ?_).trans' e4 ?_ <;> (intro bb hbb hxx; first | exact False.elim hxx | omega | (dsimp only at hxx ⊢; omega))
    refine ⟨by have := fr.le; omega, fr.blk g2 (by omega), ?_, fr.obj g4 (by omega), m4, ?_⟩
    · have c3' := e4.blk c3 (by omega)
      simpa [foldh, hi] using c3'
    · exact g6.trans' fr (fun b hb hx => by omega)
  · rintro H5 ⟨g1, g2, g3, g4, g5, g6⟩
    refine ⟨L, g5, by rw [hst]; simp, fun H6 e6 y6 => ?_⟩
    simp only [x_alt1, x_j0, hpd, true_and]
    have k1 := e6.blk g3 (by omega)
    refine k1.load rfl (k1.load rfl ?_)
    (try simp only [xl, qt, decide_eq_true_eq, Int.toNat_zero, Int.toNat_natCast, Nat.zero_mul, Nat.mul_one, Nat.one_mul, List.toList_toArray, List.cons_append, List.nil_append, List.append_nil, true_and, and_true, Nat.zero_add, Nat.add_zero, Bool.not_true, Bool.not_false, if_true, if_false, reduceCtorEq, List.set_cons_zero, List.set_cons_succ])
    refine ⟨by omega, ?_⟩
    refine k1.store rfl (by simp) fun H7 e7 y7 k2 => ?_
    simp only [List.set_cons_zero] at k2
    refine k2.load rfl ?_
    (try simp only [xl, qt, decide_eq_true_eq, Int.toNat_zero, Int.toNat_natCast, Nat.zero_mul, Nat.mul_one, Nat.one_mul, List.toList_toArray, List.cons_append, List.nil_append, List.append_nil, true_and, and_true, Nat.zero_add, Nat.add_zero, Bool.not_true, Bool.not_false, if_true, if_false, reduceCtorEq, List.set_cons_zero, List.set_cons_succ])
    refine k2.store rfl (by simp) fun H8 e8 y8 k3 => ?_
    simp only [List.set_cons_zero] at k3
    refine k3.load rfl (k3.load rfl ?_)
    (try simp only [xl, qt, decide_eq_true_eq, Int.toNat_zero, Int.toNat_natCast, Nat.zero_mul, Nat.mul_one, Nat.one_mul, List.toList_toArray, List.cons_append, List.nil_append, List.append_nil, true_and, and_true, Nat.zero_add, Nat.add_zero, Bool.not_true, Bool.not_false, if_true, if_false, reduceCtorEq, List.set_cons_zero, List.set_cons_succ])
    have d6 := e8.obj (e7.obj (e6.obj g4 (by omega)) (by omega)) (by omega)
    refine ⟨by omega, d6, ?_⟩
    refine hK _ ?_
    refine Frm.trans' (Frm.trans' (Frm.trans' (Frm.trans' g6 e6 ?_) e7 ?_) e8 ?_) (set_frm (S := fun x => x = H3.size) _ _ _ rfl) ?_ <;> (intro bb hbb hxx; first | exact False.elim hxx | omega | (dsimp only at hxx ⊢; omega))
end Go.X.W
set_option linter.unusedVariables false
set_option linter.unusedSimpArgs false
namespace Go.X.W
open Go Go.X Go.Proofs

theorem wshl1 {k : Nat} (hk : k ≤ 40) : IntKind.i64.wrap ((2 ^ k : Nat) * 2 ^ 1 : Int) = ((2 ^ (k + 1) : Nat) : Int) := by
  have h : (2 ^ k : Nat) ≤ 2 ^ 40 := Nat.pow_le_pow_right (by omega) hk
  rw [Nat.pow_succ]
  generalize 2 ^ k = x at *
  rw [w64 (by omega)]
  omega

theorem hash_sizes_i {l : Nat} {H : Heap} {K : Value → Heap → Prop} (Inv : Nat → Heap → Prop) (Q : Heap → Prop)
    (hY : ∀ k H, 2 ≤ k → k ≤ 16 → Inv k H → YieldH P l [.int .i64 (2 ^ k : Nat)] H (fun v H' => (v = .bool true ∧ Inv (k + 1) H') ∨ (v = .bool false ∧ Q H')))
    (h0 : Inv 2 H) (hK : ∀ H', Inv 17 H' ∨ Q H' → K (.tuple #[]) H') :
    CallH P f_hash_sizes_1 [.func (.yield l) #[] #[]] H K := by
  apply k_hash_sizes_1
  unfold c_hash_sizes_1
  refine loop_i (fun m s' H' => ∃ k : Nat, k + m = 17 ∧ 2 ≤ k ∧ s' = (.int .i64 (2 ^ k : Nat), []) ∧ Inv k H') 15 ⟨2, by omega, by omega, rfl, h0⟩ ?_
  rintro m _ g H' ⟨k, hk, h2, rfl, hi⟩
  (try simp only [xl, qt, decide_eq_true_eq, Int.toNat_zero, Int.toNat_natCast, Nat.zero_mul, Nat.mul_one, Nat.one_mul, List.toList_toArray, List.cons_append, List.nil_append, List.append_nil, true_and, and_true, Nat.zero_add, Nat.add_zero, Bool.not_true, Bool.not_false, if_true, if_false, reduceCtorEq, List.set_cons_zero, List.set_cons_succ])
  have hb : k ≤ 16 → (2 ^ k : Nat) ≤ 65536 := fun h => by
    have : (2 ^ k : Nat) ≤ 2 ^ 16 := Nat.pow_le_pow_right (by omega) h
    omega
  by_cases hlt : k ≤ 16
  · have := hb hlt
    rw [if_pos (by omega)]
    (try simp only [xl, qt, decide_eq_true_eq, Int.toNat_zero, Int.toNat_natCast, Nat.zero_mul, Nat.mul_one, Nat.one_mul, List.toList_toArray, List.cons_append, List.nil_append, List.append_nil, true_and, and_true, Nat.zero_add, Nat.add_zero, Bool.not_true, Bool.not_false, if_true, if_false, reduceCtorEq, List.set_cons_zero, List.set_cons_succ])
    refine YieldH.mono (hY k H' h2 hlt hi) ?_
    rintro v H2 (⟨rfl, h2⟩ | ⟨rfl, h2⟩)
    · (try simp only [xl, qt, decide_eq_true_eq, Int.toNat_zero, Int.toNat_natCast, Nat.zero_mul, Nat.mul_one, Nat.one_mul, List.toList_toArray, List.cons_append, List.nil_append, List.append_nil, true_and, and_true, Nat.zero_add, Nat.add_zero, Bool.not_true, Bool.not_false, if_true, if_false, reduceCtorEq, List.set_cons_zero, List.set_cons_succ])
      refine ⟨by omega, m - 1, by omega, k + 1, by omega, by omega, ?_, h2⟩
      have := wshl1 (k := k) (by omega)
      simpa [IntKind.bits] using this
    · (try simp only [xl, qt, decide_eq_true_eq, Int.toNat_zero, Int.toNat_natCast, Nat.zero_mul, Nat.mul_one, Nat.one_mul, List.toList_toArray, List.cons_append, List.nil_append, List.append_nil, true_and, and_true, Nat.zero_add, Nat.add_zero, Bool.not_true, Bool.not_false, if_true, if_false, reduceCtorEq, List.set_cons_zero, List.set_cons_succ])
      exact hK _ (.inr h2)
  · have : k = 17 := by omega
    subst this
    rw [if_neg (by omega)]
    (try simp only [xl, qt, decide_eq_true_eq, Int.toNat_zero, Int.toNat_natCast, Nat.zero_mul, Nat.mul_one, Nat.one_mul, List.toList_toArray, List.cons_append, List.nil_append, List.append_nil, true_and, and_true, Nat.zero_add, Nat.add_zero, Bool.not_true, Bool.not_false, if_true, if_false, reduceCtorEq, List.set_cons_zero, List.set_cons_succ])
    exact hK _ (.inl hi)

def IsSz (n : Nat) : Prop := ∃ k, 2 ≤ k ∧ k ≤ 16 ∧ n = 2 ^ k
theorem IsSz.bd {n : Nat} (h : IsSz n) : 4 ≤ n ∧ n ≤ 65536 := by
  obtain ⟨k, h2, h16, rfl⟩ := h
  have h1 : (2 ^ 2 : Nat) ≤ 2 ^ k := Nat.pow_le_pow_right (by omega) h2
  have h3 : (2 ^ k : Nat) ≤ 2 ^ 16 := Nat.pow_le_pow_right (by omega) h16
  omega

theorem hash_SizeFor_k {n : Int} {H : Heap} {K : Value → Heap → Prop} (hK : ∀ (s : Nat) H', IsSz s → (n ≤ 1024 → s ≤ 1024) → Frm E0 H H' → K (.int .i64 s) H') :
    CallH P f_hash_SizeFor [.int .i64 n] H K := by
  apply k_hash_SizeFor
  unfold c_hash_SizeFor
  (try simp only [xl, qt, decide_eq_true_eq, Int.toNat_zero, Int.toNat_natCast, Nat.zero_mul, Nat.mul_one, Nat.one_mul, List.toList_toArray, List.cons_append, List.nil_append, List.append_nil, true_and, and_true, Nat.zero_add, Nat.add_zero, Bool.not_true, Bool.not_false, if_true, if_false, reduceCtorEq, List.set_cons_zero, List.set_cons_succ])
  refine alloc_i fun H1 f1 z1 b1 => ?_
  refine alloc_i fun H2 f2 z2 b2 => ?_
  have b1 := f2.blk b1 (by first | exact id | omega | (dsimp only; omega) | (intro hh; dsimp only at hh; omega) | assumption)
  refine Blk.store (by assumption) (by rfl) (by simp) fun H3 f3 z3 b3 => ?_; simp only [List.set_cons_zero, List.set_cons_succ] at b3; have b1 := f3.blk b1 (by first | exact id | omega | (dsimp only; omega) | (intro hh; dsimp only at hh; omega) | assumption)
  apply k_hash_sizes
  unfold c_hash_sizes
  refine range_none fun L H4 f4 z4 d4 l4 hst hpd hY => ?_
  have b1 := f4.blk b1 (by first | exact id | omega | (dsimp only; omega) | (intro hh; dsimp only at hh; omega) | assumption); have b3 := f4.blk b3 (by first | exact id | omega | (dsimp only; omega) | (intro hh; dsimp only at hh; omega) | assumption)
  (try simp only [xl, qt, decide_eq_true_eq, Int.toNat_zero, Int.toNat_natCast, Nat.zero_mul, Nat.mul_one, Nat.one_mul, List.toList_toArray, List.cons_append, List.nil_append, List.append_nil, true_and, and_true, Nat.zero_add, Nat.add_zero, Bool.not_true, Bool.not_false, if_true, if_false, reduceCtorEq, List.set_cons_zero, List.set_cons_succ])
  refine hash_sizes_i (fun k G => (n ≤ 1024 → k ≤ 10) ∧ Frm E0 H G ∧ Blk G H.size [.int .i64 n] ∧ Blk G H1.size [.int .i64 65536] ∧ G[H3.size]? = some (.deferred (some [])) ∧ G[H3.size + 1]? = some (.loop L))
    (fun G => Frm E0 H G ∧ (∃ k, 2 ≤ k ∧ k ≤ 16 ∧ (n ≤ 1024 → k ≤ 10) ∧ Blk G H1.size [.int .i64 (2 ^ k : Nat)]) ∧ G[H3.size]? = some (.deferred (some [])) ∧ ∃ L', G[H3.size + 1]? = some (.loop L') ∧ L'.state ≠ .busy ∧ L'.pending = some (.exit 0)) ?_ ⟨fun _ => by omega, ?_, b1, b3, d4, l4⟩ ?_
  · rintro k G h2 h16 ⟨hlim, g0, g1, g2, g3, g4⟩
    refine hY (.int .i64 (2 ^ k : Nat)) G _ g4 ?_
    refine begin_i g4 hst fun G1 e1 y1 m1 => ?_
    have g1 := e1.blk g1 (by first | exact id | omega | (dsimp only; omega) | (intro hh; dsimp only at hh; omega) | assumption); have g2 := e1.blk g2 (by first | exact id | omega | (dsimp only; omega) | (intro hh; dsimp only at hh; omega) | assumption)
    have g3' := e1.obj g3 (by omega)
    (repeat (first | (refine Blk.load (by assumption) (by rfl) ?_) | (simp only [xl, qt, decide_eq_true_eq, Int.toNat_zero, Int.toNat_natCast, Nat.zero_mul, Nat.mul_one, Nat.one_mul, List.toList_toArray, List.cons_append, List.nil_append, List.append_nil, true_and, and_true, Nat.zero_add, Nat.add_zero, Bool.not_true, Bool.not_false, if_true, if_false, reduceCtorEq, List.set_cons_zero, List.set_cons_succ])))
    by_cases hc : n ≤ (2 ^ k : Nat)
    · rw [if_pos hc]
      refine Blk.store (by assumption) (by rfl) (by simp) fun G2 e2 y2 g2 => ?_; simp only [List.set_cons_zero, List.set_cons_succ] at g2
      have m2 := e2.obj m1 (by omega)
      have g3'' := e2.obj g3' (by omega)
      refine end_jump m2 rfl (c := .exit 0) rfl fun G3 e3 y3 m3 => ?_
      refine .inr ⟨rfl, ?_, ⟨k, h2, h16, hlim, e3.blk g2 (by omega)⟩, e3.obj g3'' (by omega), _, m3, by simp, rfl⟩
      refine ((g0.trans' e1 ?_).trans' e2 ?_).trans' e3 ?_ <;> (intro bb hbb hxx; first | exact False.elim hxx | omega | (dsimp only at hxx ⊢; omega))
    · rw [if_neg hc]
      refine end_i m1 hst hpd fun G2 e2 y2 m2 => ?_
      have hlim' : n ≤ 1024 → k + 1 ≤ 10 := fun hn => by
        have h1 := hlim hn
        by_cases e : k = 10
        · subst e; omega
        · omega
      refine .inl ⟨rfl, hlim', ?_, e2.blk g1 (by omega), e2.blk g2 (by omega), e2.obj g3' (by omega), m2⟩
      refine (g0.trans' e1 ?_).trans' e2 ?_ <;> (intro bb hbb hxx; first | exact False.elim hxx | omega | (dsimp only at hxx ⊢; omega))
  · refine ((f1.trans' f2 ?_).trans' f3 ?_).trans' f4 ?_ <;> (intro bb hbb hxx; first | exact False.elim hxx | omega | (dsimp only at hxx ⊢; omega))
  · rintro H5 (⟨hlim, g0, g1, g2, g3, g4⟩ | ⟨g0, ⟨k, h2, h16, hlim, g2⟩, g3, L', g4, g5, g6⟩)
    · refine ⟨L, g4, by rw [hst]; simp, fun H6 e6 y6 => ?_⟩
      have g2 := e6.blk g2 (by first | exact id | omega | (dsimp only; omega) | (intro hh; dsimp only at hh; omega) | assumption)
      have g3' := e6.obj g3 (by omega)
      simp only [x_alt2, x_alt1, x_j0, x_j2, hpd, true_and]
      left
      (repeat (first | (refine Blk.load (by assumption) (by rfl) ?_) | (simp only [xl, qt, decide_eq_true_eq, Int.toNat_zero, Int.toNat_natCast, Nat.zero_mul, Nat.mul_one, Nat.one_mul, List.toList_toArray, List.cons_append, List.nil_append, List.append_nil, true_and, and_true, Nat.zero_add, Nat.add_zero, Bool.not_true, Bool.not_false, if_true, if_false, reduceCtorEq, List.set_cons_zero, List.set_cons_succ])))
      refine ⟨g3', hK 65536 _ ⟨16, by omega, by omega, rfl⟩ (fun hn => by have := hlim hn; omega) ?_⟩
      refine (g0.trans' e6 ?_).trans' (set_frm (S := fun x => x = H3.size) _ _ _ rfl) ?_ <;> (intro bb hbb hxx; first | exact False.elim hxx | omega | (dsimp only at hxx ⊢; omega))
    · refine ⟨L', g4, g5, fun H6 e6 y6 => ?_⟩
      have g2 := e6.blk g2 (by first | exact id | omega | (dsimp only; omega) | (intro hh; dsimp only at hh; omega) | assumption)
      have g3' := e6.obj g3 (by omega)
      simp only [x_alt2, x_alt1, x_j0, x_j2, g6, true_and]
      right
      (repeat (first | (refine Blk.load (by assumption) (by rfl) ?_) | (simp only [xl, qt, decide_eq_true_eq, Int.toNat_zero, Int.toNat_natCast, Nat.zero_mul, Nat.mul_one, Nat.one_mul, List.toList_toArray, List.cons_append, List.nil_append, List.append_nil, true_and, and_true, Nat.zero_add, Nat.add_zero, Bool.not_true, Bool.not_false, if_true, if_false, reduceCtorEq, List.set_cons_zero, List.set_cons_succ])))
      refine ⟨g3', hK (2 ^ k) _ ⟨k, by omega, by omega, rfl⟩ (fun hn => Nat.pow_le_pow_right (by omega) (hlim hn)) ?_⟩
      refine (g0.trans' e6 ?_).trans' (set_frm (S := fun x => x = H3.size) _ _ _ rfl) ?_ <;> (intro bb hbb hxx; first | exact False.elim hxx | omega | (dsimp only at hxx ⊢; omega))
end Go.X.W
set_option linter.unusedVariables false
set_option linter.unusedSimpArgs false
namespace Go.X
open Go
variable {P : Program}

/-- What is known of a block. -/
inductive Chunk where
  | cells (cs : List Value)
  | obj (o : Obj)

def Chk (H : Heap) (b : Nat) : Chunk → Prop
  | .cells cs => Blk H b cs
  | .obj o => H[b]? = some o

theorem Chk.lt {H : Heap} {b : Nat} {c : Chunk} (h : Chk H b c) : b < H.size := by
  cases c with
  | cells cs => exact Blk.lt h
  | obj o => exact (Array.getElem?_eq_some_iff.1 h).1
theorem Chk.of_eq {H H' : Heap} {b : Nat} {c : Chunk} (h : Chk H b c) (e : H'[b]? = H[b]?) : Chk H' b c := by
  cases c with
  | cells cs => exact Blk.of_eq h e
  | obj o => exact e.trans h

instance memSetoid : Setoid (List (Nat × Chunk)) := ⟨List.Perm, ⟨List.Perm.refl, List.Perm.symm, List.Perm.trans⟩⟩
/-- Parts of a memory, in no order. -/
def Mem : Type := Quotient memSetoid

def HasL (H : Heap) (L : List (Nat × Chunk)) : Prop := (L.map (·.1)).Nodup ∧ ∀ p ∈ L, Chk H p.1 p.2
theorem HasL.perm {H : Heap} {L L' : List (Nat × Chunk)} (p : L.Perm L') (h : HasL H L) : HasL H L' :=
  ⟨(p.map (·.1)).nodup_iff.1 h.1, fun q hq => h.2 q (p.mem_iff.2 hq)⟩
/-- These parts are there, each apart from all others. -/
def Has (H : Heap) (m : Mem) : Prop := Quotient.lift (HasL H) (fun _ _ p => propext ⟨HasL.perm p, HasL.perm (List.Perm.symm p)⟩) m

def Mem.of (L : List (Nat × Chunk)) : Mem := Quotient.mk _ L
instance : Add Mem := ⟨Quotient.lift₂ (fun a b => Mem.of (a ++ b)) fun _ _ _ _ p q => Quotient.sound (List.Perm.append p q)⟩
def emp : Mem := Mem.of []
def cell (b : Nat) (cs : List Value) : Mem := Mem.of [(b, .cells cs)]
def objM (b : Nat) (o : Obj) : Mem := Mem.of [(b, .obj o)]

theorem Mem.ind {p : Mem → Prop} (h : ∀ L, p (Mem.of L)) (m : Mem) : p m := Quotient.ind h m
theorem of_add (a b : List (Nat × Chunk)) : Mem.of a + Mem.of b = Mem.of (a ++ b) := rfl
theorem mem_assoc (a b c : Mem) : a + b + c = a + (b + c) := by
  induction a using Mem.ind; induction b using Mem.ind; induction c using Mem.ind
  simp only [of_add, List.append_assoc]
theorem mem_comm (a b : Mem) : a + b = b + a := by
  induction a using Mem.ind; induction b using Mem.ind
  exact Quotient.sound List.perm_append_comm
theorem mem_left_comm (a b c : Mem) : a + (b + c) = b + (a + c) := by rw [← mem_assoc, mem_comm a b, mem_assoc]
theorem emp_add (a : Mem) : emp + a = a := by induction a using Mem.ind; rfl
theorem add_emp (a : Mem) : a + emp = a := by rw [mem_comm, emp_add]
instance : Std.Associative (α := Mem) (· + ·) := ⟨mem_assoc⟩
instance : Std.Commutative (α := Mem) (· + ·) := ⟨mem_comm⟩

theorem has_of {H : Heap} {L : List (Nat × Chunk)} : Has H (Mem.of L) = HasL H L := rfl
theorem has_emp (H : Heap) : Has H emp := ⟨List.nodup_nil, fun _ h => by cases h⟩

theorem Has.left {H : Heap} {a b : Mem} (h : Has H (a + b)) : Has H a := by
  induction a using Mem.ind; induction b using Mem.ind
  rw [of_add, has_of] at h
  have h1 := h.1
  rw [List.map_append, List.nodup_append] at h1
  exact ⟨h1.1, fun p hp => h.2 p (List.mem_append.2 (.inl hp))⟩
theorem Has.right {H : Heap} {a b : Mem} (h : Has H (a + b)) : Has H b := by rw [mem_comm] at h; exact h.left

/-- What has been said of the memory stays, if all that changes lies elsewhere. -/
theorem Has.frm {H H' : Heap} {m : Mem} (h : Has H m) (f : Frm E0 H H') : Has H' m := by
  induction m using Mem.ind
  exact ⟨h.1, fun p hp => (h.2 p hp).of_eq (f.eq _ (h.2 p hp).lt id)⟩

/-- A block changes. -/
theorem Has.set {H H' : Heap} {m : Mem} {b : Nat} {c c' : Chunk} (h : Has H (Mem.of [(b, c)] + m)) (f : Frm (fun x => x = b) H H') (hb : Chk H' b c') : Has H' (Mem.of [(b, c')] + m) := by
  induction m using Mem.ind with
  | h L =>
  rw [of_add, has_of] at *
  have h1 := h.1
  simp only [List.cons_append, List.nil_append, List.map_cons, List.nodup_cons] at h1
  refine ⟨by simpa using h1, fun p hp => ?_⟩
  simp only [List.cons_append, List.nil_append, List.mem_cons] at hp
  rcases hp with rfl | hp
  · exact hb
  · have hp' := h.2 p (by simp [hp])
    exact hp'.of_eq (f.eq _ hp'.lt fun e => h1.1 (e ▸ List.mem_map_of_mem hp))
/-- A block is new. -/
theorem Has.new {H H' : Heap} {m : Mem} {b : Nat} {c : Chunk} (h : Has H m) (f : Frm E0 H H') (hl : H.size ≤ b) (hb : Chk H' b c) : Has H' (Mem.of [(b, c)] + m) := by
  have h' := h.frm f
  induction m using Mem.ind with
  | h L =>
  rw [of_add, has_of] at *
  refine ⟨?_, fun p hp => ?_⟩
  · simp only [List.cons_append, List.nil_append, List.map_cons, List.nodup_cons]
    refine ⟨fun hm => ?_, h.1⟩
    obtain ⟨p, hp, e⟩ := List.mem_map.1 hm
    have := (h.2 p hp).lt
    omega
  · simp only [List.cons_append, List.nil_append, List.mem_cons] at hp
    rcases hp with rfl | hp
    · exact hb
    · exact h'.2 p hp

theorem Has.ne {H : Heap} {m : Mem} {b b' : Nat} {c c' : Chunk} (h : Has H (Mem.of [(b, c)] + (Mem.of [(b', c')] + m))) : b ≠ b' := by
  induction m using Mem.ind with
  | h L =>
  rw [of_add, of_add, has_of] at h
  have h1 := h.1
  simp only [List.cons_append, List.nil_append, List.map_cons, List.nodup_cons, List.mem_cons, not_or] at h1
  exact h1.1.1

theorem x_spl0 (cs : List Value) (o : Nat) : spliceL cs o [] = cs := rfl
theorem x_spl1 (cs : List Value) (o : Nat) (v : Value) (r : List Value) : spliceL cs o (v :: r) = spliceL (cs.set o v) (o + 1) r := rfl
/-! ### A part among others -/
class Pick (x m : Mem) (r : outParam Mem) : Prop where
  eq : m = x + r
class PickC (b : Nat) (m : Mem) (cs : outParam (List Value)) (r : outParam Mem) : Prop where
  eq : m = cell b cs + r
class PickO (b : Nat) (m : Mem) (o : outParam Obj) (r : outParam Mem) : Prop where
  eq : m = objM b o + r

instance (priority := 2000) pick_self (x : Mem) : Pick x x emp := ⟨(add_emp x).symm⟩
instance (priority := 1900) pick_here (x b : Mem) : Pick x (x + b) b := ⟨rfl⟩
instance (priority := 1800) pick_last (x b : Mem) : Pick x (b + x) b := ⟨mem_comm _ _⟩
instance (priority := 1000) pick_left (x a b r : Mem) [h : Pick x a r] : Pick x (a + b) (r + b) := ⟨by rw [h.eq, mem_assoc]⟩
instance (priority := 900) pick_right (x a b r : Mem) [h : Pick x b r] : Pick x (a + b) (a + r) := ⟨by rw [h.eq, mem_left_comm]⟩
instance (priority := 2100) pick_add (x y m r r' : Mem) [h : Pick x m r] [h' : Pick y r r'] : Pick (x + y) m r' := ⟨by rw [h.eq, h'.eq, mem_assoc]⟩

instance (priority := 2000) pickC_self (b : Nat) (cs : List Value) : PickC b (cell b cs) cs emp := ⟨(add_emp _).symm⟩
instance (priority := 1900) pickC_here (b : Nat) (cs : List Value) (m : Mem) : PickC b (cell b cs + m) cs m := ⟨rfl⟩
instance (priority := 1800) pickC_last (b : Nat) (cs : List Value) (m : Mem) : PickC b (m + cell b cs) cs m := ⟨mem_comm _ _⟩
instance (priority := 1000) pickC_left (b : Nat) (cs : List Value) (x y r : Mem) [h : PickC b x cs r] : PickC b (x + y) cs (r + y) := ⟨by rw [h.eq, mem_assoc]⟩
instance (priority := 900) pickC_right (b : Nat) (cs : List Value) (x y r : Mem) [h : PickC b y cs r] : PickC b (x + y) cs (x + r) := ⟨by rw [h.eq, mem_left_comm]⟩

instance (priority := 2000) pickO_self (b : Nat) (o : Obj) : PickO b (objM b o) o emp := ⟨(add_emp _).symm⟩
instance (priority := 1900) pickO_here (b : Nat) (o : Obj) (m : Mem) : PickO b (objM b o + m) o m := ⟨rfl⟩
instance (priority := 1800) pickO_last (b : Nat) (o : Obj) (m : Mem) : PickO b (m + objM b o) o m := ⟨mem_comm _ _⟩
instance (priority := 1000) pickO_left (b : Nat) (o : Obj) (x y r : Mem) [h : PickO b x o r] : PickO b (x + y) o (r + y) := ⟨by rw [h.eq, mem_assoc]⟩
instance (priority := 900) pickO_right (b : Nat) (o : Obj) (x y r : Mem) [h : PickO b y o r] : PickO b (x + y) o (x + r) := ⟨by rw [h.eq, mem_left_comm]⟩

theorem Has.front {H : Heap} {m r : Mem} (h : Has H m) (x : Mem) [p : Pick x m r] : Has H (x + r) := p.eq ▸ h
theorem Has.drop {H : Heap} {m r : Mem} (h : Has H m) (x : Mem) [p : Pick x m r] : Has H r := (p.eq ▸ h : Has H (x + r)).right
theorem Has.frontC {H : Heap} {m r : Mem} {cs : List Value} (h : Has H m) (b : Nat) [p : PickC b m cs r] : Has H (cell b cs + r) := p.eq ▸ h
theorem Has.to {H : Heap} {m m' : Mem} (h : Has H m) (e : m = m') : Has H m' := e ▸ h

theorem Has.blk {H : Heap} {m r : Mem} {b : Nat} {cs : List Value} [p : PickC b m cs r] (h : Has H m) : Blk H b cs := by
  rw [p.eq] at h
  exact (show HasL H [(b, .cells cs)] from h.left).2 (b, .cells cs) (by simp)
theorem Has.obj {H : Heap} {m r : Mem} {b : Nat} {o : Obj} [p : PickO b m o r] (h : Has H m) : H[b]? = some o := by
  rw [p.eq] at h
  exact (show HasL H [(b, .obj o)] from h.left).2 (b, .obj o) (by simp)

section
variable {H : Heap} {m r : Mem} {b o : Nat} {cs : List Value}
theorem h_load {K : Value → Prop} {x : Value} [p : PickC b m cs r] (h : Has H m) (hx : cs[o]? = some x) (hk : K x) : LoadP none H (.pointer (some ⟨b, o, none⟩)) K := (h.blk (b := b)).load hx hk
theorem h_loadIs {x : Value} [p : PickC b m cs r] (h : Has H m) (hx : cs[o]? = some x) : LoadIs none H (.pointer (some ⟨b, o, none⟩)) x := (h.blk (b := b)).loadIs hx
theorem h_loadN {n : Nat} {K : Value → Prop} [p : PickC b m cs r] (h : Has H m) (hn : o + n ≤ cs.length) (hk : K (.agg ((cs.drop o).take n).toArray)) : LoadP (some n) H (.pointer (some ⟨b, o, none⟩)) K := (h.blk (b := b)).loadN hn hk
theorem h_loadNIs {n : Nat} [p : PickC b m cs r] (h : Has H m) (hn : o + n ≤ cs.length) : LoadIs (some n) H (.pointer (some ⟨b, o, none⟩)) (.agg ((cs.drop o).take n).toArray) := (h.blk (b := b)).loadNIs hn
theorem h_store {v : Value} {K : Heap → Prop} [p : PickC b m cs r] (h : Has H m) (hv : v.oneCell = true) (ho : o < cs.length) (hk : ∀ H', Has H' (cell b (cs.set o v) + r) → K H') :
    StoreP none H (.pointer (some ⟨b, o, none⟩)) v K :=
  (h.blk (b := b)).store hv ho fun H' f _ hb => hk H' (Has.set (c := .cells cs) (p.eq ▸ h) f hb)
theorem h_storeN {n : Nat} {vs : Array Value} {K : Heap → Prop} [p : PickC b m cs r] (h : Has H m) (hn : vs.size = n) (hv : ∀ v ∈ vs.toList, v.oneCell = true) (ho : o + n ≤ cs.length)
    (hk : ∀ H', Has H' (cell b (spliceL cs o vs.toList) + r) → K H') : StoreP (some n) H (.pointer (some ⟨b, o, none⟩)) (.agg vs) K :=
  (h.blk (b := b)).storeN hn hv ho fun H' f _ hb => hk H' (Has.set (c := .cells cs) (p.eq ▸ h) f hb)
theorem h_alloc {cells : List Value} {t : TypeId} {K : Value → Heap → Prop} (h : Has H m) (hk : ∀ b H', Has H' (cell b cells + m) → K (.pointer (some ⟨b, 0, none⟩)) H') : AllocP cells.toArray t H K :=
  alloc_i fun H' f _ hb => hk _ H' (h.new f (Nat.le_refl _) hb)
theorem h_allocA {cells : Array Value} {t : TypeId} {K : Value → Heap → Prop} (h : Has H m) (hk : ∀ b H', Has H' (cell b cells.toList + m) → K (.pointer (some ⟨b, 0, none⟩)) H') : AllocP cells t H K :=
  allocA_i fun H' f _ hb => hk _ H' (h.new f (Nat.le_refl _) hb)
theorem h_buildSl {elem : TypeId} {len : Nat} {cells : List Value} {K : Value → Heap → Prop} (h : Has H m) (hk : ∀ b H', Has H' (cell b cells + m) → K (.slice (some ⟨b, 0, none⟩) len len) H') : BuildSliceP elem len cells H K :=
  buildSl_i fun H' f _ hb => hk _ H' (h.new f (Nat.le_refl _) hb)
theorem h_make {elem : TypeId} {k k' : IntKind} {l c : Int} {K : Value → Heap → Prop} {z : Array Value} {bt : Nat} (h : Has H m) (hz : (zeroT P elem).cells = z) (hbt : bytesT P elem = bt) (hb : 0 ≤ l ∧ l ≤ c ∧ c ≤ 9223372036854775807 ∧ (bt : Int) * c ≤ 2 ^ 48)
    (hk : ∀ b H', Has H' (cell b (zerosN z c.toNat) + m) → K (.slice (some ⟨b, 0, none⟩) l.toNat c.toNat) H') : MakeSliceP P elem (.int k l) (.int k' c) H K := by
  subst hz hbt
  refine ⟨⟨hb.1, hb.2.1, by simpa [IntKind.max, IntKind.bits, IntKind.signed] using hb.2.2.1, hb.2.2.2⟩, hk _ _ (h.new (push_frm _ _ _) (Nat.le_refl _) ⟨elem, by simp⟩)⟩

theorem Blk.load2 {K : Value → Prop} {x y : Value} (h : Blk H b cs) (hx : cs[o]? = some x) (hy : cs[o + 1]? = some y) (hk : K (.agg #[x, y])) : LoadP (some 2) H (.pointer (some ⟨b, o, none⟩)) K := by
  have h1 := (List.getElem?_eq_some_iff.1 hy).1
  refine h.loadN (by omega) ?_
  have e : (cs.drop o).take 2 = [x, y] := by
    apply List.ext_getElem?
    intro i
    rw [List.getElem?_take]
    split
    · rw [List.getElem?_drop]
      match i with
      | 0 => simpa using hx
      | 1 => simpa using hy
      | i + 2 => omega
    · rw [List.getElem?_eq_none (by simp; omega)]
  rw [e]
  exact hk
theorem h_load2 {K : Value → Prop} {x y : Value} [p : PickC b m cs r] (h : Has H m) (hx : cs[o]? = some x) (hy : cs[o + 1]? = some y) (hk : K (.agg #[x, y])) : LoadP (some 2) H (.pointer (some ⟨b, o, none⟩)) K :=
  (h.blk (b := b)).load2 hx hy hk
theorem h_store2 {x y : Value} {K : Heap → Prop} [p : PickC b m cs r] (h : Has H m) (hx : x.oneCell = true) (hy : y.oneCell = true) (ho : o + 1 < cs.length) (hk : ∀ H', Has H' (cell b ((cs.set o x).set (o + 1) y) + r) → K H') :
    StoreP (some 2) H (.pointer (some ⟨b, o, none⟩)) (.agg #[x, y]) K := by
  exact h_storeN h rfl (by simp [hx, hy]) (by omega) fun H' hh => hk H' hh

/-- What is collected for a function's end. -/
def dsM : List Nat → Mem
  | [] => emp
  | D :: Ds => objM D (.deferred (some [])) + dsM Ds
abbrev dsL (Ds : List Nat) : List Deferred := Ds.map fun D => { target := .collected D, args := #[] }
theorem h_ret {A : Heap → Prop} : ∀ (Ds : List Nat) {H : Heap} {m : Mem}, Has H (dsM Ds + m) → (∀ H', Has H' m → A H') → RetP (dsL Ds) H A
  | [], H, m, h, hA => hA H (by rwa [dsM, emp_add] at h)
  | D :: Ds, H, m, h, hA => by
    rw [dsL, List.map_cons, x_ret1]
    rw [dsM, mem_assoc] at h
    refine ⟨h.obj (b := D), h_ret Ds (m := m) ?_ hA⟩
    have hlt := (Array.getElem?_eq_some_iff.1 (h.obj (b := D))).1
    exact (Has.set (c := .obj _) (c' := .obj (.deferred none)) h (set_frm (S := fun x => x = D) H D _ rfl) (set_get hlt)).right

theorem h_range {fv : Value} {np : Nat} {Rd : Nat → Tup np → Heap → (Value → Heap → Prop) → Prop} {After : Option Code → List Deferred → Heap → Prop} (h : Has H m)
    (hk : ∀ (D l : Nat) (L : Loop) (H2 : Heap), Has H2 (objM l (.loop L) + (objM D (.deferred (some [])) + m)) → L.state = .ready → L.pending = none →
      (∀ vs H' K, H'[l]? = some (.loop L) → Rd l vs H' K → YieldH P l (listT np vs) H' K) →
      CallF P fv [.func (.yield l) #[] #[]] H2 fun _ H3 =>
        ∃ L' m', Has H3 (objM l (.loop L') + m') ∧ L'.state ≠ .busy ∧ ∀ H4, Has H4 m' → After L'.pending (dsL [D]) H4) : RangeP P none fv np Rd After H := by
  refine range_none fun L H2 f z hd hl hst hpd hY => ?_
  have h2 : Has H2 (objM (H.size + 1) (.loop L) + (objM H.size (.deferred (some [])) + m)) := by
    have h0 := h.frm f
    induction m using Mem.ind with
    | h M =>
    show HasL H2 ([(H.size + 1, .obj (.loop L))] ++ ([(H.size, .obj (.deferred (some [])))] ++ M))
    have hlt : ∀ p ∈ M, p.1 < H.size := fun p hp => (h.2 p hp).lt
    refine ⟨?_, fun p hp => ?_⟩
    · simp only [List.cons_append, List.nil_append, List.map_cons, List.nodup_cons, List.mem_cons, List.mem_map, not_or, not_exists, not_and]
      refine ⟨⟨by omega, fun p hp e => ?_⟩, fun p hp e => ?_, h0.1⟩
      · have := hlt p hp; omega
      · have := hlt p hp; omega
    · simp only [List.cons_append, List.nil_append, List.mem_cons] at hp
      rcases hp with rfl | rfl | hp
      · exact hl
      · exact hd
      · exact h0.2 p hp
  refine CallF.mono (hk H.size (H.size + 1) L H2 h2 hst hpd hY) ?_
  rintro v H3 ⟨L', m', h3, hb, ha⟩
  refine ⟨L', h3.obj, hb, fun H4 f4 z4 => ha H4 ?_⟩
  induction m' using Mem.ind with
  | h M =>
  have h1 := h3.1
  simp only [List.map_append, List.map_cons, List.map_nil, List.cons_append, List.nil_append, List.nodup_cons, List.mem_map, not_exists, not_and] at h1
  refine ⟨h1.2, fun p hp => ?_⟩
  have hp' := h3.2 p (by simp [hp])
  exact hp'.of_eq (f4.eq _ hp'.lt fun e => h1.1 p hp e)

theorem h_begin {l : Nat} {L : Loop} {K : Heap → Prop} [p : PickO l m (.loop L) r] (h : Has H m) (hs : L.state = .ready)
    (hk : ∀ H2, Has H2 (objM l (.loop { L with state := .busy }) + r) → K H2) : BeginP l H K :=
  begin_i (h.obj) hs fun H2 f _ hl => hk H2 (Has.set (c := .obj _) (c' := .obj _) (p.eq ▸ h) f hl)
theorem h_end {l : Nat} {L : Loop} {K : Value → Heap → Prop} [p : PickO l m (.loop { L with state := .busy }) r] (h : Has H m) (hs : L.state = .ready) (hp : L.pending = none)
    (hk : ∀ H2, Has H2 (objM l (.loop L) + r) → K (.bool true) H2) : EndP l .normal H K :=
  end_i (h.obj) hs hp fun H2 f _ hl => hk H2 (Has.set (c := .obj _) (c' := .obj _) (p.eq ▸ h) f hl)
theorem h_endJ {l : Nat} {ex : Exit} {L : Loop} {K : Value → Heap → Prop} {c : Code} [p : PickO l m (.loop { L with state := .busy }) r] (h : Has H m) (hx : plainExit ex = true) (hj : jumpOf ex = some c)
    (hk : ∀ H2, Has H2 (objM l (.loop { L with state := .done, pending := some c }) + r) → K (.bool false) H2) : EndP l ex H K :=
  end_jump (h.obj) hx hj fun H2 f _ hl => hk H2 (Has.set (c := .obj _) (c' := .obj _) (p.eq ▸ h) f hl)
end
end Go.X
