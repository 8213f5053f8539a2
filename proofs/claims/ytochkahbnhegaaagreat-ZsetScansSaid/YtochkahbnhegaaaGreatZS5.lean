/- Clean words of Go functions, printed by a program of our own; each is equal to the evaluator's result. -/
import Derived.Test.YtochkahbnhegaaaGreatZS3
set_option linter.unusedVariables false
set_option maxRecDepth 100000
namespace Go.X.W
open Go Go.X Go.Proofs

/-- gosem.cut.init -/
def c_gosem_cut_init (H : Heap) (K : Value → Heap → Prop) : Prop :=
  CallH P f_gosem_cut [] H fun t_1 H2 =>
  K (.tuple #[]) H2

def a_gosem_cut_init : Ann := []

theorem e_gosem_cut_init (H : Heap) (K : Value → Heap → Prop) : bodyX P a_gosem_cut_init (bodyOf Tryz.f2) Tryz.f2.results.toList [] H K = c_gosem_cut_init H K := by kernel_rfl

theorem ok_gosem_cut_init : okFn P a_gosem_cut_init Tryz.f2 0 = true := by kernel_rfl
theorem k_gosem_cut_init {H : Heap} {K : Value → Heap → Prop} (h : c_gosem_cut_init H K) : CallH P f_gosem_cut_init [] H K :=
  call_of_bodyX Tryz.func2 ok_gosem_cut_init ((e_gosem_cut_init H K).mpr h)

/-- palio/paliolaw11.ZsetWays -/
def c_paliolaw11_ZsetWays (a0_limits : Value) (a1_seed : Value) (a2_l : Value) (H : Heap) (K : Value → Heap → Prop) : Prop :=
  BoxP (some 2) T_api_Limits a0_limits H fun limits_1 H2 =>
  CallH P f_paliolaw11_shown [] H2 fun t_3 H4 =>
  FieldAddrP 0 limits_1 fun t_5 =>
  LoadP none H4 t_5 fun t_6 =>
  BinP .lss t_6 (.int .i64 0) fun t_7 =>
  SplitP t_7
    (K t_3 H4)
    (FieldAddrP 0 limits_1 fun t_8 =>
    LoadP none H4 t_8 fun t_9 =>
    BinP .gtr t_9 (.int .i64 200) fun t_10 =>
    SplitP t_10
      (K t_3 H4)
      (FieldAddrP 1 limits_1 fun t_11 =>
      LoadP none H4 t_11 fun t_12 =>
      BinP .lss t_12 (.int .i64 0) fun t_13 =>
      SplitP t_13
        (K t_3 H4)
        (FieldAddrP 1 limits_1 fun t_14 =>
        LoadP none H4 t_14 fun t_15 =>
        BinP .gtr t_15 (.int .i64 64) fun t_16 =>
        SplitP t_16
          (K t_3 H4)
          (LoadP (some 2) H4 limits_1 fun t_17 =>
          CallH P f_zset_New [t_17, a1_seed] H4 fun t_18 H19 =>
          LoopP (S := (Value × Value) × List Deferred) (G := Tup 86)
            (fun s_20 g_20 self_20 H20 =>
            LenP a2_l fun t_21 =>
            BinP .lss s_20.1.2 t_21 fun t_22 =>
            SplitP t_22
              (BinP .lss s_20.1.2 (.int .i64 100) fun t_23 =>
              SplitP t_23
                (IdxSliceP 6 a2_l s_20.1.2 fun t_24 =>
                LoadP (some 6) H20 t_24 fun t_25 =>
                AllocP #[(.int .i64 0), (.string ⟨#[]⟩), (.int .i64 0), (.int .i64 0), (.int .i64 0), (.int .i64 0)] T_paliolaw11_Act H20 fun x_26 H27 =>
                StoreP (some 6) H27 x_26 t_25 fun H28 =>
                FieldAddrP 1 x_26 fun t_29 =>
                LoadP none H28 t_29 fun t_30 =>
                CallH P f_paliolaw11_Name [t_30] H28 fun t_31 H32 =>
                JoinP (S := (Value) × List Deferred) (G := Tup 22)
                  (fun s_33 g_33 H33 =>
                  CallH P f_zset_Set_Encoding [t_18] H33 fun t_34 H35 =>
                  JoinP (S := (Value) × List Deferred) (G := Tup 15)
                    (fun s_36 g_36 H36 =>
                    BinP .eql s_20.1.1 (.string ⟨#[115, 107, 105, 112, 108, 105, 115, 116]⟩) fun t_37 =>
                    SplitP t_37
                      (BinP .neq t_34 s_20.1.1 fun t_38 =>
                      SplitP t_38
                        (RetP s_36.2 H36 fun H39 =>
                        K (.bool false) H39)
                        (BinP .neq s_20.1.1 t_34 fun t_40 =>
                        SplitP t_40
                          (UnP .not s_36.1 fun t_41 =>
                          SplitP t_41
                            (RetP s_36.2 H36 fun H42 =>
                            K (.bool false) H42)
                            (SplitP s_36.1
                              (BinP .neq t_34 (.string ⟨#[115, 107, 105, 112, 108, 105, 115, 116]⟩) fun t_43 =>
                              SplitP t_43
                                (RetP s_36.2 H36 fun H44 =>
                                K (.bool false) H44)
                                (BinP .add s_20.1.2 (.int .i64 1) fun t_45 =>
                                self_20 ((t_34, t_45), s_36.2) H36))
                              (BinP .add s_20.1.2 (.int .i64 1) fun t_46 =>
                              self_20 ((t_34, t_46), s_36.2) H36)))
                          (SplitP s_36.1
                            (BinP .neq t_34 (.string ⟨#[115, 107, 105, 112, 108, 105, 115, 116]⟩) fun t_47 =>
                            SplitP t_47
                              (RetP s_36.2 H36 fun H48 =>
                              K (.bool false) H48)
                              (BinP .add s_20.1.2 (.int .i64 1) fun t_49 =>
                              self_20 ((t_34, t_49), s_36.2) H36))
                            (BinP .add s_20.1.2 (.int .i64 1) fun t_50 =>
                            self_20 ((t_34, t_50), s_36.2) H36))))
                      (BinP .neq s_20.1.1 t_34 fun t_51 =>
                      SplitP t_51
                        (UnP .not s_36.1 fun t_52 =>
                        SplitP t_52
                          (RetP s_36.2 H36 fun H53 =>
                          K (.bool false) H53)
                          (SplitP s_36.1
                            (BinP .neq t_34 (.string ⟨#[115, 107, 105, 112, 108, 105, 115, 116]⟩) fun t_54 =>
                            SplitP t_54
                              (RetP s_36.2 H36 fun H55 =>
                              K (.bool false) H55)
                              (BinP .add s_20.1.2 (.int .i64 1) fun t_56 =>
                              self_20 ((t_34, t_56), s_36.2) H36))
                            (BinP .add s_20.1.2 (.int .i64 1) fun t_57 =>
                            self_20 ((t_34, t_57), s_36.2) H36)))
                        (SplitP s_36.1
                          (BinP .neq t_34 (.string ⟨#[115, 107, 105, 112, 108, 105, 115, 116]⟩) fun t_58 =>
                          SplitP t_58
                            (RetP s_36.2 H36 fun H59 =>
                            K (.bool false) H59)
                            (BinP .add s_20.1.2 (.int .i64 1) fun t_60 =>
                            self_20 ((t_34, t_60), s_36.2) H36))
                          (BinP .add s_20.1.2 (.int .i64 1) fun t_61 =>
                          self_20 ((t_34, t_61), s_36.2) H36))))
                    (fun J_36 =>
                    SplitP s_33.1
                      (FieldAddrP 0 limits_1 fun t_62 =>
                      LoadP none H35 t_62 fun t_63 =>
                      CallH P f_zset_Set_Len [t_18] H35 fun t_64 H65 =>
                      LoadIs none H65 t_62 t_63 ∧
                      BinP .gtr t_64 t_63 fun t_66 =>
                      SplitP t_66
                        (J_36 ((.bool true), s_33.2) H65)
                        (LenStrP t_31 fun t_67 =>
                        FieldAddrP 1 limits_1 fun t_68 =>
                        LoadP none H65 t_68 fun t_69 =>
                        BinP .gtr t_67 t_69 fun t_70 =>
                        J_36 (t_70, s_33.2) H65))
                      (J_36 ((.bool false), s_33.2) H35)))
                  (fun J_33 =>
                  FieldAddrP 0 x_26 fun t_71 =>
                  LoadP none H32 t_71 fun t_72 =>
                  ConvIntP .u64 t_72 fun t_73 =>
                  BinP .rem t_73 (.int .u64 8) fun t_74 =>
                  BinP .lss t_74 (.int .u64 5) fun t_75 =>
                  SplitP t_75
                    (FieldAddrP 2 x_26 fun t_76 =>
                    LoadP none H32 t_76 fun t_77 =>
                    FieldAddrP 3 x_26 fun t_78 =>
                    LoadP none H32 t_78 fun t_79 =>
                    CallH P f_zset_Set_Add [t_18, t_31, t_77, t_79] H32 fun t_80 H81 =>
                    ExtractP t_80 0 fun t_82 =>
                    ExtractP t_80 1 fun t_83 =>
                    BinP .eql t_83 (.int .i64 0) fun t_84 =>
                    J_33 (t_84, s_20.2) H81)
                    (CallH P f_zset_Set_Remove [t_18, t_31] H32 fun t_85 H86 =>
                    J_33 ((.bool false), s_20.2) H86)))
                (RetP s_20.2 H20 fun H87 =>
                K t_3 H87))
              (RetP s_20.2 H20 fun H88 =>
              K t_3 H88))
            (((.string ⟨#[108, 105, 115, 116, 112, 97, 99, 107]⟩), (.int .i64 0)), []) H19))))

def a_paliolaw11_ZsetWays : Ann := [(14, [9, 10], [6, 11, 12, 13, 14, 15, 16, 17, 41, 42, 43, 44, 45, 46, 47, 48, 49, 50, 51, 52, 53, 54, 55, 56, 57, 58, 59, 60, 61, 62, 63, 64, 65, 66, 67, 68, 69, 70, 71, 72, 73, 74, 75, 76, 77, 78, 79, 80, 81, 82, 83, 84, 85, 86, 87, 88, 89, 90, 91, 92, 93, 94, 95, 96, 97, 98, 99, 100, 101, 102, 103, 104, 105, 106, 107, 108, 109, 110, 111, 112, 113, 114, 115, 116, 117, 118]), (33, [13], [14, 15, 58, 59, 60, 61, 62, 63, 64, 65, 66, 67, 68, 69, 70, 71, 72, 73, 74, 75, 76, 77]), (37, [17], [80, 81, 82, 83, 84, 85, 86, 87, 88, 89, 90, 91, 92, 93, 94])]

theorem e_paliolaw11_ZsetWays (a0_limits : Value) (a1_seed : Value) (a2_l : Value) (H : Heap) (K : Value → Heap → Prop) : bodyX P a_paliolaw11_ZsetWays (bodyOf Tryz.f3) Tryz.f3.results.toList [a0_limits, a1_seed, a2_l] H K = c_paliolaw11_ZsetWays a0_limits a1_seed a2_l H K := by kernel_rfl

theorem ok_paliolaw11_ZsetWays : okFn P a_paliolaw11_ZsetWays Tryz.f3 3 = true := by kernel_rfl
theorem k_paliolaw11_ZsetWays {a0_limits a1_seed a2_l : Value} {H : Heap} {K : Value → Heap → Prop} (h : c_paliolaw11_ZsetWays a0_limits a1_seed a2_l H K) : CallH P f_paliolaw11_ZsetWays [a0_limits, a1_seed, a2_l] H K :=
  call_of_bodyX Tryz.func3 ok_paliolaw11_ZsetWays ((e_paliolaw11_ZsetWays a0_limits a1_seed a2_l H K).mpr h)

/-- palio/paliolaw11.ZsetDoes -/
def c_paliolaw11_ZsetDoes (a0_limits : Value) (a1_seed : Value) (a2_l : Value) (H : Heap) (K : Value → Heap → Prop) : Prop :=
  BoxP (some 2) T_api_Limits a0_limits H fun limits_1 H2 =>
  CallH P f_paliolaw11_shown [] H2 fun t_3 H4 =>
  LoadP (some 2) H4 limits_1 fun t_5 =>
  CallH P f_zset_New [t_5, a1_seed] H4 fun t_6 H7 =>
  LoadP (some 2) H7 limits_1 fun t_8 =>
  CallH P f_palioref11_New [t_8] H7 fun t_9 H10 =>
  LoopP (S := (Value) × List Deferred) (G := Tup 145)
    (fun s_11 g_11 self_11 H11 =>
    LenP a2_l fun t_12 =>
    BinP .lss s_11.1 t_12 fun t_13 =>
    SplitP t_13
      (BinP .lss s_11.1 (.int .i64 100) fun t_14 =>
      SplitP t_14
        (IdxSliceP 6 a2_l s_11.1 fun t_15 =>
        LoadP (some 6) H11 t_15 fun t_16 =>
        AllocP #[(.int .i64 0), (.string ⟨#[]⟩), (.int .i64 0), (.int .i64 0), (.int .i64 0), (.int .i64 0)] T_paliolaw11_Act H11 fun x_17 H18 =>
        StoreP (some 6) H18 x_17 t_16 fun H19 =>
        LoadP (some 6) H19 x_17 fun t_20 =>
        CallH P f_paliolaw11_did [t_6, t_9, t_20] H19 fun t_21 H22 =>
        UnP .not t_21 fun t_23 =>
        SplitP t_23
          (RetP s_11.2 H22 fun H24 =>
          K (.bool false) H24)
          (NilP t_9 fun t_25 =>
          FieldAddrP 0 t_25 fun t_26 =>
          LoadP none H22 t_26 fun t_27 =>
          LenP t_27 fun t_28 =>
          CallH P f_zset_Set_Len [t_6] H22 fun t_29 H30 =>
          LoadIs none H30 t_26 t_27 ∧
          BinP .neq t_29 t_28 fun t_31 =>
          SplitP t_31
            (RetP s_11.2 H30 fun H32 =>
            K (.bool false) H32)
            (NilP t_9 fun t_33 =>
            FieldAddrP 0 t_33 fun t_34 =>
            LoadP none H30 t_34 fun t_35 =>
            CallH P f_zset_Set_Len [t_6] H30 fun t_36 H37 =>
            LoadIs none H37 t_34 t_35 ∧
            CallH P f_zset_Set_Range [t_6, (.int .i64 0), t_36] H37 fun t_38 H39 =>
            LoadIs none H39 t_34 t_35 ∧
            CallH P f_palioref05_Same [t_38, t_35] H39 fun t_40 H41 =>
            UnP .not t_40 fun t_42 =>
            SplitP t_42
              (RetP s_11.2 H41 fun H43 =>
              K (.bool false) H43)
              (FieldAddrP 4 x_17 fun t_44 =>
              LoadP none H41 t_44 fun t_45 =>
              FieldAddrP 5 x_17 fun t_46 =>
              LoadP none H41 t_46 fun t_47 =>
              FieldAddrP 4 x_17 fun t_48 =>
              LoadP none H41 t_48 fun t_49 =>
              FieldAddrP 5 x_17 fun t_50 =>
              LoadP none H41 t_50 fun t_51 =>
              CallH P f_zset_Set_Range [t_6, t_45, t_47] H41 fun t_52 H53 =>
              LoadIs none H53 t_50 t_51 ∧
              LoadIs none H53 t_48 t_49 ∧
              CallH P f_palioref11_Set_Range [t_9, t_49, t_51] H53 fun t_54 H55 =>
              CallH P f_palioref05_Same [t_52, t_54] H55 fun t_56 H57 =>
              UnP .not t_56 fun t_58 =>
              SplitP t_58
                (RetP s_11.2 H57 fun H59 =>
                K (.bool false) H59)
                (CallH P f_zset_Set_Encoding [t_6] H57 fun t_60 H61 =>
                CallH P f_palioref11_Set_Encoding [t_9] H61 fun t_62 H63 =>
                BinP .neq t_60 t_62 fun t_64 =>
                SplitP t_64
                  (RetP s_11.2 H63 fun H65 =>
                  K (.bool false) H65)
                  (CallH P f_zset_Set_Bytes [t_6] H63 fun t_66 H67 =>
                  CallH P f_palioref11_Set_Bytes [t_9] H67 fun t_68 H69 =>
                  BinP .neq t_66 t_68 fun t_70 =>
                  SplitP t_70
                    (RetP s_11.2 H69 fun H71 =>
                    K (.bool false) H71)
                    (NilP t_9 fun t_72 =>
                    FieldAddrP 0 t_72 fun t_73 =>
                    LoadP none H69 t_73 fun t_74 =>
                    FieldAddrP 1 x_17 fun t_75 =>
                    LoadP none H69 t_75 fun t_76 =>
                    CallH P f_paliolaw11_Name [t_76] H69 fun t_77 H78 =>
                    LoadIs none H78 t_73 t_74 ∧
                    CallH P f_palioref05_Find [t_74, t_77] H78 fun t_79 H80 =>
                    FieldAddrP 1 x_17 fun t_81 =>
                    LoadP none H80 t_81 fun t_82 =>
                    CallH P f_paliolaw11_Name [t_82] H80 fun t_83 H84 =>
                    CallH P f_zset_Set_Rank [t_6, t_83] H84 fun t_85 H86 =>
                    ExtractP t_85 0 fun t_87 =>
                    ExtractP t_85 1 fun t_88 =>
                    FieldAddrP 1 x_17 fun t_89 =>
                    LoadP none H86 t_89 fun t_90 =>
                    CallH P f_paliolaw11_Name [t_90] H86 fun t_91 H92 =>
                    CallH P f_zset_Set_Score [t_6, t_91] H92 fun t_93 H94 =>
                    ExtractP t_93 0 fun t_95 =>
                    ExtractP t_93 1 fun t_96 =>
                    BinP .geq t_79 (.int .i64 0) fun t_97 =>
                    EqP P T_bool false H94 t_88 t_97 fun b_98 =>
                    SplitP (.bool (!b_98))
                      (RetP s_11.2 H94 fun H99 =>
                      K (.bool false) H99)
                      (EqP P T_bool false H94 t_96 t_88 fun b_100 =>
                      SplitP (.bool (!b_100))
                        (RetP s_11.2 H94 fun H101 =>
                        K (.bool false) H101)
                        (SplitP t_88
                          (BinP .neq t_87 t_79 fun t_102 =>
                          SplitP t_102
                            (RetP s_11.2 H94 fun H103 =>
                            K (.bool false) H103)
                            (NilP t_9 fun t_104 =>
                            FieldAddrP 0 t_104 fun t_105 =>
                            LoadP none H94 t_105 fun t_106 =>
                            IdxSliceP 2 t_106 t_79 fun t_107 =>
                            FieldAddrP 1 t_107 fun t_108 =>
                            LoadP none H94 t_108 fun t_109 =>
                            BinP .neq t_95 t_109 fun t_110 =>
                            SplitP t_110
                              (RetP s_11.2 H94 fun H111 =>
                              K (.bool false) H111)
                              (UnP .not t_88 fun t_112 =>
                              SplitP t_112
                                (BinP .neq t_87 (.int .i64 0) fun t_113 =>
                                SplitP t_113
                                  (RetP s_11.2 H94 fun H114 =>
                                  K (.bool false) H114)
                                  (BinP .neq t_95 (.int .i64 0) fun t_115 =>
                                  SplitP t_115
                                    (RetP s_11.2 H94 fun H116 =>
                                    K (.bool false) H116)
                                    (BinP .add s_11.1 (.int .i64 1) fun t_117 =>
                                    self_11 (t_117, s_11.2) H94)))
                                (BinP .add s_11.1 (.int .i64 1) fun t_118 =>
                                self_11 (t_118, s_11.2) H94))))
                          (UnP .not t_88 fun t_119 =>
                          SplitP t_119
                            (BinP .neq t_87 (.int .i64 0) fun t_120 =>
                            SplitP t_120
                              (RetP s_11.2 H94 fun H121 =>
                              K (.bool false) H121)
                              (BinP .neq t_95 (.int .i64 0) fun t_122 =>
                              SplitP t_122
                                (RetP s_11.2 H94 fun H123 =>
                                K (.bool false) H123)
                                (BinP .add s_11.1 (.int .i64 1) fun t_124 =>
                                self_11 (t_124, s_11.2) H94)))
                            (BinP .add s_11.1 (.int .i64 1) fun t_125 =>
                            self_11 (t_125, s_11.2) H94)))))))))))
        (RetP s_11.2 H11 fun H126 =>
        K t_3 H126))
      (RetP s_11.2 H11 fun H127 =>
      K t_3 H127))
    ((.int .i64 0), []) H10

def a_paliolaw11_ZsetDoes : Ann := [(10, [10], [6, 11, 12, 13, 14, 15, 16, 17, 24, 25, 26, 27, 28, 29, 30, 31, 32, 33, 34, 35, 36, 37, 38, 39, 40, 41, 42, 43, 44, 45, 46, 47, 48, 49, 50, 51, 52, 53, 54, 55, 56, 57, 58, 59, 60, 61, 62, 63, 64, 65, 66, 67, 68, 69, 70, 71, 72, 73, 74, 75, 76, 77, 78, 79, 80, 81, 82, 83, 84, 85, 86, 87, 88, 89, 90, 91, 92, 93, 94, 95, 96, 97, 98, 99, 100, 101, 102, 103, 104, 105, 106, 107, 108, 109, 110, 111, 112, 113, 114, 115, 116, 117, 118, 119, 120, 121, 122, 123, 124, 125, 126, 127, 128, 129, 130, 131, 132, 133, 134, 135, 136, 137, 138, 139, 140, 141, 142, 143, 144, 145, 146, 147, 148, 149, 150, 151, 152, 153, 154, 155, 156, 157, 158, 159, 160])]

theorem e_paliolaw11_ZsetDoes (a0_limits : Value) (a1_seed : Value) (a2_l : Value) (H : Heap) (K : Value → Heap → Prop) : bodyX P a_paliolaw11_ZsetDoes (bodyOf Tryz.f4) Tryz.f4.results.toList [a0_limits, a1_seed, a2_l] H K = c_paliolaw11_ZsetDoes a0_limits a1_seed a2_l H K := by kernel_rfl

theorem ok_paliolaw11_ZsetDoes : okFn P a_paliolaw11_ZsetDoes Tryz.f4 3 = true := by kernel_rfl
theorem k_paliolaw11_ZsetDoes {a0_limits a1_seed a2_l : Value} {H : Heap} {K : Value → Heap → Prop} (h : c_paliolaw11_ZsetDoes a0_limits a1_seed a2_l H K) : CallH P f_paliolaw11_ZsetDoes [a0_limits, a1_seed, a2_l] H K :=
  call_of_bodyX Tryz.func4 ok_paliolaw11_ZsetDoes ((e_paliolaw11_ZsetDoes a0_limits a1_seed a2_l H K).mpr h)

/-- palio/paliolaw11.ZsetForms -/
def c_paliolaw11_ZsetForms (a0_a : Value) (a1_b : Value) (a2_seed : Value) (a3_other : Value) (a4_l : Value) (a5_levels : Value) (H : Heap) (K : Value → Heap → Prop) : Prop :=
  BoxP (some 2) T_api_Limits a0_a H fun a_1 H2 =>
  BoxP (some 2) T_api_Limits a1_b H2 fun b_3 H4 =>
  CallH P f_paliolaw11_shown [] H4 fun t_5 H6 =>
  LoadP (some 2) H6 a_1 fun t_7 =>
  CallH P f_zset_New [t_7, a2_seed] H6 fun t_8 H9 =>
  LoadP (some 2) H9 b_3 fun t_10 =>
  CallH P f_zset_New [t_10, a3_other] H9 fun t_11 H12 =>
  JoinP (S := (Unit) × List Deferred) (G := Tup 127)
    (fun s_13 g_13 H13 =>
    SplitP t_5
      (CallH P f_zset_Set_Len [t_8] H13 fun t_14 H15 =>
      CallH P f_zset_Set_Range [t_8, (.int .i64 0), t_14] H15 fun t_16 H17 =>
      CallH P f_zset_Set_Len [t_11] H17 fun t_18 H19 =>
      CallH P f_zset_Set_Range [t_11, (.int .i64 0), t_18] H19 fun t_20 H21 =>
      CallH P f_palioref05_Same [t_16, t_20] H21 fun t_22 H23 =>
      RetP s_13.2 H23 fun H24 =>
      K t_22 H24)
      (RetP s_13.2 H13 fun H25 =>
      K (.bool false) H25))
    (fun J_13 =>
    LoopP (S := (Value) × List Deferred) (G := Tup 126)
      (fun s_26 g_26 self_26 H26 =>
      LenP a4_l fun t_27 =>
      BinP .lss s_26.1 t_27 fun t_28 =>
      SplitP t_28
        (BinP .lss s_26.1 (.int .i64 100) fun t_29 =>
        SplitP t_29
          (IdxSliceP 6 a4_l s_26.1 fun t_30 =>
          LoadP (some 6) H26 t_30 fun t_31 =>
          AllocP #[(.int .i64 0), (.string ⟨#[]⟩), (.int .i64 0), (.int .i64 0), (.int .i64 0), (.int .i64 0)] T_paliolaw11_Act H26 fun x_32 H33 =>
          StoreP (some 6) H33 x_32 t_31 fun H34 =>
          JoinP (S := (Value) × List Deferred) (G := Tup 10)
            (fun s_35 g_35 H35 =>
            FieldAddrP 1 x_32 fun t_36 =>
            LoadP none H35 t_36 fun t_37 =>
            CallH P f_paliolaw11_Name [t_37] H35 fun t_38 H39 =>
            FieldAddrP 0 x_32 fun t_40 =>
            LoadP none H39 t_40 fun t_41 =>
            ConvIntP .u64 t_41 fun t_42 =>
            BinP .rem t_42 (.int .u64 8) fun t_43 =>
            JoinP (S := (Value) × List Deferred) (G := Tup 5)
              (fun s_44 g_44 H44 =>
              SplitP s_44.1
                (FieldAddrP 2 x_32 fun t_45 =>
                LoadP none H44 t_45 fun t_46 =>
                CallH P f_zset_Set_Add [t_8, t_38, t_46, (.int .i64 1)] H44 fun t_47 H48 =>
                ExtractP t_47 0 fun t_49 =>
                ExtractP t_47 1 fun t_50 =>
                FieldAddrP 2 x_32 fun t_51 =>
                LoadP none H48 t_51 fun t_52 =>
                CallH P f_zset_Set_Add [t_11, t_38, t_52, s_35.1] H48 fun t_53 H54 =>
                ExtractP t_53 0 fun t_55 =>
                ExtractP t_53 1 fun t_56 =>
                EqP P T_bool false H54 t_49 t_55 fun b_57 =>
                SplitP (.bool (!b_57))
                  (RetP s_44.2 H54 fun H58 =>
                  K (.bool false) H58)
                  (BinP .neq t_50 t_56 fun t_59 =>
                  SplitP t_59
                    (RetP s_44.2 H54 fun H60 =>
                    K (.bool false) H60)
                    (CallH P f_zset_Set_Rank [t_8, t_38] H54 fun t_61 H62 =>
                    ExtractP t_61 0 fun t_63 =>
                    ExtractP t_61 1 fun t_64 =>
                    CallH P f_zset_Set_Rank [t_11, t_38] H62 fun t_65 H66 =>
                    ExtractP t_65 0 fun t_67 =>
                    ExtractP t_65 1 fun t_68 =>
                    BinP .neq t_63 t_67 fun t_69 =>
                    SplitP t_69
                      (RetP s_44.2 H66 fun H70 =>
                      K (.bool false) H70)
                      (EqP P T_bool false H66 t_64 t_68 fun b_71 =>
                      SplitP (.bool (!b_71))
                        (RetP s_44.2 H66 fun H72 =>
                        K (.bool false) H72)
                        (CallH P f_zset_Set_Len [t_8] H66 fun t_73 H74 =>
                        CallH P f_zset_Set_Len [t_11] H74 fun t_75 H76 =>
                        BinP .neq t_73 t_75 fun t_77 =>
                        SplitP t_77
                          (RetP s_44.2 H76 fun H78 =>
                          K (.bool false) H78)
                          (BinP .add s_26.1 (.int .i64 1) fun t_79 =>
                          self_26 (t_79, s_44.2) H76))))))
                (JoinP (S := (Value) × List Deferred) (G := Tup 2)
                  (fun s_80 g_80 H80 =>
                  SplitP s_80.1
                    (CallH P f_zset_Set_Remove [t_8, t_38] H80 fun t_81 H82 =>
                    CallH P f_zset_Set_Remove [t_11, t_38] H82 fun t_83 H84 =>
                    EqP P T_bool false H84 t_81 t_83 fun b_85 =>
                    SplitP (.bool (!b_85))
                      (RetP s_80.2 H84 fun H86 =>
                      K (.bool false) H86)
                      (CallH P f_zset_Set_Rank [t_8, t_38] H84 fun t_87 H88 =>
                      ExtractP t_87 0 fun t_89 =>
                      ExtractP t_87 1 fun t_90 =>
                      CallH P f_zset_Set_Rank [t_11, t_38] H88 fun t_91 H92 =>
                      ExtractP t_91 0 fun t_93 =>
                      ExtractP t_91 1 fun t_94 =>
                      BinP .neq t_89 t_93 fun t_95 =>
                      SplitP t_95
                        (RetP s_80.2 H92 fun H96 =>
                        K (.bool false) H96)
                        (EqP P T_bool false H92 t_90 t_94 fun b_97 =>
                        SplitP (.bool (!b_97))
                          (RetP s_80.2 H92 fun H98 =>
                          K (.bool false) H98)
                          (CallH P f_zset_Set_Len [t_8] H92 fun t_99 H100 =>
                          CallH P f_zset_Set_Len [t_11] H100 fun t_101 H102 =>
                          BinP .neq t_99 t_101 fun t_103 =>
                          SplitP t_103
                            (RetP s_80.2 H102 fun H104 =>
                            K (.bool false) H104)
                            (BinP .add s_26.1 (.int .i64 1) fun t_105 =>
                            self_26 (t_105, s_80.2) H102)))))
                    (BinP .eql t_43 (.int .u64 7) fun t_106 =>
                    SplitP t_106
                      (FieldAddrP 4 x_32 fun t_107 =>
                      LoadP none H80 t_107 fun t_108 =>
                      FieldAddrP 5 x_32 fun t_109 =>
                      LoadP none H80 t_109 fun t_110 =>
                      FieldAddrP 4 x_32 fun t_111 =>
                      LoadP none H80 t_111 fun t_112 =>
                      FieldAddrP 5 x_32 fun t_113 =>
                      LoadP none H80 t_113 fun t_114 =>
                      CallH P f_zset_Set_Cut [t_8, t_108, t_110] H80 fun t_115 H116 =>
                      LoadIs none H116 t_113 t_114 ∧
                      LoadIs none H116 t_111 t_112 ∧
                      CallH P f_zset_Set_Cut [t_11, t_112, t_114] H116 fun t_117 H118 =>
                      BinP .neq t_115 t_117 fun t_119 =>
                      SplitP t_119
                        (RetP s_80.2 H118 fun H120 =>
                        K (.bool false) H120)
                        (CallH P f_zset_Set_Rank [t_8, t_38] H118 fun t_121 H122 =>
                        ExtractP t_121 0 fun t_123 =>
                        ExtractP t_121 1 fun t_124 =>
                        CallH P f_zset_Set_Rank [t_11, t_38] H122 fun t_125 H126 =>
                        ExtractP t_125 0 fun t_127 =>
                        ExtractP t_125 1 fun t_128 =>
                        BinP .neq t_123 t_127 fun t_129 =>
                        SplitP t_129
                          (RetP s_80.2 H126 fun H130 =>
                          K (.bool false) H130)
                          (EqP P T_bool false H126 t_124 t_128 fun b_131 =>
                          SplitP (.bool (!b_131))
                            (RetP s_80.2 H126 fun H132 =>
                            K (.bool false) H132)
                            (CallH P f_zset_Set_Len [t_8] H126 fun t_133 H134 =>
                            CallH P f_zset_Set_Len [t_11] H134 fun t_135 H136 =>
                            BinP .neq t_133 t_135 fun t_137 =>
                            SplitP t_137
                              (RetP s_80.2 H136 fun H138 =>
                              K (.bool false) H138)
                              (BinP .add s_26.1 (.int .i64 1) fun t_139 =>
                              self_26 (t_139, s_80.2) H136)))))
                      (CallH P f_zset_Set_Rank [t_8, t_38] H80 fun t_140 H141 =>
                      ExtractP t_140 0 fun t_142 =>
                      ExtractP t_140 1 fun t_143 =>
                      CallH P f_zset_Set_Rank [t_11, t_38] H141 fun t_144 H145 =>
                      ExtractP t_144 0 fun t_146 =>
                      ExtractP t_144 1 fun t_147 =>
                      BinP .neq t_142 t_146 fun t_148 =>
                      SplitP t_148
                        (RetP s_80.2 H145 fun H149 =>
                        K (.bool false) H149)
                        (EqP P T_bool false H145 t_143 t_147 fun b_150 =>
                        SplitP (.bool (!b_150))
                          (RetP s_80.2 H145 fun H151 =>
                          K (.bool false) H151)
                          (CallH P f_zset_Set_Len [t_8] H145 fun t_152 H153 =>
                          CallH P f_zset_Set_Len [t_11] H153 fun t_154 H155 =>
                          BinP .neq t_152 t_154 fun t_156 =>
                          SplitP t_156
                            (RetP s_80.2 H155 fun H157 =>
                            K (.bool false) H157)
                            (BinP .add s_26.1 (.int .i64 1) fun t_158 =>
                            self_26 (t_158, s_80.2) H155))))))
                  (fun J_80 =>
                  BinP .eql t_43 (.int .u64 5) fun t_159 =>
                  SplitP t_159
                    (J_80 (t_159, s_44.2) H44)
                    (BinP .eql t_43 (.int .u64 6) fun t_160 =>
                    J_80 (t_160, s_44.2) H44))))
              (fun J_44 =>
              BinP .eql t_43 (.int .u64 0) fun t_161 =>
              SplitP t_161
                (J_44 (t_161, s_35.2) H39)
                (BinP .eql t_43 (.int .u64 1) fun t_162 =>
                SplitP t_162
                  (J_44 (t_162, s_35.2) H39)
                  (BinP .eql t_43 (.int .u64 2) fun t_163 =>
                  SplitP t_163
                    (J_44 (t_163, s_35.2) H39)
                    (BinP .eql t_43 (.int .u64 3) fun t_164 =>
                    SplitP t_164
                      (J_44 (t_164, s_35.2) H39)
                      (BinP .eql t_43 (.int .u64 4) fun t_165 =>
                      J_44 (t_165, s_35.2) H39))))))
            (fun J_35 =>
            LenP a5_levels fun t_166 =>
            BinP .lss s_26.1 t_166 fun t_167 =>
            SplitP t_167
              (IdxSliceP 1 a5_levels s_26.1 fun t_168 =>
              LoadP none H34 t_168 fun t_169 =>
              BinP .and t_169 (.int .i64 31) fun t_170 =>
              BinP .add (.int .i64 1) t_170 fun t_171 =>
              J_35 (t_171, s_26.2) H34)
              (J_35 ((.int .i64 1), s_26.2) H34)))
          (J_13 ((), s_26.2) H26))
        (J_13 ((), s_26.2) H26))
      ((.int .i64 0), []) H12)

def a_paliolaw11_ZsetForms : Ann := [(10, [16], [12, 17, 18, 19, 20, 21, 22, 23, 24, 25, 26, 27, 35, 36, 37, 38, 39, 40, 41, 42, 43, 44, 45, 46, 47, 48, 49, 50, 51, 52, 53, 54, 55, 56, 57, 58, 59, 60, 61, 62, 63, 64, 65, 66, 67, 68, 69, 70, 71, 72, 73, 74, 75, 76, 77, 78, 79, 80, 81, 82, 83, 84, 85, 86, 87, 88, 89, 90, 91, 92, 93, 94, 95, 96, 97, 98, 99, 100, 101, 102, 103, 104, 105, 106, 107, 108, 109, 110, 111, 112, 113, 114, 115, 116, 117, 118, 119, 120, 121, 122, 123, 124, 125, 126, 127, 128, 129, 130, 131, 132, 133, 134, 135, 136, 137, 138, 139, 140, 141, 142, 143, 144, 145, 146, 147, 148]), (23, [18], [49, 50, 51, 52, 53, 54, 55, 56, 57, 58]), (37, [66], [67, 68, 69, 70, 71]), (49, [97], [98, 99]), (67, [], [12, 16, 17, 18, 19, 20, 21, 22, 23, 24, 25, 26, 27, 35, 36, 37, 38, 39, 40, 41, 42, 43, 44, 45, 46, 47, 48, 49, 50, 51, 52, 53, 54, 55, 56, 57, 58, 59, 60, 61, 62, 63, 64, 65, 66, 67, 68, 69, 70, 71, 72, 73, 74, 75, 76, 77, 78, 79, 80, 81, 82, 83, 84, 85, 86, 87, 88, 89, 90, 91, 92, 93, 94, 95, 96, 97, 98, 99, 100, 101, 102, 103, 104, 105, 106, 107, 108, 109, 110, 111, 112, 113, 114, 115, 116, 117, 118, 119, 120, 121, 122, 123, 124, 125, 126, 127, 128, 129, 130, 131, 132, 133, 134, 135, 136, 137, 138, 139, 140, 141, 142, 143, 144, 145, 146, 147, 148])]

theorem e_paliolaw11_ZsetForms (a0_a : Value) (a1_b : Value) (a2_seed : Value) (a3_other : Value) (a4_l : Value) (a5_levels : Value) (H : Heap) (K : Value → Heap → Prop) : bodyX P a_paliolaw11_ZsetForms (bodyOf Tryz.f5) Tryz.f5.results.toList [a0_a, a1_b, a2_seed, a3_other, a4_l, a5_levels] H K = c_paliolaw11_ZsetForms a0_a a1_b a2_seed a3_other a4_l a5_levels H K := by kernel_rfl

theorem ok_paliolaw11_ZsetForms : okFn P a_paliolaw11_ZsetForms Tryz.f5 6 = true := by kernel_rfl
theorem k_paliolaw11_ZsetForms {a0_a a1_b a2_seed a3_other a4_l a5_levels : Value} {H : Heap} {K : Value → Heap → Prop} (h : c_paliolaw11_ZsetForms a0_a a1_b a2_seed a3_other a4_l a5_levels H K) : CallH P f_paliolaw11_ZsetForms [a0_a, a1_b, a2_seed, a3_other, a4_l, a5_levels] H K :=
  call_of_bodyX Tryz.func5 ok_paliolaw11_ZsetForms ((e_paliolaw11_ZsetForms a0_a a1_b a2_seed a3_other a4_l a5_levels H K).mpr h)

/-- palio/paliolaw11.ZsetTwice -/
def c_paliolaw11_ZsetTwice (a0_limits : Value) (a1_seed : Value) (a2_l : Value) (a3_member : Value) (a4_score : Value) (H : Heap) (K : Value → Heap → Prop) : Prop :=
  BoxP (some 2) T_api_Limits a0_limits H fun limits_1 H2 =>
  CallH P f_paliolaw11_shown [] H2 fun t_3 H4 =>
  LoadP (some 2) H4 limits_1 fun t_5 =>
  CallH P f_paliolaw11_made [t_5, a1_seed, a2_l] H4 fun t_6 H7 =>
  ExtractP t_6 0 fun t_8 =>
  ExtractP t_6 1 fun t_9 =>
  CallH P f_paliolaw11_Name [a3_member] H7 fun t_10 H11 =>
  CallH P f_zset_Set_Remove [t_8, t_10] H11 fun t_12 H13 =>
  CallH P f_zset_Set_Len [t_8] H13 fun t_14 H15 =>
  CallH P f_zset_Set_Range [t_8, (.int .i64 0), t_14] H15 fun t_16 H17 =>
  CallH P f_zset_Set_Add [t_8, t_10, a4_score, (.int .i64 1)] H17 fun t_18 H19 =>
  ExtractP t_18 0 fun t_20 =>
  ExtractP t_18 1 fun t_21 =>
  BinP .neq t_21 (.int .i64 0) fun t_22 =>
  SplitP t_22
    (SplitP t_3
      (BinP .eql t_21 (.int .i64 2) fun t_23 =>
      SplitP t_23
        (LenStrP t_10 fun t_24 =>
        BinP .gtr t_24 (.int .i64 64) fun t_25 =>
        SplitP t_25
          (K (.bool true) H19)
          (BinP .eql t_21 (.int .i64 51) fun t_26 =>
          SplitP t_26
            (CallH P f_zset_Set_Len [t_8] H19 fun t_27 H28 =>
            BinP .eql t_27 (.int .i64 400) fun t_29 =>
            K t_29 H28)
            (K (.bool false) H19)))
        (BinP .eql t_21 (.int .i64 51) fun t_30 =>
        SplitP t_30
          (CallH P f_zset_Set_Len [t_8] H19 fun t_31 H32 =>
          BinP .eql t_31 (.int .i64 400) fun t_33 =>
          K t_33 H32)
          (K (.bool false) H19)))
      (K (.bool false) H19))
    (CallH P f_zset_Set_Len [t_8] H19 fun t_34 H35 =>
    CallH P f_zset_Set_Range [t_8, (.int .i64 0), t_34] H35 fun t_36 H37 =>
    CallH P f_zset_Set_Add [t_8, t_10, a4_score, (.int .i64 7)] H37 fun t_38 H39 =>
    ExtractP t_38 0 fun t_40 =>
    ExtractP t_38 1 fun t_41 =>
    CallH P f_zset_Set_Len [t_8] H39 fun t_42 H43 =>
    CallH P f_zset_Set_Range [t_8, (.int .i64 0), t_42] H43 fun t_44 H45 =>
    CallH P f_zset_Set_Remove [t_8, t_10] H45 fun t_46 H47 =>
    SplitP t_3
      (SplitP t_20
        (UnP .not t_40 fun t_48 =>
        SplitP t_48
          (BinP .eql t_41 (.int .i64 0) fun t_49 =>
          SplitP t_49
            (SplitP t_46
              (CallH P f_palioref05_Same [t_36, t_44] H47 fun t_50 H51 =>
              SplitP t_50
                (CallH P f_zset_Set_Len [t_8] H51 fun t_52 H53 =>
                CallH P f_zset_Set_Range [t_8, (.int .i64 0), t_52] H53 fun t_54 H55 =>
                CallH P f_palioref05_Same [t_16, t_54] H55 fun t_56 H57 =>
                K t_56 H57)
                (K (.bool false) H51))
              (K (.bool false) H47))
            (K (.bool false) H47))
          (K (.bool false) H47))
        (K (.bool false) H47))
      (K (.bool false) H47))

def a_paliolaw11_ZsetTwice : Ann := []

theorem e_paliolaw11_ZsetTwice (a0_limits : Value) (a1_seed : Value) (a2_l : Value) (a3_member : Value) (a4_score : Value) (H : Heap) (K : Value → Heap → Prop) : bodyX P a_paliolaw11_ZsetTwice (bodyOf Tryz.f6) Tryz.f6.results.toList [a0_limits, a1_seed, a2_l, a3_member, a4_score] H K = c_paliolaw11_ZsetTwice a0_limits a1_seed a2_l a3_member a4_score H K := by kernel_rfl

theorem ok_paliolaw11_ZsetTwice : okFn P a_paliolaw11_ZsetTwice Tryz.f6 5 = true := by kernel_rfl
theorem k_paliolaw11_ZsetTwice {a0_limits a1_seed a2_l a3_member a4_score : Value} {H : Heap} {K : Value → Heap → Prop} (h : c_paliolaw11_ZsetTwice a0_limits a1_seed a2_l a3_member a4_score H K) : CallH P f_paliolaw11_ZsetTwice [a0_limits, a1_seed, a2_l, a3_member, a4_score] H K :=
  call_of_bodyX Tryz.func6 ok_paliolaw11_ZsetTwice ((e_paliolaw11_ZsetTwice a0_limits a1_seed a2_l a3_member a4_score H K).mpr h)

/-- palio/paliolaw11.ZsetFull -/
def c_paliolaw11_ZsetFull (a0_limits : Value) (a1_n : Value) (a2_member : Value) (H : Heap) (K : Value → Heap → Prop) : Prop :=
  BoxP (some 2) T_api_Limits a0_limits H fun limits_1 H2 =>
  CallH P f_paliolaw11_shown [] H2 fun t_3 H4 =>
  BinP .lss a1_n (.int .i64 390) fun t_5 =>
  SplitP t_5
    (K t_3 H4)
    (BinP .gtr a1_n (.int .i64 410) fun t_6 =>
    SplitP t_6
      (K t_3 H4)
      (LoadP (some 2) H4 limits_1 fun t_7 =>
      CallH P f_zset_New [t_7, (.int .u32 5)] H4 fun t_8 H9 =>
      LoopP (S := (Value) × List Deferred) (G := Tup 29)
        (fun s_10 g_10 self_10 H10 =>
        BinP .lss s_10.1 a1_n fun t_11 =>
        SplitP t_11
          (ConvIntP .u8 s_10.1 fun t_12 =>
          BinP .quo s_10.1 (.int .i64 256) fun t_13 =>
          ConvIntP .u8 t_13 fun t_14 =>
          BuildP (zerosN #[(.int .u8 0)] 2) [(0, none, t_12), (1, none, t_14)] fun t_15 =>
          BuildSliceP T_uint8 2 t_15 H10 fun t_16 H17 =>
          BytesStrP t_16 H17 fun t_18 =>
          BinP .and s_10.1 (.int .i64 3) fun t_19 =>
          BinP .add (.int .i64 1) t_19 fun t_20 =>
          CallH P f_zset_Set_Add [t_8, t_18, s_10.1, t_20] H17 fun t_21 H22 =>
          ExtractP t_21 0 fun t_23 =>
          ExtractP t_21 1 fun t_24 =>
          BinP .eql t_24 (.int .i64 0) fun t_25 =>
          BinP .lss s_10.1 (.int .i64 400) fun t_26 =>
          EqP P T_bool false H22 t_25 t_26 fun b_27 =>
          SplitP (.bool (!b_27))
            (RetP s_10.2 H22 fun H28 =>
            K (.bool false) H28)
            (BinP .add s_10.1 (.int .i64 1) fun t_29 =>
            self_10 (t_29, s_10.2) H22))
          (CallH P f_zset_Set_Add [t_8, (.string ⟨#[0, 0]⟩), (.int .i64 (-5)), (.int .i64 1)] H10 fun t_30 H31 =>
          ExtractP t_30 0 fun t_32 =>
          ExtractP t_30 1 fun t_33 =>
          CallH P f_zset_Set_Add [(.pointer none), a2_member, (.int .i64 1), (.int .i64 1)] H31 fun t_34 H35 =>
          ExtractP t_34 0 fun t_36 =>
          ExtractP t_34 1 fun t_37 =>
          CallH P f_zset_Set_Score [(.pointer none), a2_member] H35 fun t_38 H39 =>
          ExtractP t_38 0 fun t_40 =>
          ExtractP t_38 1 fun t_41 =>
          CallH P f_zset_Set_Rank [(.pointer none), a2_member] H39 fun t_42 H43 =>
          ExtractP t_42 0 fun t_44 =>
          ExtractP t_42 1 fun t_45 =>
          BuildP [(.int .i64 0), (.bool false), (.int .i64 0)] [] fun t_46 =>
          BuildP [(.int .i64 0), (.bool false), (.int .i64 0)] [] fun t_47 =>
          CallH P f_zset_Set_Between [(.pointer none), (.agg t_46.toArray), (.agg t_47.toArray)] H43 fun t_48 H49 =>
          ExtractP t_48 0 fun t_50 =>
          ExtractP t_48 1 fun t_51 =>
          SplitP t_3
            (UnP .not t_32 fun t_52 =>
            SplitP t_52
              (BinP .eql t_33 (.int .i64 0) fun t_53 =>
              SplitP t_53
                (CallH P f_zset_Set_Len [t_8] H49 fun t_54 H55 =>
                MinP a1_n [(.int .i64 400)] fun t_56 =>
                BinP .eql t_54 t_56 fun t_57 =>
                SplitP t_57
                  (BinP .eql t_37 (.int .i64 1) fun t_58 =>
                  SplitP t_58
                    (UnP .not t_41 fun t_59 =>
                    SplitP t_59
                      (UnP .not t_45 fun t_60 =>
                      SplitP t_60
                        (BinP .eql t_50 (.int .i64 0) fun t_61 =>
                        SplitP t_61
                          (BinP .eql t_51 (.int .i64 0) fun t_62 =>
                          SplitP t_62
                            (CallH P f_zset_Set_Len [(.pointer none)] H55 fun t_63 H64 =>
                            BinP .eql t_63 (.int .i64 0) fun t_65 =>
                            SplitP t_65
                              (CallH P f_zset_Set_Remove [(.pointer none), a2_member] H64 fun t_66 H67 =>
                              UnP .not t_66 fun t_68 =>
                              SplitP t_68
                                (CallH P f_zset_Set_Range [(.pointer none), (.int .i64 0), (.int .i64 9)] H67 fun t_69 H70 =>
                                LenP t_69 fun t_71 =>
                                BinP .eql t_71 (.int .i64 0) fun t_72 =>
                                SplitP t_72
                                  (CallH P f_zset_Set_Cut [(.pointer none), (.int .i64 0), (.int .i64 9)] H70 fun t_73 H74 =>
                                  BinP .eql t_73 (.int .i64 0) fun t_75 =>
                                  SplitP t_75
                                    (CallH P f_zset_Set_Encoding [(.pointer none)] H74 fun t_76 H77 =>
                                    BinP .eql t_76 (.string ⟨#[]⟩) fun t_78 =>
                                    SplitP t_78
                                      (CallH P f_zset_Set_Bytes [(.pointer none)] H77 fun t_79 H80 =>
                                      BinP .eql t_79 (.int .i64 0) fun t_81 =>
                                      RetP s_10.2 H80 fun H82 =>
                                      K t_81 H82)
                                      (RetP s_10.2 H77 fun H83 =>
                                      K (.bool false) H83))
                                    (RetP s_10.2 H74 fun H84 =>
                                    K (.bool false) H84))
                                  (RetP s_10.2 H70 fun H85 =>
                                  K (.bool false) H85))
                                (RetP s_10.2 H67 fun H86 =>
                                K (.bool false) H86))
                              (RetP s_10.2 H64 fun H87 =>
                              K (.bool false) H87))
                            (RetP s_10.2 H55 fun H88 =>
                            K (.bool false) H88))
                          (RetP s_10.2 H55 fun H89 =>
                          K (.bool false) H89))
                        (RetP s_10.2 H55 fun H90 =>
                        K (.bool false) H90))
                      (RetP s_10.2 H55 fun H91 =>
                      K (.bool false) H91))
                    (RetP s_10.2 H55 fun H92 =>
                    K (.bool false) H92))
                  (RetP s_10.2 H55 fun H93 =>
                  K (.bool false) H93))
                (RetP s_10.2 H49 fun H94 =>
                K (.bool false) H94))
              (RetP s_10.2 H49 fun H95 =>
              K (.bool false) H95))
            (RetP s_10.2 H49 fun H96 =>
            K (.bool false) H96)))
        ((.int .i64 0), []) H9))

def a_paliolaw11_ZsetFull : Ann := [(12, [9], [6, 10, 11, 33, 34, 35, 36, 37, 38, 39, 40, 41, 42, 43, 44, 45, 46, 47, 48, 49, 50, 51, 52, 53, 54, 55, 56, 57, 58])]

theorem e_paliolaw11_ZsetFull (a0_limits : Value) (a1_n : Value) (a2_member : Value) (H : Heap) (K : Value → Heap → Prop) : bodyX P a_paliolaw11_ZsetFull (bodyOf Tryz.f7) Tryz.f7.results.toList [a0_limits, a1_n, a2_member] H K = c_paliolaw11_ZsetFull a0_limits a1_n a2_member H K := by kernel_rfl

theorem ok_paliolaw11_ZsetFull : okFn P a_paliolaw11_ZsetFull Tryz.f7 3 = true := by kernel_rfl
theorem k_paliolaw11_ZsetFull {a0_limits a1_n a2_member : Value} {H : Heap} {K : Value → Heap → Prop} (h : c_paliolaw11_ZsetFull a0_limits a1_n a2_member H K) : CallH P f_paliolaw11_ZsetFull [a0_limits, a1_n, a2_member] H K :=
  call_of_bodyX Tryz.func7 ok_paliolaw11_ZsetFull ((e_paliolaw11_ZsetFull a0_limits a1_n a2_member H K).mpr h)

/-- palio/paliolaw11.ZsetRanges -/
def c_paliolaw11_ZsetRanges (a0_limits : Value) (a1_seed : Value) (a2_l : Value) (a3_from : Value) (a4_to : Value) (a5_a : Value) (a6_b : Value) (H : Heap) (K : Value → Heap → Prop) : Prop :=
  BoxP (some 2) T_api_Limits a0_limits H fun limits_1 H2 =>
  BoxP (some 3) T_api_Bound a3_from H2 fun fromx_3 H4 =>
  BoxP (some 3) T_api_Bound a4_to H4 fun tox_5 H6 =>
  BoxP (some 3) T_api_Edge a5_a H6 fun a_7 H8 =>
  BoxP (some 3) T_api_Edge a6_b H8 fun b_9 H10 =>
  CallH P f_paliolaw11_shown [] H10 fun t_11 H12 =>
  LoadP (some 2) H12 limits_1 fun t_13 =>
  CallH P f_paliolaw11_made [t_13, a1_seed, a2_l] H12 fun t_14 H15 =>
  ExtractP t_14 0 fun t_16 =>
  ExtractP t_14 1 fun t_17 =>
  LoadP (some 3) H15 fromx_3 fun t_18 =>
  LoadP (some 3) H15 tox_5 fun t_19 =>
  CallH P f_zset_Set_Between [t_16, t_18, t_19] H15 fun t_20 H21 =>
  ExtractP t_20 0 fun t_22 =>
  ExtractP t_20 1 fun t_23 =>
  LoadP (some 3) H21 fromx_3 fun t_24 =>
  LoadP (some 3) H21 tox_5 fun t_25 =>
  CallH P f_palioref11_Set_Between [t_17, t_24, t_25] H21 fun t_26 H27 =>
  ExtractP t_26 0 fun t_28 =>
  ExtractP t_26 1 fun t_29 =>
  SplitP t_11
    (BinP .eql t_22 t_28 fun t_30 =>
    SplitP t_30
      (BinP .eql t_23 t_29 fun t_31 =>
      SplitP t_31
        (LoadP (some 3) H27 a_7 fun t_32 =>
        LoadP (some 3) H27 b_9 fun t_33 =>
        LoadP (some 3) H27 a_7 fun t_34 =>
        LoadP (some 3) H27 b_9 fun t_35 =>
        CallH P f_zset_Set_Members [t_16, t_32, t_33] H27 fun t_36 H37 =>
        LoadIs (some 3) H37 b_9 t_35 ∧
        LoadIs (some 3) H37 a_7 t_34 ∧
        CallH P f_palioref11_Set_Members [t_17, t_34, t_35] H37 fun t_38 H39 =>
        CallH P f_palioref05_Same [t_36, t_38] H39 fun t_40 H41 =>
        K t_40 H41)
        (K (.bool false) H27))
      (K (.bool false) H27))
    (K (.bool false) H27)

def a_paliolaw11_ZsetRanges : Ann := []

theorem e_paliolaw11_ZsetRanges (a0_limits : Value) (a1_seed : Value) (a2_l : Value) (a3_from : Value) (a4_to : Value) (a5_a : Value) (a6_b : Value) (H : Heap) (K : Value → Heap → Prop) : bodyX P a_paliolaw11_ZsetRanges (bodyOf Tryz.f8) Tryz.f8.results.toList [a0_limits, a1_seed, a2_l, a3_from, a4_to, a5_a, a6_b] H K = c_paliolaw11_ZsetRanges a0_limits a1_seed a2_l a3_from a4_to a5_a a6_b H K := by kernel_rfl

theorem ok_paliolaw11_ZsetRanges : okFn P a_paliolaw11_ZsetRanges Tryz.f8 7 = true := by kernel_rfl
theorem k_paliolaw11_ZsetRanges {a0_limits a1_seed a2_l a3_from a4_to a5_a a6_b : Value} {H : Heap} {K : Value → Heap → Prop} (h : c_paliolaw11_ZsetRanges a0_limits a1_seed a2_l a3_from a4_to a5_a a6_b H K) : CallH P f_paliolaw11_ZsetRanges [a0_limits, a1_seed, a2_l, a3_from, a4_to, a5_a, a6_b] H K :=
  call_of_bodyX Tryz.func8 ok_paliolaw11_ZsetRanges ((e_paliolaw11_ZsetRanges a0_limits a1_seed a2_l a3_from a4_to a5_a a6_b H K).mpr h)

/-- palio/paliolaw11.ZsetScans -/
def c_paliolaw11_ZsetScans (a0_limits : Value) (a1_seed : Value) (a2_l : Value) (H : Heap) (K : Value → Heap → Prop) : Prop :=
  BoxP (some 2) T_api_Limits a0_limits H fun limits_1 H2 =>
  CallH P f_paliolaw11_shown [] H2 fun t_3 H4 =>
  LoadP (some 2) H4 limits_1 fun t_5 =>
  CallH P f_paliolaw11_made [t_5, a1_seed, a2_l] H4 fun t_6 H7 =>
  ExtractP t_6 0 fun t_8 =>
  ExtractP t_6 1 fun t_9 =>
  CallH P f_zset_Set_Len [t_8] H7 fun t_10 H11 =>
  CallH P f_zset_Set_Range [t_8, (.int .i64 0), t_10] H11 fun t_12 H13 =>
  JoinP (S := (Value × Value × Value) × List Deferred) (G := Tup 24)
    (fun s_14 g_14 H14 =>
    CallH P f_zset_Set_Encoding [t_8] H14 fun t_15 H16 =>
    BinP .eql t_15 (.string ⟨#[108, 105, 115, 116, 112, 97, 99, 107]⟩) fun t_17 =>
    SplitP t_17
      (SplitP t_3
        (BinP .eql s_14.1.2.2 (.int .i64 1) fun t_18 =>
        SplitP t_18
          (CallH P f_palioref05_Same [s_14.1.1, t_12] H16 fun t_19 H20 =>
          RetP s_14.2 H20 fun H21 =>
          K t_19 H21)
          (RetP s_14.2 H16 fun H22 =>
          K (.bool false) H22))
        (RetP s_14.2 H16 fun H23 =>
        K (.bool false) H23))
      (LenP s_14.1.1 fun t_24 =>
      LenP t_12 fun t_25 =>
      BinP .neq t_24 t_25 fun t_26 =>
      SplitP t_26
        (RetP s_14.2 H16 fun H27 =>
        K (.bool false) H27)
        (LoopP (S := (Value) × List Deferred) (G := Tup 28)
          (fun s_28 g_28 self_28 H28 =>
          LenP t_12 fun t_29 =>
          BinP .lss s_28.1 t_29 fun t_30 =>
          SplitP t_30
            (LoopP (S := (Value × Value) × List Deferred) (G := Tup 17)
              (fun s_31 g_31 self_31 H31 =>
              LenP s_14.1.1 fun t_32 =>
              BinP .lss s_31.1.2 t_32 fun t_33 =>
              SplitP t_33
                (IdxSliceP 2 s_14.1.1 s_31.1.2 fun t_34 =>
                LoadP (some 2) H31 t_34 fun t_35 =>
                IdxSliceP 2 t_12 s_28.1 fun t_36 =>
                LoadP (some 2) H31 t_36 fun t_37 =>
                EqP P T_api_Entry false H31 t_35 t_37 fun b_38 =>
                SplitP (.bool b_38)
                  (BinP .add s_31.1.1 (.int .i64 1) fun t_39 =>
                  BinP .add s_31.1.2 (.int .i64 1) fun t_40 =>
                  self_31 ((t_39, t_40), s_31.2) H31)
                  (BinP .add s_31.1.2 (.int .i64 1) fun t_41 =>
                  self_31 ((s_31.1.1, t_41), s_31.2) H31))
                (BinP .neq s_31.1.1 (.int .i64 1) fun t_42 =>
                SplitP t_42
                  (RetP s_31.2 H31 fun H43 =>
                  K (.bool false) H43)
                  (BinP .add s_28.1 (.int .i64 1) fun t_44 =>
                  self_28 (t_44, s_31.2) H31)))
              (((.int .i64 0), (.int .i64 0)), s_28.2) H28)
            (SplitP t_3
              (BinP .eql s_14.1.2.1 (.int .u32 0) fun t_45 =>
              RetP s_28.2 H28 fun H46 =>
              K t_45 H46)
              (RetP s_28.2 H28 fun H47 =>
              K (.bool false) H47)))
          ((.int .i64 0), s_14.2) H16)))
    (fun J_14 =>
    LoopP (S := (Value × Value × Value) × List Deferred) (G := Tup 24)
      (fun s_48 g_48 self_48 H48 =>
      JoinP (S := (Unit) × List Deferred) (G := Tup 10)
        (fun s_49 g_49 H49 =>
        CallH P f_zset_Set_Scan [t_8, s_48.1.2.1] H49 fun t_50 H51 =>
        ExtractP t_50 0 fun t_52 =>
        ExtractP t_50 1 fun t_53 =>
        AppendP P T_api_Entry s_48.1.1 t_52 H51 fun t_54 H55 =>
        BinP .add s_48.1.2.2 (.int .i64 1) fun t_56 =>
        self_48 ((t_54, t_53, t_56), s_49.2) H55)
        (fun J_49 =>
        BinP .eql s_48.1.2.2 (.int .i64 0) fun t_57 =>
        SplitP t_57
          (J_49 ((), s_48.2) H48)
          (BinP .neq s_48.1.2.1 (.int .u32 0) fun t_58 =>
          SplitP t_58
            (BinP .lss s_48.1.2.2 (.int .i64 3000) fun t_59 =>
            SplitP t_59
              (J_49 ((), s_48.2) H48)
              (J_14 ((s_48.1.1, s_48.1.2.1, s_48.1.2.2), s_48.2) H48))
            (J_14 ((s_48.1.1, s_48.1.2.1, s_48.1.2.2), s_48.2) H48))))
      (((.slice none 0 0), (.int .u32 0), (.int .i64 0)), []) H13)

def a_paliolaw11_ZsetScans : Ann := [(14, [11, 12, 13], [14, 15, 31, 32, 33, 34, 35, 36, 37, 38, 39, 40, 41, 42, 43, 44, 45, 46, 47, 48, 49, 50, 51, 52]), (17, [], [31, 32, 33, 34, 35, 36, 37, 38, 39, 40]), (25, [11, 12, 13], [14, 15, 31, 32, 33, 34, 35, 36, 37, 38, 39, 40, 41, 42, 43, 44, 45, 46, 47, 48, 49, 50, 51, 52]), (34, [16], [6, 17, 18, 71, 72, 73, 74, 75, 76, 77, 78, 79, 80, 81, 82, 83, 84, 85, 86, 87, 88, 89, 90, 91, 92, 93, 94, 95]), (42, [17, 18], [77, 78, 79, 80, 81, 82, 83, 84, 85, 86, 87, 88, 89, 90, 91, 92, 93])]

theorem e_paliolaw11_ZsetScans (a0_limits : Value) (a1_seed : Value) (a2_l : Value) (H : Heap) (K : Value → Heap → Prop) : bodyX P a_paliolaw11_ZsetScans (bodyOf Tryz.f9) Tryz.f9.results.toList [a0_limits, a1_seed, a2_l] H K = c_paliolaw11_ZsetScans a0_limits a1_seed a2_l H K := by kernel_rfl

theorem ok_paliolaw11_ZsetScans : okFn P a_paliolaw11_ZsetScans Tryz.f9 3 = true := by kernel_rfl
theorem k_paliolaw11_ZsetScans {a0_limits a1_seed a2_l : Value} {H : Heap} {K : Value → Heap → Prop} (h : c_paliolaw11_ZsetScans a0_limits a1_seed a2_l H K) : CallH P f_paliolaw11_ZsetScans [a0_limits, a1_seed, a2_l] H K :=
  call_of_bodyX Tryz.func9 ok_paliolaw11_ZsetScans ((e_paliolaw11_ZsetScans a0_limits a1_seed a2_l H K).mpr h)

/-- palio/paliolaw11.shown -/
def c_paliolaw11_shown (H : Heap) (K : Value → Heap → Prop) : Prop :=
  BuildP [(.int .i64 0), (.int .i64 0)] [(0, none, (.int .i64 2)), (1, none, (.int .i64 9))] fun t_1 =>
  CallH P f_zset_New [(.agg t_1.toArray), (.int .u32 7)] H fun t_2 H3 =>
  CallH P f_zset_Set_Add [t_2, (.string ⟨#[97]⟩), (.int .i64 1), (.int .i64 1)] H3 fun t_4 H5 =>
  ExtractP t_4 0 fun t_6 =>
  ExtractP t_4 1 fun t_7 =>
  CallH P f_zset_Set_Add [t_2, (.string ⟨#[98]⟩), (.int .i64 0), (.int .i64 1)] H5 fun t_8 H9 =>
  ExtractP t_8 0 fun t_10 =>
  ExtractP t_8 1 fun t_11 =>
  CallH P f_zset_Set_Rank [t_2, (.string ⟨#[97]⟩)] H9 fun t_12 H13 =>
  ExtractP t_12 0 fun t_14 =>
  ExtractP t_12 1 fun t_15 =>
  CallH P f_zset_Set_Score [t_2, (.string ⟨#[99]⟩)] H13 fun t_16 H17 =>
  ExtractP t_16 0 fun t_18 =>
  ExtractP t_16 1 fun t_19 =>
  SplitP t_6
    (SplitP t_10
      (BinP .eql t_7 (.int .i64 0) fun t_20 =>
      SplitP t_20
        (BinP .eql t_11 (.int .i64 0) fun t_21 =>
        SplitP t_21
          (BinP .eql t_14 (.int .i64 1) fun t_22 =>
          SplitP t_22
            (SplitP t_15
              (UnP .not t_19 fun t_23 =>
              SplitP t_23
                (CallH P f_zset_Set_Encoding [t_2] H17 fun t_24 H25 =>
                BinP .eql t_24 (.string ⟨#[108, 105, 115, 116, 112, 97, 99, 107]⟩) fun t_26 =>
                SplitP t_26
                  (CallH P f_zset_Set_Bytes [t_2] H25 fun t_27 H28 =>
                  BinP .eql t_27 (.int .i64 24) fun t_29 =>
                  K t_29 H28)
                  (K (.bool false) H25))
                (K (.bool false) H17))
              (K (.bool false) H17))
            (K (.bool false) H17))
          (K (.bool false) H17))
        (K (.bool false) H17))
      (K (.bool false) H17))
    (K (.bool false) H17)

def a_paliolaw11_shown : Ann := []

theorem e_paliolaw11_shown (H : Heap) (K : Value → Heap → Prop) : bodyX P a_paliolaw11_shown (bodyOf Tryz.f10) Tryz.f10.results.toList [] H K = c_paliolaw11_shown H K := by kernel_rfl

theorem ok_paliolaw11_shown : okFn P a_paliolaw11_shown Tryz.f10 0 = true := by kernel_rfl
theorem k_paliolaw11_shown {H : Heap} {K : Value → Heap → Prop} (h : c_paliolaw11_shown H K) : CallH P f_paliolaw11_shown [] H K :=
  call_of_bodyX Tryz.func10 ok_paliolaw11_shown ((e_paliolaw11_shown H K).mpr h)

/-- palio/zset.New -/
def c_zset_New (a0_limits : Value) (a1_seed : Value) (H : Heap) (K : Value → Heap → Prop) : Prop :=
  BoxP (some 2) T_api_Limits a0_limits H fun limits_1 H2 =>
  FieldAddrP 0 limits_1 fun t_3 =>
  LoadP none H2 t_3 fun t_4 =>
  MinP (.int .i64 200) [t_4] fun t_5 =>
  MaxP (.int .i64 0) [t_5] fun t_6 =>
  FieldAddrP 1 limits_1 fun t_7 =>
  LoadP none H2 t_7 fun t_8 =>
  MinP (.int .i64 64) [t_8] fun t_9 =>
  MaxP (.int .i64 0) [t_9] fun t_10 =>
  BuildP [(.int .i64 0), (.int .i64 0)] [(0, none, t_6), (1, none, t_10)] fun t_11 =>
  AllocP #[(.int .i64 0), (.int .i64 0)] T_api_Limits H2 fun l_12 H13 =>
  StoreP (some 2) H13 l_12 (.agg t_11.toArray) fun H14 =>
  LoadP (some 2) H14 l_12 fun t_15 =>
  CallH P f_pack_New [] H14 fun t_16 H17 =>
  LoadIs (some 2) H17 l_12 t_15 ∧
  BuildP [(.string ⟨#[]⟩)] [(0, none, t_16)] fun t_18 =>
  BoxP (some 1) T_zset_packed (.agg t_18.toArray) H17 fun t_19 H20 =>
  LoadIs (some 2) H20 l_12 t_15 ∧
  BuildP [.nilIface, (.int .i64 0), (.int .i64 0), (.int .u32 0)] [(0, none, (.iface T_p_zset_packed t_19)), (1, (some 2), t_15), (3, none, a1_seed)] fun t_21 =>
  BoxP (some 4) T_zset_Set (.agg t_21.toArray) H20 fun t_22 H23 =>
  K t_22 H23

def a_zset_New : Ann := []

theorem e_zset_New (a0_limits : Value) (a1_seed : Value) (H : Heap) (K : Value → Heap → Prop) : bodyX P a_zset_New (bodyOf Tryz.f11) Tryz.f11.results.toList [a0_limits, a1_seed] H K = c_zset_New a0_limits a1_seed H K := by kernel_rfl

theorem ok_zset_New : okFn P a_zset_New Tryz.f11 2 = true := by kernel_rfl
theorem k_zset_New {a0_limits a1_seed : Value} {H : Heap} {K : Value → Heap → Prop} (h : c_zset_New a0_limits a1_seed H K) : CallH P f_zset_New [a0_limits, a1_seed] H K :=
  call_of_bodyX Tryz.func11 ok_zset_New ((e_zset_New a0_limits a1_seed H K).mpr h)

/-- palio/paliolaw11.Name -/
def c_paliolaw11_Name (a0_s : Value) (H : Heap) (K : Value → Heap → Prop) : Prop :=
  LenStrP a0_s fun t_1 =>
  MinP t_1 [(.int .i64 70)] fun t_2 =>
  SliceStrP a0_s none (some t_2) fun t_3 =>
  K t_3 H

def a_paliolaw11_Name : Ann := []

theorem e_paliolaw11_Name (a0_s : Value) (H : Heap) (K : Value → Heap → Prop) : bodyX P a_paliolaw11_Name (bodyOf Tryz.f12) Tryz.f12.results.toList [a0_s] H K = c_paliolaw11_Name a0_s H K := by kernel_rfl

theorem ok_paliolaw11_Name : okFn P a_paliolaw11_Name Tryz.f12 1 = true := by kernel_rfl
theorem k_paliolaw11_Name {a0_s : Value} {H : Heap} {K : Value → Heap → Prop} (h : c_paliolaw11_Name a0_s H K) : CallH P f_paliolaw11_Name [a0_s] H K :=
  call_of_bodyX Tryz.func12 ok_paliolaw11_Name ((e_paliolaw11_Name a0_s H K).mpr h)

/-- (*palio/zset.Set).Add -/
def c_zset_Set_Add (a0_s : Value) (a1_member : Value) (a2_score : Value) (a3_level : Value) (H : Heap) (K : Value → Heap → Prop) : Prop :=
  EqP P T_p_zset_Set true H a0_s (.pointer none) fun b_1 =>
  SplitP (.bool b_1)
    (K (.tuple #[(.bool false), (.int .i64 1)]) H)
    (LenStrP a1_member fun t_2 =>
    BinP .gtr t_2 (.int .i64 64) fun t_3 =>
    SplitP t_3
      (K (.tuple #[(.bool false), (.int .i64 2)]) H)
      (BinP .lss a3_level (.int .i64 1) fun t_4 =>
      SplitP t_4
        (K (.tuple #[(.bool false), (.int .i64 2)]) H)
        (BinP .gtr a3_level (.int .i64 32) fun t_5 =>
        SplitP t_5
          (K (.tuple #[(.bool false), (.int .i64 2)]) H)
          (NilP a0_s fun t_6 =>
          FieldAddrP 0 t_6 fun t_7 =>
          LoadP none H t_7 fun t_8 =>
          InvokeP P t_8 "palio/zset.score" [a1_member] H fun t_9 H10 =>
          ExtractP t_9 0 fun t_11 =>
          ExtractP t_9 1 fun t_12 =>
          JoinP (S := (Unit) × List Deferred) (G := Tup 9)
            (fun s_13 g_13 H13 =>
            JoinP (S := (Unit) × List Deferred) (G := Tup 9)
              (fun s_14 g_14 H14 =>
              JoinP (S := (Unit) × List Deferred) (G := Tup 21)
                (fun s_15 g_15 H15 =>
                NilP a0_s fun t_16 =>
                FieldAddrP 0 t_16 fun t_17 =>
                LoadP none H15 t_17 fun t_18 =>
                BuildP [(.string ⟨#[]⟩), (.int .i64 0)] [(0, none, a1_member), (1, none, a2_score)] fun t_19 =>
                InvokeP P t_18 "palio/zset.put" [(.agg t_19.toArray), a3_level] H15 fun t_20 H21 =>
                UnP .not t_12 fun t_22 =>
                RetP s_15.2 H21 fun H23 =>
                K (.tuple #[t_22, (.int .i64 0)]) H23)
                (fun J_15 =>
                NilP a0_s fun t_24 =>
                FieldAddrP 1 t_24 fun t_25 =>
                FieldAddrP 0 t_25 fun t_26 =>
                LoadP none H14 t_26 fun t_27 =>
                CallH P f_zset_Set_Len [a0_s] H14 fun t_28 H29 =>
                LoadIs none H29 t_26 t_27 ∧
                BinP .add t_28 (.int .i64 1) fun t_30 =>
                BinP .gtr t_30 t_27 fun t_31 =>
                SplitP t_31
                  (CallH P f_zset_Set_lists [a0_s] H29 fun t_32 H33 =>
                  J_15 ((), s_14.2) H33)
                  (LenStrP a1_member fun t_34 =>
                  NilP a0_s fun t_35 =>
                  FieldAddrP 1 t_35 fun t_36 =>
                  FieldAddrP 1 t_36 fun t_37 =>
                  LoadP none H29 t_37 fun t_38 =>
                  BinP .gtr t_34 t_38 fun t_39 =>
                  SplitP t_39
                    (CallH P f_zset_Set_lists [a0_s] H29 fun t_40 H41 =>
                    J_15 ((), s_14.2) H41)
                    (J_15 ((), s_14.2) H29))))
              (fun J_14 =>
              SplitP t_12
                (NilP a0_s fun t_42 =>
                FieldAddrP 0 t_42 fun t_43 =>
                LoadP none H13 t_43 fun t_44 =>
                BuildP [(.string ⟨#[]⟩), (.int .i64 0)] [(0, none, a1_member), (1, none, t_11)] fun t_45 =>
                InvokeP P t_44 "palio/zset.drop" [(.agg t_45.toArray)] H13 fun t_46 H47 =>
                J_14 ((), s_13.2) H47)
                (J_14 ((), s_13.2) H13)))
            (fun J_13 =>
            UnP .not t_12 fun t_48 =>
            SplitP t_48
              (CallH P f_zset_Set_Len [a0_s] H10 fun t_49 H50 =>
              BinP .eql t_49 (.int .i64 400) fun t_51 =>
              SplitP t_51
                (K (.tuple #[(.bool false), (.int .i64 51)]) H50)
                (J_13 ((), []) H50))
              (J_13 ((), []) H10))))))

def a_zset_Set_Add : Ann := [(17, [], [8, 9, 36, 37, 38, 39, 40, 41, 42]), (21, [], [43, 44, 45, 46, 47, 48, 49, 50, 51]), (25, [], [52, 53, 54, 55, 56, 57, 58, 59, 60, 61, 62, 63, 64, 65, 66, 67, 68, 69, 70, 71, 72])]

theorem e_zset_Set_Add (a0_s : Value) (a1_member : Value) (a2_score : Value) (a3_level : Value) (H : Heap) (K : Value → Heap → Prop) : bodyX P a_zset_Set_Add (bodyOf Tryz.f13) Tryz.f13.results.toList [a0_s, a1_member, a2_score, a3_level] H K = c_zset_Set_Add a0_s a1_member a2_score a3_level H K := by kernel_rfl

theorem ok_zset_Set_Add : okFn P a_zset_Set_Add Tryz.f13 4 = true := by kernel_rfl
theorem k_zset_Set_Add {a0_s a1_member a2_score a3_level : Value} {H : Heap} {K : Value → Heap → Prop} (h : c_zset_Set_Add a0_s a1_member a2_score a3_level H K) : CallH P f_zset_Set_Add [a0_s, a1_member, a2_score, a3_level] H K :=
  call_of_bodyX Tryz.func13 ok_zset_Set_Add ((e_zset_Set_Add a0_s a1_member a2_score a3_level H K).mpr h)

/-- (*palio/zset.Set).Remove -/
def c_zset_Set_Remove (a0_s : Value) (a1_member : Value) (H : Heap) (K : Value → Heap → Prop) : Prop :=
  CallH P f_zset_Set_Score [a0_s, a1_member] H fun t_1 H2 =>
  ExtractP t_1 0 fun t_3 =>
  ExtractP t_1 1 fun t_4 =>
  SplitP t_4
    (NilP a0_s fun t_5 =>
    FieldAddrP 0 t_5 fun t_6 =>
    LoadP none H2 t_6 fun t_7 =>
    BuildP [(.string ⟨#[]⟩), (.int .i64 0)] [(0, none, a1_member), (1, none, t_3)] fun t_8 =>
    InvokeP P t_7 "palio/zset.drop" [(.agg t_8.toArray)] H2 fun t_9 H10 =>
    K t_4 H10)
    (K t_4 H2)

def a_zset_Set_Remove : Ann := []

theorem e_zset_Set_Remove (a0_s : Value) (a1_member : Value) (H : Heap) (K : Value → Heap → Prop) : bodyX P a_zset_Set_Remove (bodyOf Tryz.f14) Tryz.f14.results.toList [a0_s, a1_member] H K = c_zset_Set_Remove a0_s a1_member H K := by kernel_rfl

theorem ok_zset_Set_Remove : okFn P a_zset_Set_Remove Tryz.f14 2 = true := by kernel_rfl
theorem k_zset_Set_Remove {a0_s a1_member : Value} {H : Heap} {K : Value → Heap → Prop} (h : c_zset_Set_Remove a0_s a1_member H K) : CallH P f_zset_Set_Remove [a0_s, a1_member] H K :=
  call_of_bodyX Tryz.func14 ok_zset_Set_Remove ((e_zset_Set_Remove a0_s a1_member H K).mpr h)

/-- (*palio/zset.Set).Encoding -/
def c_zset_Set_Encoding (a0_s : Value) (H : Heap) (K : Value → Heap → Prop) : Prop :=
  EqP P T_p_zset_Set true H a0_s (.pointer none) fun b_1 =>
  SplitP (.bool b_1)
    (K (.string ⟨#[]⟩) H)
    (NilP a0_s fun t_2 =>
    FieldAddrP 0 t_2 fun t_3 =>
    LoadP none H t_3 fun t_4 =>
    TypeAssertP T_p_zset_listed (.pointer none) true t_4 fun t_5 =>
    ExtractP t_5 0 fun t_6 =>
    ExtractP t_5 1 fun t_7 =>
    SplitP t_7
      (K (.string ⟨#[115, 107, 105, 112, 108, 105, 115, 116]⟩) H)
      (K (.string ⟨#[108, 105, 115, 116, 112, 97, 99, 107]⟩) H))

def a_zset_Set_Encoding : Ann := []

theorem e_zset_Set_Encoding (a0_s : Value) (H : Heap) (K : Value → Heap → Prop) : bodyX P a_zset_Set_Encoding (bodyOf Tryz.f15) Tryz.f15.results.toList [a0_s] H K = c_zset_Set_Encoding a0_s H K := by kernel_rfl

theorem ok_zset_Set_Encoding : okFn P a_zset_Set_Encoding Tryz.f15 1 = true := by kernel_rfl
theorem k_zset_Set_Encoding {a0_s : Value} {H : Heap} {K : Value → Heap → Prop} (h : c_zset_Set_Encoding a0_s H K) : CallH P f_zset_Set_Encoding [a0_s] H K :=
  call_of_bodyX Tryz.func15 ok_zset_Set_Encoding ((e_zset_Set_Encoding a0_s H K).mpr h)

/-- (*palio/zset.Set).Len -/
def c_zset_Set_Len (a0_s : Value) (H : Heap) (K : Value → Heap → Prop) : Prop :=
  EqP P T_p_zset_Set true H a0_s (.pointer none) fun b_1 =>
  SplitP (.bool b_1)
    (K (.int .i64 0) H)
    (NilP a0_s fun t_2 =>
    FieldAddrP 0 t_2 fun t_3 =>
    LoadP none H t_3 fun t_4 =>
    InvokeP P t_4 "Len" [] H fun t_5 H6 =>
    K t_5 H6)

def a_zset_Set_Len : Ann := []

theorem e_zset_Set_Len (a0_s : Value) (H : Heap) (K : Value → Heap → Prop) : bodyX P a_zset_Set_Len (bodyOf Tryz.f16) Tryz.f16.results.toList [a0_s] H K = c_zset_Set_Len a0_s H K := by kernel_rfl

theorem ok_zset_Set_Len : okFn P a_zset_Set_Len Tryz.f16 1 = true := by kernel_rfl
theorem k_zset_Set_Len {a0_s : Value} {H : Heap} {K : Value → Heap → Prop} (h : c_zset_Set_Len a0_s H K) : CallH P f_zset_Set_Len [a0_s] H K :=
  call_of_bodyX Tryz.func16 ok_zset_Set_Len ((e_zset_Set_Len a0_s H K).mpr h)

/-- palio/palioref11.New -/
def c_palioref11_New (a0_limits : Value) (H : Heap) (K : Value → Heap → Prop) : Prop :=
  BoxP (some 2) T_api_Limits a0_limits H fun limits_1 H2 =>
  FieldAddrP 0 limits_1 fun t_3 =>
  LoadP none H2 t_3 fun t_4 =>
  MinP (.int .i64 200) [t_4] fun t_5 =>
  MaxP (.int .i64 0) [t_5] fun t_6 =>
  FieldAddrP 1 limits_1 fun t_7 =>
  LoadP none H2 t_7 fun t_8 =>
  MinP (.int .i64 64) [t_8] fun t_9 =>
  MaxP (.int .i64 0) [t_9] fun t_10 =>
  BuildP [(.int .i64 0), (.int .i64 0)] [(0, none, t_6), (1, none, t_10)] fun t_11 =>
  BuildP [(.slice none 0 0), (.int .i64 0), (.int .i64 0), (.bool false)] [(1, (some 2), (.agg t_11.toArray))] fun t_12 =>
  BoxP (some 4) T_palioref11_Set (.agg t_12.toArray) H2 fun t_13 H14 =>
  K t_13 H14

def a_palioref11_New : Ann := []

theorem e_palioref11_New (a0_limits : Value) (H : Heap) (K : Value → Heap → Prop) : bodyX P a_palioref11_New (bodyOf Tryz.f17) Tryz.f17.results.toList [a0_limits] H K = c_palioref11_New a0_limits H K := by kernel_rfl

theorem ok_palioref11_New : okFn P a_palioref11_New Tryz.f17 1 = true := by kernel_rfl
theorem k_palioref11_New {a0_limits : Value} {H : Heap} {K : Value → Heap → Prop} (h : c_palioref11_New a0_limits H K) : CallH P f_palioref11_New [a0_limits] H K :=
  call_of_bodyX Tryz.func17 ok_palioref11_New ((e_palioref11_New a0_limits H K).mpr h)

/-- palio/paliolaw11.did -/
def c_paliolaw11_did (a0_s : Value) (a1_r : Value) (a2_x : Value) (H : Heap) (K : Value → Heap → Prop) : Prop :=
  BoxP (some 6) T_paliolaw11_Act a2_x H fun x_1 H2 =>
  FieldAddrP 0 x_1 fun t_3 =>
  LoadP none H2 t_3 fun t_4 =>
  ConvIntP .u64 t_4 fun t_5 =>
  BinP .rem t_5 (.int .u64 8) fun t_6 =>
  JoinP (S := (Value) × List Deferred) (G := Tup 5)
    (fun s_7 g_7 H7 =>
    SplitP s_7.1
      (FieldAddrP 1 x_1 fun t_8 =>
      LoadP none H7 t_8 fun t_9 =>
      FieldAddrP 2 x_1 fun t_10 =>
      LoadP none H7 t_10 fun t_11 =>
      FieldAddrP 3 x_1 fun t_12 =>
      LoadP none H7 t_12 fun t_13 =>
      CallH P f_paliolaw11_Name [t_9] H7 fun t_14 H15 =>
      LoadIs none H15 t_12 t_13 ∧
      LoadIs none H15 t_10 t_11 ∧
      CallH P f_zset_Set_Add [a0_s, t_14, t_11, t_13] H15 fun t_16 H17 =>
      ExtractP t_16 0 fun t_18 =>
      ExtractP t_16 1 fun t_19 =>
      FieldAddrP 1 x_1 fun t_20 =>
      LoadP none H17 t_20 fun t_21 =>
      FieldAddrP 2 x_1 fun t_22 =>
      LoadP none H17 t_22 fun t_23 =>
      FieldAddrP 3 x_1 fun t_24 =>
      LoadP none H17 t_24 fun t_25 =>
      CallH P f_paliolaw11_Name [t_21] H17 fun t_26 H27 =>
      LoadIs none H27 t_24 t_25 ∧
      LoadIs none H27 t_22 t_23 ∧
      CallH P f_palioref11_Set_Add [a1_r, t_26, t_23, t_25] H27 fun t_28 H29 =>
      ExtractP t_28 0 fun t_30 =>
      ExtractP t_28 1 fun t_31 =>
      EqP P T_bool false H29 t_18 t_30 fun b_32 =>
      SplitP (.bool b_32)
        (BinP .eql t_19 t_31 fun t_33 =>
        RetP s_7.2 H29 fun H34 =>
        K t_33 H34)
        (RetP s_7.2 H29 fun H35 =>
        K (.bool false) H35))
      (JoinP (S := (Value) × List Deferred) (G := Tup 2)
        (fun s_36 g_36 H36 =>
        SplitP s_36.1
          (FieldAddrP 1 x_1 fun t_37 =>
          LoadP none H36 t_37 fun t_38 =>
          FieldAddrP 1 x_1 fun t_39 =>
          LoadP none H36 t_39 fun t_40 =>
          CallH P f_paliolaw11_Name [t_38] H36 fun t_41 H42 =>
          LoadIs none H42 t_39 t_40 ∧
          CallH P f_zset_Set_Remove [a0_s, t_41] H42 fun t_43 H44 =>
          LoadIs none H44 t_39 t_40 ∧
          CallH P f_paliolaw11_Name [t_40] H44 fun t_45 H46 =>
          CallH P f_palioref11_Set_Remove [a1_r, t_45] H46 fun t_47 H48 =>
          EqP P T_bool false H48 t_43 t_47 fun b_49 =>
          RetP s_36.2 H48 fun H50 =>
          K (.bool b_49) H50)
          (FieldAddrP 4 x_1 fun t_51 =>
          LoadP none H36 t_51 fun t_52 =>
          FieldAddrP 5 x_1 fun t_53 =>
          LoadP none H36 t_53 fun t_54 =>
          FieldAddrP 4 x_1 fun t_55 =>
          LoadP none H36 t_55 fun t_56 =>
          FieldAddrP 5 x_1 fun t_57 =>
          LoadP none H36 t_57 fun t_58 =>
          CallH P f_zset_Set_Cut [a0_s, t_52, t_54] H36 fun t_59 H60 =>
          LoadIs none H60 t_57 t_58 ∧
          LoadIs none H60 t_55 t_56 ∧
          CallH P f_palioref11_Set_Cut [a1_r, t_56, t_58] H60 fun t_61 H62 =>
          BinP .eql t_59 t_61 fun t_63 =>
          RetP s_36.2 H62 fun H64 =>
          K t_63 H64))
        (fun J_36 =>
        BinP .eql t_6 (.int .u64 5) fun t_65 =>
        SplitP t_65
          (J_36 (t_65, s_7.2) H7)
          (BinP .eql t_6 (.int .u64 6) fun t_66 =>
          J_36 (t_66, s_7.2) H7))))
    (fun J_7 =>
    BinP .eql t_6 (.int .u64 0) fun t_67 =>
    SplitP t_67
      (J_7 (t_67, []) H2)
      (BinP .eql t_6 (.int .u64 1) fun t_68 =>
      SplitP t_68
        (J_7 (t_68, []) H2)
        (BinP .eql t_6 (.int .u64 2) fun t_69 =>
        SplitP t_69
          (J_7 (t_69, []) H2)
          (BinP .eql t_6 (.int .u64 3) fun t_70 =>
          SplitP t_70
            (J_7 (t_70, []) H2)
            (BinP .eql t_6 (.int .u64 4) fun t_71 =>
            J_7 (t_71, []) H2)))))

def a_paliolaw11_did : Ann := [(15, [15], [16, 17, 18, 19, 20]), (25, [53], [54, 55])]

theorem e_paliolaw11_did (a0_s : Value) (a1_r : Value) (a2_x : Value) (H : Heap) (K : Value → Heap → Prop) : bodyX P a_paliolaw11_did (bodyOf Tryz.f18) Tryz.f18.results.toList [a0_s, a1_r, a2_x] H K = c_paliolaw11_did a0_s a1_r a2_x H K := by kernel_rfl

theorem ok_paliolaw11_did : okFn P a_paliolaw11_did Tryz.f18 3 = true := by kernel_rfl
theorem k_paliolaw11_did {a0_s a1_r a2_x : Value} {H : Heap} {K : Value → Heap → Prop} (h : c_paliolaw11_did a0_s a1_r a2_x H K) : CallH P f_paliolaw11_did [a0_s, a1_r, a2_x] H K :=
  call_of_bodyX Tryz.func18 ok_paliolaw11_did ((e_paliolaw11_did a0_s a1_r a2_x H K).mpr h)

/-- palio/palioref05.Same -/
def c_palioref05_Same (a0_a : Value) (a1_b : Value) (H : Heap) (K : Value → Heap → Prop) : Prop :=
  LenP a0_a fun t_1 =>
  LenP a1_b fun t_2 =>
  BinP .neq t_1 t_2 fun t_3 =>
  SplitP t_3
    (K (.bool false) H)
    (LoopP (S := (Value) × List Deferred) (G := Tup 16)
      (fun s_4 g_4 self_4 H4 =>
      LenP a0_a fun t_5 =>
      BinP .lss s_4.1 t_5 fun t_6 =>
      SplitP t_6
        (IdxSliceP 2 a0_a s_4.1 fun t_7 =>
        LoadP (some 2) H4 t_7 fun t_8 =>
        IdxSliceP 2 a1_b s_4.1 fun t_9 =>
        LoadP (some 2) H4 t_9 fun t_10 =>
        EqP P T_api_Entry false H4 t_8 t_10 fun b_11 =>
        SplitP (.bool (!b_11))
          (RetP s_4.2 H4 fun H12 =>
          K (.bool false) H12)
          (BinP .add s_4.1 (.int .i64 1) fun t_13 =>
          self_4 (t_13, s_4.2) H4))
        (RetP s_4.2 H4 fun H14 =>
        K (.bool true) H14))
      ((.int .i64 0), []) H)

def a_palioref05_Same : Ann := [(8, [5], [4, 11, 12, 13, 14, 15, 16, 17, 18, 19, 20, 21, 22, 23, 24, 25])]

theorem e_palioref05_Same (a0_a : Value) (a1_b : Value) (H : Heap) (K : Value → Heap → Prop) : bodyX P a_palioref05_Same (bodyOf Tryz.f19) Tryz.f19.results.toList [a0_a, a1_b] H K = c_palioref05_Same a0_a a1_b H K := by kernel_rfl

theorem ok_palioref05_Same : okFn P a_palioref05_Same Tryz.f19 2 = true := by kernel_rfl
theorem k_palioref05_Same {a0_a a1_b : Value} {H : Heap} {K : Value → Heap → Prop} (h : c_palioref05_Same a0_a a1_b H K) : CallH P f_palioref05_Same [a0_a, a1_b] H K :=
  call_of_bodyX Tryz.func19 ok_palioref05_Same ((e_palioref05_Same a0_a a1_b H K).mpr h)

/-- (*palio/zset.Set).Range -/
def c_zset_Set_Range (a0_s : Value) (a1_from : Value) (a2_to : Value) (H : Heap) (K : Value → Heap → Prop) : Prop :=
  EqP P T_p_zset_Set true H a0_s (.pointer none) fun b_1 =>
  SplitP (.bool b_1)
    (K (.slice none 0 0) H)
    (NilP a0_s fun t_2 =>
    FieldAddrP 0 t_2 fun t_3 =>
    LoadP none H t_3 fun t_4 =>
    InvokeP P t_4 "Range" [a1_from, a2_to] H fun t_5 H6 =>
    K t_5 H6)

def a_zset_Set_Range : Ann := []

theorem e_zset_Set_Range (a0_s : Value) (a1_from : Value) (a2_to : Value) (H : Heap) (K : Value → Heap → Prop) : bodyX P a_zset_Set_Range (bodyOf Tryz.f20) Tryz.f20.results.toList [a0_s, a1_from, a2_to] H K = c_zset_Set_Range a0_s a1_from a2_to H K := by kernel_rfl

theorem ok_zset_Set_Range : okFn P a_zset_Set_Range Tryz.f20 3 = true := by kernel_rfl
theorem k_zset_Set_Range {a0_s a1_from a2_to : Value} {H : Heap} {K : Value → Heap → Prop} (h : c_zset_Set_Range a0_s a1_from a2_to H K) : CallH P f_zset_Set_Range [a0_s, a1_from, a2_to] H K :=
  call_of_bodyX Tryz.func20 ok_zset_Set_Range ((e_zset_Set_Range a0_s a1_from a2_to H K).mpr h)

/-- (*palio/palioref11.Set).Range -/
def c_palioref11_Set_Range (a0_s : Value) (a1_from : Value) (a2_to : Value) (H : Heap) (K : Value → Heap → Prop) : Prop :=
  NilP a0_s fun t_1 =>
  FieldAddrP 0 t_1 fun t_2 =>
  LoadP none H t_2 fun t_3 =>
  LenP t_3 fun t_4 =>
  MinP a1_from [t_4] fun t_5 =>
  MaxP (.int .i64 0) [t_5] fun t_6 =>
  NilP a0_s fun t_7 =>
  FieldAddrP 0 t_7 fun t_8 =>
  LoadP none H t_8 fun t_9 =>
  LenP t_9 fun t_10 =>
  MinP a2_to [t_10] fun t_11 =>
  MaxP t_6 [t_11] fun t_12 =>
  NilP a0_s fun t_13 =>
  FieldAddrP 0 t_13 fun t_14 =>
  LoadP none H t_14 fun t_15 =>
  SliceSlP 2 t_15 (some t_6) (some t_12) none fun t_16 =>
  K t_16 H

def a_palioref11_Set_Range : Ann := []

theorem e_palioref11_Set_Range (a0_s : Value) (a1_from : Value) (a2_to : Value) (H : Heap) (K : Value → Heap → Prop) : bodyX P a_palioref11_Set_Range (bodyOf Tryz.f21) Tryz.f21.results.toList [a0_s, a1_from, a2_to] H K = c_palioref11_Set_Range a0_s a1_from a2_to H K := by kernel_rfl

theorem ok_palioref11_Set_Range : okFn P a_palioref11_Set_Range Tryz.f21 3 = true := by kernel_rfl
theorem k_palioref11_Set_Range {a0_s a1_from a2_to : Value} {H : Heap} {K : Value → Heap → Prop} (h : c_palioref11_Set_Range a0_s a1_from a2_to H K) : CallH P f_palioref11_Set_Range [a0_s, a1_from, a2_to] H K :=
  call_of_bodyX Tryz.func21 ok_palioref11_Set_Range ((e_palioref11_Set_Range a0_s a1_from a2_to H K).mpr h)

/-- (*palio/palioref11.Set).Encoding -/
def c_palioref11_Set_Encoding (a0_s : Value) (H : Heap) (K : Value → Heap → Prop) : Prop :=
  NilP a0_s fun t_1 =>
  FieldAddrP 3 t_1 fun t_2 =>
  LoadP none H t_2 fun t_3 =>
  SplitP t_3
    (K (.string ⟨#[115, 107, 105, 112, 108, 105, 115, 116]⟩) H)
    (K (.string ⟨#[108, 105, 115, 116, 112, 97, 99, 107]⟩) H)

def a_palioref11_Set_Encoding : Ann := []

theorem e_palioref11_Set_Encoding (a0_s : Value) (H : Heap) (K : Value → Heap → Prop) : bodyX P a_palioref11_Set_Encoding (bodyOf Tryz.f22) Tryz.f22.results.toList [a0_s] H K = c_palioref11_Set_Encoding a0_s H K := by kernel_rfl

theorem ok_palioref11_Set_Encoding : okFn P a_palioref11_Set_Encoding Tryz.f22 1 = true := by kernel_rfl
theorem k_palioref11_Set_Encoding {a0_s : Value} {H : Heap} {K : Value → Heap → Prop} (h : c_palioref11_Set_Encoding a0_s H K) : CallH P f_palioref11_Set_Encoding [a0_s] H K :=
  call_of_bodyX Tryz.func22 ok_palioref11_Set_Encoding ((e_palioref11_Set_Encoding a0_s H K).mpr h)

/-- (*palio/zset.Set).Bytes -/
def c_zset_Set_Bytes (a0_s : Value) (H : Heap) (K : Value → Heap → Prop) : Prop :=
  EqP P T_p_zset_Set true H a0_s (.pointer none) fun b_1 =>
  SplitP (.bool b_1)
    (K (.int .i64 0) H)
    (NilP a0_s fun t_2 =>
    FieldAddrP 0 t_2 fun t_3 =>
    LoadP none H t_3 fun t_4 =>
    InvokeP P t_4 "palio/zset.bytes" [] H fun t_5 H6 =>
    K t_5 H6)

def a_zset_Set_Bytes : Ann := []

theorem e_zset_Set_Bytes (a0_s : Value) (H : Heap) (K : Value → Heap → Prop) : bodyX P a_zset_Set_Bytes (bodyOf Tryz.f23) Tryz.f23.results.toList [a0_s] H K = c_zset_Set_Bytes a0_s H K := by kernel_rfl

theorem ok_zset_Set_Bytes : okFn P a_zset_Set_Bytes Tryz.f23 1 = true := by kernel_rfl
theorem k_zset_Set_Bytes {a0_s : Value} {H : Heap} {K : Value → Heap → Prop} (h : c_zset_Set_Bytes a0_s H K) : CallH P f_zset_Set_Bytes [a0_s] H K :=
  call_of_bodyX Tryz.func23 ok_zset_Set_Bytes ((e_zset_Set_Bytes a0_s H K).mpr h)

/-- (*palio/palioref11.Set).Bytes -/
def c_palioref11_Set_Bytes (a0_s : Value) (H : Heap) (K : Value → Heap → Prop) : Prop :=
  JoinP (S := (Value) × List Deferred) (G := Tup 4)
    (fun s_1 g_1 H1 =>
    LoopP (S := (Value × Value) × List Deferred) (G := Tup 32)
      (fun s_2 g_2 self_2 H2 =>
      NilP a0_s fun t_3 =>
      FieldAddrP 0 t_3 fun t_4 =>
      LoadP none H2 t_4 fun t_5 =>
      LenP t_5 fun t_6 =>
      BinP .lss s_2.1.2 t_6 fun t_7 =>
      SplitP t_7
        (NilP a0_s fun t_8 =>
        FieldAddrP 0 t_8 fun t_9 =>
        LoadP none H2 t_9 fun t_10 =>
        IdxSliceP 2 t_10 s_2.1.2 fun t_11 =>
        FieldAddrP 0 t_11 fun t_12 =>
        LoadP none H2 t_12 fun t_13 =>
        LenStrP t_13 fun t_14 =>
        NilP a0_s fun t_15 =>
        FieldAddrP 3 t_15 fun t_16 =>
        LoadP none H2 t_16 fun t_17 =>
        SplitP t_17
          (BinP .add s_2.1.1 (.int .i64 64) fun t_18 =>
          BinP .mul (.int .i64 2) t_14 fun t_19 =>
          BinP .add t_18 t_19 fun t_20 =>
          BinP .add s_2.1.2 (.int .i64 1) fun t_21 =>
          self_2 ((t_20, t_21), s_2.2) H2)
          (BinP .add s_2.1.1 (.int .i64 10) fun t_22 =>
          BinP .add t_22 t_14 fun t_23 =>
          BinP .add s_2.1.2 (.int .i64 1) fun t_24 =>
          self_2 ((t_23, t_24), s_2.2) H2))
        (RetP s_2.2 H2 fun H25 =>
        K s_2.1.1 H25))
      ((s_1.1, (.int .i64 0)), s_1.2) H1)
    (fun J_1 =>
    NilP a0_s fun t_26 =>
    FieldAddrP 3 t_26 fun t_27 =>
    LoadP none H t_27 fun t_28 =>
    SplitP t_28
      (J_1 ((.int .i64 0), []) H)
      (J_1 ((.int .i64 2), []) H))

def a_palioref11_Set_Bytes : Ann := [(9, [3], [6, 7, 8, 9]), (10, [3, 4], [5, 10, 11, 12, 13, 14, 15, 16, 17, 18, 19, 20, 21, 22, 23, 24, 25, 26, 27, 28, 29, 30, 31, 32, 33, 34, 35, 36, 37, 38, 39, 40])]

theorem e_palioref11_Set_Bytes (a0_s : Value) (H : Heap) (K : Value → Heap → Prop) : bodyX P a_palioref11_Set_Bytes (bodyOf Tryz.f24) Tryz.f24.results.toList [a0_s] H K = c_palioref11_Set_Bytes a0_s H K := by kernel_rfl

theorem ok_palioref11_Set_Bytes : okFn P a_palioref11_Set_Bytes Tryz.f24 1 = true := by kernel_rfl
theorem k_palioref11_Set_Bytes {a0_s : Value} {H : Heap} {K : Value → Heap → Prop} (h : c_palioref11_Set_Bytes a0_s H K) : CallH P f_palioref11_Set_Bytes [a0_s] H K :=
  call_of_bodyX Tryz.func24 ok_palioref11_Set_Bytes ((e_palioref11_Set_Bytes a0_s H K).mpr h)

/-- palio/palioref05.Find -/
def c_palioref05_Find (a0_l : Value) (a1_member : Value) (H : Heap) (K : Value → Heap → Prop) : Prop :=
  LoopP (S := (Value) × List Deferred) (G := Tup 15)
    (fun s_1 g_1 self_1 H1 =>
    LenP a0_l fun t_2 =>
    BinP .lss s_1.1 t_2 fun t_3 =>
    SplitP t_3
      (IdxSliceP 2 a0_l s_1.1 fun t_4 =>
      FieldAddrP 0 t_4 fun t_5 =>
      LoadP none H1 t_5 fun t_6 =>
      BinP .eql t_6 a1_member fun t_7 =>
      SplitP t_7
        (RetP s_1.2 H1 fun H8 =>
        K s_1.1 H8)
        (BinP .add s_1.1 (.int .i64 1) fun t_9 =>
        self_1 (t_9, s_1.2) H1))
      (RetP s_1.2 H1 fun H10 =>
      K (.int .i64 (-1)) H10))
    ((.int .i64 0), []) H

def a_palioref05_Find : Ann := [(4, [5], [4, 6, 7, 8, 9, 10, 11, 12, 13, 14, 15, 16, 17, 18, 19])]

theorem e_palioref05_Find (a0_l : Value) (a1_member : Value) (H : Heap) (K : Value → Heap → Prop) : bodyX P a_palioref05_Find (bodyOf Tryz.f25) Tryz.f25.results.toList [a0_l, a1_member] H K = c_palioref05_Find a0_l a1_member H K := by kernel_rfl

theorem ok_palioref05_Find : okFn P a_palioref05_Find Tryz.f25 2 = true := by kernel_rfl
theorem k_palioref05_Find {a0_l a1_member : Value} {H : Heap} {K : Value → Heap → Prop} (h : c_palioref05_Find a0_l a1_member H K) : CallH P f_palioref05_Find [a0_l, a1_member] H K :=
  call_of_bodyX Tryz.func25 ok_palioref05_Find ((e_palioref05_Find a0_l a1_member H K).mpr h)

/-- (*palio/zset.Set).Rank -/
def c_zset_Set_Rank (a0_s : Value) (a1_member : Value) (H : Heap) (K : Value → Heap → Prop) : Prop :=
  CallH P f_zset_Set_Score [a0_s, a1_member] H fun t_1 H2 =>
  ExtractP t_1 0 fun t_3 =>
  ExtractP t_1 1 fun t_4 =>
  UnP .not t_4 fun t_5 =>
  SplitP t_5
    (K (.tuple #[(.int .i64 0), (.bool false)]) H2)
    (BuildP [(.string ⟨#[]⟩), (.int .i64 0)] [(0, none, a1_member), (1, none, t_3)] fun t_6 =>
    AllocP #[(.string ⟨#[]⟩), (.int .i64 0)] T_api_Entry H2 fun want_7 H8 =>
    StoreP (some 2) H8 want_7 (.agg t_6.toArray) fun H9 =>
    CallH P f_zset_Set_place [a0_s, (.func (.func f_zset_Set_Rank_1) #[] #[want_7])] H9 fun t_10 H11 =>
    K (.tuple #[t_10, (.bool true)]) H11)

def a_zset_Set_Rank : Ann := []

theorem e_zset_Set_Rank (a0_s : Value) (a1_member : Value) (H : Heap) (K : Value → Heap → Prop) : bodyX P a_zset_Set_Rank (bodyOf Tryz.f26) Tryz.f26.results.toList [a0_s, a1_member] H K = c_zset_Set_Rank a0_s a1_member H K := by kernel_rfl

theorem ok_zset_Set_Rank : okFn P a_zset_Set_Rank Tryz.f26 2 = true := by kernel_rfl
theorem k_zset_Set_Rank {a0_s a1_member : Value} {H : Heap} {K : Value → Heap → Prop} (h : c_zset_Set_Rank a0_s a1_member H K) : CallH P f_zset_Set_Rank [a0_s, a1_member] H K :=
  call_of_bodyX Tryz.func26 ok_zset_Set_Rank ((e_zset_Set_Rank a0_s a1_member H K).mpr h)

/-- (*palio/zset.Set).Score -/
def c_zset_Set_Score (a0_s : Value) (a1_member : Value) (H : Heap) (K : Value → Heap → Prop) : Prop :=
  EqP P T_p_zset_Set true H a0_s (.pointer none) fun b_1 =>
  SplitP (.bool b_1)
    (K (.tuple #[(.int .i64 0), (.bool false)]) H)
    (NilP a0_s fun t_2 =>
    FieldAddrP 0 t_2 fun t_3 =>
    LoadP none H t_3 fun t_4 =>
    InvokeP P t_4 "palio/zset.score" [a1_member] H fun t_5 H6 =>
    ExtractP t_5 0 fun t_7 =>
    ExtractP t_5 1 fun t_8 =>
    K (.tuple #[t_7, t_8]) H6)

def a_zset_Set_Score : Ann := []

theorem e_zset_Set_Score (a0_s : Value) (a1_member : Value) (H : Heap) (K : Value → Heap → Prop) : bodyX P a_zset_Set_Score (bodyOf Tryz.f27) Tryz.f27.results.toList [a0_s, a1_member] H K = c_zset_Set_Score a0_s a1_member H K := by kernel_rfl

theorem ok_zset_Set_Score : okFn P a_zset_Set_Score Tryz.f27 2 = true := by kernel_rfl
theorem k_zset_Set_Score {a0_s a1_member : Value} {H : Heap} {K : Value → Heap → Prop} (h : c_zset_Set_Score a0_s a1_member H K) : CallH P f_zset_Set_Score [a0_s, a1_member] H K :=
  call_of_bodyX Tryz.func27 ok_zset_Set_Score ((e_zset_Set_Score a0_s a1_member H K).mpr h)

/-- (*palio/zset.Set).Cut -/
def c_zset_Set_Cut (a0_s : Value) (a1_from : Value) (a2_to : Value) (H : Heap) (K : Value → Heap → Prop) : Prop :=
  EqP P T_p_zset_Set true H a0_s (.pointer none) fun b_1 =>
  SplitP (.bool b_1)
    (K (.int .i64 0) H)
    (NilP a0_s fun t_2 =>
    FieldAddrP 0 t_2 fun t_3 =>
    LoadP none H t_3 fun t_4 =>
    InvokeP P t_4 "Cut" [a1_from, a2_to] H fun t_5 H6 =>
    K t_5 H6)

def a_zset_Set_Cut : Ann := []

theorem e_zset_Set_Cut (a0_s : Value) (a1_from : Value) (a2_to : Value) (H : Heap) (K : Value → Heap → Prop) : bodyX P a_zset_Set_Cut (bodyOf Tryz.f28) Tryz.f28.results.toList [a0_s, a1_from, a2_to] H K = c_zset_Set_Cut a0_s a1_from a2_to H K := by kernel_rfl

theorem ok_zset_Set_Cut : okFn P a_zset_Set_Cut Tryz.f28 3 = true := by kernel_rfl
theorem k_zset_Set_Cut {a0_s a1_from a2_to : Value} {H : Heap} {K : Value → Heap → Prop} (h : c_zset_Set_Cut a0_s a1_from a2_to H K) : CallH P f_zset_Set_Cut [a0_s, a1_from, a2_to] H K :=
  call_of_bodyX Tryz.func28 ok_zset_Set_Cut ((e_zset_Set_Cut a0_s a1_from a2_to H K).mpr h)

/-- palio/paliolaw11.made -/
def c_paliolaw11_made (a0_limits : Value) (a1_seed : Value) (a2_l : Value) (H : Heap) (K : Value → Heap → Prop) : Prop :=
  BoxP (some 2) T_api_Limits a0_limits H fun limits_1 H2 =>
  LoadP (some 2) H2 limits_1 fun t_3 =>
  CallH P f_zset_New [t_3, a1_seed] H2 fun t_4 H5 =>
  LoadP (some 2) H5 limits_1 fun t_6 =>
  CallH P f_palioref11_New [t_6] H5 fun t_7 H8 =>
  LoopP (S := (Value) × List Deferred) (G := Tup 17)
    (fun s_9 g_9 self_9 H9 =>
    LenP a2_l fun t_10 =>
    BinP .lss s_9.1 t_10 fun t_11 =>
    SplitP t_11
      (BinP .lss s_9.1 (.int .i64 100) fun t_12 =>
      SplitP t_12
        (IdxSliceP 6 a2_l s_9.1 fun t_13 =>
        LoadP (some 6) H9 t_13 fun t_14 =>
        CallH P f_paliolaw11_did [t_4, t_7, t_14] H9 fun t_15 H16 =>
        BinP .add s_9.1 (.int .i64 1) fun t_17 =>
        self_9 (t_17, s_9.2) H16)
        (RetP s_9.2 H9 fun H18 =>
        K (.tuple #[t_4, t_7]) H18))
      (RetP s_9.2 H9 fun H19 =>
      K (.tuple #[t_4, t_7]) H19))
    ((.int .i64 0), []) H8

def a_paliolaw11_made : Ann := [(8, [10], [16, 17, 18, 19, 20, 21, 22, 23, 24, 25, 26, 27, 28, 29, 30, 31, 32])]

theorem e_paliolaw11_made (a0_limits : Value) (a1_seed : Value) (a2_l : Value) (H : Heap) (K : Value → Heap → Prop) : bodyX P a_paliolaw11_made (bodyOf Tryz.f29) Tryz.f29.results.toList [a0_limits, a1_seed, a2_l] H K = c_paliolaw11_made a0_limits a1_seed a2_l H K := by kernel_rfl

theorem ok_paliolaw11_made : okFn P a_paliolaw11_made Tryz.f29 3 = true := by kernel_rfl
theorem k_paliolaw11_made {a0_limits a1_seed a2_l : Value} {H : Heap} {K : Value → Heap → Prop} (h : c_paliolaw11_made a0_limits a1_seed a2_l H K) : CallH P f_paliolaw11_made [a0_limits, a1_seed, a2_l] H K :=
  call_of_bodyX Tryz.func29 ok_paliolaw11_made ((e_paliolaw11_made a0_limits a1_seed a2_l H K).mpr h)

/-- (*palio/zset.Set).Between -/
def c_zset_Set_Between (a0_s : Value) (a1_from : Value) (a2_to : Value) (H : Heap) (K : Value → Heap → Prop) : Prop :=
  BoxP (some 3) T_api_Bound a1_from H fun fromx_1 H2 =>
  BoxP (some 3) T_api_Bound a2_to H2 fun tox_3 H4 =>
  EqP P T_p_zset_Set true H4 a0_s (.pointer none) fun b_5 =>
  SplitP (.bool b_5)
    (K (.tuple #[(.int .i64 0), (.int .i64 0)]) H4)
    (BuildP [(.int .i64 0), (.bool false), (.int .i64 0)] [(2, none, (.int .i64 (-1)))] fun t_6 =>
    BuildP [(.int .i64 0), (.bool false), (.int .i64 0)] [(2, none, (.int .i64 1))] fun t_7 =>
    AllocP #[(.int .i64 0), (.bool false), (.int .i64 0)] T_api_Bound H4 fun least_8 H9 =>
    AllocP #[(.int .i64 0), (.bool false), (.int .i64 0)] T_api_Bound H9 fun most_10 H11 =>
    StoreP (some 3) H11 least_8 (.agg t_6.toArray) fun H12 =>
    StoreP (some 3) H12 most_10 (.agg t_7.toArray) fun H13 =>
    CallH P f_zset_Set_place [a0_s, (.func (.func f_zset_Set_Between_1) #[] #[fromx_1, most_10])] H13 fun t_14 H15 =>
    CallH P f_zset_Set_place [a0_s, (.func (.func f_zset_Set_Between_2) #[] #[least_8, tox_3])] H15 fun t_16 H17 =>
    MaxP t_14 [t_16] fun t_18 =>
    K (.tuple #[t_14, t_18]) H17)

def a_zset_Set_Between : Ann := []

theorem e_zset_Set_Between (a0_s : Value) (a1_from : Value) (a2_to : Value) (H : Heap) (K : Value → Heap → Prop) : bodyX P a_zset_Set_Between (bodyOf Tryz.f30) Tryz.f30.results.toList [a0_s, a1_from, a2_to] H K = c_zset_Set_Between a0_s a1_from a2_to H K := by kernel_rfl

theorem ok_zset_Set_Between : okFn P a_zset_Set_Between Tryz.f30 3 = true := by kernel_rfl
theorem k_zset_Set_Between {a0_s a1_from a2_to : Value} {H : Heap} {K : Value → Heap → Prop} (h : c_zset_Set_Between a0_s a1_from a2_to H K) : CallH P f_zset_Set_Between [a0_s, a1_from, a2_to] H K :=
  call_of_bodyX Tryz.func30 ok_zset_Set_Between ((e_zset_Set_Between a0_s a1_from a2_to H K).mpr h)

/-- (*palio/palioref11.Set).Between -/
def c_palioref11_Set_Between (a0_s : Value) (a1_from : Value) (a2_to : Value) (H : Heap) (K : Value → Heap → Prop) : Prop :=
  BoxP (some 3) T_api_Bound a1_from H fun fromx_1 H2 =>
  BoxP (some 3) T_api_Bound a2_to H2 fun tox_3 H4 =>
  JoinP (S := (Value) × List Deferred) (G := Tup 23)
    (fun s_5 g_5 H5 =>
    LoopP (S := (Value) × List Deferred) (G := Tup 22)
      (fun s_6 g_6 self_6 H6 =>
      NilP a0_s fun t_7 =>
      FieldAddrP 0 t_7 fun t_8 =>
      LoadP none H6 t_8 fun t_9 =>
      LenP t_9 fun t_10 =>
      BinP .lss s_6.1 t_10 fun t_11 =>
      SplitP t_11
        (NilP a0_s fun t_12 =>
        FieldAddrP 0 t_12 fun t_13 =>
        LoadP none H6 t_13 fun t_14 =>
        IdxSliceP 2 t_14 s_6.1 fun t_15 =>
        FieldAddrP 1 t_15 fun t_16 =>
        LoadP none H6 t_16 fun t_17 =>
        LoadP (some 3) H6 fromx_1 fun t_18 =>
        LoadP (some 3) H6 tox_3 fun t_19 =>
        CallH P f_palioref09_In [t_17, t_18, t_19] H6 fun t_20 H21 =>
        SplitP t_20
          (BinP .add s_6.1 (.int .i64 1) fun t_22 =>
          self_6 (t_22, s_6.2) H21)
          (RetP s_6.2 H21 fun H23 =>
          K (.tuple #[s_5.1, s_6.1]) H23))
        (RetP s_6.2 H6 fun H24 =>
        K (.tuple #[s_5.1, s_6.1]) H24))
      (s_5.1, s_5.2) H5)
    (fun J_5 =>
    LoopP (S := (Value) × List Deferred) (G := Tup 23)
      (fun s_25 g_25 self_25 H25 =>
      NilP a0_s fun t_26 =>
      FieldAddrP 0 t_26 fun t_27 =>
      LoadP none H25 t_27 fun t_28 =>
      LenP t_28 fun t_29 =>
      BinP .lss s_25.1 t_29 fun t_30 =>
      SplitP t_30
        (NilP a0_s fun t_31 =>
        FieldAddrP 0 t_31 fun t_32 =>
        LoadP none H25 t_32 fun t_33 =>
        IdxSliceP 2 t_33 s_25.1 fun t_34 =>
        FieldAddrP 1 t_34 fun t_35 =>
        LoadP none H25 t_35 fun t_36 =>
        LoadP (some 3) H25 fromx_1 fun t_37 =>
        BuildP [(.int .i64 0), (.bool false), (.int .i64 0)] [(2, none, (.int .i64 1))] fun t_38 =>
        CallH P f_palioref09_In [t_36, t_37, (.agg t_38.toArray)] H25 fun t_39 H40 =>
        UnP .not t_39 fun t_41 =>
        SplitP t_41
          (BinP .add s_25.1 (.int .i64 1) fun t_42 =>
          self_25 (t_42, s_25.2) H40)
          (J_5 (s_25.1, s_25.2) H40))
        (J_5 (s_25.1, s_25.2) H25))
      ((.int .i64 0), []) H4)

def a_palioref11_Set_Between : Ann := [(4, [8], [10, 11, 12, 13, 14, 15, 16, 17, 18, 19, 20, 21, 22, 23, 24, 25, 26, 27, 28, 29, 30, 31, 32]), (9, [8], [10, 11, 12, 13, 14, 15, 16, 17, 18, 19, 20, 21, 22, 23, 24, 25, 26, 27, 28, 29, 30, 31, 32]), (10, [9], [34, 35, 36, 37, 38, 39, 40, 41, 42, 43, 44, 45, 46, 47, 48, 49, 50, 51, 52, 53, 54, 55])]

theorem e_palioref11_Set_Between (a0_s : Value) (a1_from : Value) (a2_to : Value) (H : Heap) (K : Value → Heap → Prop) : bodyX P a_palioref11_Set_Between (bodyOf Tryz.f31) Tryz.f31.results.toList [a0_s, a1_from, a2_to] H K = c_palioref11_Set_Between a0_s a1_from a2_to H K := by kernel_rfl

theorem ok_palioref11_Set_Between : okFn P a_palioref11_Set_Between Tryz.f31 3 = true := by kernel_rfl
theorem k_palioref11_Set_Between {a0_s a1_from a2_to : Value} {H : Heap} {K : Value → Heap → Prop} (h : c_palioref11_Set_Between a0_s a1_from a2_to H K) : CallH P f_palioref11_Set_Between [a0_s, a1_from, a2_to] H K :=
  call_of_bodyX Tryz.func31 ok_palioref11_Set_Between ((e_palioref11_Set_Between a0_s a1_from a2_to H K).mpr h)

end Go.X.W
