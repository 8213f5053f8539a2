/- Facts about the types that the words name, printed by a program of our own. -/
import Derived.Test.YtochkahbnhegaaaGreatZS3
set_option linter.unusedVariables false
set_option linter.unusedSimpArgs false
set_option maxRecDepth 100000
namespace Go.X.W
open Go Go.X Go.Proofs
theorem ok_int64 : okT P 2 = true := by kernel_rfl
theorem sz_int64 : sizeT P 2 = 1 := by kernel_rfl
theorem by_int64 : bytesT P 2 = 8 := by kernel_rfl
theorem ze_int64 : (zeroT P 2).cells = #[(.int .i64 0)] := by kernel_rfl
theorem ok_int : okT P 3 = true := by kernel_rfl
theorem sz_int : sizeT P 3 = 1 := by kernel_rfl
theorem by_int : bytesT P 3 = 8 := by kernel_rfl
theorem ze_int : (zeroT P 3).cells = #[(.int .i64 0)] := by kernel_rfl
theorem ok_bool : okT P 4 = true := by kernel_rfl
theorem sz_bool : sizeT P 4 = 1 := by kernel_rfl
theorem by_bool : bytesT P 4 = 1 := by kernel_rfl
theorem ze_bool : (zeroT P 4).cells = #[(.bool false)] := by kernel_rfl
theorem q_bool {c : Bool} {H : Heap} {a b : Bool} {K : Bool → Prop} : EqP P 4 c H (.bool a) (.bool b) K = K (a == b) := EqP.eq (eq_bool (by kernel_rfl) a b)
theorem ok_uint8 : okT P 5 = true := by kernel_rfl
theorem sz_uint8 : sizeT P 5 = 1 := by kernel_rfl
theorem by_uint8 : bytesT P 5 = 1 := by kernel_rfl
theorem ze_uint8 : (zeroT P 5).cells = #[(.int .u8 0)] := by kernel_rfl
theorem ok_string : okT P 9 = true := by kernel_rfl
theorem sz_string : sizeT P 9 = 1 := by kernel_rfl
theorem by_string : bytesT P 9 = 16 := by kernel_rfl
theorem ze_string : (zeroT P 9).cells = #[(.string ⟨#[]⟩)] := by kernel_rfl
theorem ok_api_Limits : okT P 23 = true := by kernel_rfl
theorem sz_api_Limits : sizeT P 23 = 2 := by kernel_rfl
theorem by_api_Limits : bytesT P 23 = 16 := by kernel_rfl
theorem ze_api_Limits : (zeroT P 23).cells = #[(.int .i64 0), (.int .i64 0)] := by kernel_rfl
theorem q_api_Limits {c : Bool} {H : Heap} {x y : Int} {u v : Int} {K : Bool → Prop} : EqP P 23 c H (.agg #[.int .i64 x, .int .i64 u]) (.agg #[.int .i64 y, .int .i64 v]) K = K (decide (x = y) && decide (u = v)) :=
  EqP.eq (eq_struct2 (f1 := ⟨ "Entries", 3, 0, false, "", "", 0⟩) (f2 := ⟨ "Member", 3, 1, false, "", "", 8⟩) (by kernel_rfl) (by kernel_rfl) (by kernel_rfl) (by decide) (by decide) rfl rfl (by kernel_rfl) (by kernel_rfl) (by kernel_rfl) (by kernel_rfl) (isScal_of (u := TypeDesc.int .i64) (by kernel_rfl) rfl) (isScal_of (u := TypeDesc.int .i64) (by kernel_rfl) rfl) (by first | rfl | simp [scalEq]) (by first | rfl | simp [scalEq]))
theorem ok_uint32 : okT P 24 = true := by kernel_rfl
theorem sz_uint32 : sizeT P 24 = 1 := by kernel_rfl
theorem by_uint32 : bytesT P 24 = 4 := by kernel_rfl
theorem ze_uint32 : (zeroT P 24).cells = #[(.int .u32 0)] := by kernel_rfl
theorem ok_p_zset_Set : okT P 27 = true := by kernel_rfl
theorem sz_p_zset_Set : sizeT P 27 = 1 := by kernel_rfl
theorem by_p_zset_Set : bytesT P 27 = 8 := by kernel_rfl
theorem ze_p_zset_Set : (zeroT P 27).cells = #[(.pointer none)] := by kernel_rfl
theorem u_p_zset_Set : P.underlying 27 = some (.pointer 79) := by kernel_rfl
theorem q1_p_zset_Set {c : Bool} {H : Heap} {a : Addr} {K : Bool → Prop} : EqP P 27 c H (.pointer (some a)) (.pointer none) K = K false := EqP.eq (eq_ptr_nil u_p_zset_Set (some a))
theorem q0_p_zset_Set {c : Bool} {H : Heap} {K : Bool → Prop} : EqP P 27 c H (.pointer none) (.pointer none) K = K true := EqP.eq (eq_ptr_nil u_p_zset_Set none)
theorem q2_p_zset_Set {c : Bool} {H : Heap} {b o b' o' : Nat} {cs cs' : List Value} {K : Bool → Prop} (h : Blk H b cs) (h' : Blk H b' cs') : EqP P 27 c H (.pointer (some ⟨b, o, none⟩)) (.pointer (some ⟨b', o', none⟩)) K = K (decide (b = b' ∧ o = o')) := EqP.eq (eq_ptr u_p_zset_Set (by kernel_rfl) (le_sz 3 (by kernel_rfl)) h h')
theorem ok_paliolaw11_Act : okT P 30 = true := by kernel_rfl
theorem sz_paliolaw11_Act : sizeT P 30 = 6 := by kernel_rfl
theorem by_paliolaw11_Act : bytesT P 30 = 56 := by kernel_rfl
theorem ze_paliolaw11_Act : (zeroT P 30).cells = #[(.int .i64 0), (.string ⟨#[]⟩), (.int .i64 0), (.int .i64 0), (.int .i64 0), (.int .i64 0)] := by kernel_rfl
theorem ok_s_api_Entry : okT P 43 = true := by kernel_rfl
theorem sz_s_api_Entry : sizeT P 43 = 1 := by kernel_rfl
theorem by_s_api_Entry : bytesT P 43 = 24 := by kernel_rfl
theorem ze_s_api_Entry : (zeroT P 43).cells = #[(.slice none 0 0)] := by kernel_rfl
theorem u_s_api_Entry : P.underlying 43 = some (.slice 54) := by kernel_rfl
theorem q1_s_api_Entry {c : Bool} {H : Heap} {a : Addr} {n m k l : Nat} {K : Bool → Prop} : EqP P 43 c H (.slice (some a) n m) (.slice none k l) K = K false := EqP.eq (eq_slice_nil u_s_api_Entry (some a) n m k l)
theorem q0_s_api_Entry {c : Bool} {H : Heap} {n m k l : Nat} {K : Bool → Prop} : EqP P 43 c H (.slice none n m) (.slice none k l) K = K true := EqP.eq (eq_slice_nil u_s_api_Entry none n m k l)
theorem ok_palioref11_Set : okT P 45 = true := by kernel_rfl
theorem sz_palioref11_Set : sizeT P 45 = 4 := by kernel_rfl
theorem by_palioref11_Set : bytesT P 45 = 48 := by kernel_rfl
theorem ze_palioref11_Set : (zeroT P 45).cells = #[(.slice none 0 0), (.int .i64 0), (.int .i64 0), (.bool false)] := by kernel_rfl
theorem ok_api_Entry : okT P 54 = true := by kernel_rfl
theorem sz_api_Entry : sizeT P 54 = 2 := by kernel_rfl
theorem by_api_Entry : bytesT P 54 = 24 := by kernel_rfl
theorem ze_api_Entry : (zeroT P 54).cells = #[(.string ⟨#[]⟩), (.int .i64 0)] := by kernel_rfl
theorem q_api_Entry {c : Bool} {H : Heap} {x y : ByteArray} {u v : Int} {K : Bool → Prop} : EqP P 54 c H (.agg #[.string x, .int .i64 u]) (.agg #[.string y, .int .i64 v]) K = K (decide (x = y) && decide (u = v)) :=
  EqP.eq (eq_struct2 (f1 := ⟨ "Member", 9, 0, false, "", "", 0⟩) (f2 := ⟨ "Score", 2, 1, false, "", "", 16⟩) (by kernel_rfl) (by kernel_rfl) (by kernel_rfl) (by decide) (by decide) rfl rfl (by kernel_rfl) (by kernel_rfl) (by kernel_rfl) (by kernel_rfl) (isScal_of (u := TypeDesc.string) (by kernel_rfl) rfl) (isScal_of (u := TypeDesc.int .i64) (by kernel_rfl) rfl) (by first | rfl | simp [scalEq]) (by first | rfl | simp [scalEq]))
theorem ok_s_uint8 : okT P 61 = true := by kernel_rfl
theorem sz_s_uint8 : sizeT P 61 = 1 := by kernel_rfl
theorem by_s_uint8 : bytesT P 61 = 24 := by kernel_rfl
theorem ze_s_uint8 : (zeroT P 61).cells = #[(.slice none 0 0)] := by kernel_rfl
theorem u_s_uint8 : P.underlying 61 = some (.slice 5) := by kernel_rfl
theorem q1_s_uint8 {c : Bool} {H : Heap} {a : Addr} {n m k l : Nat} {K : Bool → Prop} : EqP P 61 c H (.slice (some a) n m) (.slice none k l) K = K false := EqP.eq (eq_slice_nil u_s_uint8 (some a) n m k l)
theorem q0_s_uint8 {c : Bool} {H : Heap} {n m k l : Nat} {K : Bool → Prop} : EqP P 61 c H (.slice none n m) (.slice none k l) K = K true := EqP.eq (eq_slice_nil u_s_uint8 none n m k l)
theorem ok_api_Bound : okT P 65 = true := by kernel_rfl
theorem sz_api_Bound : sizeT P 65 = 3 := by kernel_rfl
theorem by_api_Bound : bytesT P 65 = 24 := by kernel_rfl
theorem ze_api_Bound : (zeroT P 65).cells = #[(.int .i64 0), (.bool false), (.int .i64 0)] := by kernel_rfl
theorem ok_api_Edge : okT P 68 = true := by kernel_rfl
theorem sz_api_Edge : sizeT P 68 = 3 := by kernel_rfl
theorem by_api_Edge : bytesT P 68 = 32 := by kernel_rfl
theorem ze_api_Edge : (zeroT P 68).cells = #[(.string ⟨#[]⟩), (.bool false), (.int .i64 0)] := by kernel_rfl
theorem ok_p_zset_packed : okT P 73 = true := by kernel_rfl
theorem sz_p_zset_packed : sizeT P 73 = 1 := by kernel_rfl
theorem by_p_zset_packed : bytesT P 73 = 8 := by kernel_rfl
theorem ze_p_zset_packed : (zeroT P 73).cells = #[(.pointer none)] := by kernel_rfl
theorem u_p_zset_packed : P.underlying 73 = some (.pointer 75) := by kernel_rfl
theorem q1_p_zset_packed {c : Bool} {H : Heap} {a : Addr} {K : Bool → Prop} : EqP P 73 c H (.pointer (some a)) (.pointer none) K = K false := EqP.eq (eq_ptr_nil u_p_zset_packed (some a))
theorem q0_p_zset_packed {c : Bool} {H : Heap} {K : Bool → Prop} : EqP P 73 c H (.pointer none) (.pointer none) K = K true := EqP.eq (eq_ptr_nil u_p_zset_packed none)
theorem q2_p_zset_packed {c : Bool} {H : Heap} {b o b' o' : Nat} {cs cs' : List Value} {K : Bool → Prop} (h : Blk H b cs) (h' : Blk H b' cs') : EqP P 73 c H (.pointer (some ⟨b, o, none⟩)) (.pointer (some ⟨b', o', none⟩)) K = K (decide (b = b' ∧ o = o')) := EqP.eq (eq_ptr u_p_zset_packed (by kernel_rfl) (le_sz 0 (by kernel_rfl)) h h')
theorem ok_zset_packed : okT P 75 = true := by kernel_rfl
theorem sz_zset_packed : sizeT P 75 = 1 := by kernel_rfl
theorem by_zset_packed : bytesT P 75 = 16 := by kernel_rfl
theorem ze_zset_packed : (zeroT P 75).cells = #[(.string ⟨#[]⟩)] := by kernel_rfl
theorem ok_zset_Set : okT P 79 = true := by kernel_rfl
theorem sz_zset_Set : sizeT P 79 = 4 := by kernel_rfl
theorem by_zset_Set : bytesT P 79 = 40 := by kernel_rfl
theorem ze_zset_Set : (zeroT P 79).cells = #[.nilIface, (.int .i64 0), (.int .i64 0), (.int .u32 0)] := by kernel_rfl
theorem ok_p_zset_listed : okT P 82 = true := by kernel_rfl
theorem sz_p_zset_listed : sizeT P 82 = 1 := by kernel_rfl
theorem by_p_zset_listed : bytesT P 82 = 8 := by kernel_rfl
theorem ze_p_zset_listed : (zeroT P 82).cells = #[(.pointer none)] := by kernel_rfl
theorem u_p_zset_listed : P.underlying 82 = some (.pointer 98) := by kernel_rfl
theorem q1_p_zset_listed {c : Bool} {H : Heap} {a : Addr} {K : Bool → Prop} : EqP P 82 c H (.pointer (some a)) (.pointer none) K = K false := EqP.eq (eq_ptr_nil u_p_zset_listed (some a))
theorem q0_p_zset_listed {c : Bool} {H : Heap} {K : Bool → Prop} : EqP P 82 c H (.pointer none) (.pointer none) K = K true := EqP.eq (eq_ptr_nil u_p_zset_listed none)
theorem q2_p_zset_listed {c : Bool} {H : Heap} {b o b' o' : Nat} {cs cs' : List Value} {K : Bool → Prop} (h : Blk H b cs) (h' : Blk H b' cs') : EqP P 82 c H (.pointer (some ⟨b, o, none⟩)) (.pointer (some ⟨b', o', none⟩)) K = K (decide (b = b' ∧ o = o')) := EqP.eq (eq_ptr u_p_zset_listed (by kernel_rfl) (le_sz 1 (by kernel_rfl)) h h')
theorem ok_func_api_Entry_bool : okT P 86 = true := by kernel_rfl
theorem sz_func_api_Entry_bool : sizeT P 86 = 1 := by kernel_rfl
theorem by_func_api_Entry_bool : bytesT P 86 = 8 := by kernel_rfl
theorem ze_func_api_Entry_bool : (zeroT P 86).cells = #[.nilFunc] := by kernel_rfl
theorem ok_s_string : okT P 92 = true := by kernel_rfl
theorem sz_s_string : sizeT P 92 = 1 := by kernel_rfl
theorem by_s_string : bytesT P 92 = 24 := by kernel_rfl
theorem ze_s_string : (zeroT P 92).cells = #[(.slice none 0 0)] := by kernel_rfl
theorem u_s_string : P.underlying 92 = some (.slice 9) := by kernel_rfl
theorem q1_s_string {c : Bool} {H : Heap} {a : Addr} {n m k l : Nat} {K : Bool → Prop} : EqP P 92 c H (.slice (some a) n m) (.slice none k l) K = K false := EqP.eq (eq_slice_nil u_s_string (some a) n m k l)
theorem q0_s_string {c : Bool} {H : Heap} {n m k l : Nat} {K : Bool → Prop} : EqP P 92 c H (.slice none n m) (.slice none k l) K = K true := EqP.eq (eq_slice_nil u_s_string none n m k l)
theorem ok_p_skip_List : okT P 95 = true := by kernel_rfl
theorem sz_p_skip_List : sizeT P 95 = 1 := by kernel_rfl
theorem by_p_skip_List : bytesT P 95 = 8 := by kernel_rfl
theorem ze_p_skip_List : (zeroT P 95).cells = #[(.pointer none)] := by kernel_rfl
theorem u_p_skip_List : P.underlying 95 = some (.pointer 134) := by kernel_rfl
theorem q1_p_skip_List {c : Bool} {H : Heap} {a : Addr} {K : Bool → Prop} : EqP P 95 c H (.pointer (some a)) (.pointer none) K = K false := EqP.eq (eq_ptr_nil u_p_skip_List (some a))
theorem q0_p_skip_List {c : Bool} {H : Heap} {K : Bool → Prop} : EqP P 95 c H (.pointer none) (.pointer none) K = K true := EqP.eq (eq_ptr_nil u_p_skip_List none)
theorem q2_p_skip_List {c : Bool} {H : Heap} {b o b' o' : Nat} {cs cs' : List Value} {K : Bool → Prop} (h : Blk H b cs) (h' : Blk H b' cs') : EqP P 95 c H (.pointer (some ⟨b, o, none⟩)) (.pointer (some ⟨b', o', none⟩)) K = K (decide (b = b' ∧ o = o')) := EqP.eq (eq_ptr u_p_skip_List (by kernel_rfl) (le_sz 70 (by kernel_rfl)) h h')
theorem ok_p_dict_Dict_int64 : okT P 96 = true := by kernel_rfl
theorem sz_p_dict_Dict_int64 : sizeT P 96 = 1 := by kernel_rfl
theorem by_p_dict_Dict_int64 : bytesT P 96 = 8 := by kernel_rfl
theorem ze_p_dict_Dict_int64 : (zeroT P 96).cells = #[(.pointer none)] := by kernel_rfl
theorem u_p_dict_Dict_int64 : P.underlying 96 = some (.pointer 138) := by kernel_rfl
theorem q1_p_dict_Dict_int64 {c : Bool} {H : Heap} {a : Addr} {K : Bool → Prop} : EqP P 96 c H (.pointer (some a)) (.pointer none) K = K false := EqP.eq (eq_ptr_nil u_p_dict_Dict_int64 (some a))
theorem q0_p_dict_Dict_int64 {c : Bool} {H : Heap} {K : Bool → Prop} : EqP P 96 c H (.pointer none) (.pointer none) K = K true := EqP.eq (eq_ptr_nil u_p_dict_Dict_int64 none)
theorem q2_p_dict_Dict_int64 {c : Bool} {H : Heap} {b o b' o' : Nat} {cs cs' : List Value} {K : Bool → Prop} (h : Blk H b cs) (h' : Blk H b' cs') : EqP P 96 c H (.pointer (some ⟨b, o, none⟩)) (.pointer (some ⟨b', o', none⟩)) K = K (decide (b = b' ∧ o = o')) := EqP.eq (eq_ptr u_p_dict_Dict_int64 (by kernel_rfl) (le_sz 4 (by kernel_rfl)) h h')
theorem ok_zset_listed : okT P 98 = true := by kernel_rfl
theorem sz_zset_listed : sizeT P 98 = 2 := by kernel_rfl
theorem by_zset_listed : bytesT P 98 = 16 := by kernel_rfl
theorem ze_zset_listed : (zeroT P 98).cells = #[(.pointer none), (.pointer none)] := by kernel_rfl
theorem ok_p_skip_node : okT P 126 = true := by kernel_rfl
theorem sz_p_skip_node : sizeT P 126 = 1 := by kernel_rfl
theorem by_p_skip_node : bytesT P 126 = 8 := by kernel_rfl
theorem ze_p_skip_node : (zeroT P 126).cells = #[(.pointer none)] := by kernel_rfl
theorem u_p_skip_node : P.underlying 126 = some (.pointer 132) := by kernel_rfl
theorem q1_p_skip_node {c : Bool} {H : Heap} {a : Addr} {K : Bool → Prop} : EqP P 126 c H (.pointer (some a)) (.pointer none) K = K false := EqP.eq (eq_ptr_nil u_p_skip_node (some a))
theorem q0_p_skip_node {c : Bool} {H : Heap} {K : Bool → Prop} : EqP P 126 c H (.pointer none) (.pointer none) K = K true := EqP.eq (eq_ptr_nil u_p_skip_node none)
theorem q2_p_skip_node {c : Bool} {H : Heap} {b o b' o' : Nat} {cs cs' : List Value} {K : Bool → Prop} (h : Blk H b cs) (h' : Blk H b' cs') : EqP P 126 c H (.pointer (some ⟨b, o, none⟩)) (.pointer (some ⟨b', o', none⟩)) K = K (decide (b = b' ∧ o = o')) := EqP.eq (eq_ptr u_p_skip_node (by kernel_rfl) (le_sz 67 (by kernel_rfl)) h h')
theorem ok_skip_link : okT P 128 = true := by kernel_rfl
theorem sz_skip_link : sizeT P 128 = 2 := by kernel_rfl
theorem by_skip_link : bytesT P 128 = 16 := by kernel_rfl
theorem ze_skip_link : (zeroT P 128).cells = #[(.pointer none), (.int .i64 0)] := by kernel_rfl
theorem ok_skip_node : okT P 132 = true := by kernel_rfl
theorem sz_skip_node : sizeT P 132 = 68 := by kernel_rfl
theorem by_skip_node : bytesT P 132 = 552 := by kernel_rfl
theorem ze_skip_node : (zeroT P 132).cells = #[(.string ⟨#[]⟩), (.int .i64 0), (.pointer none), (.int .i64 0), (.pointer none), (.int .i64 0), (.pointer none), (.int .i64 0), (.pointer none), (.int .i64 0), (.pointer none), (.int .i64 0), (.pointer none), (.int .i64 0), (.pointer none), (.int .i64 0), (.pointer none), (.int .i64 0), (.pointer none), (.int .i64 0), (.pointer none), (.int .i64 0), (.pointer none), (.int .i64 0), (.pointer none), (.int .i64 0), (.pointer none), (.int .i64 0), (.pointer none), (.int .i64 0), (.pointer none), (.int .i64 0), (.pointer none), (.int .i64 0), (.pointer none), (.int .i64 0), (.pointer none), (.int .i64 0), (.pointer none), (.int .i64 0), (.pointer none), (.int .i64 0), (.pointer none), (.int .i64 0), (.pointer none), (.int .i64 0), (.pointer none), (.int .i64 0), (.pointer none), (.int .i64 0), (.pointer none), (.int .i64 0), (.pointer none), (.int .i64 0), (.pointer none), (.int .i64 0), (.pointer none), (.int .i64 0), (.pointer none), (.int .i64 0), (.pointer none), (.int .i64 0), (.pointer none), (.int .i64 0), (.pointer none), (.int .i64 0), (.int .i64 0), (.pointer none)] := by kernel_rfl
theorem ok_skip_List : okT P 134 = true := by kernel_rfl
theorem sz_skip_List : sizeT P 134 = 71 := by kernel_rfl
theorem by_skip_List : bytesT P 134 = 576 := by kernel_rfl
theorem ze_skip_List : (zeroT P 134).cells = #[(.string ⟨#[]⟩), (.int .i64 0), (.pointer none), (.int .i64 0), (.pointer none), (.int .i64 0), (.pointer none), (.int .i64 0), (.pointer none), (.int .i64 0), (.pointer none), (.int .i64 0), (.pointer none), (.int .i64 0), (.pointer none), (.int .i64 0), (.pointer none), (.int .i64 0), (.pointer none), (.int .i64 0), (.pointer none), (.int .i64 0), (.pointer none), (.int .i64 0), (.pointer none), (.int .i64 0), (.pointer none), (.int .i64 0), (.pointer none), (.int .i64 0), (.pointer none), (.int .i64 0), (.pointer none), (.int .i64 0), (.pointer none), (.int .i64 0), (.pointer none), (.int .i64 0), (.pointer none), (.int .i64 0), (.pointer none), (.int .i64 0), (.pointer none), (.int .i64 0), (.pointer none), (.int .i64 0), (.pointer none), (.int .i64 0), (.pointer none), (.int .i64 0), (.pointer none), (.int .i64 0), (.pointer none), (.int .i64 0), (.pointer none), (.int .i64 0), (.pointer none), (.int .i64 0), (.pointer none), (.int .i64 0), (.pointer none), (.int .i64 0), (.pointer none), (.int .i64 0), (.pointer none), (.int .i64 0), (.int .i64 0), (.pointer none), (.pointer none), (.int .i64 0), (.int .i64 0)] := by kernel_rfl
theorem ok_s_p_dict_node_int64 : okT P 135 = true := by kernel_rfl
theorem sz_s_p_dict_node_int64 : sizeT P 135 = 1 := by kernel_rfl
theorem by_s_p_dict_node_int64 : bytesT P 135 = 24 := by kernel_rfl
theorem ze_s_p_dict_node_int64 : (zeroT P 135).cells = #[(.slice none 0 0)] := by kernel_rfl
theorem u_s_p_dict_node_int64 : P.underlying 135 = some (.slice 158) := by kernel_rfl
theorem q1_s_p_dict_node_int64 {c : Bool} {H : Heap} {a : Addr} {n m k l : Nat} {K : Bool → Prop} : EqP P 135 c H (.slice (some a) n m) (.slice none k l) K = K false := EqP.eq (eq_slice_nil u_s_p_dict_node_int64 (some a) n m k l)
theorem q0_s_p_dict_node_int64 {c : Bool} {H : Heap} {n m k l : Nat} {K : Bool → Prop} : EqP P 135 c H (.slice none n m) (.slice none k l) K = K true := EqP.eq (eq_slice_nil u_s_p_dict_node_int64 none n m k l)
theorem ok_dict_Dict_int64 : okT P 138 = true := by kernel_rfl
theorem sz_dict_Dict_int64 : sizeT P 138 = 5 := by kernel_rfl
theorem by_dict_Dict_int64 : bytesT P 138 = 72 := by kernel_rfl
theorem ze_dict_Dict_int64 : (zeroT P 138).cells = #[(.int .u32 0), (.slice none 0 0), (.slice none 0 0), (.int .i64 0), (.int .i64 0)] := by kernel_rfl
theorem ok_bound_value : okT P 144 = true := by kernel_rfl
theorem sz_bound_value : sizeT P 144 = 1 := by kernel_rfl
theorem by_bound_value : bytesT P 144 = 1 := by kernel_rfl
theorem ze_bound_value : (zeroT P 144).cells = #[(.bool false)] := by kernel_rfl
theorem ok_bound_limit : okT P 147 = true := by kernel_rfl
theorem sz_bound_limit : sizeT P 147 = 1 := by kernel_rfl
theorem by_bound_limit : bytesT P 147 = 8 := by kernel_rfl
theorem ze_bound_limit : (zeroT P 147).cells = #[(.int .i64 0)] := by kernel_rfl
theorem ok_dict_id : okT P 157 = true := by kernel_rfl
theorem sz_dict_id : sizeT P 157 = 2 := by kernel_rfl
theorem by_dict_id : bytesT P 157 = 24 := by kernel_rfl
theorem ze_dict_id : (zeroT P 157).cells = #[(.int .u32 0), (.string ⟨#[]⟩)] := by kernel_rfl
theorem q_dict_id {c : Bool} {H : Heap} {x y : Int} {u v : ByteArray} {K : Bool → Prop} : EqP P 157 c H (.agg #[.int .u32 x, .string u]) (.agg #[.int .u32 y, .string v]) K = K (decide (x = y) && decide (u = v)) :=
  EqP.eq (eq_struct2 (f1 := ⟨ "sum", 24, 0, false, "", "palio/dict", 0⟩) (f2 := ⟨ "key", 9, 1, false, "", "palio/dict", 8⟩) (by kernel_rfl) (by kernel_rfl) (by kernel_rfl) (by decide) (by decide) rfl rfl (by kernel_rfl) (by kernel_rfl) (by kernel_rfl) (by kernel_rfl) (isScal_of (u := TypeDesc.int .u32) (by kernel_rfl) rfl) (isScal_of (u := TypeDesc.string) (by kernel_rfl) rfl) (by first | rfl | simp [scalEq]) (by first | rfl | simp [scalEq]))
theorem ok_p_dict_node_int64 : okT P 158 = true := by kernel_rfl
theorem sz_p_dict_node_int64 : sizeT P 158 = 1 := by kernel_rfl
theorem by_p_dict_node_int64 : bytesT P 158 = 8 := by kernel_rfl
theorem ze_p_dict_node_int64 : (zeroT P 158).cells = #[(.pointer none)] := by kernel_rfl
theorem u_p_dict_node_int64 : P.underlying 158 = some (.pointer 160) := by kernel_rfl
theorem q1_p_dict_node_int64 {c : Bool} {H : Heap} {a : Addr} {K : Bool → Prop} : EqP P 158 c H (.pointer (some a)) (.pointer none) K = K false := EqP.eq (eq_ptr_nil u_p_dict_node_int64 (some a))
theorem q0_p_dict_node_int64 {c : Bool} {H : Heap} {K : Bool → Prop} : EqP P 158 c H (.pointer none) (.pointer none) K = K true := EqP.eq (eq_ptr_nil u_p_dict_node_int64 none)
theorem q2_p_dict_node_int64 {c : Bool} {H : Heap} {b o b' o' : Nat} {cs cs' : List Value} {K : Bool → Prop} (h : Blk H b cs) (h' : Blk H b' cs') : EqP P 158 c H (.pointer (some ⟨b, o, none⟩)) (.pointer (some ⟨b', o', none⟩)) K = K (decide (b = b' ∧ o = o')) := EqP.eq (eq_ptr u_p_dict_node_int64 (by kernel_rfl) (le_sz 3 (by kernel_rfl)) h h')
theorem ok_dict_node_int64 : okT P 160 = true := by kernel_rfl
theorem sz_dict_node_int64 : sizeT P 160 = 4 := by kernel_rfl
theorem by_dict_node_int64 : bytesT P 160 = 40 := by kernel_rfl
theorem ze_dict_node_int64 : (zeroT P 160).cells = #[(.int .u32 0), (.string ⟨#[]⟩), (.int .i64 0), (.pointer none)] := by kernel_rfl
theorem ok_a32_p_skip_node : okT P 163 = true := by kernel_rfl
theorem sz_a32_p_skip_node : sizeT P 163 = 32 := by kernel_rfl
theorem by_a32_p_skip_node : bytesT P 163 = 256 := by kernel_rfl
theorem ze_a32_p_skip_node : (zeroT P 163).cells = #[(.pointer none), (.pointer none), (.pointer none), (.pointer none), (.pointer none), (.pointer none), (.pointer none), (.pointer none), (.pointer none), (.pointer none), (.pointer none), (.pointer none), (.pointer none), (.pointer none), (.pointer none), (.pointer none), (.pointer none), (.pointer none), (.pointer none), (.pointer none), (.pointer none), (.pointer none), (.pointer none), (.pointer none), (.pointer none), (.pointer none), (.pointer none), (.pointer none), (.pointer none), (.pointer none), (.pointer none), (.pointer none)] := by kernel_rfl
theorem ok_a32_int : okT P 164 = true := by kernel_rfl
theorem sz_a32_int : sizeT P 164 = 32 := by kernel_rfl
theorem by_a32_int : bytesT P 164 = 256 := by kernel_rfl
theorem ze_a32_int : (zeroT P 164).cells = #[(.int .i64 0), (.int .i64 0), (.int .i64 0), (.int .i64 0), (.int .i64 0), (.int .i64 0), (.int .i64 0), (.int .i64 0), (.int .i64 0), (.int .i64 0), (.int .i64 0), (.int .i64 0), (.int .i64 0), (.int .i64 0), (.int .i64 0), (.int .i64 0), (.int .i64 0), (.int .i64 0), (.int .i64 0), (.int .i64 0), (.int .i64 0), (.int .i64 0), (.int .i64 0), (.int .i64 0), (.int .i64 0), (.int .i64 0), (.int .i64 0), (.int .i64 0), (.int .i64 0), (.int .i64 0), (.int .i64 0), (.int .i64 0)] := by kernel_rfl
theorem ok_func_p_skip_node_int_bool : okT P 177 = true := by kernel_rfl
theorem sz_func_p_skip_node_int_bool : sizeT P 177 = 1 := by kernel_rfl
theorem by_func_p_skip_node_int_bool : bytesT P 177 = 8 := by kernel_rfl
theorem ze_func_p_skip_node_int_bool : (zeroT P 177).cells = #[.nilFunc] := by kernel_rfl
theorem ok_s_p_skip_node : okT P 186 = true := by kernel_rfl
theorem sz_s_p_skip_node : sizeT P 186 = 1 := by kernel_rfl
theorem by_s_p_skip_node : bytesT P 186 = 24 := by kernel_rfl
theorem ze_s_p_skip_node : (zeroT P 186).cells = #[(.slice none 0 0)] := by kernel_rfl
theorem u_s_p_skip_node : P.underlying 186 = some (.slice 126) := by kernel_rfl
theorem q1_s_p_skip_node {c : Bool} {H : Heap} {a : Addr} {n m k l : Nat} {K : Bool → Prop} : EqP P 186 c H (.slice (some a) n m) (.slice none k l) K = K false := EqP.eq (eq_slice_nil u_s_p_skip_node (some a) n m k l)
theorem q0_s_p_skip_node {c : Bool} {H : Heap} {n m k l : Nat} {K : Bool → Prop} : EqP P 186 c H (.slice none n m) (.slice none k l) K = K true := EqP.eq (eq_slice_nil u_s_p_skip_node none n m k l)
theorem ok_slices_xorshift : okT P 207 = true := by kernel_rfl
theorem sz_slices_xorshift : sizeT P 207 = 1 := by kernel_rfl
theorem by_slices_xorshift : bytesT P 207 = 8 := by kernel_rfl
theorem ze_slices_xorshift : (zeroT P 207).cells = #[(.int .u64 0)] := by kernel_rfl
theorem ok_pack_spot : okT P 237 = true := by kernel_rfl
theorem sz_pack_spot : sizeT P 237 = 4 := by kernel_rfl
theorem by_pack_spot : bytesT P 237 = 40 := by kernel_rfl
theorem ze_pack_spot : (zeroT P 237).cells = #[(.string ⟨#[]⟩), (.int .i64 0), (.int .i64 0), (.int .i64 0)] := by kernel_rfl
theorem ok_s_pack_spot : okT P 247 = true := by kernel_rfl
theorem sz_s_pack_spot : sizeT P 247 = 1 := by kernel_rfl
theorem by_s_pack_spot : bytesT P 247 = 24 := by kernel_rfl
theorem ze_s_pack_spot : (zeroT P 247).cells = #[(.slice none 0 0)] := by kernel_rfl
theorem u_s_pack_spot : P.underlying 247 = some (.slice 237) := by kernel_rfl
theorem q1_s_pack_spot {c : Bool} {H : Heap} {a : Addr} {n m k l : Nat} {K : Bool → Prop} : EqP P 247 c H (.slice (some a) n m) (.slice none k l) K = K false := EqP.eq (eq_slice_nil u_s_pack_spot (some a) n m k l)
theorem q0_s_pack_spot {c : Bool} {H : Heap} {n m k l : Nat} {K : Bool → Prop} : EqP P 247 c H (.slice none n m) (.slice none k l) K = K true := EqP.eq (eq_slice_nil u_s_pack_spot none n m k l)
/-- == together. -/
theorem qt : type_of% @q_bool ∧ type_of% @q_api_Limits ∧ type_of% @q1_p_zset_Set ∧ type_of% @q0_p_zset_Set ∧ type_of% @q1_s_api_Entry ∧ type_of% @q0_s_api_Entry ∧ type_of% @q_api_Entry ∧ type_of% @q1_s_uint8 ∧ type_of% @q0_s_uint8 ∧ type_of% @q1_p_zset_packed ∧ type_of% @q0_p_zset_packed ∧ type_of% @q1_p_zset_listed ∧ type_of% @q0_p_zset_listed ∧ type_of% @q1_s_string ∧ type_of% @q0_s_string ∧ type_of% @q1_p_skip_List ∧ type_of% @q0_p_skip_List ∧ type_of% @q1_p_dict_Dict_int64 ∧ type_of% @q0_p_dict_Dict_int64 ∧ type_of% @q1_p_skip_node ∧ type_of% @q0_p_skip_node ∧ type_of% @q1_s_p_dict_node_int64 ∧ type_of% @q0_s_p_dict_node_int64 ∧ type_of% @q_dict_id ∧ type_of% @q1_p_dict_node_int64 ∧ type_of% @q0_p_dict_node_int64 ∧ type_of% @q1_s_p_skip_node ∧ type_of% @q0_s_p_skip_node ∧ type_of% @q1_s_pack_spot ∧ type_of% @q0_s_pack_spot :=
  ⟨@q_bool, @q_api_Limits, @q1_p_zset_Set, @q0_p_zset_Set, @q1_s_api_Entry, @q0_s_api_Entry, @q_api_Entry, @q1_s_uint8, @q0_s_uint8, @q1_p_zset_packed, @q0_p_zset_packed, @q1_p_zset_listed, @q0_p_zset_listed, @q1_s_string, @q0_s_string, @q1_p_skip_List, @q0_p_skip_List, @q1_p_dict_Dict_int64, @q0_p_dict_Dict_int64, @q1_p_skip_node, @q0_p_skip_node, @q1_s_p_dict_node_int64, @q0_s_p_dict_node_int64, @q_dict_id, @q1_p_dict_node_int64, @q0_p_dict_node_int64, @q1_s_p_skip_node, @q0_s_p_skip_node, @q1_s_pack_spot, @q0_s_pack_spot⟩
end Go.X.W
