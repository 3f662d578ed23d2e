/-
  The functions of the program as abstract code; written by a program from the translation.
-/
import Derived.Test.YteiakclfpfmigaaTy
namespace Go.Am
set_option linter.unusedSimpArgs false
set_option linter.unusedVariables false

abbrev i_main_main : FuncId := 0
abbrev i_gosem_cut : FuncId := 1
abbrev i_gosem_cut_init : FuncId := 2
abbrev i_law25_ArchiverParts : FuncId := 3
abbrev i_law11_PageindexExact : FuncId := 4
abbrev i_law11_PageindexReturns : FuncId := 5
abbrev i_law02_PageInjective : FuncId := 6
abbrev i_law02_PageEncodes : FuncId := 7
abbrev i_law02_PageForms : FuncId := 8
abbrev i_law02_PageDamage : FuncId := 9
abbrev i_law02_PageDecodes : FuncId := 10
abbrev i_law02_PageReturns : FuncId := 11
abbrev i_law02_PageTears : FuncId := 12
abbrev i_law10_PoolClock : FuncId := 13
abbrev i_law10_PoolLimits : FuncId := 14
abbrev i_law25_awake : FuncId := 15
abbrev i_draw_New : FuncId := 16
abbrev i_archiver_New : FuncId := 17
abbrev i_make_Bounds : FuncId := 18
abbrev i_archiver_Part : FuncId := 19
abbrev i_law11_awake : FuncId := 20
abbrev i_law11_index : FuncId := 21
abbrev i_law11_odd : FuncId := 22
abbrev i_draw_Codes_Entry : FuncId := 23
abbrev i_draw_Codes_Next : FuncId := 24
abbrev i_pageindex_Note : FuncId := 25
abbrev i_ref11_Note : FuncId := 26
abbrev i_ref11_Same : FuncId := 27
abbrev i_pageindex_SetImage : FuncId := 28
abbrev i_ref11_SetImage : FuncId := 29
abbrev i_pageindex_Encode : FuncId := 30
abbrev i_ref11_Encode : FuncId := 31
abbrev i_pageindex_Valid : FuncId := 32
abbrev i_ref11_Valid : FuncId := 33
abbrev i_draw_Codes_Spoilt : FuncId := 34
abbrev i_pageindex_Decode : FuncId := 35
abbrev i_ref11_Decode : FuncId := 36
abbrev i_pageindex_New : FuncId := 37
abbrev i_ref11_New : FuncId := 38
abbrev i_law02_awake : FuncId := 39
abbrev i_draw_Codes_Page : FuncId := 40
abbrev i_draw_Codes_OddPage : FuncId := 41
abbrev i_page_Encode : FuncId := 42
abbrev i_ref02_Valid : FuncId := 43
abbrev i_ref02_Encode : FuncId := 44
abbrev i_page_Valid : FuncId := 45
abbrev i_page_New : FuncId := 46
abbrev i_ref02_New : FuncId := 47
abbrev i_page_Blank : FuncId := 48
abbrev i_ref02_Blank : FuncId := 49
abbrev i_law02_sealed : FuncId := 50
abbrev i_page_Decode : FuncId := 51
abbrev i_ref02_Decode : FuncId := 52
abbrev i_draw_Codes_Bytes : FuncId := 53
abbrev i_page_Identify : FuncId := 54
abbrev i_ref02_Identify : FuncId := 55
abbrev i_law10_awake : FuncId := 56
abbrev i_pool_New : FuncId := 57
abbrev i_pool_Put : FuncId := 58
abbrev i_pool_Victim : FuncId := 59
abbrev i_pool_Use : FuncId := 60
abbrev i_ref10_Same : FuncId := 61
abbrev i_pool_Drop : FuncId := 62
abbrev i_pool_Get : FuncId := 63
abbrev i_pool_Find : FuncId := 64
abbrev i_pool_Valid : FuncId := 65
abbrev i_slices_Clone_int_int : FuncId := 66
abbrev i_archiver_Valid : FuncId := 67
abbrev i_slices_BinarySearch_int_int : FuncId := 68
abbrev i_archiver_part : FuncId := 69
abbrev i_draw_Codes_Int : FuncId := 70
abbrev i_draw_Codes_Change : FuncId := 71
abbrev i_draw_Codes_Data : FuncId := 72
abbrev i_entry_Valid : FuncId := 73
abbrev i_pageindex_there : FuncId := 74
abbrev i_pageindex_change : FuncId := 75
abbrev i_pageindex_Note_1 : FuncId := 76
abbrev i_ref05_Valid : FuncId := 77
abbrev i_ref11_set : FuncId := 78
abbrev i_pageindex_position : FuncId := 79
abbrev i_pageindex_SetImage_1 : FuncId := 80
abbrev i_ref11_lsn : FuncId := 81
abbrev i_codec_Put : FuncId := 82
abbrev i_ref01_Put : FuncId := 83
abbrev i_slices_ContainsFunc_api_Row_api_Row : FuncId := 84
abbrev i_pageindex_Valid_1 : FuncId := 85
abbrev i_codec_Get : FuncId := 86
abbrev i_pageindex_Decode_1 : FuncId := 87
abbrev i_ref01_Get : FuncId := 88
abbrev i_draw_Codes_Cell : FuncId := 89
abbrev i_page_placed : FuncId := 90
abbrev i_page_cells : FuncId := 91
abbrev i_page_builder_cell : FuncId := 92
abbrev i_strings_Repeat : FuncId := 93
abbrev i_codec_Sum : FuncId := 94
abbrev i_ref02_numbers : FuncId := 95
abbrev i_ref02_cells : FuncId := 96
abbrev i_ref02_Check : FuncId := 97
abbrev i_ref02_zeros : FuncId := 98
abbrev i_ref01_Sum : FuncId := 99
abbrev i_ref02_Seal : FuncId := 100
abbrev i_page_number : FuncId := 101
abbrev i_page_read : FuncId := 102
abbrev i_page_named : FuncId := 103
abbrev i_pool_find : FuncId := 104
abbrev i_slices_Clip_api_Frame_api_Frame : FuncId := 105
abbrev i_slices_Clone_api_Frame_api_Frame : FuncId := 106
abbrev i_pool_with_api_Frame : FuncId := 107
abbrev i_slices_Delete_api_Frame_api_Frame : FuncId := 108
abbrev i_cmp_Less_int : FuncId := 109
abbrev i_slices_isNaN_int : FuncId := 110
abbrev i_entry_before : FuncId := 111
abbrev i_entry_rules : FuncId := 112
abbrev i_slices_Clone_api_Row_api_Row : FuncId := 113
abbrev i_ref05_shape : FuncId := 114
abbrev i_ref05_before : FuncId := 115
abbrev i_strings_Builder_WriteString : FuncId := 116
abbrev i_strings_Builder_WriteByte : FuncId := 117
abbrev i_strings_Builder_String : FuncId := 118
abbrev i_slices_IndexFunc_api_Row_api_Row : FuncId := 119
abbrev i_math_bits_Mul : FuncId := 120
abbrev i_strings_HasPrefix : FuncId := 121
abbrev i_strings_Builder_Grow : FuncId := 122
abbrev i_strings_Builder_Len : FuncId := 123
abbrev i_codec_remainders : FuncId := 124
abbrev i_ref02_ValidCell : FuncId := 125
abbrev i_slices_IndexFunc_api_Frame_api_Frame : FuncId := 126
abbrev i_pool_find_1 : FuncId := 127
abbrev i_cmp_isNaN_int : FuncId := 128
abbrev i_entry_rules_1 : FuncId := 129
abbrev i_entry_none : FuncId := 130
abbrev i_change_Valid : FuncId := 131
abbrev i_entry_rules_2 : FuncId := 132
abbrev i_entry_rules_3 : FuncId := 133
abbrev i_ref03_Valid : FuncId := 134
abbrev i_strings_Builder_copyCheck : FuncId := 135
abbrev i_math_bits_Mul32 : FuncId := 136
abbrev i_math_bits_Mul64 : FuncId := 137
abbrev i_internal_stringslite_HasPrefix : FuncId := 138
abbrev i_strings_Builder_grow : FuncId := 139
abbrev i_change_paged : FuncId := 140
abbrev i_change_ValidCell : FuncId := 141
abbrev i_internal_abi_NoEscape : FuncId := 142
abbrev i_internal_bytealg_MakeNoZero : FuncId := 143
abbrev i_runtime_boundsError_Error : FuncId := 144
abbrev i_runtime_boundsError_RuntimeError : FuncId := 145
abbrev i_runtime_errorString_Error : FuncId := 146
abbrev i_runtime_errorString_RuntimeError : FuncId := 147
abbrev i_runtime_plainError_Error : FuncId := 148
abbrev i_runtime_plainError_RuntimeError : FuncId := 149
abbrev i_runtime_errorAddressString_Error : FuncId := 150
abbrev i_runtime_errorAddressString_RuntimeError : FuncId := 151
abbrev i_runtime_TypeAssertionError_Error : FuncId := 152
abbrev i_runtime_TypeAssertionError_RuntimeError : FuncId := 153
abbrev i_runtime_PanicNilError_Error : FuncId := 154
abbrev i_runtime_PanicNilError_RuntimeError : FuncId := 155
abbrev i_internal_abi_Type_Align : FuncId := 156
abbrev i_internal_runtime_maps_unhashableTypeError_Error : FuncId := 157
abbrev i_internal_runtime_maps_unhashableTypeError_RuntimeError : FuncId := 158
abbrev i_strings_Builder_Reset : FuncId := 159
abbrev i_internal_abi_Kind_String : FuncId := 160

/- pagemend/pagemenddraw.New -/
def c_draw_New_0 : ACode := .seq (.reg false [] [⟨.mv (.t 0), some 12, none⟩,
    ⟨.build (e_pagemenddraw_Codes default) [(0, 1, (.t 12))], some 13, none⟩,
    ⟨.box 2 (.t 13), some 14, none⟩,
    ⟨.mv (.t 14), some 4, none⟩])
  (.ret)
def c_draw_New : ACode := .seq (.reg false [] [⟨.mv (.c (.p .np)), some 4, none⟩])
  (.seq (.seq (.reg false [] [⟨.mv (.t 0), some 5, none⟩,
    ⟨.len false (.t 5), some 6, none⟩,
    ⟨.mv (.t 1), some 7, none⟩,
    ⟨.bin .gtr .plain (.t 6) (.t 7), some 8, none⟩])
  (.keep [0, 1, 8] (.cond (.t 8)
  (.reg false [] [⟨.mv (.t 0), some 9, none⟩,
      ⟨.mv (.t 1), some 10, none⟩,
      ⟨.slice (.sl 1) (.t 9) none (some (.t 10)) none, some 11, none⟩,
      ⟨.mv (.t 11), some 0, none⟩])
  (.skip))))
  (.keep [0] c_draw_New_0))
def f_draw_New : AFn := ⟨2, 15, c_draw_New, [.tmp 4], false⟩

/- (*pagemend/pagemenddraw.Codes).Next -/
def c_draw_Codes_Next : ACode := .seq (.reg false [] [⟨.mv (.c (.p (.i .i64 0))), some 4, none⟩])
  (.seq (.seq (.reg true [] [⟨.mv (.t 0), some 6, none⟩,
    ⟨.nilchk (.t 6), some 7, none⟩,
    ⟨.faddr 1 (.t 7), some 8, none⟩,
    ⟨.load false 1 (.t 8), some 9, none⟩,
    ⟨.mv (.t 0), some 10, none⟩,
    ⟨.nilchk (.t 10), some 11, none⟩,
    ⟨.faddr 0 (.t 11), some 12, none⟩,
    ⟨.load false 1 (.t 12), some 13, none⟩,
    ⟨.len false (.t 13), some 14, none⟩,
    ⟨.bin .geq .plain (.t 9) (.t 14), some 15, none⟩,
    ⟨.mv (.t 15), some 16, none⟩,
    ⟨.mv (.t 1), some 17, some (16, false)⟩,
    ⟨.bin .lss .plain (.t 17) (.c (.p (.i .i64 1))), some 18, some (16, false)⟩,
    ⟨.pick (.t 16) (.c (.p (.b true))) (.t 18), some 19, none⟩])
  (.keep [0, 1, 19] (.cond (.t 19)
  (.seq (.reg false [] [⟨.mv (.c (.p (.i .i64 0))), some 4, none⟩])
    (.ret))
  (.skip))))
  (.seq (.reg true [] [⟨.mv (.t 0), some 20, none⟩,
    ⟨.nilchk (.t 20), some 21, none⟩,
    ⟨.faddr 0 (.t 21), some 22, none⟩,
    ⟨.load false 1 (.t 22), some 23, none⟩,
    ⟨.mv (.t 0), some 24, none⟩,
    ⟨.nilchk (.t 24), some 25, none⟩,
    ⟨.faddr 1 (.t 25), some 26, none⟩,
    ⟨.load false 1 (.t 26), some 27, none⟩,
    ⟨.iaddr 1 (.t 23) (.t 27), some 28, none⟩,
    ⟨.load false 1 (.t 28), some 29, none⟩,
    ⟨.conv (.int .i64) (.t 29), some 30, none⟩,
    ⟨.mv (.t 30), some 5, none⟩])
  (.keep [0, 1, 5] (.seq (.reg false [] [⟨.mv (.t 0), some 31, none⟩,
    ⟨.nilchk (.t 31), some 32, none⟩,
    ⟨.faddr 1 (.t 32), some 33, none⟩,
    ⟨.load false 1 (.t 33), some 34, none⟩,
    ⟨.bin .add .plain (.t 34) (.c (.p (.i .i64 1))), some 35, none⟩,
    ⟨.nilchk (.t 31), some 36, none⟩,
    ⟨.faddr 1 (.t 36), some 37, none⟩,
    ⟨.store 1 (.t 37) (.t 35), none, none⟩])
  (.keep [0, 1, 5] (.seq (.seq (.reg false [] [⟨.mv (.t 1), some 38, none⟩,
    ⟨.bin .gtr .plain (.t 38) (.c (.p (.i .i64 256))), some 39, none⟩])
  (.cond (.t 39)
  (.seq (.reg false [] [⟨.mv (.t 5), some 40, none⟩,
      ⟨.bin .mul .plain (.c (.p (.i .i64 256))) (.t 40), some 41, none⟩,
      ⟨.mv (.t 0), some 42, none⟩,
      ⟨.call i_draw_Codes_Next [(.t 42), (.c (.p (.i .i64 256)))] 0, some 43, none⟩,
      ⟨.bin .add .plain (.t 41) (.t 43), some 44, none⟩,
      ⟨.mv (.t 1), some 45, none⟩,
      ⟨.bin .rem .plain (.t 44) (.t 45), some 46, none⟩,
      ⟨.mv (.t 46), some 4, none⟩])
    (.ret))
  (.skip)))
  (.seq (.reg false [] [⟨.mv (.t 5), some 47, none⟩,
    ⟨.mv (.t 1), some 48, none⟩,
    ⟨.bin .rem .plain (.t 47) (.t 48), some 49, none⟩,
    ⟨.mv (.t 49), some 4, none⟩])
  (.ret))))))))
def f_draw_Codes_Next : AFn := ⟨2, 50, c_draw_Codes_Next, [.tmp 4], false⟩

/- pagemend/page.New -/
def c_page_New : ACode := .seq (.reg false [] [⟨.newbox (e_api_Page default), some 2, none⟩])
  (.seq (.reg false [] [⟨.mv (.t 0), some 3, none⟩,
    ⟨.build (e_api_Page default) [(0, 1, (.t 3))], some 4, none⟩,
    ⟨.store 34 (.t 2) (.t 4), none, none⟩])
  (.ret))
def f_page_New : AFn := ⟨1, 5, c_page_New, [.cell 2 true 34], false⟩

/- (*pagemend/pagemenddraw.Codes).Data -/
def c_draw_Codes_Data_0 : ACode := .seq (.seq (.reg false [] [⟨.mv (.t 5), some 15, none⟩,
    ⟨.mv (.t 3), some 16, none⟩,
    ⟨.bin .lss .plain (.t 15) (.t 16), some 17, none⟩])
  (.keep [0, 3, 4, 5, 17] (.cond (.t 17)
  (.skip)
  (.exit 0))))
  (.seq (.block 1 (.reg false [] [⟨.mv (.t 4), some 20, none⟩,
    ⟨.mv (.t 0), some 21, none⟩,
    ⟨.call i_draw_Codes_Next [(.t 21), (.c (.p (.i .i64 3)))] 0, some 22, none⟩,
    ⟨.bin .add .plain (.c (.p (.i .i64 97))) (.t 22), some 23, none⟩,
    ⟨.conv (.int .u8) (.t 23), some 24, none⟩,
    ⟨.lits false 1 1 [(.i .u8 0)] [(0, (.t 24))], some 25, none⟩,
    ⟨.app 1 1 [(.i .u8 0)] (.t 20) (.t 25), some 26, none⟩,
    ⟨.mv (.t 26), some 4, none⟩]))
  (.reg false [] [⟨.mv (.t 5), some 18, none⟩,
    ⟨.bin .add .plain (.t 18) (.c (.p (.i .i64 1))), some 19, none⟩,
    ⟨.mv (.t 19), some 5, none⟩]))
def c_draw_Codes_Data_1 : ACode := .seq (.reg false [] [⟨.mv (.t 4), some 27, none⟩,
    ⟨.conv .toStr (.t 27), some 28, none⟩,
    ⟨.mv (.t 28), some 2, none⟩])
  (.ret)
def c_draw_Codes_Data_2 : ACode := .seq (.reg false [] [⟨.mv (.t 3), some 13, none⟩,
    ⟨.mkslice true 1 1 [(.i .u8 0)] (.c (.p (.i .i64 0))) (.t 13), some 14, none⟩,
    ⟨.mv (.t 14), some 4, none⟩])
  (.keep [0, 3, 4] (.seq (.seq (.reg false [] [⟨.mv (.c (.p (.i .i64 0))), some 5, none⟩])
  (.block 0 (.loop [0, 3, 4, 5] c_draw_Codes_Data_0)))
  (.keep [4] c_draw_Codes_Data_1)))
def c_draw_Codes_Data : ACode := .seq (.reg false [] [⟨.mv (.c (.p (.s []))), some 2, none⟩])
  (.seq (.reg false [] [⟨.mv (.t 0), some 6, none⟩,
    ⟨.call i_draw_Codes_Next [(.t 6), (.c (.p (.i .i64 5)))] 0, some 7, none⟩,
    ⟨.mv (.t 7), some 3, none⟩])
  (.keep [0, 3] (.seq (.seq (.reg false [] [⟨.mv (.t 0), some 8, none⟩,
    ⟨.call i_draw_Codes_Next [(.t 8), (.c (.p (.i .i64 6)))] 0, some 9, none⟩,
    ⟨.bin .eql .plain (.t 9) (.c (.p (.i .i64 0))), some 10, none⟩])
  (.keep [0, 3, 10] (.cond (.t 10)
  (.reg false [] [⟨.mv (.t 0), some 11, none⟩,
      ⟨.call i_draw_Codes_Next [(.t 11), (.c (.p (.i .i64 14)))] 0, some 12, none⟩,
      ⟨.mv (.t 12), some 3, none⟩])
  (.skip))))
  (.keep [0, 3] c_draw_Codes_Data_2))))
def f_draw_Codes_Data : AFn := ⟨1, 29, c_draw_Codes_Data, [.tmp 2], false⟩

/- pagemend/codec.Put -/


/- pagemend/codec.Get -/
def c_codec_Get_0 : ACode := .seq (.reg false [] [⟨.bin .lss .plain (.t 35) (.t 34), some 36, none⟩])
  (.seq (.cond (.t 36)
  (.skip)
  (.exit 1))
  (.seq (.block 2 (.seq (.reg false [] [⟨.mv (.t 35), some 37, none⟩,
    ⟨.mv (.t 37), some 9, none⟩])
  (.reg false [] [⟨.mv (.t 8), some 38, none⟩,
    ⟨.mv (.t 0), some 39, none⟩,
    ⟨.mv (.t 1), some 40, none⟩,
    ⟨.mv (.t 9), some 41, none⟩,
    ⟨.bin .add .plain (.t 40) (.t 41), some 42, none⟩,
    ⟨.sidx (.t 39) (.t 42), some 43, none⟩,
    ⟨.conv (.int .u64) (.t 43), some 44, none⟩,
    ⟨.mv (.t 9), some 45, none⟩,
    ⟨.bin .mul .plain (.c (.p (.i .i64 8))) (.t 45), some 46, none⟩,
    ⟨.bin .shl .plain (.t 44) (.t 46), some 47, none⟩,
    ⟨.bin .or .plain (.t 38) (.t 47), some 48, none⟩,
    ⟨.mv (.t 48), some 8, none⟩])))
  (.reg false [] [⟨.bin .add .plain (.t 35) (.c (.p (.i .i64 1))), some 49, none⟩,
    ⟨.mv (.t 49), some 35, none⟩])))
def c_codec_Get_1 : ACode := .seq (.reg false [] [⟨.mv (.t 8), some 50, none⟩,
    ⟨.conv (.int .i64) (.t 50), some 51, none⟩,
    ⟨.mv (.t 51), some 6, none⟩,
    ⟨.mv (.c (.p (.i .i64 0))), some 7, none⟩])
  (.ret)
def c_codec_Get : ACode := .seq (.reg false [] [⟨.mv (.c (.p (.i .i64 0))), some 6, none⟩,
    ⟨.mv (.c (.p (.i .i64 0))), some 7, none⟩])
  (.seq (.block 0 (.seq (.reg false [] [⟨.mv (.t 2), some 11, none⟩,
    ⟨.bin .lss .plain (.t 11) (.c (.p (.i .i64 1))), some 12, none⟩,
    ⟨.mv (.t 12), some 13, none⟩,
    ⟨.mv (.t 2), some 14, some (13, false)⟩,
    ⟨.bin .gtr .plain (.t 14) (.c (.p (.i .i64 8))), some 15, some (13, false)⟩,
    ⟨.pick (.t 13) (.c (.p (.b true))) (.t 15), some 16, none⟩,
    ⟨.mv (.t 16), some 17, none⟩,
    ⟨.mv (.t 1), some 18, some (17, false)⟩,
    ⟨.bin .lss .plain (.t 18) (.c (.p (.i .i64 0))), some 19, some (17, false)⟩,
    ⟨.pick (.t 17) (.c (.p (.b true))) (.t 19), some 20, none⟩,
    ⟨.mv (.t 20), some 10, none⟩])
  (.keep [0, 1, 2, 10] (.cond (.t 10)
  (.seq (.reg false [] [⟨.mv (.c (.p (.i .i64 0))), some 6, none⟩,
      ⟨.mv (.c (.p (.i .i64 1))), some 7, none⟩])
    (.ret))
  (.seq (.reg false [] [⟨.mv (.t 1), some 22, none⟩,
      ⟨.mv (.t 0), some 23, none⟩,
      ⟨.len true (.t 23), some 24, none⟩,
      ⟨.bin .gtr .plain (.t 22) (.t 24), some 25, none⟩,
      ⟨.mv (.t 25), some 26, none⟩,
      ⟨.mv (.t 0), some 27, some (26, false)⟩,
      ⟨.len true (.t 27), some 28, some (26, false)⟩,
      ⟨.mv (.t 1), some 29, some (26, false)⟩,
      ⟨.bin .sub .plain (.t 28) (.t 29), some 30, some (26, false)⟩,
      ⟨.mv (.t 2), some 31, some (26, false)⟩,
      ⟨.bin .lss .plain (.t 30) (.t 31), some 32, some (26, false)⟩,
      ⟨.pick (.t 26) (.c (.p (.b true))) (.t 32), some 33, none⟩,
      ⟨.mv (.t 33), some 21, none⟩])
    (.keep [0, 1, 2, 21] (.cond (.t 21)
    (.seq (.reg false [] [⟨.mv (.c (.p (.i .i64 0))), some 6, none⟩,
        ⟨.mv (.c (.p (.i .i64 5))), some 7, none⟩])
      (.ret))
    (.skip))))))))
  (.seq (.reg false [] [⟨.mv (.c (.p (.i .u64 0))), some 8, none⟩])
  (.seq (.seq (.reg false [] [⟨.mv (.t 2), some 34, none⟩,
    ⟨.mv (.c (.p (.i .i64 0))), some 35, none⟩])
  (.block 1 (.loop [0, 1, 8, 34, 35] c_codec_Get_0)))
  (.keep [8] c_codec_Get_1))))
def f_codec_Get : AFn := ⟨3, 52, c_codec_Get, [.tmp 6, .tmp 7], false⟩

/- (*pagemend/pagemenddraw.Codes).Cell -/
def c_draw_Codes_Cell : ACode := .seq (.reg false [] [⟨.newbox (e_api_Cell default), some 2, none⟩])
  (.seq (.seq (.reg false [] [⟨.mv (.t 0), some 4, none⟩,
    ⟨.call i_draw_Codes_Next [(.t 4), (.c (.p (.i .i64 3)))] 0, some 5, none⟩,
    ⟨.bin .eql .plain (.t 5) (.c (.p (.i .i64 0))), some 6, none⟩])
  (.keep [0, 2, 6] (.cond (.t 6)
  (.seq (.reg false [] [⟨.build (e_api_Cell default) [], some 7, none⟩,
      ⟨.store 2 (.t 2) (.t 7), none, none⟩])
    (.ret))
  (.skip))))
  (.seq (.reg false [] [⟨.mv (.t 0), some 8, none⟩,
    ⟨.call i_draw_Codes_Data [(.t 8)] 0, some 9, none⟩,
    ⟨.mv (.t 9), some 3, none⟩])
  (.keep [2, 3] (.seq (.reg false [] [⟨.mv (.t 3), some 10, none⟩,
    ⟨.mv (.t 3), some 11, none⟩,
    ⟨.len true (.t 11), some 12, none⟩,
    ⟨.mm false (.t 12) (.c (.p (.i .i64 12))), some 13, none⟩,
    ⟨.slice .str (.t 10) none (some (.t 13)) none, some 14, none⟩,
    ⟨.build (e_api_Cell default) [(0, 1, (.c (.p (.b true)))), (1, 1, (.t 14))], some 15, none⟩,
    ⟨.store 2 (.t 2) (.t 15), none, none⟩])
  (.ret)))))
def f_draw_Codes_Cell : AFn := ⟨1, 16, c_draw_Codes_Cell, [.cell 2 true 2], false⟩

/- pagemend/page.cells -/
def c_page_cells_0 : ACode := .seq (.reg false [] [⟨.bin .lss .plain (.t 7) (.c (.p (.i .i64 16))), some 8, none⟩])
  (.seq (.cond (.t 8)
  (.skip)
  (.exit 0))
  (.seq (.block 1 (.seq (.reg false [] [⟨.aidx true 16 2 (.t 6) (.t 7), some 9, none⟩,
    ⟨.newbox (e_api_Cell default), some 4, none⟩,
    ⟨.store 2 (.t 4) (.t 9), none, none⟩])
  (.keep [1, 4, 6, 7] (.seq (.reg false [] [⟨.faddr 1 (.t 4), some 10, none⟩,
    ⟨.load false 1 (.t 10), some 11, none⟩,
    ⟨.len true (.t 11), some 12, none⟩,
    ⟨.bin .gtr .plain (.t 12) (.c (.p (.i .i64 12))), some 13, none⟩,
    ⟨.mv (.t 13), some 14, none⟩,
    ⟨.faddr 0 (.t 4), some 15, some (14, false)⟩,
    ⟨.load false 1 (.t 15), some 16, some (14, false)⟩,
    ⟨.un .not (.t 16), some 17, some (14, false)⟩,
    ⟨.mv (.t 17), some 18, some (14, false)⟩,
    ⟨.faddr 1 (.t 4), some 19, some (18, true)⟩,
    ⟨.load false 1 (.t 19), some 20, some (18, true)⟩,
    ⟨.bin .neq .plain (.t 20) (.c (.p (.s []))), some 21, some (18, true)⟩,
    ⟨.pick (.t 18) (.t 21) (.c (.p (.b false))), some 22, some (14, false)⟩,
    ⟨.pick (.t 14) (.c (.p (.b true))) (.t 22), some 23, none⟩,
    ⟨.mv (.t 23), some 24, none⟩,
    ⟨.faddr 0 (.t 4), some 25, some (24, false)⟩,
    ⟨.load false 1 (.t 25), some 26, some (24, false)⟩,
    ⟨.mv (.t 26), some 27, some (24, false)⟩,
    ⟨.faddr 1 (.t 1), some 28, some (27, true)⟩,
    ⟨.load false 1 (.t 28), some 29, some (27, true)⟩,
    ⟨.bin .eql .plain (.t 29) (.c (.p (.i .i64 0))), some 30, some (27, true)⟩,
    ⟨.pick (.t 27) (.t 30) (.c (.p (.b false))), some 31, some (24, false)⟩,
    ⟨.pick (.t 24) (.c (.p (.b true))) (.t 31), some 32, none⟩])
  (.keep [1, 6, 7, 32] (.cond (.t 32)
  (.seq (.reg false [] [⟨.mv (.c (.p (.b false))), some 2, none⟩])
    (.ret))
  (.skip)))))))
  (.reg false [] [⟨.bin .add .plain (.t 7) (.c (.p (.i .i64 1))), some 33, none⟩,
    ⟨.mv (.t 33), some 7, none⟩])))
def c_page_cells_1 : ACode := .seq (.reg false [] [⟨.mv (.c (.p (.b true))), some 2, none⟩])
  (.ret)
def c_page_cells : ACode := .seq (.reg false [] [⟨.box 34 (.t 0), some 1, none⟩,
    ⟨.mv (.c (.p (.b false))), some 2, none⟩])
  (.seq (.tidy [2] (.seq (.reg false [] [⟨.faddr 2 (.t 1), some 5, none⟩,
    ⟨.load true 32 (.t 5), some 6, none⟩,
    ⟨.mv (.c (.p (.i .i64 0))), some 7, none⟩])
  (.keep [1, 6, 7] (.block 0 (.loop [1, 6, 7] c_page_cells_0)))))
  (.keep [] c_page_cells_1))
def f_page_cells : AFn := ⟨1, 34, c_page_cells, [.tmp 2], false⟩

/- strings.Repeat -/


/- pagemend/page.number -/
def c_page_number : ACode := .seq (.reg false [] [⟨.mv (.c (.p (.i .i64 0))), some 6, none⟩])
  (.seq (.reg false [] [⟨.mv (.t 0), some 10, none⟩,
    ⟨.mv (.t 1), some 11, none⟩,
    ⟨.mv (.t 2), some 12, none⟩,
    ⟨.call i_codec_Get [(.t 10), (.t 11), (.t 12)] 0, some 13, none⟩,
    ⟨.mv (.t 13), some 9, none⟩,
    ⟨.extr (.t 9) 0, some 14, none⟩,
    ⟨.extr (.t 9) 1, some 15, none⟩,
    ⟨.mv (.t 14), some 7, none⟩,
    ⟨.mv (.t 15), some 8, none⟩])
  (.keep [7] (.seq (.reg false [] [⟨.mv (.t 7), some 16, none⟩,
    ⟨.mv (.t 16), some 6, none⟩])
  (.ret))))
def f_page_number : AFn := ⟨3, 17, c_page_number, [.tmp 6], false⟩

/- pagemend/page.read -/
def c_page_read_0 : ACode := .seq (.reg false [] [⟨.bin .lss .plain (.t 13) (.c (.p (.i .i64 16))), some 14, none⟩])
  (.seq (.cond (.t 14)
  (.skip)
  (.exit 0))
  (.seq (.block 1 (.seq (.reg false [] [⟨.mv (.t 13), some 15, none⟩,
    ⟨.mv (.t 15), some 5, none⟩])
  (.seq (.reg false [] [⟨.mv (.t 5), some 16, none⟩,
    ⟨.bin .mul .plain (.t 16) (.c (.p (.i .i64 13))), some 17, none⟩,
    ⟨.bin .add .plain (.c (.p (.i .i64 12))) (.t 17), some 18, none⟩,
    ⟨.mv (.t 18), some 6, none⟩])
  (.keep [0, 2, 4, 5, 6, 13] (.seq (.reg false [] [⟨.mv (.t 0), some 19, none⟩,
    ⟨.mv (.t 6), some 20, none⟩,
    ⟨.call i_page_number [(.t 19), (.t 20), (.c (.p (.i .i64 1)))] 0, some 21, none⟩,
    ⟨.mv (.t 21), some 7, none⟩])
  (.keep [0, 2, 4, 5, 6, 7, 13] (.block 2 (.seq (.reg false [] [⟨.mv (.t 7), some 35, none⟩,
    ⟨.bin .eql .plain (.t 35) (.c (.p (.i .i64 255))), some 36, none⟩,
    ⟨.mv (.t 36), some 34, none⟩])
  (.keep [0, 2, 4, 5, 6, 7, 13, 34] (.cond (.t 34)
  (.skip)
  (.seq (.reg false [] [⟨.mv (.t 7), some 38, none⟩,
      ⟨.bin .gtr .plain (.t 38) (.c (.p (.i .i64 12))), some 39, none⟩,
      ⟨.mv (.t 39), some 37, none⟩])
    (.keep [0, 2, 4, 5, 6, 7, 13, 37] (.cond (.t 37)
    (.seq (.reg false [] [⟨.build (e_api_Page default) [], some 40, none⟩,
        ⟨.store 34 (.t 2) (.t 40), none, none⟩,
        ⟨.mv (.c (.p (.b false))), some 3, none⟩])
      (.ret))
    (.reg false [] [⟨.mv (.t 5), some 22, none⟩,
        ⟨.mv (.t 0), some 23, none⟩,
        ⟨.mv (.t 6), some 24, none⟩,
        ⟨.bin .add .plain (.t 24) (.c (.p (.i .i64 1))), some 25, none⟩,
        ⟨.mv (.t 6), some 26, none⟩,
        ⟨.bin .add .plain (.t 26) (.c (.p (.i .i64 1))), some 27, none⟩,
        ⟨.mv (.t 7), some 28, none⟩,
        ⟨.bin .add .plain (.t 27) (.t 28), some 29, none⟩,
        ⟨.slice .str (.t 23) (some (.t 25)) (some (.t 29)) none, some 30, none⟩,
        ⟨.build (e_api_Cell default) [(0, 1, (.c (.p (.b true)))), (1, 1, (.t 30))], some 31, none⟩,
        ⟨.faddr 2 (.t 4), some 32, none⟩,
        ⟨.aaddr 16 2 (.t 32) (.t 22), some 33, none⟩,
        ⟨.store 2 (.t 33) (.t 31), none, none⟩]))))))))))))))
  (.reg false [] [⟨.bin .add .plain (.t 13) (.c (.p (.i .i64 1))), some 41, none⟩,
    ⟨.mv (.t 41), some 13, none⟩])))
def c_page_read_1 : ACode := .seq (.reg false [] [⟨.load true 34 (.t 4), some 42, none⟩,
    ⟨.store 34 (.t 2) (.t 42), none, none⟩,
    ⟨.mv (.c (.p (.b true))), some 3, none⟩])
  (.ret)
def c_page_read : ACode := .seq (.reg false [] [⟨.newbox (e_api_Page default), some 2, none⟩,
    ⟨.mv (.c (.p (.b false))), some 3, none⟩])
  (.seq (.reg false [] [⟨.mv (.t 0), some 8, none⟩,
    ⟨.call i_page_number [(.t 8), (.c (.p (.i .i64 8))), (.c (.p (.i .i64 4)))] 0, some 9, none⟩,
    ⟨.mv (.t 0), some 10, none⟩,
    ⟨.call i_page_number [(.t 10), (.c (.p (.i .i64 0))), (.c (.p (.i .i64 8)))] 0, some 11, none⟩,
    ⟨.build (e_api_Page default) [(0, 1, (.t 9)), (1, 1, (.t 11))], some 12, none⟩,
    ⟨.newbox (e_api_Page default), some 4, none⟩,
    ⟨.store 34 (.t 4) (.t 12), none, none⟩])
  (.keep [0, 2, 4] (.seq (.seq (.reg false [] [⟨.mv (.c (.p (.i .i64 0))), some 13, none⟩])
  (.block 0 (.loop [0, 2, 4, 13] c_page_read_0)))
  (.keep [2, 4] c_page_read_1))))
def f_page_read : AFn := ⟨1, 43, c_page_read, [.cell 2 true 34, .tmp 3], false⟩

/- pagemend/page.named -/
def c_page_named : ACode := .seq (.reg false [] [⟨.mv (.c (.p (.b false))), some 2, none⟩])
  (.seq (.reg false [] [⟨.mv (.t 0), some 3, none⟩,
    ⟨.bin .geq .plain (.t 3) (.c (.p (.i .i64 0))), some 4, none⟩,
    ⟨.mv (.t 4), some 5, none⟩,
    ⟨.mv (.t 0), some 6, some (5, true)⟩,
    ⟨.bin .lss .plain (.t 6) (.c (.p (.i .i64 64))), some 7, some (5, true)⟩,
    ⟨.pick (.t 5) (.t 7) (.c (.p (.b false))), some 8, none⟩,
    ⟨.mv (.t 8), some 2, none⟩])
  (.ret))
def f_page_named : AFn := ⟨1, 9, c_page_named, [.tmp 2], false⟩

/- pagemend/codec.remainders -/
def c_codec_remainders_0 : ACode := .seq (.reg false [] [⟨.bin .lss .plain (.t 9) (.c (.p (.i .i64 4))), some 10, none⟩])
  (.seq (.cond (.t 10)
  (.skip)
  (.exit 2))
  (.seq (.block 3 (.seq (.reg false [] [⟨.mv (.t 3), some 11, none⟩,
    ⟨.bin .and .plain (.t 11) (.c (.p (.i .u32 1))), some 12, none⟩,
    ⟨.bin .eql .plain (.t 12) (.c (.p (.i .u32 1))), some 13, none⟩])
  (.keep [0, 1, 2, 3, 4, 9, 13] (.cond (.t 13)
  (.reg false [] [⟨.mv (.t 3), some 14, none⟩,
      ⟨.bin .shr .plain (.t 14) (.c (.p (.i .u64 1))), some 15, none⟩,
      ⟨.bin .xor .plain (.t 15) (.c (.p (.i .u32 2197175160))), some 16, none⟩,
      ⟨.mv (.t 16), some 3, none⟩])
  (.reg false [] [⟨.mv (.t 3), some 17, none⟩,
      ⟨.bin .shr .plain (.t 17) (.c (.p (.i .u64 1))), some 18, none⟩,
      ⟨.mv (.t 18), some 3, none⟩])))))
  (.reg false [] [⟨.bin .add .plain (.t 9) (.c (.p (.i .i64 1))), some 19, none⟩,
    ⟨.mv (.t 19), some 9, none⟩])))
def c_codec_remainders_1 : ACode := .reg false [] [⟨.mv (.t 2), some 20, none⟩,
    ⟨.mv (.t 3), some 21, none⟩,
    ⟨.aaddr 16 1 (.t 1) (.t 20), some 22, none⟩,
    ⟨.store 1 (.t 22) (.t 21), none, none⟩]
def c_codec_remainders_2 : ACode := .reg false [] [⟨.bin .add .plain (.t 4) (.c (.p (.i .i64 1))), some 23, none⟩,
    ⟨.mv (.t 23), some 4, none⟩]
def c_codec_remainders_3 : ACode := .seq (.reg false [] [⟨.bin .lss .plain (.t 4) (.c (.p (.i .i64 16))), some 5, none⟩])
  (.seq (.cond (.t 5)
  (.skip)
  (.exit 0))
  (.seq (.block 1 (.seq (.reg false [] [⟨.mv (.t 4), some 6, none⟩,
    ⟨.mv (.t 6), some 2, none⟩])
  (.seq (.reg false [] [⟨.mv (.t 2), some 7, none⟩,
    ⟨.conv (.int .u32) (.t 7), some 8, none⟩,
    ⟨.mv (.t 8), some 3, none⟩])
  (.keep [0, 1, 2, 3, 4] (.seq (.seq (.reg false [] [⟨.mv (.c (.p (.i .i64 0))), some 9, none⟩])
  (.block 2 (.loop [0, 1, 2, 3, 4, 9] c_codec_remainders_0)))
  (.keep [0, 1, 2, 3, 4] c_codec_remainders_1))))))
  (.keep [0, 1, 4] c_codec_remainders_2)))
def c_codec_remainders_4 : ACode := .seq (.reg false [] [⟨.load true 16 (.t 1), some 24, none⟩,
    ⟨.store 16 (.t 0) (.t 24), none, none⟩])
  (.ret)
def c_codec_remainders : ACode := .seq (.reg false [] [⟨.newbox (e_ar (r_i .u32) (Vector.replicate 16 (0 : Int))), some 0, none⟩])
  (.seq (.reg false [] [⟨.newbox (e_ar (r_i .u32) (Vector.replicate 16 (0 : Int))), some 1, none⟩])
  (.seq (.seq (.reg false [] [⟨.mv (.c (.p (.i .i64 0))), some 4, none⟩])
  (.block 0 (.loop [0, 1, 4] c_codec_remainders_3)))
  (.keep [0, 1] c_codec_remainders_4)))
def f_codec_remainders : AFn := ⟨0, 25, c_codec_remainders, [.cell 0 true 16], false⟩

/- (*pagemend/pagemenddraw.Codes).Page -/
def c_draw_Codes_Page_0 : ACode := .seq (.seq (.reg false [] [⟨.mv (.t 6), some 23, none⟩,
    ⟨.bin .gtr .plain (.t 23) (.c (.p (.i .i64 0))), some 24, none⟩])
  (.cond (.t 24)
  (.skip)
  (.exit 0)))
  (.seq (.block 1 (.reg false [] [⟨.mv (.t 0), some 27, none⟩,
    ⟨.call i_draw_Codes_Next [(.t 27), (.c (.p (.i .i64 16)))] 0, some 28, none⟩,
    ⟨.mv (.t 0), some 29, none⟩,
    ⟨.call i_draw_Codes_Cell [(.t 29)] 0, some 30, none⟩,
    ⟨.faddr 2 (.t 5), some 31, none⟩,
    ⟨.aaddr 16 2 (.t 31) (.t 28), some 32, none⟩,
    ⟨.store 2 (.t 32) (.t 30), none, none⟩]))
  (.reg false [] [⟨.mv (.t 6), some 25, none⟩,
    ⟨.bin .sub .plain (.t 25) (.c (.p (.i .i64 1))), some 26, none⟩,
    ⟨.mv (.t 26), some 6, none⟩]))
def c_draw_Codes_Page_1 : ACode := .seq (.reg false [] [⟨.load true 34 (.t 5), some 33, none⟩,
    ⟨.store 34 (.t 4) (.t 33), none, none⟩])
  (.ret)
def c_draw_Codes_Page_2 : ACode := .seq (.seq (.reg false [] [⟨.faddr 1 (.t 5), some 18, none⟩,
    ⟨.load false 1 (.t 18), some 19, none⟩,
    ⟨.bin .gtr .plain (.t 19) (.c (.p (.i .i64 0))), some 20, none⟩])
  (.keep [0, 4, 5, 20] (.cond (.t 20)
  (.seq (.reg false [] [⟨.mv (.t 0), some 21, none⟩,
      ⟨.call i_draw_Codes_Next [(.t 21), (.c (.p (.i .i64 6)))] 0, some 22, none⟩,
      ⟨.mv (.t 22), some 6, none⟩])
    (.keep [0, 4, 5, 6] (.block 0 (.loop [0, 4, 5, 6] c_draw_Codes_Page_0))))
  (.skip))))
  (.keep [4, 5] c_draw_Codes_Page_1)
def c_draw_Codes_Page : ACode := .seq (.reg false [] [⟨.newbox (e_api_Page default), some 4, none⟩])
  (.seq (.reg false [] [⟨.mv (.t 1), some 7, none⟩,
    ⟨.mv (.t 0), some 8, none⟩,
    ⟨.call i_draw_Codes_Next [(.t 8), (.c (.p (.i .i64 50)))] 0, some 9, none⟩,
    ⟨.build (e_api_Page default) [(0, 1, (.t 7)), (1, 1, (.t 9))], some 10, none⟩,
    ⟨.newbox (e_api_Page default), some 5, none⟩,
    ⟨.store 34 (.t 5) (.t 10), none, none⟩])
  (.keep [0, 4, 5] (.seq (.seq (.reg false [] [⟨.mv (.t 0), some 11, none⟩,
    ⟨.call i_draw_Codes_Next [(.t 11), (.c (.p (.i .i64 10)))] 0, some 12, none⟩,
    ⟨.bin .eql .plain (.t 12) (.c (.p (.i .i64 9))), some 13, none⟩])
  (.keep [0, 4, 5, 13] (.cond (.t 13)
  (.reg false [] [⟨.mv (.t 0), some 14, none⟩,
      ⟨.call i_draw_Codes_Next [(.t 14), (.c (.p (.i .i64 2)))] 0, some 15, none⟩,
      ⟨.bin .sub .plain (.c (.p (.i .i64 1099511627776))) (.t 15), some 16, none⟩,
      ⟨.faddr 1 (.t 5), some 17, none⟩,
      ⟨.store 1 (.t 17) (.t 16), none, none⟩])
  (.skip))))
  (.keep [0, 4, 5] c_draw_Codes_Page_2))))
def f_draw_Codes_Page : AFn := ⟨2, 34, c_draw_Codes_Page, [.cell 4 true 34], false⟩

/- pagemend/page.Blank -/
def c_page_Blank : ACode := .seq (.reg false [] [⟨.mv (.c (.p (.s []))), some 0, none⟩])
  (.seq (.reg false [] [⟨.call i_strings_Repeat [(.c (.p (.s [0]))), (.c (.p (.i .i64 256)))] 0, some 1, none⟩,
    ⟨.mv (.t 1), some 0, none⟩])
  (.ret))
def f_page_Blank : AFn := ⟨0, 2, c_page_Blank, [.tmp 0], false⟩

/- pagemend/page.placed -/
def c_page_placed : ACode := .seq (.reg false [] [⟨.box 34 (.t 0), some 1, none⟩,
    ⟨.mv (.c (.p (.b false))), some 2, none⟩])
  (.seq (.reg false [] [⟨.faddr 0 (.t 1), some 3, none⟩,
    ⟨.load false 1 (.t 3), some 4, none⟩,
    ⟨.call i_page_named [(.t 4)] 0, some 5, none⟩,
    ⟨.mv (.t 5), some 6, none⟩,
    ⟨.faddr 1 (.t 1), some 7, some (6, true)⟩,
    ⟨.load false 1 (.t 7), some 8, some (6, true)⟩,
    ⟨.bin .geq .plain (.t 8) (.c (.p (.i .i64 0))), some 9, some (6, true)⟩,
    ⟨.pick (.t 6) (.t 9) (.c (.p (.b false))), some 10, none⟩,
    ⟨.mv (.t 10), some 11, none⟩,
    ⟨.faddr 1 (.t 1), some 12, some (11, true)⟩,
    ⟨.load false 1 (.t 12), some 13, some (11, true)⟩,
    ⟨.bin .leq .plain (.t 13) (.c (.p (.i .i64 1099511627776))), some 14, some (11, true)⟩,
    ⟨.pick (.t 11) (.t 14) (.c (.p (.b false))), some 15, none⟩,
    ⟨.mv (.t 15), some 2, none⟩])
  (.ret))
def f_page_placed : AFn := ⟨1, 16, c_page_placed, [.tmp 2], false⟩

/- (*pagemend/page.builder).cell -/
def c_page_builder_cell_0 : ACode := .reg true [(6, 8), (6, 11), (8, 14)] [⟨.mv (.t 0), some 10, none⟩,
    ⟨.mv (.t 0), some 11, none⟩,
    ⟨.nilchk (.t 11), some 12, none⟩,
    ⟨.faddr 0 (.t 12), some 13, none⟩,
    ⟨.load false 1 (.t 13), some 14, none⟩,
    ⟨.mv (.t 4), some 15, none⟩,
    ⟨.call i_codec_Put [(.t 14), (.t 15), (.c (.p (.i .i64 1)))] 0, some 16, none⟩,
    ⟨.faddr 1 (.t 3), some 17, none⟩,
    ⟨.load false 1 (.t 17), some 18, none⟩,
    ⟨.bin .add .plain (.t 16) (.t 18), some 19, none⟩,
    ⟨.faddr 1 (.t 3), some 20, none⟩,
    ⟨.load false 1 (.t 20), some 21, none⟩,
    ⟨.len true (.t 21), some 22, none⟩,
    ⟨.bin .sub .plain (.c (.p (.i .i64 12))) (.t 22), some 23, none⟩,
    ⟨.call i_strings_Repeat [(.c (.p (.s [0]))), (.t 23)] 0, some 24, none⟩,
    ⟨.bin .add .plain (.t 19) (.t 24), some 25, none⟩,
    ⟨.nilchk (.t 10), some 26, none⟩,
    ⟨.faddr 0 (.t 26), some 27, none⟩,
    ⟨.store 1 (.t 27) (.t 25), none, none⟩]
def c_page_builder_cell : ACode := .seq (.reg false [] [⟨.box 2 (.t 1), some 3, none⟩])
  (.seq (.reg false [] [⟨.mv (.c (.p (.i .i64 255))), some 4, none⟩])
  (.seq (.seq (.reg false [] [⟨.faddr 0 (.t 3), some 5, none⟩,
    ⟨.load false 1 (.t 5), some 6, none⟩])
  (.cond (.t 6)
  (.reg false [] [⟨.faddr 1 (.t 3), some 7, none⟩,
      ⟨.load false 1 (.t 7), some 8, none⟩,
      ⟨.len true (.t 8), some 9, none⟩,
      ⟨.mv (.t 9), some 4, none⟩])
  (.skip)))
  (.keep [0, 3, 4] c_page_builder_cell_0)))
def f_page_builder_cell : AFn := ⟨2, 28, c_page_builder_cell, [], false⟩

/- pagemend/codec.Sum -/
def c_codec_Sum_0 : ACode := .seq (.reg false [] [⟨.bin .lss .plain (.t 9) (.t 8), some 10, none⟩])
  (.seq (.cond (.t 10)
  (.skip)
  (.exit 0))
  (.seq (.block 1 (.seq (.reg false [] [⟨.mv (.t 9), some 11, none⟩,
    ⟨.mv (.t 11), some 5, none⟩])
  (.seq (.reg false [] [⟨.mv (.t 4), some 12, none⟩,
    ⟨.mv (.t 0), some 13, none⟩,
    ⟨.mv (.t 5), some 14, none⟩,
    ⟨.sidx (.t 13) (.t 14), some 15, none⟩,
    ⟨.conv (.int .u32) (.t 15), some 16, none⟩,
    ⟨.bin .xor .plain (.t 12) (.t 16), some 17, none⟩,
    ⟨.mv (.t 17), some 4, none⟩])
  (.keep [0, 3, 4, 8, 9] (.seq (.reg false [] [⟨.mv (.t 4), some 18, none⟩,
    ⟨.bin .shr .plain (.t 18) (.c (.p (.i .u64 4))), some 19, none⟩,
    ⟨.mv (.t 4), some 20, none⟩,
    ⟨.bin .and .plain (.t 20) (.c (.p (.i .u32 15))), some 21, none⟩,
    ⟨.aaddr 16 1 (.t 3) (.t 21), some 22, none⟩,
    ⟨.load false 1 (.t 22), some 23, none⟩,
    ⟨.bin .xor .plain (.t 19) (.t 23), some 24, none⟩,
    ⟨.mv (.t 24), some 4, none⟩])
  (.keep [0, 3, 4, 8, 9] (.reg false [] [⟨.mv (.t 4), some 25, none⟩,
    ⟨.bin .shr .plain (.t 25) (.c (.p (.i .u64 4))), some 26, none⟩,
    ⟨.mv (.t 4), some 27, none⟩,
    ⟨.bin .and .plain (.t 27) (.c (.p (.i .u32 15))), some 28, none⟩,
    ⟨.aaddr 16 1 (.t 3) (.t 28), some 29, none⟩,
    ⟨.load false 1 (.t 29), some 30, none⟩,
    ⟨.bin .xor .plain (.t 26) (.t 30), some 31, none⟩,
    ⟨.mv (.t 31), some 4, none⟩])))))))
  (.reg false [] [⟨.bin .add .plain (.t 9) (.c (.p (.i .i64 1))), some 32, none⟩,
    ⟨.mv (.t 32), some 9, none⟩])))
def c_codec_Sum_1 : ACode := .seq (.reg false [] [⟨.mv (.t 4), some 33, none⟩,
    ⟨.un .xor (.t 33), some 34, none⟩,
    ⟨.mv (.t 34), some 2, none⟩])
  (.ret)
def c_codec_Sum : ACode := .seq (.reg false [] [⟨.mv (.c (.p (.i .u32 0))), some 2, none⟩])
  (.seq (.reg false [] [⟨.call i_codec_remainders [] 0, some 6, none⟩,
    ⟨.newbox (e_ar (r_i .u32) (Vector.replicate 16 (0 : Int))), some 3, none⟩,
    ⟨.store 16 (.t 3) (.t 6), none, none⟩])
  (.keep [0, 3] (.seq (.reg false [] [⟨.mv (.c (.p (.i .u32 4294967295))), some 4, none⟩])
  (.seq (.seq (.reg false [] [⟨.mv (.t 0), some 7, none⟩,
    ⟨.len true (.t 7), some 8, none⟩,
    ⟨.mv (.c (.p (.i .i64 0))), some 9, none⟩])
  (.keep [0, 3, 4, 8, 9] (.block 0 (.loop [0, 3, 4, 8, 9] c_codec_Sum_0))))
  (.keep [4] c_codec_Sum_1)))))
def f_codec_Sum : AFn := ⟨1, 35, c_codec_Sum, [.tmp 2], false⟩

/- pagemend/page.Encode -/
def c_page_Encode_0 : ACode := .seq (.reg false [] [⟨.bin .lss .plain (.t 29) (.c (.p (.i .i64 16))), some 30, none⟩])
  (.seq (.cond (.t 30)
  (.skip)
  (.exit 1))
  (.seq (.block 2 (.seq (.reg false [] [⟨.aidx true 16 2 (.t 28) (.t 29), some 31, none⟩,
    ⟨.newbox (e_api_Cell default), some 7, none⟩,
    ⟨.store 2 (.t 7) (.t 31), none, none⟩])
  (.keep [1, 4, 5, 7, 28, 29] (.reg false [] [⟨.mv (.t 5), some 32, none⟩,
    ⟨.load true 2 (.t 7), some 33, none⟩,
    ⟨.callv (.t 32) [(.t 33)] 0, some 34, none⟩]))))
  (.reg false [] [⟨.bin .add .plain (.t 29) (.c (.p (.i .i64 1))), some 35, none⟩,
    ⟨.mv (.t 35), some 29, none⟩])))
def c_page_Encode_1 : ACode := .seq (.reg true [(3, 10)] [⟨.mv (.t 4), some 36, none⟩,
    ⟨.nilchk (.t 36), some 37, none⟩,
    ⟨.faddr 0 (.t 37), some 38, none⟩,
    ⟨.load false 1 (.t 38), some 39, none⟩,
    ⟨.mv (.t 4), some 40, none⟩,
    ⟨.nilchk (.t 40), some 41, none⟩,
    ⟨.faddr 0 (.t 41), some 42, none⟩,
    ⟨.load false 1 (.t 42), some 43, none⟩,
    ⟨.len true (.t 43), some 44, none⟩,
    ⟨.bin .sub .plain (.c (.p (.i .i64 244))) (.t 44), some 45, none⟩,
    ⟨.call i_strings_Repeat [(.c (.p (.s [0]))), (.t 45)] 0, some 46, none⟩,
    ⟨.bin .add .plain (.t 39) (.t 46), some 47, none⟩,
    ⟨.mv (.t 47), some 8, none⟩])
  (.keep [1, 8] (.seq (.reg true [(2, 6), (4, 6)] [⟨.mv (.t 8), some 48, none⟩,
    ⟨.mv (.t 8), some 49, none⟩,
    ⟨.call i_codec_Sum [(.t 49)] 0, some 50, none⟩,
    ⟨.conv (.int .i64) (.t 50), some 51, none⟩,
    ⟨.call i_codec_Put [(.t 48), (.t 51), (.c (.p (.i .i64 4)))] 0, some 52, none⟩,
    ⟨.faddr 1 (.t 1), some 53, none⟩,
    ⟨.load false 1 (.t 53), some 54, none⟩,
    ⟨.call i_codec_Put [(.t 52), (.t 54), (.c (.p (.i .i64 8)))] 0, some 55, none⟩,
    ⟨.mv (.t 55), some 2, none⟩,
    ⟨.mv (.c (.p (.i .i64 0))), some 3, none⟩])
  (.ret)))
def c_page_Encode : ACode := .seq (.reg false [] [⟨.box 34 (.t 0), some 1, none⟩,
    ⟨.mv (.c (.p (.s []))), some 2, none⟩,
    ⟨.mv (.c (.p (.i .i64 0))), some 3, none⟩])
  (.keep [1] (.seq (.block 0 (.seq (.reg false [] [⟨.load true 34 (.t 1), some 10, none⟩,
    ⟨.call i_page_placed [(.t 10)] 0, some 11, none⟩,
    ⟨.un .not (.t 11), some 12, none⟩,
    ⟨.mv (.t 12), some 9, none⟩])
  (.keep [1, 9] (.cond (.t 9)
  (.seq (.reg false [] [⟨.mv (.c (.p (.s []))), some 2, none⟩,
      ⟨.mv (.c (.p (.i .i64 1))), some 3, none⟩])
    (.ret))
  (.seq (.reg false [] [⟨.load true 34 (.t 1), some 14, none⟩,
      ⟨.call i_page_cells [(.t 14)] 0, some 15, none⟩,
      ⟨.un .not (.t 15), some 16, none⟩,
      ⟨.mv (.t 16), some 13, none⟩])
    (.keep [1, 13] (.cond (.t 13)
    (.seq (.reg false [] [⟨.mv (.c (.p (.s []))), some 2, none⟩,
        ⟨.mv (.c (.p (.i .i64 22))), some 3, none⟩])
      (.ret))
    (.skip))))))))
  (.seq (.reg true [(2, 4)] [⟨.faddr 1 (.t 1), some 17, none⟩,
    ⟨.load false 1 (.t 17), some 18, none⟩,
    ⟨.call i_codec_Put [(.c (.p (.s []))), (.t 18), (.c (.p (.i .i64 8)))] 0, some 19, none⟩,
    ⟨.faddr 0 (.t 1), some 20, none⟩,
    ⟨.load false 1 (.t 20), some 21, none⟩,
    ⟨.call i_codec_Put [(.t 19), (.t 21), (.c (.p (.i .i64 4)))] 0, some 22, none⟩,
    ⟨.build (e_page_builder default) [(0, 1, (.t 22))], some 23, none⟩,
    ⟨.box 1 (.t 23), some 24, none⟩,
    ⟨.mv (.t 24), some 4, none⟩])
  (.keep [1, 4] (.seq (.reg false [] [⟨.mv (.t 4), some 25, none⟩,
    ⟨.mkfn i_page_builder_cell [(.t 25)] [], some 26, none⟩,
    ⟨.mv (.t 26), some 5, none⟩])
  (.keep [1, 4, 5] (.seq (.tidy [1, 2, 3, 4] (.seq (.reg false [] [⟨.faddr 2 (.t 1), some 27, none⟩,
    ⟨.load true 32 (.t 27), some 28, none⟩,
    ⟨.mv (.c (.p (.i .i64 0))), some 29, none⟩])
  (.keep [1, 4, 5, 28, 29] (.block 1 (.loop [1, 4, 5, 28, 29] c_page_Encode_0)))))
  (.keep [1, 4] c_page_Encode_1))))))))
def f_page_Encode : AFn := ⟨1, 56, c_page_Encode, [.tmp 2, .tmp 3], false⟩

/- pagemend/page.Decode -/
def c_page_Decode : ACode := .seq (.reg false [] [⟨.newbox (e_api_Page default), some 2, none⟩,
    ⟨.mv (.c (.p (.i .i64 0))), some 3, none⟩])
  (.seq (.block 0 (.seq (.reg false [] [⟨.mv (.t 0), some 9, none⟩,
    ⟨.len true (.t 9), some 10, none⟩,
    ⟨.bin .neq .plain (.t 10) (.c (.p (.i .i64 256))), some 11, none⟩,
    ⟨.mv (.t 11), some 8, none⟩])
  (.keep [0, 2, 8] (.cond (.t 8)
  (.seq (.reg false [] [⟨.build (e_api_Page default) [], some 12, none⟩,
      ⟨.store 34 (.t 2) (.t 12), none, none⟩,
      ⟨.mv (.c (.p (.i .i64 2))), some 3, none⟩])
    (.ret))
  (.seq (.reg false [] [⟨.mv (.t 0), some 14, none⟩,
      ⟨.call i_page_Blank [] 0, some 15, none⟩,
      ⟨.bin .eql .plain (.t 14) (.t 15), some 16, none⟩,
      ⟨.mv (.t 16), some 13, none⟩])
    (.keep [0, 2, 13] (.cond (.t 13)
    (.seq (.reg false [] [⟨.build (e_api_Page default) [], some 17, none⟩,
        ⟨.store 34 (.t 2) (.t 17), none, none⟩,
        ⟨.mv (.c (.p (.i .i64 7))), some 3, none⟩])
      (.ret))
    (.seq (.reg true [] [⟨.mv (.t 0), some 19, none⟩,
        ⟨.slice .str (.t 19) none (some (.c (.p (.i .i64 8)))) none, some 20, none⟩,
        ⟨.mv (.t 0), some 21, none⟩,
        ⟨.slice .str (.t 21) (some (.c (.p (.i .i64 248)))) none none, some 22, none⟩,
        ⟨.bin .neq .plain (.t 20) (.t 22), some 23, none⟩,
        ⟨.mv (.t 23), some 18, none⟩])
      (.keep [0, 2, 18] (.cond (.t 18)
      (.seq (.reg false [] [⟨.build (e_api_Page default) [], some 24, none⟩,
          ⟨.store 34 (.t 2) (.t 24), none, none⟩,
          ⟨.mv (.c (.p (.i .i64 27))), some 3, none⟩])
        (.ret))
      (.seq (.reg true [] [⟨.mv (.t 0), some 26, none⟩,
          ⟨.call i_page_number [(.t 26), (.c (.p (.i .i64 244))), (.c (.p (.i .i64 4)))] 0, some 27, none⟩,
          ⟨.mv (.t 0), some 28, none⟩,
          ⟨.slice .str (.t 28) none (some (.c (.p (.i .i64 244)))) none, some 29, none⟩,
          ⟨.call i_codec_Sum [(.t 29)] 0, some 30, none⟩,
          ⟨.conv (.int .i64) (.t 30), some 31, none⟩,
          ⟨.bin .neq .plain (.t 27) (.t 31), some 32, none⟩,
          ⟨.mv (.t 32), some 25, none⟩])
        (.keep [0, 2, 25] (.cond (.t 25)
        (.seq (.reg false [] [⟨.build (e_api_Page default) [], some 33, none⟩,
            ⟨.store 34 (.t 2) (.t 33), none, none⟩,
            ⟨.mv (.c (.p (.i .i64 3))), some 3, none⟩])
          (.ret))
        (.skip))))))))))))))
  (.seq (.reg false [] [⟨.mv (.t 0), some 35, none⟩,
    ⟨.call i_page_read [(.t 35)] 0, some 36, none⟩,
    ⟨.mv (.t 36), some 34, none⟩,
    ⟨.extr (.t 34) 0, some 37, none⟩,
    ⟨.extr (.t 34) 1, some 38, none⟩,
    ⟨.newbox (e_api_Page default), some 4, none⟩,
    ⟨.store 34 (.t 4) (.t 37), none, none⟩,
    ⟨.mv (.t 38), some 5, none⟩])
  (.keep [0, 2, 4, 5] (.seq (.seq (.reg false [] [⟨.load true 34 (.t 4), some 40, none⟩,
    ⟨.call i_page_Encode [(.t 40)] 0, some 41, none⟩,
    ⟨.mv (.t 41), some 39, none⟩,
    ⟨.extr (.t 39) 0, some 42, none⟩,
    ⟨.extr (.t 39) 1, some 43, none⟩,
    ⟨.mv (.t 42), some 6, none⟩,
    ⟨.mv (.t 43), some 7, none⟩])
  (.keep [0, 2, 4, 5, 6, 7] (.seq (.reg false [] [⟨.mv (.t 5), some 44, none⟩,
    ⟨.un .not (.t 44), some 45, none⟩,
    ⟨.mv (.t 45), some 46, none⟩,
    ⟨.mv (.t 7), some 47, some (46, false)⟩,
    ⟨.bin .neq .plain (.t 47) (.c (.p (.i .i64 0))), some 48, some (46, false)⟩,
    ⟨.pick (.t 46) (.c (.p (.b true))) (.t 48), some 49, none⟩,
    ⟨.mv (.t 49), some 50, none⟩,
    ⟨.mv (.t 6), some 51, some (50, false)⟩,
    ⟨.mv (.t 0), some 52, some (50, false)⟩,
    ⟨.bin .neq .plain (.t 51) (.t 52), some 53, some (50, false)⟩,
    ⟨.pick (.t 50) (.c (.p (.b true))) (.t 53), some 54, none⟩])
  (.keep [2, 4, 54] (.cond (.t 54)
  (.seq (.reg false [] [⟨.build (e_api_Page default) [], some 55, none⟩,
      ⟨.store 34 (.t 2) (.t 55), none, none⟩,
      ⟨.mv (.c (.p (.i .i64 4))), some 3, none⟩])
    (.ret))
  (.skip))))))
  (.seq (.reg false [] [⟨.load true 34 (.t 4), some 56, none⟩,
    ⟨.store 34 (.t 2) (.t 56), none, none⟩,
    ⟨.mv (.c (.p (.i .i64 0))), some 3, none⟩])
  (.ret))))))
def f_page_Decode : AFn := ⟨1, 57, c_page_Decode, [.cell 2 true 34, .tmp 3], false⟩

/- pagemend/page.Identify -/
def c_page_Identify : ACode := .seq (.reg false [] [⟨.newbox (e_api_Page default), some 4, none⟩,
    ⟨.mv (.c (.p (.i .i64 0))), some 5, none⟩])
  (.seq (.seq (.reg false [] [⟨.mv (.t 1), some 8, none⟩,
    ⟨.call i_page_named [(.t 8)] 0, some 9, none⟩,
    ⟨.un .not (.t 9), some 10, none⟩])
  (.keep [0, 1, 4, 10] (.cond (.t 10)
  (.seq (.reg false [] [⟨.build (e_api_Page default) [], some 11, none⟩,
      ⟨.store 34 (.t 4) (.t 11), none, none⟩,
      ⟨.mv (.c (.p (.i .i64 1))), some 5, none⟩])
    (.ret))
  (.skip))))
  (.seq (.reg false [] [⟨.mv (.t 0), some 13, none⟩,
    ⟨.call i_page_Decode [(.t 13)] 0, some 14, none⟩,
    ⟨.mv (.t 14), some 12, none⟩,
    ⟨.extr (.t 12) 0, some 15, none⟩,
    ⟨.extr (.t 12) 1, some 16, none⟩,
    ⟨.newbox (e_api_Page default), some 6, none⟩,
    ⟨.store 34 (.t 6) (.t 15), none, none⟩,
    ⟨.mv (.t 16), some 7, none⟩])
  (.keep [1, 4, 6, 7] (.seq (.block 0 (.seq (.reg false [] [⟨.mv (.t 7), some 18, none⟩,
    ⟨.bin .eql .plain (.t 18) (.c (.p (.i .i64 7))), some 19, none⟩,
    ⟨.mv (.t 19), some 17, none⟩])
  (.keep [1, 4, 6, 7, 17] (.cond (.t 17)
  (.seq (.reg false [] [⟨.mv (.t 1), some 20, none⟩,
      ⟨.call i_page_New [(.t 20)] 0, some 21, none⟩,
      ⟨.store 34 (.t 4) (.t 21), none, none⟩,
      ⟨.mv (.c (.p (.i .i64 0))), some 5, none⟩])
    (.ret))
  (.seq (.reg false [] [⟨.mv (.t 7), some 23, none⟩,
      ⟨.bin .neq .plain (.t 23) (.c (.p (.i .i64 0))), some 24, none⟩,
      ⟨.mv (.t 24), some 22, none⟩])
    (.keep [1, 4, 6, 7, 22] (.cond (.t 22)
    (.seq (.reg false [] [⟨.build (e_api_Page default) [], some 25, none⟩,
        ⟨.mv (.t 7), some 26, none⟩,
        ⟨.store 34 (.t 4) (.t 25), none, none⟩,
        ⟨.mv (.t 26), some 5, none⟩])
      (.ret))
    (.seq (.reg false [] [⟨.faddr 0 (.t 6), some 28, none⟩,
        ⟨.load false 1 (.t 28), some 29, none⟩,
        ⟨.mv (.t 1), some 30, none⟩,
        ⟨.bin .neq .plain (.t 29) (.t 30), some 31, none⟩,
        ⟨.mv (.t 31), some 27, none⟩])
      (.keep [4, 6, 27] (.cond (.t 27)
      (.seq (.reg false [] [⟨.build (e_api_Page default) [], some 32, none⟩,
          ⟨.store 34 (.t 4) (.t 32), none, none⟩,
          ⟨.mv (.c (.p (.i .i64 6))), some 5, none⟩])
        (.ret))
      (.skip)))))))))))
  (.seq (.reg false [] [⟨.load true 34 (.t 6), some 33, none⟩,
    ⟨.store 34 (.t 4) (.t 33), none, none⟩,
    ⟨.mv (.c (.p (.i .i64 0))), some 5, none⟩])
  (.ret))))))
def f_page_Identify : AFn := ⟨2, 34, c_page_Identify, [.cell 4 true 34, .tmp 5], false⟩

/- pagemend/pagemendlaw02.awake -/
def c_law02_awake : ACode := .seq (.reg false [] [⟨.mv (.c (.p (.b false))), some 0, none⟩])
  (.seq (.reg false [] [⟨.call i_page_New [(.c (.p (.i .i64 3)))] 0, some 4, none⟩,
    ⟨.call i_page_Encode [(.t 4)] 0, some 5, none⟩,
    ⟨.mv (.t 5), some 3, none⟩,
    ⟨.extr (.t 3) 0, some 6, none⟩,
    ⟨.extr (.t 3) 1, some 7, none⟩,
    ⟨.mv (.t 6), some 1, none⟩,
    ⟨.mv (.t 7), some 2, none⟩])
  (.keep [1, 2] (.seq (.reg false [] [⟨.mv (.t 2), some 8, none⟩,
    ⟨.bin .eql .plain (.t 8) (.c (.p (.i .i64 0))), some 9, none⟩,
    ⟨.mv (.t 9), some 10, none⟩,
    ⟨.mv (.t 1), some 11, some (10, true)⟩,
    ⟨.len true (.t 11), some 12, some (10, true)⟩,
    ⟨.bin .eql .plain (.t 12) (.c (.p (.i .i64 256))), some 13, some (10, true)⟩,
    ⟨.pick (.t 10) (.t 13) (.c (.p (.b false))), some 14, none⟩,
    ⟨.mv (.t 14), some 15, none⟩,
    ⟨.mv (.t 1), some 16, some (15, true)⟩,
    ⟨.sidx (.t 16) (.c (.p (.i .i64 8))), some 17, some (15, true)⟩,
    ⟨.bin .eql .plain (.t 17) (.c (.p (.i .u8 3))), some 18, some (15, true)⟩,
    ⟨.pick (.t 15) (.t 18) (.c (.p (.b false))), some 19, none⟩,
    ⟨.mv (.t 19), some 0, none⟩])
  (.ret))))
def f_law02_awake : AFn := ⟨0, 20, c_law02_awake, [.tmp 0], false⟩

/- pagemend/pagemendlaw02.PageTears -/
def c_law02_PageTears_0 : ACode := .seq (.reg false [] [⟨.bin .lss .plain (.t 89) (.t 88), some 90, none⟩])
  (.seq (.cond (.t 90)
  (.skip)
  (.exit 0))
  (.seq (.block 1 (.seq (.reg false [] [⟨.iaddr 1 (.t 87) (.t 89), some 91, none⟩,
    ⟨.load false 1 (.t 91), some 92, none⟩,
    ⟨.mv (.t 92), some 17, none⟩])
  (.keep [8, 11, 13, 17, 87, 88, 89] (.seq (.reg false [] [⟨.mv (.t 17), some 94, none⟩,
    ⟨.mv (.t 8), some 95, none⟩,
    ⟨.call i_page_Identify [(.t 94), (.t 95)] 0, some 96, none⟩,
    ⟨.mv (.t 96), some 93, none⟩,
    ⟨.extr (.t 93) 0, some 97, none⟩,
    ⟨.extr (.t 93) 1, some 98, none⟩,
    ⟨.newbox (e_api_Page default), some 18, none⟩,
    ⟨.store 34 (.t 18) (.t 97), none, none⟩,
    ⟨.mv (.t 98), some 19, none⟩])
  (.keep [8, 11, 13, 17, 18, 19, 87, 88, 89] (.seq (.reg false [] [⟨.mv (.t 19), some 99, none⟩,
    ⟨.bin .eql .plain (.t 99) (.c (.p (.i .i64 0))), some 100, none⟩,
    ⟨.mv (.t 100), some 101, none⟩,
    ⟨.mv (.t 17), some 102, some (101, true)⟩,
    ⟨.mv (.t 11), some 103, some (101, true)⟩,
    ⟨.bin .neq .plain (.t 102) (.t 103), some 104, some (101, true)⟩,
    ⟨.mv (.t 104), some 105, some (101, true)⟩,
    ⟨.mv (.t 17), some 106, some (105, true)⟩,
    ⟨.mv (.t 13), some 107, some (105, true)⟩,
    ⟨.bin .neq .plain (.t 106) (.t 107), some 108, some (105, true)⟩,
    ⟨.pick (.t 105) (.t 108) (.c (.p (.b false))), some 109, some (101, true)⟩,
    ⟨.mv (.t 109), some 110, some (101, true)⟩,
    ⟨.faddr 0 (.t 18), some 111, some (110, false)⟩,
    ⟨.load false 1 (.t 111), some 112, some (110, false)⟩,
    ⟨.mv (.t 8), some 113, some (110, false)⟩,
    ⟨.bin .neq .plain (.t 112) (.t 113), some 114, some (110, false)⟩,
    ⟨.pick (.t 110) (.c (.p (.b true))) (.t 114), some 115, some (101, true)⟩,
    ⟨.pick (.t 101) (.t 115) (.c (.p (.b false))), some 116, none⟩])
  (.keep [8, 11, 13, 87, 88, 89, 116] (.cond (.t 116)
  (.seq (.reg false [] [⟨.mv (.c (.p (.b false))), some 6, none⟩])
    (.ret))
  (.skip)))))))))
  (.reg false [] [⟨.bin .add .plain (.t 89) (.c (.p (.i .i64 1))), some 117, none⟩,
    ⟨.mv (.t 117), some 89, none⟩])))
def c_law02_PageTears_1 : ACode := .seq (.reg false [] [⟨.mv (.c (.p (.b true))), some 6, none⟩])
  (.ret)
def c_law02_PageTears_2 : ACode := .seq (.seq (.reg false [] [⟨.mv (.t 12), some 54, none⟩,
    ⟨.bin .neq .plain (.t 54) (.c (.p (.i .i64 0))), some 55, none⟩,
    ⟨.mv (.t 55), some 56, none⟩,
    ⟨.mv (.t 14), some 57, some (56, false)⟩,
    ⟨.bin .neq .plain (.t 57) (.c (.p (.i .i64 0))), some 58, some (56, false)⟩,
    ⟨.pick (.t 56) (.c (.p (.b true))) (.t 58), some 59, none⟩,
    ⟨.mv (.t 59), some 60, none⟩,
    ⟨.mv (.t 11), some 61, some (60, false)⟩,
    ⟨.len true (.t 61), some 62, some (60, false)⟩,
    ⟨.bin .neq .plain (.t 62) (.c (.p (.i .i64 256))), some 63, some (60, false)⟩,
    ⟨.pick (.t 60) (.c (.p (.b true))) (.t 63), some 64, none⟩,
    ⟨.mv (.t 64), some 65, none⟩,
    ⟨.mv (.t 13), some 66, some (65, false)⟩,
    ⟨.len true (.t 66), some 67, some (65, false)⟩,
    ⟨.bin .neq .plain (.t 67) (.c (.p (.i .i64 256))), some 68, some (65, false)⟩,
    ⟨.pick (.t 65) (.c (.p (.b true))) (.t 68), some 69, none⟩])
  (.keep [1, 8, 11, 13, 69] (.cond (.t 69)
  (.seq (.reg false [] [⟨.mv (.c (.p (.b false))), some 6, none⟩])
    (.ret))
  (.skip))))
  (.seq (.reg false [] [⟨.mv (.t 1), some 70, none⟩,
    ⟨.conv (.int .i64) (.t 70), some 71, none⟩,
    ⟨.bin .rem .plain (.t 71) (.c (.p (.i .i64 257))), some 72, none⟩,
    ⟨.mv (.t 72), some 15, none⟩])
  (.keep [8, 11, 13, 15] (.seq (.tidy [6] (.seq (.reg true [] [⟨.mv (.t 11), some 73, none⟩,
    ⟨.mv (.t 15), some 74, none⟩,
    ⟨.slice .str (.t 73) none (some (.t 74)) none, some 75, none⟩,
    ⟨.mv (.t 13), some 76, none⟩,
    ⟨.mv (.t 15), some 77, none⟩,
    ⟨.slice .str (.t 76) (some (.t 77)) none none, some 78, none⟩,
    ⟨.bin .add .plain (.t 75) (.t 78), some 79, none⟩,
    ⟨.mv (.t 13), some 80, none⟩,
    ⟨.mv (.t 15), some 81, none⟩,
    ⟨.slice .str (.t 80) none (some (.t 81)) none, some 82, none⟩,
    ⟨.mv (.t 11), some 83, none⟩,
    ⟨.mv (.t 15), some 84, none⟩,
    ⟨.slice .str (.t 83) (some (.t 84)) none none, some 85, none⟩,
    ⟨.bin .add .plain (.t 82) (.t 85), some 86, none⟩,
    ⟨.lits false 1 2 [(.s [])] [(0, (.t 79)), (1, (.t 86))], some 87, none⟩,
    ⟨.len false (.t 87), some 88, none⟩,
    ⟨.mv (.c (.p (.i .i64 0))), some 89, none⟩])
  (.keep [8, 11, 13, 87, 88, 89] (.block 0 (.loop [8, 11, 13, 87, 88, 89] c_law02_PageTears_0)))))
  (.keep [] c_law02_PageTears_1))))
def c_law02_PageTears : ACode := .seq (.reg false [] [⟨.mv (.c (.p (.b false))), some 6, none⟩])
  (.seq (.seq (.reg false [] [⟨.call i_law02_awake [] 0, some 20, none⟩,
    ⟨.un .not (.t 20), some 21, none⟩])
  (.cond (.t 21)
  (.seq (.reg false [] [⟨.mv (.c (.p (.b false))), some 6, none⟩])
    (.ret))
  (.skip)))
  (.seq (.reg false [] [⟨.mv (.t 0), some 22, none⟩,
    ⟨.call i_draw_New [(.t 22), (.c (.p (.i .i64 200)))] 1, some 23, none⟩,
    ⟨.mv (.t 23), some 7, none⟩])
  (.keep [1, 2, 7] (.seq (.reg false [] [⟨.mv (.t 7), some 24, none⟩,
    ⟨.call i_draw_Codes_Next [(.t 24), (.c (.p (.i .i64 64)))] 0, some 25, none⟩,
    ⟨.mv (.t 25), some 8, none⟩])
  (.keep [1, 2, 7, 8] (.seq (.reg false [] [⟨.mv (.t 7), some 26, none⟩,
    ⟨.mv (.t 8), some 27, none⟩,
    ⟨.call i_draw_Codes_Page [(.t 26), (.t 27)] 0, some 28, none⟩,
    ⟨.mv (.t 7), some 29, none⟩,
    ⟨.mv (.t 8), some 30, none⟩,
    ⟨.call i_draw_Codes_Page [(.t 29), (.t 30)] 0, some 31, none⟩,
    ⟨.newbox (e_api_Page default), some 9, none⟩,
    ⟨.newbox (e_api_Page default), some 10, none⟩,
    ⟨.store 34 (.t 9) (.t 28), none, none⟩,
    ⟨.store 34 (.t 10) (.t 31), none, none⟩])
  (.keep [1, 2, 8, 9, 10] (.seq (.seq (.reg false [] [⟨.faddr 1 (.t 9), some 32, none⟩,
    ⟨.load false 1 (.t 32), some 33, none⟩,
    ⟨.faddr 1 (.t 10), some 34, none⟩,
    ⟨.load false 1 (.t 34), some 35, none⟩,
    ⟨.bin .eql .plain (.t 33) (.t 35), some 36, none⟩])
  (.keep [1, 2, 8, 9, 10, 36] (.cond (.t 36)
  (.seq (.reg false [] [⟨.mv (.c (.p (.b true))), some 6, none⟩])
    (.ret))
  (.skip))))
  (.seq (.reg false [] [⟨.load true 34 (.t 9), some 38, none⟩,
    ⟨.call i_page_Encode [(.t 38)] 0, some 39, none⟩,
    ⟨.mv (.t 39), some 37, none⟩,
    ⟨.extr (.t 37) 0, some 40, none⟩,
    ⟨.extr (.t 37) 1, some 41, none⟩,
    ⟨.mv (.t 40), some 11, none⟩,
    ⟨.mv (.t 41), some 12, none⟩])
  (.keep [1, 2, 8, 10, 11, 12] (.seq (.reg false [] [⟨.load true 34 (.t 10), some 43, none⟩,
    ⟨.call i_page_Encode [(.t 43)] 0, some 44, none⟩,
    ⟨.mv (.t 44), some 42, none⟩,
    ⟨.extr (.t 42) 0, some 45, none⟩,
    ⟨.extr (.t 42) 1, some 46, none⟩,
    ⟨.mv (.t 45), some 13, none⟩,
    ⟨.mv (.t 46), some 14, none⟩])
  (.keep [1, 2, 8, 10, 11, 12, 13, 14] (.seq (.seq (.reg false [] [⟨.mv (.t 2), some 47, none⟩,
    ⟨.mv (.t 47), some 48, none⟩,
    ⟨.faddr 1 (.t 10), some 49, some (48, true)⟩,
    ⟨.load false 1 (.t 49), some 50, some (48, true)⟩,
    ⟨.bin .gtr .plain (.t 50) (.c (.p (.i .i64 0))), some 51, some (48, true)⟩,
    ⟨.pick (.t 48) (.t 51) (.c (.p (.b false))), some 52, none⟩])
  (.keep [1, 8, 11, 12, 13, 14, 52] (.cond (.t 52)
  (.reg false [] [⟨.call i_page_Blank [] 0, some 53, none⟩,
      ⟨.mv (.t 53), some 11, none⟩])
  (.skip))))
  (.keep [1, 8, 11, 12, 13, 14] c_law02_PageTears_2))))))))))))))
def f_law02_PageTears : AFn := ⟨3, 118, c_law02_PageTears, [.tmp 6], false⟩
theorem z_draw_New : f_draw_New.res = [.tmp 4] ∧ f_draw_New.fresh = false := ⟨rfl, rfl⟩
theorem z_draw_Codes_Next : f_draw_Codes_Next.res = [.tmp 4] ∧ f_draw_Codes_Next.fresh = false := ⟨rfl, rfl⟩
theorem z_page_New : f_page_New.res = [.cell 2 true 34] ∧ f_page_New.fresh = false := ⟨rfl, rfl⟩
theorem z_draw_Codes_Data : f_draw_Codes_Data.res = [.tmp 2] ∧ f_draw_Codes_Data.fresh = false := ⟨rfl, rfl⟩
theorem z_codec_Get : f_codec_Get.res = [.tmp 6, .tmp 7] ∧ f_codec_Get.fresh = false := ⟨rfl, rfl⟩
theorem z_draw_Codes_Cell : f_draw_Codes_Cell.res = [.cell 2 true 2] ∧ f_draw_Codes_Cell.fresh = false := ⟨rfl, rfl⟩
theorem z_page_cells : f_page_cells.res = [.tmp 2] ∧ f_page_cells.fresh = false := ⟨rfl, rfl⟩
theorem z_page_number : f_page_number.res = [.tmp 6] ∧ f_page_number.fresh = false := ⟨rfl, rfl⟩
theorem z_page_read : f_page_read.res = [.cell 2 true 34, .tmp 3] ∧ f_page_read.fresh = false := ⟨rfl, rfl⟩
theorem z_page_named : f_page_named.res = [.tmp 2] ∧ f_page_named.fresh = false := ⟨rfl, rfl⟩
theorem z_codec_remainders : f_codec_remainders.res = [.cell 0 true 16] ∧ f_codec_remainders.fresh = false := ⟨rfl, rfl⟩
theorem z_draw_Codes_Page : f_draw_Codes_Page.res = [.cell 4 true 34] ∧ f_draw_Codes_Page.fresh = false := ⟨rfl, rfl⟩
theorem z_page_Blank : f_page_Blank.res = [.tmp 0] ∧ f_page_Blank.fresh = false := ⟨rfl, rfl⟩
theorem z_page_placed : f_page_placed.res = [.tmp 2] ∧ f_page_placed.fresh = false := ⟨rfl, rfl⟩
theorem z_page_builder_cell : f_page_builder_cell.res = [] ∧ f_page_builder_cell.fresh = false := ⟨rfl, rfl⟩
theorem z_codec_Sum : f_codec_Sum.res = [.tmp 2] ∧ f_codec_Sum.fresh = false := ⟨rfl, rfl⟩
theorem z_page_Encode : f_page_Encode.res = [.tmp 2, .tmp 3] ∧ f_page_Encode.fresh = false := ⟨rfl, rfl⟩
theorem z_page_Decode : f_page_Decode.res = [.cell 2 true 34, .tmp 3] ∧ f_page_Decode.fresh = false := ⟨rfl, rfl⟩
theorem z_page_Identify : f_page_Identify.res = [.cell 4 true 34, .tmp 5] ∧ f_page_Identify.fresh = false := ⟨rfl, rfl⟩
theorem z_law02_awake : f_law02_awake.res = [.tmp 0] ∧ f_law02_awake.fresh = false := ⟨rfl, rfl⟩
theorem z_law02_PageTears : f_law02_PageTears.res = [.tmp 6] ∧ f_law02_PageTears.fresh = false := ⟨rfl, rfl⟩

def fns : List (FuncId × AFn) := [(i_draw_New, f_draw_New), (i_draw_Codes_Next, f_draw_Codes_Next), (i_page_New, f_page_New), (i_draw_Codes_Data, f_draw_Codes_Data), (i_codec_Get, f_codec_Get), (i_draw_Codes_Cell, f_draw_Codes_Cell), (i_page_cells, f_page_cells), (i_page_number, f_page_number), (i_page_read, f_page_read), (i_page_named, f_page_named), (i_codec_remainders, f_codec_remainders), (i_draw_Codes_Page, f_draw_Codes_Page), (i_page_Blank, f_page_Blank), (i_page_placed, f_page_placed), (i_page_builder_cell, f_page_builder_cell), (i_codec_Sum, f_codec_Sum), (i_page_Encode, f_page_Encode), (i_page_Decode, f_page_Decode), (i_page_Identify, f_page_Identify), (i_law02_awake, f_law02_awake), (i_law02_PageTears, f_law02_PageTears)]

def forks : List (FuncId × FkFn) := []

def plist : List (FuncId × (List AV → List Blk → Option Res)) := [(i_codec_Put, putP), (i_strings_Repeat, repP)]

def lkF {α : Type} (f : FuncId) : List (FuncId × α) → Option α
  | [] => none
  | (g, a) :: r => if f = g then some a else lkF f r

def tabOf (prims : FuncId → Option (List AV → List Blk → Option Res)) : Tabl := fun f => tab4 (lkF f fns) (lkF f forks) (lkF f plist) (prims f)

theorem t_draw_New (p) : tabOf p i_draw_New = some (.fn f_draw_New) := rfl
theorem t_draw_Codes_Next (p) : tabOf p i_draw_Codes_Next = some (.fn f_draw_Codes_Next) := rfl
theorem t_page_New (p) : tabOf p i_page_New = some (.fn f_page_New) := rfl
theorem t_draw_Codes_Data (p) : tabOf p i_draw_Codes_Data = some (.fn f_draw_Codes_Data) := rfl
theorem t_codec_Get (p) : tabOf p i_codec_Get = some (.fn f_codec_Get) := rfl
theorem t_draw_Codes_Cell (p) : tabOf p i_draw_Codes_Cell = some (.fn f_draw_Codes_Cell) := rfl
theorem t_page_cells (p) : tabOf p i_page_cells = some (.fn f_page_cells) := rfl
theorem t_page_number (p) : tabOf p i_page_number = some (.fn f_page_number) := rfl
theorem t_page_read (p) : tabOf p i_page_read = some (.fn f_page_read) := rfl
theorem t_page_named (p) : tabOf p i_page_named = some (.fn f_page_named) := rfl
theorem t_codec_remainders (p) : tabOf p i_codec_remainders = some (.fn f_codec_remainders) := rfl
theorem t_draw_Codes_Page (p) : tabOf p i_draw_Codes_Page = some (.fn f_draw_Codes_Page) := rfl
theorem t_page_Blank (p) : tabOf p i_page_Blank = some (.fn f_page_Blank) := rfl
theorem t_page_placed (p) : tabOf p i_page_placed = some (.fn f_page_placed) := rfl
theorem t_page_builder_cell (p) : tabOf p i_page_builder_cell = some (.fn f_page_builder_cell) := rfl
theorem t_codec_Sum (p) : tabOf p i_codec_Sum = some (.fn f_codec_Sum) := rfl
theorem t_page_Encode (p) : tabOf p i_page_Encode = some (.fn f_page_Encode) := rfl
theorem t_page_Decode (p) : tabOf p i_page_Decode = some (.fn f_page_Decode) := rfl
theorem t_page_Identify (p) : tabOf p i_page_Identify = some (.fn f_page_Identify) := rfl
theorem t_law02_awake (p) : tabOf p i_law02_awake = some (.fn f_law02_awake) := rfl
theorem t_law02_PageTears (p) : tabOf p i_law02_PageTears = some (.fn f_law02_PageTears) := rfl
theorem t_codec_Put (p) : tabOf p i_codec_Put = some (.prim putP) := rfl
theorem t_strings_Repeat (p) : tabOf p i_strings_Repeat = some (.prim repP) := rfl

end Go.Am
