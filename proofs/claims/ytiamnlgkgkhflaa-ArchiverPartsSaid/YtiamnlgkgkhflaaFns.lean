/-
  The functions of the program as abstract code; written by a program from the translation.
-/
import Derived.Test.YtiamnlgkgkhflaaTy
namespace Go.Am
set_option linter.unusedSimpArgs false
set_option linter.unusedVariables false

abbrev i_main_main : FuncId := 0
abbrev i_gosem_cut : FuncId := 1
abbrev i_gosem_cut_init : FuncId := 2
abbrev i_law25_ArchiverParts : FuncId := 3
abbrev i_law25_awake : FuncId := 4
abbrev i_draw_New : FuncId := 5
abbrev i_archiver_New : FuncId := 6
abbrev i_make_Bounds : FuncId := 7
abbrev i_archiver_Part : FuncId := 8
abbrev i_slices_Clone_int_int : FuncId := 9
abbrev i_archiver_Valid : FuncId := 10
abbrev i_draw_Codes_Next : FuncId := 11
abbrev i_slices_BinarySearch_int_int : FuncId := 12
abbrev i_archiver_part : FuncId := 13
abbrev i_cmp_Less_int : FuncId := 14
abbrev i_slices_isNaN_int : FuncId := 15
abbrev i_cmp_isNaN_int : FuncId := 16
abbrev i_runtime_boundsError_Error : FuncId := 17
abbrev i_runtime_boundsError_RuntimeError : FuncId := 18
abbrev i_runtime_errorString_Error : FuncId := 19
abbrev i_runtime_errorString_RuntimeError : FuncId := 20
abbrev i_runtime_plainError_Error : FuncId := 21
abbrev i_runtime_plainError_RuntimeError : FuncId := 22
abbrev i_runtime_errorAddressString_Error : FuncId := 23
abbrev i_runtime_errorAddressString_RuntimeError : FuncId := 24
abbrev i_runtime_TypeAssertionError_Error : FuncId := 25
abbrev i_runtime_TypeAssertionError_RuntimeError : FuncId := 26
abbrev i_runtime_PanicNilError_Error : FuncId := 27
abbrev i_runtime_PanicNilError_RuntimeError : FuncId := 28
abbrev i_internal_abi_Type_Align : FuncId := 29
abbrev i_internal_runtime_maps_unhashableTypeError_Error : FuncId := 30
abbrev i_internal_runtime_maps_unhashableTypeError_RuntimeError : FuncId := 31
abbrev i_draw_Codes_Bytes : FuncId := 32
abbrev i_internal_abi_Kind_String : FuncId := 33

/- pagemend/pagemenddraw.New -/
def c_draw_New_0 : ACode := .seq (.reg false [] [⟨.mv (.t 0), some 12, none⟩,
    ⟨.build (e_pagemenddraw_Codes default) [(0, 1, (.t 12))], some 13, none⟩,
    ⟨.box 2 (.t 13), some 14, none⟩,
    ⟨.mv (.t 14), some 4, none⟩])
  (.ret)
def c_draw_New : ACode := .seq (.reg false [] [⟨.mv (.c (.p .np)), some 4, none⟩])
  (.seq (.seq (.reg false [] [⟨.mv (.t 0), some 5, none⟩,
    ⟨.len false (.t 5), some 6, none⟩,
    ⟨.mv (.t 1), some 7, none⟩,
    ⟨.bin .gtr .plain (.t 6) (.t 7), some 8, none⟩])
  (.keep [0, 1, 8] (.cond (.t 8)
  (.reg false [] [⟨.mv (.t 0), some 9, none⟩,
      ⟨.mv (.t 1), some 10, none⟩,
      ⟨.slice (.sl 1) (.t 9) none (some (.t 10)) none, some 11, none⟩,
      ⟨.mv (.t 11), some 0, none⟩])
  (.skip))))
  (.keep [0] c_draw_New_0))
def f_draw_New : AFn := ⟨2, 15, c_draw_New, [.tmp 4], false⟩

/- slices.Clone[[]int,int] -/
def c_slices_Clone_int_int : ACode := .seq (.reg false [] [⟨.mv (.c (.p (.sl 1 []))), some 2, none⟩])
  (.br [2] (.reg false [] [⟨.mv (.t 0), some 3, none⟩,
    ⟨.bin .eql .nils (.t 3) (.c (.p (.sl 1 []))), some 4, none⟩]) (.t 4)
  (.seq (.reg false [] [⟨.mv (.c (.p (.sl 1 []))), some 2, none⟩])
  (.ret))
  (.skip)
  (.seq (.reg false [] [⟨.lits true 1 0 [(.i .i64 0)] [], some 5, none⟩,
    ⟨.mv (.t 0), some 6, none⟩,
    ⟨.app 1 8 [(.i .i64 0)] (.t 5) (.t 6), some 7, none⟩,
    ⟨.mv (.t 7), some 2, none⟩])
  (.ret)))
def f_slices_Clone_int_int : AFn := ⟨1, 8, c_slices_Clone_int_int, [.tmp 2], false⟩

/- pagemend/archiver.Valid -/
def c_archiver_Valid_0 : ACode := .seq (.seq (.reg false [] [⟨.mv (.t 4), some 45, none⟩,
    ⟨.mv (.t 3), some 46, none⟩,
    ⟨.bin .lss .plain (.t 45) (.t 46), some 47, none⟩])
  (.keep [1, 3, 4, 47] (.cond (.t 47)
  (.skip)
  (.exit 0))))
  (.seq (.block 1 (.seq (.reg true [] [⟨.faddr 0 (.t 1), some 50, none⟩,
    ⟨.load false 1 (.t 50), some 51, none⟩,
    ⟨.mv (.t 4), some 52, none⟩,
    ⟨.bin .sub .plain (.t 52) (.c (.p (.i .i64 1))), some 53, none⟩,
    ⟨.iaddr 1 (.t 51) (.t 53), some 54, none⟩,
    ⟨.load false 1 (.t 54), some 55, none⟩,
    ⟨.faddr 0 (.t 1), some 56, none⟩,
    ⟨.load false 1 (.t 56), some 57, none⟩,
    ⟨.mv (.t 4), some 58, none⟩,
    ⟨.iaddr 1 (.t 57) (.t 58), some 59, none⟩,
    ⟨.load false 1 (.t 59), some 60, none⟩,
    ⟨.bin .geq .plain (.t 55) (.t 60), some 61, none⟩])
  (.keep [1, 3, 4, 61] (.cond (.t 61)
  (.seq (.reg false [] [⟨.mv (.c (.p (.b false))), some 2, none⟩])
    (.ret))
  (.skip)))))
  (.reg false [] [⟨.mv (.t 4), some 48, none⟩,
    ⟨.bin .add .plain (.t 48) (.c (.p (.i .i64 1))), some 49, none⟩,
    ⟨.mv (.t 49), some 4, none⟩]))
def c_archiver_Valid_1 : ACode := .seq (.reg false [] [⟨.bin .lss .plain (.t 89) (.t 88), some 90, none⟩])
  (.seq (.cond (.t 90)
  (.skip)
  (.exit 2))
  (.seq (.block 3 (.seq (.reg false [] [⟨.iaddr 3 (.t 87) (.t 89), some 91, none⟩,
    ⟨.load true 3 (.t 91), some 92, none⟩,
    ⟨.newbox (e_api_File default), some 7, none⟩,
    ⟨.store 3 (.t 7) (.t 92), none, none⟩])
  (.keep [1, 5, 7, 87, 88, 89] (.seq (.seq (.reg false [] [⟨.faddr 1 (.t 7), some 93, none⟩,
    ⟨.load false 1 (.t 93), some 94, none⟩,
    ⟨.mv (.t 5), some 95, none⟩,
    ⟨.bin .leq .plain (.t 94) (.t 95), some 96, none⟩,
    ⟨.mv (.t 96), some 97, none⟩,
    ⟨.faddr 1 (.t 7), some 98, some (97, false)⟩,
    ⟨.load false 1 (.t 98), some 99, some (97, false)⟩,
    ⟨.faddr 4 (.t 1), some 100, some (97, false)⟩,
    ⟨.load false 1 (.t 100), some 101, some (97, false)⟩,
    ⟨.bin .geq .plain (.t 99) (.t 101), some 102, some (97, false)⟩,
    ⟨.pick (.t 97) (.c (.p (.b true))) (.t 102), some 103, none⟩])
  (.keep [1, 7, 87, 88, 89, 103] (.cond (.t 103)
  (.seq (.reg false [] [⟨.mv (.c (.p (.b false))), some 2, none⟩])
    (.ret))
  (.skip))))
  (.reg false [] [⟨.faddr 1 (.t 7), some 104, none⟩,
    ⟨.load false 1 (.t 104), some 105, none⟩,
    ⟨.mv (.t 105), some 5, none⟩])))))
  (.reg false [] [⟨.bin .add .plain (.t 89) (.c (.p (.i .i64 1))), some 106, none⟩,
    ⟨.mv (.t 106), some 89, none⟩])))
def c_archiver_Valid_2 : ACode := .seq (.reg false [] [⟨.mv (.c (.p (.b true))), some 2, none⟩])
  (.ret)
def c_archiver_Valid_3 : ACode := .seq (.seq (.reg false [] [⟨.faddr 3 (.t 1), some 62, none⟩,
    ⟨.load false 1 (.t 62), some 63, none⟩,
    ⟨.bin .lss .plain (.t 63) (.c (.p (.i .i64 1))), some 64, none⟩,
    ⟨.mv (.t 64), some 65, none⟩,
    ⟨.faddr 3 (.t 1), some 66, some (65, false)⟩,
    ⟨.load false 1 (.t 66), some 67, some (65, false)⟩,
    ⟨.bin .gtr .plain (.t 67) (.c (.p (.i .i64 1099511627777))), some 68, some (65, false)⟩,
    ⟨.pick (.t 65) (.c (.p (.b true))) (.t 68), some 69, none⟩,
    ⟨.mv (.t 69), some 70, none⟩,
    ⟨.faddr 4 (.t 1), some 71, some (70, false)⟩,
    ⟨.load false 1 (.t 71), some 72, some (70, false)⟩,
    ⟨.bin .lss .plain (.t 72) (.c (.p (.i .i64 1))), some 73, some (70, false)⟩,
    ⟨.pick (.t 70) (.c (.p (.b true))) (.t 73), some 74, none⟩,
    ⟨.mv (.t 74), some 75, none⟩,
    ⟨.faddr 4 (.t 1), some 76, some (75, false)⟩,
    ⟨.load false 1 (.t 76), some 77, some (75, false)⟩,
    ⟨.bin .gtr .plain (.t 77) (.c (.p (.i .i64 1073741825))), some 78, some (75, false)⟩,
    ⟨.pick (.t 75) (.c (.p (.b true))) (.t 78), some 79, none⟩,
    ⟨.mv (.t 79), some 80, none⟩,
    ⟨.faddr 2 (.t 1), some 81, some (80, false)⟩,
    ⟨.load false 1 (.t 81), some 82, some (80, false)⟩,
    ⟨.len false (.t 82), some 83, some (80, false)⟩,
    ⟨.bin .gtr .plain (.t 83) (.c (.p (.i .i64 256))), some 84, some (80, false)⟩,
    ⟨.pick (.t 80) (.c (.p (.b true))) (.t 84), some 85, none⟩])
  (.keep [1, 85] (.cond (.t 85)
  (.seq (.reg false [] [⟨.mv (.c (.p (.b false))), some 2, none⟩])
    (.ret))
  (.skip))))
  (.seq (.reg false [] [⟨.mv (.c (.p (.i .i64 0))), some 5, none⟩])
  (.seq (.tidy [2] (.seq (.reg false [] [⟨.faddr 2 (.t 1), some 86, none⟩,
    ⟨.load false 1 (.t 86), some 87, none⟩,
    ⟨.len false (.t 87), some 88, none⟩,
    ⟨.mv (.c (.p (.i .i64 0))), some 89, none⟩])
  (.keep [1, 5, 87, 88, 89] (.block 2 (.loop [1, 5, 87, 88, 89] c_archiver_Valid_1)))))
  (.keep [] c_archiver_Valid_2)))
def c_archiver_Valid : ACode := .seq (.reg false [] [⟨.box 5 (.t 0), some 1, none⟩,
    ⟨.mv (.c (.p (.b false))), some 2, none⟩])
  (.seq (.reg false [] [⟨.faddr 0 (.t 1), some 8, none⟩,
    ⟨.load false 1 (.t 8), some 9, none⟩,
    ⟨.len false (.t 9), some 10, none⟩,
    ⟨.mv (.t 10), some 3, none⟩])
  (.keep [1, 3] (.seq (.seq (.reg true [] [⟨.faddr 1 (.t 1), some 11, none⟩,
    ⟨.load false 1 (.t 11), some 12, none⟩,
    ⟨.bin .lss .plain (.t 12) (.c (.p (.i .i64 1))), some 13, none⟩,
    ⟨.mv (.t 13), some 14, none⟩,
    ⟨.faddr 1 (.t 1), some 15, some (14, false)⟩,
    ⟨.load false 1 (.t 15), some 16, some (14, false)⟩,
    ⟨.bin .gtr .plain (.t 16) (.c (.p (.i .i64 64))), some 17, some (14, false)⟩,
    ⟨.pick (.t 14) (.c (.p (.b true))) (.t 17), some 18, none⟩,
    ⟨.mv (.t 18), some 19, none⟩,
    ⟨.mv (.t 3), some 20, some (19, false)⟩,
    ⟨.bin .lss .plain (.t 20) (.c (.p (.i .i64 1))), some 21, some (19, false)⟩,
    ⟨.pick (.t 19) (.c (.p (.b true))) (.t 21), some 22, none⟩,
    ⟨.mv (.t 22), some 23, none⟩,
    ⟨.mv (.t 3), some 24, some (23, false)⟩,
    ⟨.bin .gtr .plain (.t 24) (.c (.p (.i .i64 16))), some 25, some (23, false)⟩,
    ⟨.pick (.t 23) (.c (.p (.b true))) (.t 25), some 26, none⟩,
    ⟨.mv (.t 26), some 27, none⟩,
    ⟨.faddr 0 (.t 1), some 28, some (27, false)⟩,
    ⟨.load false 1 (.t 28), some 29, some (27, false)⟩,
    ⟨.iaddr 1 (.t 29) (.c (.p (.i .i64 0))), some 30, some (27, false)⟩,
    ⟨.load false 1 (.t 30), some 31, some (27, false)⟩,
    ⟨.bin .neq .plain (.t 31) (.c (.p (.i .i64 0))), some 32, some (27, false)⟩,
    ⟨.pick (.t 27) (.c (.p (.b true))) (.t 32), some 33, none⟩,
    ⟨.mv (.t 33), some 34, none⟩,
    ⟨.faddr 0 (.t 1), some 35, some (34, false)⟩,
    ⟨.load false 1 (.t 35), some 36, some (34, false)⟩,
    ⟨.mv (.t 3), some 37, some (34, false)⟩,
    ⟨.bin .sub .plain (.t 37) (.c (.p (.i .i64 1))), some 38, some (34, false)⟩,
    ⟨.iaddr 1 (.t 36) (.t 38), some 39, some (34, false)⟩,
    ⟨.load false 1 (.t 39), some 40, some (34, false)⟩,
    ⟨.faddr 1 (.t 1), some 41, some (34, false)⟩,
    ⟨.load false 1 (.t 41), some 42, some (34, false)⟩,
    ⟨.bin .geq .plain (.t 40) (.t 42), some 43, some (34, false)⟩,
    ⟨.pick (.t 34) (.c (.p (.b true))) (.t 43), some 44, none⟩])
  (.keep [1, 3, 44] (.cond (.t 44)
  (.seq (.reg false [] [⟨.mv (.c (.p (.b false))), some 2, none⟩])
    (.ret))
  (.skip))))
  (.seq (.seq (.reg false [] [⟨.mv (.c (.p (.i .i64 1))), some 4, none⟩])
  (.block 0 (.loop [1, 3, 4] c_archiver_Valid_0)))
  (.keep [1] c_archiver_Valid_3)))))
def f_archiver_Valid : AFn := ⟨1, 107, c_archiver_Valid, [.tmp 2], false⟩

/- (*pagemend/pagemenddraw.Codes).Next -/
def c_draw_Codes_Next : ACode := .seq (.reg false [] [⟨.mv (.c (.p (.i .i64 0))), some 4, none⟩])
  (.seq (.seq (.reg true [] [⟨.mv (.t 0), some 6, none⟩,
    ⟨.nilchk (.t 6), some 7, none⟩,
    ⟨.faddr 1 (.t 7), some 8, none⟩,
    ⟨.load false 1 (.t 8), some 9, none⟩,
    ⟨.mv (.t 0), some 10, none⟩,
    ⟨.nilchk (.t 10), some 11, none⟩,
    ⟨.faddr 0 (.t 11), some 12, none⟩,
    ⟨.load false 1 (.t 12), some 13, none⟩,
    ⟨.len false (.t 13), some 14, none⟩,
    ⟨.bin .geq .plain (.t 9) (.t 14), some 15, none⟩,
    ⟨.mv (.t 15), some 16, none⟩,
    ⟨.mv (.t 1), some 17, some (16, false)⟩,
    ⟨.bin .lss .plain (.t 17) (.c (.p (.i .i64 1))), some 18, some (16, false)⟩,
    ⟨.pick (.t 16) (.c (.p (.b true))) (.t 18), some 19, none⟩])
  (.keep [0, 1, 19] (.cond (.t 19)
  (.seq (.reg false [] [⟨.mv (.c (.p (.i .i64 0))), some 4, none⟩])
    (.ret))
  (.skip))))
  (.seq (.reg true [] [⟨.mv (.t 0), some 20, none⟩,
    ⟨.nilchk (.t 20), some 21, none⟩,
    ⟨.faddr 0 (.t 21), some 22, none⟩,
    ⟨.load false 1 (.t 22), some 23, none⟩,
    ⟨.mv (.t 0), some 24, none⟩,
    ⟨.nilchk (.t 24), some 25, none⟩,
    ⟨.faddr 1 (.t 25), some 26, none⟩,
    ⟨.load false 1 (.t 26), some 27, none⟩,
    ⟨.iaddr 1 (.t 23) (.t 27), some 28, none⟩,
    ⟨.load false 1 (.t 28), some 29, none⟩,
    ⟨.conv (.int .i64) (.t 29), some 30, none⟩,
    ⟨.mv (.t 30), some 5, none⟩])
  (.keep [0, 1, 5] (.seq (.reg false [] [⟨.mv (.t 0), some 31, none⟩,
    ⟨.nilchk (.t 31), some 32, none⟩,
    ⟨.faddr 1 (.t 32), some 33, none⟩,
    ⟨.load false 1 (.t 33), some 34, none⟩,
    ⟨.bin .add .plain (.t 34) (.c (.p (.i .i64 1))), some 35, none⟩,
    ⟨.nilchk (.t 31), some 36, none⟩,
    ⟨.faddr 1 (.t 36), some 37, none⟩,
    ⟨.store 1 (.t 37) (.t 35), none, none⟩])
  (.keep [0, 1, 5] (.seq (.seq (.reg false [] [⟨.mv (.t 1), some 38, none⟩,
    ⟨.bin .gtr .plain (.t 38) (.c (.p (.i .i64 256))), some 39, none⟩])
  (.cond (.t 39)
  (.seq (.reg false [] [⟨.mv (.t 5), some 40, none⟩,
      ⟨.bin .mul .plain (.c (.p (.i .i64 256))) (.t 40), some 41, none⟩,
      ⟨.mv (.t 0), some 42, none⟩,
      ⟨.call i_draw_Codes_Next [(.t 42), (.c (.p (.i .i64 256)))] 0, some 43, none⟩,
      ⟨.bin .add .plain (.t 41) (.t 43), some 44, none⟩,
      ⟨.mv (.t 1), some 45, none⟩,
      ⟨.bin .rem .plain (.t 44) (.t 45), some 46, none⟩,
      ⟨.mv (.t 46), some 4, none⟩])
    (.ret))
  (.skip)))
  (.seq (.reg false [] [⟨.mv (.t 5), some 47, none⟩,
    ⟨.mv (.t 1), some 48, none⟩,
    ⟨.bin .rem .plain (.t 47) (.t 48), some 49, none⟩,
    ⟨.mv (.t 49), some 4, none⟩])
  (.ret))))))))
def f_draw_Codes_Next : AFn := ⟨2, 50, c_draw_Codes_Next, [.tmp 4], false⟩

/- pagemend/archiver.part -/
def c_archiver_part : ACode := .seq (.reg false [] [⟨.box 5 (.t 0), some 2, none⟩,
    ⟨.mv (.c (.p (.i .i64 0))), some 4, none⟩,
    ⟨.mv (.c (.p (.i .i64 0))), some 5, none⟩])
  (.keep [1, 2] (.seq (.seq (.reg false [] [⟨.mv (.t 1), some 6, none⟩,
    ⟨.bin .add .plain (.t 6) (.c (.p (.i .i64 1))), some 7, none⟩,
    ⟨.faddr 0 (.t 2), some 8, none⟩,
    ⟨.load false 1 (.t 8), some 9, none⟩,
    ⟨.len false (.t 9), some 10, none⟩,
    ⟨.bin .lss .plain (.t 7) (.t 10), some 11, none⟩])
  (.keep [1, 2, 11] (.cond (.t 11)
  (.seq (.reg true [] [⟨.faddr 0 (.t 2), some 12, none⟩,
      ⟨.load false 1 (.t 12), some 13, none⟩,
      ⟨.mv (.t 1), some 14, none⟩,
      ⟨.iaddr 1 (.t 13) (.t 14), some 15, none⟩,
      ⟨.load false 1 (.t 15), some 16, none⟩,
      ⟨.faddr 0 (.t 2), some 17, none⟩,
      ⟨.load false 1 (.t 17), some 18, none⟩,
      ⟨.mv (.t 1), some 19, none⟩,
      ⟨.bin .add .plain (.t 19) (.c (.p (.i .i64 1))), some 20, none⟩,
      ⟨.iaddr 1 (.t 18) (.t 20), some 21, none⟩,
      ⟨.load false 1 (.t 21), some 22, none⟩,
      ⟨.bin .sub .plain (.t 22) (.c (.p (.i .i64 1))), some 23, none⟩,
      ⟨.mv (.t 16), some 4, none⟩,
      ⟨.mv (.t 23), some 5, none⟩])
    (.ret))
  (.skip))))
  (.seq (.reg true [] [⟨.faddr 0 (.t 2), some 24, none⟩,
    ⟨.load false 1 (.t 24), some 25, none⟩,
    ⟨.mv (.t 1), some 26, none⟩,
    ⟨.iaddr 1 (.t 25) (.t 26), some 27, none⟩,
    ⟨.load false 1 (.t 27), some 28, none⟩,
    ⟨.faddr 1 (.t 2), some 29, none⟩,
    ⟨.load false 1 (.t 29), some 30, none⟩,
    ⟨.bin .sub .plain (.t 30) (.c (.p (.i .i64 1))), some 31, none⟩,
    ⟨.mv (.t 28), some 4, none⟩,
    ⟨.mv (.t 31), some 5, none⟩])
  (.ret))))
def f_archiver_part : AFn := ⟨2, 32, c_archiver_part, [.tmp 4, .tmp 5], false⟩

/- slices.isNaN[int] -/
def c_slices_isNaN_int : ACode := .seq (.reg false [] [⟨.mv (.c (.p (.b false))), some 2, none⟩])
  (.seq (.reg false [] [⟨.mv (.t 0), some 3, none⟩,
    ⟨.mv (.t 0), some 4, none⟩,
    ⟨.bin .neq .plain (.t 3) (.t 4), some 5, none⟩,
    ⟨.mv (.t 5), some 2, none⟩])
  (.ret))
def f_slices_isNaN_int : AFn := ⟨1, 6, c_slices_isNaN_int, [.tmp 2], false⟩

/- cmp.isNaN[int] -/
def c_cmp_isNaN_int : ACode := .seq (.reg false [] [⟨.mv (.c (.p (.b false))), some 2, none⟩])
  (.seq (.reg false [] [⟨.mv (.t 0), some 3, none⟩,
    ⟨.mv (.t 0), some 4, none⟩,
    ⟨.bin .neq .plain (.t 3) (.t 4), some 5, none⟩,
    ⟨.mv (.t 5), some 2, none⟩])
  (.ret))
def f_cmp_isNaN_int : AFn := ⟨1, 6, c_cmp_isNaN_int, [.tmp 2], false⟩

/- pagemend/archiver.New -/
def c_archiver_New : ACode := .seq (.reg false [] [⟨.newbox (e_api_Archive default), some 4, none⟩,
    ⟨.mv (.c (.p (.i .i64 0))), some 5, none⟩])
  (.seq (.reg false [] [⟨.mv (.t 1), some 7, none⟩,
    ⟨.call i_slices_Clone_int_int [(.t 7)] 0, some 8, none⟩,
    ⟨.mv (.t 0), some 9, none⟩,
    ⟨.build (e_api_Archive default) [(0, 1, (.t 8)), (1, 1, (.t 9)), (3, 1, (.c (.p (.i .i64 1)))), (4, 1, (.c (.p (.i .i64 1))))], some 10, none⟩,
    ⟨.newbox (e_api_Archive default), some 6, none⟩,
    ⟨.store 5 (.t 6) (.t 10), none, none⟩])
  (.keep [4, 6] (.seq (.seq (.reg false [] [⟨.load true 5 (.t 6), some 11, none⟩,
    ⟨.call i_archiver_Valid [(.t 11)] 0, some 12, none⟩,
    ⟨.un .not (.t 12), some 13, none⟩])
  (.keep [4, 6, 13] (.cond (.t 13)
  (.seq (.reg false [] [⟨.build (e_api_Archive default) [], some 14, none⟩,
      ⟨.store 5 (.t 4) (.t 14), none, none⟩,
      ⟨.mv (.c (.p (.i .i64 54))), some 5, none⟩])
    (.ret))
  (.skip))))
  (.seq (.reg false [] [⟨.load true 5 (.t 6), some 15, none⟩,
    ⟨.store 5 (.t 4) (.t 15), none, none⟩,
    ⟨.mv (.c (.p (.i .i64 0))), some 5, none⟩])
  (.ret)))))
def f_archiver_New : AFn := ⟨2, 16, c_archiver_New, [.cell 4 true 5, .tmp 5], false⟩

/- pagemend/pagemendmake.Bounds -/
def c_make_Bounds_0 : ACode := .reg false [] [⟨.mv (.t 6), some 11, none⟩,
    ⟨.bin .add .plain (.t 11) (.c (.p (.i .i64 1))), some 12, none⟩,
    ⟨.mv (.t 12), some 6, none⟩]
def c_make_Bounds_1 : ACode := .seq (.seq (.reg false [] [⟨.mv (.t 6), some 8, none⟩,
    ⟨.mv (.t 1), some 9, none⟩,
    ⟨.bin .lss .plain (.t 8) (.t 9), some 10, none⟩])
  (.keep [0, 1, 5, 6, 10] (.cond (.t 10)
  (.skip)
  (.exit 0))))
  (.seq (.block 1 (.seq (.reg false [] [⟨.mv (.t 0), some 13, none⟩,
    ⟨.call i_draw_Codes_Next [(.t 13), (.c (.p (.i .i64 3)))] 0, some 14, none⟩,
    ⟨.bin .eql .plain (.t 14) (.c (.p (.i .i64 0))), some 15, none⟩,
    ⟨.mv (.t 15), some 16, none⟩,
    ⟨.mv (.t 5), some 17, some (16, true)⟩,
    ⟨.len false (.t 17), some 18, some (16, true)⟩,
    ⟨.bin .lss .plain (.t 18) (.c (.p (.i .i64 16))), some 19, some (16, true)⟩,
    ⟨.pick (.t 16) (.t 19) (.c (.p (.b false))), some 20, none⟩])
  (.keep [0, 1, 5, 6, 20] (.cond (.t 20)
  (.reg false [] [⟨.mv (.t 5), some 21, none⟩,
      ⟨.mv (.t 6), some 22, none⟩,
      ⟨.lits false 1 1 [(.i .i64 0)] [(0, (.t 22))], some 23, none⟩,
      ⟨.app 1 8 [(.i .i64 0)] (.t 21) (.t 23), some 24, none⟩,
      ⟨.mv (.t 24), some 5, none⟩])
  (.skip)))))
  (.keep [0, 1, 5, 6] c_make_Bounds_0))
def c_make_Bounds_2 : ACode := .seq (.reg false [] [⟨.mv (.t 5), some 25, none⟩,
    ⟨.mv (.t 25), some 4, none⟩])
  (.ret)
def c_make_Bounds : ACode := .seq (.reg false [] [⟨.mv (.c (.p (.sl 1 []))), some 4, none⟩])
  (.seq (.reg false [] [⟨.lits true 1 1 [(.i .i64 0)] [(0, (.c (.p (.i .i64 0))))], some 7, none⟩,
    ⟨.mv (.t 7), some 5, none⟩])
  (.seq (.seq (.reg false [] [⟨.mv (.c (.p (.i .i64 1))), some 6, none⟩])
  (.block 0 (.loop [0, 1, 5, 6] c_make_Bounds_1)))
  (.keep [5] c_make_Bounds_2)))
def f_make_Bounds : AFn := ⟨2, 26, c_make_Bounds, [.tmp 4], false⟩

/- cmp.Less[int] -/
def c_cmp_Less_int : ACode := .seq (.reg false [] [⟨.mv (.c (.p (.b false))), some 4, none⟩])
  (.seq (.reg false [] [⟨.mv (.t 0), some 5, none⟩,
    ⟨.call i_cmp_isNaN_int [(.t 5)] 0, some 6, none⟩,
    ⟨.mv (.t 6), some 7, none⟩,
    ⟨.mv (.t 1), some 8, some (7, true)⟩,
    ⟨.call i_cmp_isNaN_int [(.t 8)] 0, some 9, some (7, true)⟩,
    ⟨.un .not (.t 9), some 10, some (7, true)⟩,
    ⟨.pick (.t 7) (.t 10) (.c (.p (.b false))), some 11, none⟩,
    ⟨.mv (.t 11), some 12, none⟩,
    ⟨.mv (.t 0), some 13, some (12, false)⟩,
    ⟨.mv (.t 1), some 14, some (12, false)⟩,
    ⟨.bin .lss .plain (.t 13) (.t 14), some 15, some (12, false)⟩,
    ⟨.pick (.t 12) (.c (.p (.b true))) (.t 15), some 16, none⟩,
    ⟨.mv (.t 16), some 4, none⟩])
  (.ret))
def f_cmp_Less_int : AFn := ⟨2, 17, c_cmp_Less_int, [.tmp 4], false⟩

/- slices.BinarySearch[[]int,int] -/
def c_slices_BinarySearch_int_int_0 : ACode := .seq (.seq (.reg false [] [⟨.mv (.t 7), some 13, none⟩,
    ⟨.mv (.t 8), some 14, none⟩,
    ⟨.bin .lss .plain (.t 13) (.t 14), some 15, none⟩])
  (.keep [0, 1, 6, 7, 8, 15] (.cond (.t 15)
  (.skip)
  (.exit 0))))
  (.block 1 (.seq (.reg false [] [⟨.mv (.t 7), some 16, none⟩,
    ⟨.mv (.t 8), some 17, none⟩,
    ⟨.bin .add .plain (.t 16) (.t 17), some 18, none⟩,
    ⟨.conv (.int .u64) (.t 18), some 19, none⟩,
    ⟨.bin .shr .plain (.t 19) (.c (.p (.i .u64 1))), some 20, none⟩,
    ⟨.conv (.int .i64) (.t 20), some 21, none⟩,
    ⟨.mv (.t 21), some 9, none⟩])
  (.keep [0, 1, 6, 7, 8, 9] (.seq (.reg false [] [⟨.mv (.t 0), some 22, none⟩,
    ⟨.mv (.t 9), some 23, none⟩,
    ⟨.iaddr 1 (.t 22) (.t 23), some 24, none⟩,
    ⟨.load false 1 (.t 24), some 25, none⟩,
    ⟨.mv (.t 1), some 26, none⟩,
    ⟨.call i_cmp_Less_int [(.t 25), (.t 26)] 0, some 27, none⟩])
  (.keep [0, 1, 6, 7, 8, 9, 27] (.cond (.t 27)
  (.reg false [] [⟨.mv (.t 9), some 28, none⟩,
      ⟨.bin .add .plain (.t 28) (.c (.p (.i .i64 1))), some 29, none⟩,
      ⟨.mv (.t 29), some 7, none⟩])
  (.reg false [] [⟨.mv (.t 9), some 30, none⟩,
      ⟨.mv (.t 30), some 8, none⟩])))))))
def c_slices_BinarySearch_int_int_1 : ACode := .seq (.reg false [] [⟨.mv (.t 7), some 31, none⟩,
    ⟨.mv (.t 7), some 32, none⟩,
    ⟨.mv (.t 6), some 33, none⟩,
    ⟨.bin .lss .plain (.t 32) (.t 33), some 34, none⟩,
    ⟨.mv (.t 34), some 35, none⟩,
    ⟨.mv (.t 0), some 36, some (35, true)⟩,
    ⟨.mv (.t 7), some 37, some (35, true)⟩,
    ⟨.iaddr 1 (.t 36) (.t 37), some 38, some (35, true)⟩,
    ⟨.load false 1 (.t 38), some 39, some (35, true)⟩,
    ⟨.mv (.t 1), some 40, some (35, true)⟩,
    ⟨.bin .eql .plain (.t 39) (.t 40), some 41, some (35, true)⟩,
    ⟨.mv (.t 41), some 42, some (35, true)⟩,
    ⟨.mv (.t 0), some 43, some (42, false)⟩,
    ⟨.mv (.t 7), some 44, some (42, false)⟩,
    ⟨.iaddr 1 (.t 43) (.t 44), some 45, some (42, false)⟩,
    ⟨.load false 1 (.t 45), some 46, some (42, false)⟩,
    ⟨.call i_slices_isNaN_int [(.t 46)] 0, some 47, some (42, false)⟩,
    ⟨.mv (.t 47), some 48, some (42, false)⟩,
    ⟨.mv (.t 1), some 49, some (48, true)⟩,
    ⟨.call i_slices_isNaN_int [(.t 49)] 0, some 50, some (48, true)⟩,
    ⟨.pick (.t 48) (.t 50) (.c (.p (.b false))), some 51, some (42, false)⟩,
    ⟨.pick (.t 42) (.c (.p (.b true))) (.t 51), some 52, some (35, true)⟩,
    ⟨.pick (.t 35) (.t 52) (.c (.p (.b false))), some 53, none⟩,
    ⟨.mv (.t 31), some 4, none⟩,
    ⟨.mv (.t 53), some 5, none⟩])
  (.ret)
def c_slices_BinarySearch_int_int : ACode := .seq (.reg false [] [⟨.mv (.c (.p (.i .i64 0))), some 4, none⟩,
    ⟨.mv (.c (.p (.b false))), some 5, none⟩])
  (.seq (.reg false [] [⟨.mv (.t 0), some 10, none⟩,
    ⟨.len false (.t 10), some 11, none⟩,
    ⟨.mv (.t 11), some 6, none⟩])
  (.keep [0, 1, 6] (.seq (.reg false [] [⟨.mv (.t 6), some 12, none⟩,
    ⟨.mv (.c (.p (.i .i64 0))), some 7, none⟩,
    ⟨.mv (.t 12), some 8, none⟩])
  (.keep [0, 1, 6, 7, 8] (.seq (.block 0 (.loop [0, 1, 6, 7, 8] c_slices_BinarySearch_int_int_0))
  (.keep [0, 1, 6, 7] c_slices_BinarySearch_int_int_1))))))
def f_slices_BinarySearch_int_int : AFn := ⟨2, 54, c_slices_BinarySearch_int_int, [.tmp 4, .tmp 5], false⟩

/- pagemend/archiver.Part -/
def c_archiver_Part_0 : ACode := .seq (.reg false [] [⟨.load true 5 (.t 2), some 34, none⟩,
    ⟨.mv (.t 7), some 35, none⟩,
    ⟨.call i_archiver_part [(.t 34), (.t 35)] 0, some 36, none⟩,
    ⟨.mv (.t 36), some 33, none⟩,
    ⟨.extr (.t 33) 0, some 37, none⟩,
    ⟨.extr (.t 33) 1, some 38, none⟩,
    ⟨.mv (.t 37), some 4, none⟩,
    ⟨.mv (.t 38), some 5, none⟩])
  (.keep [4, 5] (.seq (.reg false [] [⟨.mv (.t 4), some 39, none⟩,
    ⟨.mv (.t 5), some 40, none⟩,
    ⟨.mv (.t 39), some 4, none⟩,
    ⟨.mv (.t 40), some 5, none⟩,
    ⟨.mv (.c (.p (.b true))), some 6, none⟩])
  (.ret)))
def c_archiver_Part : ACode := .seq (.reg false [] [⟨.box 5 (.t 0), some 2, none⟩,
    ⟨.mv (.c (.p (.i .i64 0))), some 4, none⟩,
    ⟨.mv (.c (.p (.i .i64 0))), some 5, none⟩,
    ⟨.mv (.c (.p (.b false))), some 6, none⟩])
  (.keep [1, 2] (.seq (.seq (.reg false [] [⟨.load true 5 (.t 2), some 9, none⟩,
    ⟨.call i_archiver_Valid [(.t 9)] 0, some 10, none⟩,
    ⟨.un .not (.t 10), some 11, none⟩,
    ⟨.mv (.t 11), some 12, none⟩,
    ⟨.mv (.t 1), some 13, some (12, false)⟩,
    ⟨.bin .lss .plain (.t 13) (.c (.p (.i .i64 0))), some 14, some (12, false)⟩,
    ⟨.pick (.t 12) (.c (.p (.b true))) (.t 14), some 15, none⟩,
    ⟨.mv (.t 15), some 16, none⟩,
    ⟨.mv (.t 1), some 17, some (16, false)⟩,
    ⟨.faddr 1 (.t 2), some 18, some (16, false)⟩,
    ⟨.load false 1 (.t 18), some 19, some (16, false)⟩,
    ⟨.bin .geq .plain (.t 17) (.t 19), some 20, some (16, false)⟩,
    ⟨.pick (.t 16) (.c (.p (.b true))) (.t 20), some 21, none⟩])
  (.keep [1, 2, 21] (.cond (.t 21)
  (.seq (.reg false [] [⟨.mv (.c (.p (.i .i64 0))), some 4, none⟩,
      ⟨.mv (.c (.p (.i .i64 0))), some 5, none⟩,
      ⟨.mv (.c (.p (.b false))), some 6, none⟩])
    (.ret))
  (.skip))))
  (.seq (.reg false [] [⟨.faddr 0 (.t 2), some 23, none⟩,
    ⟨.load false 1 (.t 23), some 24, none⟩,
    ⟨.mv (.t 1), some 25, none⟩,
    ⟨.call i_slices_BinarySearch_int_int [(.t 24), (.t 25)] 0, some 26, none⟩,
    ⟨.mv (.t 26), some 22, none⟩,
    ⟨.extr (.t 22) 0, some 27, none⟩,
    ⟨.extr (.t 22) 1, some 28, none⟩,
    ⟨.mv (.t 27), some 7, none⟩,
    ⟨.mv (.t 28), some 8, none⟩])
  (.keep [2, 7, 8] (.seq (.seq (.reg false [] [⟨.mv (.t 8), some 29, none⟩,
    ⟨.un .not (.t 29), some 30, none⟩])
  (.cond (.t 30)
  (.reg false [] [⟨.mv (.t 7), some 31, none⟩,
      ⟨.bin .sub .plain (.t 31) (.c (.p (.i .i64 1))), some 32, none⟩,
      ⟨.mv (.t 32), some 7, none⟩])
  (.skip)))
  (.keep [2, 7] c_archiver_Part_0))))))
def f_archiver_Part : AFn := ⟨2, 41, c_archiver_Part, [.tmp 4, .tmp 5, .tmp 6], false⟩

/- pagemend/pagemendlaw25.awake -/
def c_law25_awake : ACode := .seq (.reg false [] [⟨.mv (.c (.p (.b false))), some 0, none⟩])
  (.seq (.reg false [] [⟨.lits false 1 2 [(.i .i64 0)] [(0, (.c (.p (.i .i64 0)))), (1, (.c (.p (.i .i64 4))))], some 7, none⟩,
    ⟨.call i_archiver_New [(.c (.p (.i .i64 8))), (.t 7)] 0, some 8, none⟩,
    ⟨.mv (.t 8), some 6, none⟩,
    ⟨.extr (.t 6) 0, some 9, none⟩,
    ⟨.extr (.t 6) 1, some 10, none⟩,
    ⟨.newbox (e_api_Archive default), some 1, none⟩,
    ⟨.store 5 (.t 1) (.t 9), none, none⟩,
    ⟨.mv (.t 10), some 2, none⟩])
  (.keep [1, 2] (.seq (.reg false [] [⟨.load true 5 (.t 1), some 12, none⟩,
    ⟨.call i_archiver_Part [(.t 12), (.c (.p (.i .i64 3)))] 0, some 13, none⟩,
    ⟨.mv (.t 13), some 11, none⟩,
    ⟨.extr (.t 11) 0, some 14, none⟩,
    ⟨.extr (.t 11) 1, some 15, none⟩,
    ⟨.extr (.t 11) 2, some 16, none⟩,
    ⟨.mv (.t 14), some 3, none⟩,
    ⟨.mv (.t 15), some 4, none⟩,
    ⟨.mv (.t 16), some 5, none⟩])
  (.keep [1, 2, 4, 5] (.seq (.reg false [] [⟨.mv (.t 2), some 17, none⟩,
    ⟨.bin .eql .plain (.t 17) (.c (.p (.i .i64 0))), some 18, none⟩,
    ⟨.mv (.t 18), some 19, none⟩,
    ⟨.faddr 3 (.t 1), some 20, some (19, true)⟩,
    ⟨.load false 1 (.t 20), some 21, some (19, true)⟩,
    ⟨.bin .eql .plain (.t 21) (.c (.p (.i .i64 1))), some 22, some (19, true)⟩,
    ⟨.pick (.t 19) (.t 22) (.c (.p (.b false))), some 23, none⟩,
    ⟨.mv (.t 23), some 24, none⟩,
    ⟨.mv (.t 5), some 25, some (24, true)⟩,
    ⟨.pick (.t 24) (.t 25) (.c (.p (.b false))), some 26, none⟩,
    ⟨.mv (.t 26), some 27, none⟩,
    ⟨.mv (.t 4), some 28, some (27, true)⟩,
    ⟨.bin .eql .plain (.t 28) (.c (.p (.i .i64 3))), some 29, some (27, true)⟩,
    ⟨.pick (.t 27) (.t 29) (.c (.p (.b false))), some 30, none⟩,
    ⟨.mv (.t 30), some 0, none⟩])
  (.ret))))))
def f_law25_awake : AFn := ⟨0, 31, c_law25_awake, [.tmp 0], false⟩

/- pagemend/pagemendlaw25.ArchiverParts -/
def c_law25_ArchiverParts_0 : ACode := .seq (.seq (.reg false [] [⟨.mv (.t 14), some 65, none⟩,
    ⟨.mv (.t 12), some 66, none⟩,
    ⟨.bin .leq .plain (.t 65) (.t 66), some 67, none⟩])
  (.keep [6, 7, 8, 10, 11, 12, 14, 67] (.cond (.t 67)
  (.skip)
  (.exit 2))))
  (.seq (.block 3 (.seq (.reg false [] [⟨.load true 5 (.t 7), some 71, none⟩,
    ⟨.mv (.t 14), some 72, none⟩,
    ⟨.call i_archiver_Part [(.t 71), (.t 72)] 0, some 73, none⟩,
    ⟨.mv (.t 73), some 70, none⟩,
    ⟨.extr (.t 70) 0, some 74, none⟩,
    ⟨.extr (.t 70) 1, some 75, none⟩,
    ⟨.extr (.t 70) 2, some 76, none⟩,
    ⟨.mv (.t 74), some 15, none⟩,
    ⟨.mv (.t 75), some 16, none⟩,
    ⟨.mv (.t 76), some 17, none⟩])
  (.keep [6, 7, 8, 10, 11, 12, 14, 15, 16, 17] (.seq (.reg false [] [⟨.mv (.t 17), some 77, none⟩,
    ⟨.un .not (.t 77), some 78, none⟩,
    ⟨.mv (.t 78), some 79, none⟩,
    ⟨.mv (.t 15), some 80, some (79, false)⟩,
    ⟨.mv (.t 11), some 81, some (79, false)⟩,
    ⟨.bin .neq .plain (.t 80) (.t 81), some 82, some (79, false)⟩,
    ⟨.pick (.t 79) (.c (.p (.b true))) (.t 82), some 83, none⟩,
    ⟨.mv (.t 83), some 84, none⟩,
    ⟨.mv (.t 16), some 85, some (84, false)⟩,
    ⟨.mv (.t 12), some 86, some (84, false)⟩,
    ⟨.bin .neq .plain (.t 85) (.t 86), some 87, some (84, false)⟩,
    ⟨.pick (.t 84) (.c (.p (.b true))) (.t 87), some 88, none⟩])
  (.keep [6, 7, 8, 10, 11, 12, 14, 88] (.cond (.t 88)
  (.seq (.reg false [] [⟨.mv (.c (.p (.b false))), some 4, none⟩])
    (.ret))
  (.skip)))))))
  (.reg false [] [⟨.mv (.t 14), some 68, none⟩,
    ⟨.bin .add .plain (.t 68) (.c (.p (.i .i64 1))), some 69, none⟩,
    ⟨.mv (.t 69), some 14, none⟩]))
def c_law25_ArchiverParts_1 : ACode := .seq (.reg false [] [⟨.mv (.t 12), some 89, none⟩,
    ⟨.bin .add .plain (.t 89) (.c (.p (.i .i64 1))), some 90, none⟩,
    ⟨.mv (.t 90), some 9, none⟩])
  (.keep [6, 7, 8, 9, 10] (.reg false [] [⟨.mv (.t 10), some 91, none⟩,
    ⟨.bin .add .plain (.t 91) (.c (.p (.i .i64 1))), some 92, none⟩,
    ⟨.mv (.t 92), some 10, none⟩]))
def c_law25_ArchiverParts_2 : ACode := .seq (.seq (.reg false [] [⟨.mv (.t 9), some 37, none⟩,
    ⟨.mv (.t 6), some 38, none⟩,
    ⟨.bin .lss .plain (.t 37) (.t 38), some 39, none⟩,
    ⟨.mv (.t 39), some 40, none⟩,
    ⟨.mv (.t 10), some 41, some (40, true)⟩,
    ⟨.mv (.t 6), some 42, some (40, true)⟩,
    ⟨.bin .leq .plain (.t 41) (.t 42), some 43, some (40, true)⟩,
    ⟨.pick (.t 40) (.t 43) (.c (.p (.b false))), some 44, none⟩])
  (.keep [6, 7, 8, 9, 10, 44] (.cond (.t 44)
  (.skip)
  (.exit 0))))
  (.block 1 (.seq (.reg false [] [⟨.load true 5 (.t 7), some 46, none⟩,
    ⟨.mv (.t 9), some 47, none⟩,
    ⟨.call i_archiver_Part [(.t 46), (.t 47)] 0, some 48, none⟩,
    ⟨.mv (.t 48), some 45, none⟩,
    ⟨.extr (.t 45) 0, some 49, none⟩,
    ⟨.extr (.t 45) 1, some 50, none⟩,
    ⟨.extr (.t 45) 2, some 51, none⟩,
    ⟨.mv (.t 49), some 11, none⟩,
    ⟨.mv (.t 50), some 12, none⟩,
    ⟨.mv (.t 51), some 13, none⟩])
  (.keep [6, 7, 8, 9, 10, 11, 12, 13] (.seq (.seq (.reg false [] [⟨.mv (.t 13), some 52, none⟩,
    ⟨.un .not (.t 52), some 53, none⟩,
    ⟨.mv (.t 53), some 54, none⟩,
    ⟨.mv (.t 11), some 55, some (54, false)⟩,
    ⟨.mv (.t 9), some 56, some (54, false)⟩,
    ⟨.bin .neq .plain (.t 55) (.t 56), some 57, some (54, false)⟩,
    ⟨.pick (.t 54) (.c (.p (.b true))) (.t 57), some 58, none⟩,
    ⟨.mv (.t 58), some 59, none⟩,
    ⟨.mv (.t 12), some 60, some (59, false)⟩,
    ⟨.mv (.t 11), some 61, some (59, false)⟩,
    ⟨.bin .lss .plain (.t 60) (.t 61), some 62, some (59, false)⟩,
    ⟨.pick (.t 59) (.c (.p (.b true))) (.t 62), some 63, none⟩])
  (.keep [6, 7, 8, 10, 11, 12, 63] (.cond (.t 63)
  (.seq (.reg false [] [⟨.mv (.c (.p (.b false))), some 4, none⟩])
    (.ret))
  (.skip))))
  (.seq (.seq (.reg false [] [⟨.mv (.t 11), some 64, none⟩,
    ⟨.mv (.t 64), some 14, none⟩])
  (.block 2 (.loop [6, 7, 8, 10, 11, 12, 14] c_law25_ArchiverParts_0)))
  (.keep [6, 7, 8, 10, 12] c_law25_ArchiverParts_1))))))
def c_law25_ArchiverParts_3 : ACode := .seq (.reg false [] [⟨.load true 5 (.t 7), some 94, none⟩,
    ⟨.mv (.t 6), some 95, none⟩,
    ⟨.call i_archiver_Part [(.t 94), (.t 95)] 0, some 96, none⟩,
    ⟨.mv (.t 96), some 93, none⟩,
    ⟨.extr (.t 93) 0, some 97, none⟩,
    ⟨.extr (.t 93) 1, some 98, none⟩,
    ⟨.extr (.t 93) 2, some 99, none⟩,
    ⟨.mv (.t 97), some 18, none⟩,
    ⟨.mv (.t 98), some 19, none⟩,
    ⟨.mv (.t 99), some 20, none⟩])
  (.keep [6, 7, 8, 9, 10, 20] (.seq (.reg false [] [⟨.mv (.t 8), some 100, none⟩,
    ⟨.bin .eql .plain (.t 100) (.c (.p (.i .i64 0))), some 101, none⟩,
    ⟨.mv (.t 101), some 102, none⟩,
    ⟨.mv (.t 9), some 103, some (102, true)⟩,
    ⟨.mv (.t 6), some 104, some (102, true)⟩,
    ⟨.bin .eql .plain (.t 103) (.t 104), some 105, some (102, true)⟩,
    ⟨.pick (.t 102) (.t 105) (.c (.p (.b false))), some 106, none⟩,
    ⟨.mv (.t 106), some 107, none⟩,
    ⟨.mv (.t 10), some 108, some (107, true)⟩,
    ⟨.faddr 0 (.t 7), some 109, some (107, true)⟩,
    ⟨.load false 1 (.t 109), some 110, some (107, true)⟩,
    ⟨.len false (.t 110), some 111, some (107, true)⟩,
    ⟨.bin .eql .plain (.t 108) (.t 111), some 112, some (107, true)⟩,
    ⟨.pick (.t 107) (.t 112) (.c (.p (.b false))), some 113, none⟩,
    ⟨.mv (.t 113), some 114, none⟩,
    ⟨.mv (.t 20), some 115, some (114, true)⟩,
    ⟨.un .not (.t 115), some 116, some (114, true)⟩,
    ⟨.pick (.t 114) (.t 116) (.c (.p (.b false))), some 117, none⟩,
    ⟨.mv (.t 117), some 4, none⟩])
  (.ret)))
def c_law25_ArchiverParts : ACode := .seq (.reg false [] [⟨.mv (.c (.p (.b false))), some 4, none⟩])
  (.seq (.seq (.reg false [] [⟨.call i_law25_awake [] 0, some 21, none⟩,
    ⟨.un .not (.t 21), some 22, none⟩])
  (.cond (.t 22)
  (.seq (.reg false [] [⟨.mv (.c (.p (.b false))), some 4, none⟩])
    (.ret))
  (.skip)))
  (.seq (.reg false [] [⟨.mv (.t 0), some 23, none⟩,
    ⟨.call i_draw_New [(.t 23), (.c (.p (.i .i64 200)))] 1, some 24, none⟩,
    ⟨.mv (.t 24), some 5, none⟩])
  (.keep [1, 5] (.seq (.reg false [] [⟨.mv (.t 1), some 25, none⟩,
    ⟨.conv (.int .i64) (.t 25), some 26, none⟩,
    ⟨.bin .rem .plain (.t 26) (.c (.p (.i .i64 64))), some 27, none⟩,
    ⟨.bin .add .plain (.c (.p (.i .i64 1))) (.t 27), some 28, none⟩,
    ⟨.mv (.t 28), some 6, none⟩])
  (.keep [5, 6] (.seq (.reg false [] [⟨.mv (.t 6), some 30, none⟩,
    ⟨.mv (.t 5), some 31, none⟩,
    ⟨.mv (.t 6), some 32, none⟩,
    ⟨.call i_make_Bounds [(.t 31), (.t 32)] 0, some 33, none⟩,
    ⟨.call i_archiver_New [(.t 30), (.t 33)] 0, some 34, none⟩,
    ⟨.mv (.t 34), some 29, none⟩,
    ⟨.extr (.t 29) 0, some 35, none⟩,
    ⟨.extr (.t 29) 1, some 36, none⟩,
    ⟨.newbox (e_api_Archive default), some 7, none⟩,
    ⟨.store 5 (.t 7) (.t 35), none, none⟩,
    ⟨.mv (.t 36), some 8, none⟩])
  (.keep [6, 7, 8] (.seq (.reg false [] [⟨.mv (.c (.p (.i .i64 0))), some 9, none⟩,
    ⟨.mv (.c (.p (.i .i64 0))), some 10, none⟩])
  (.seq (.block 0 (.loop [6, 7, 8, 9, 10] c_law25_ArchiverParts_2))
  (.keep [6, 7, 8, 9, 10] c_law25_ArchiverParts_3))))))))))
def f_law25_ArchiverParts : AFn := ⟨2, 118, c_law25_ArchiverParts, [.tmp 4], false⟩
theorem z_draw_New : f_draw_New.res = [.tmp 4] ∧ f_draw_New.fresh = false := ⟨rfl, rfl⟩
theorem z_slices_Clone_int_int : f_slices_Clone_int_int.res = [.tmp 2] ∧ f_slices_Clone_int_int.fresh = false := ⟨rfl, rfl⟩
theorem z_archiver_Valid : f_archiver_Valid.res = [.tmp 2] ∧ f_archiver_Valid.fresh = false := ⟨rfl, rfl⟩
theorem z_draw_Codes_Next : f_draw_Codes_Next.res = [.tmp 4] ∧ f_draw_Codes_Next.fresh = false := ⟨rfl, rfl⟩
theorem z_archiver_part : f_archiver_part.res = [.tmp 4, .tmp 5] ∧ f_archiver_part.fresh = false := ⟨rfl, rfl⟩
theorem z_slices_isNaN_int : f_slices_isNaN_int.res = [.tmp 2] ∧ f_slices_isNaN_int.fresh = false := ⟨rfl, rfl⟩
theorem z_cmp_isNaN_int : f_cmp_isNaN_int.res = [.tmp 2] ∧ f_cmp_isNaN_int.fresh = false := ⟨rfl, rfl⟩
theorem z_archiver_New : f_archiver_New.res = [.cell 4 true 5, .tmp 5] ∧ f_archiver_New.fresh = false := ⟨rfl, rfl⟩
theorem z_make_Bounds : f_make_Bounds.res = [.tmp 4] ∧ f_make_Bounds.fresh = false := ⟨rfl, rfl⟩
theorem z_cmp_Less_int : f_cmp_Less_int.res = [.tmp 4] ∧ f_cmp_Less_int.fresh = false := ⟨rfl, rfl⟩
theorem z_slices_BinarySearch_int_int : f_slices_BinarySearch_int_int.res = [.tmp 4, .tmp 5] ∧ f_slices_BinarySearch_int_int.fresh = false := ⟨rfl, rfl⟩
theorem z_archiver_Part : f_archiver_Part.res = [.tmp 4, .tmp 5, .tmp 6] ∧ f_archiver_Part.fresh = false := ⟨rfl, rfl⟩
theorem z_law25_awake : f_law25_awake.res = [.tmp 0] ∧ f_law25_awake.fresh = false := ⟨rfl, rfl⟩
theorem z_law25_ArchiverParts : f_law25_ArchiverParts.res = [.tmp 4] ∧ f_law25_ArchiverParts.fresh = false := ⟨rfl, rfl⟩

def fns : List (FuncId × AFn) := [(i_draw_New, f_draw_New), (i_slices_Clone_int_int, f_slices_Clone_int_int), (i_archiver_Valid, f_archiver_Valid), (i_draw_Codes_Next, f_draw_Codes_Next), (i_archiver_part, f_archiver_part), (i_slices_isNaN_int, f_slices_isNaN_int), (i_cmp_isNaN_int, f_cmp_isNaN_int), (i_archiver_New, f_archiver_New), (i_make_Bounds, f_make_Bounds), (i_cmp_Less_int, f_cmp_Less_int), (i_slices_BinarySearch_int_int, f_slices_BinarySearch_int_int), (i_archiver_Part, f_archiver_Part), (i_law25_awake, f_law25_awake), (i_law25_ArchiverParts, f_law25_ArchiverParts)]

def lkF (f : FuncId) : List (FuncId × AFn) → Option AFn
  | [] => none
  | (g, a) :: r => if f = g then some a else lkF f r

def tabOf (prims : FuncId → Option (List AV → List Blk → Option Res)) : Tabl := fun f => match lkF f fns with
  | some a => some (.fn a)
  | none => (prims f).map .prim

theorem t_draw_New (p) : tabOf p i_draw_New = some (.fn f_draw_New) := rfl
theorem t_slices_Clone_int_int (p) : tabOf p i_slices_Clone_int_int = some (.fn f_slices_Clone_int_int) := rfl
theorem t_archiver_Valid (p) : tabOf p i_archiver_Valid = some (.fn f_archiver_Valid) := rfl
theorem t_draw_Codes_Next (p) : tabOf p i_draw_Codes_Next = some (.fn f_draw_Codes_Next) := rfl
theorem t_archiver_part (p) : tabOf p i_archiver_part = some (.fn f_archiver_part) := rfl
theorem t_slices_isNaN_int (p) : tabOf p i_slices_isNaN_int = some (.fn f_slices_isNaN_int) := rfl
theorem t_cmp_isNaN_int (p) : tabOf p i_cmp_isNaN_int = some (.fn f_cmp_isNaN_int) := rfl
theorem t_archiver_New (p) : tabOf p i_archiver_New = some (.fn f_archiver_New) := rfl
theorem t_make_Bounds (p) : tabOf p i_make_Bounds = some (.fn f_make_Bounds) := rfl
theorem t_cmp_Less_int (p) : tabOf p i_cmp_Less_int = some (.fn f_cmp_Less_int) := rfl
theorem t_slices_BinarySearch_int_int (p) : tabOf p i_slices_BinarySearch_int_int = some (.fn f_slices_BinarySearch_int_int) := rfl
theorem t_archiver_Part (p) : tabOf p i_archiver_Part = some (.fn f_archiver_Part) := rfl
theorem t_law25_awake (p) : tabOf p i_law25_awake = some (.fn f_law25_awake) := rfl
theorem t_law25_ArchiverParts (p) : tabOf p i_law25_ArchiverParts = some (.fn f_law25_ArchiverParts) := rfl

end Go.Am
