/- Parts of the proof, joined. -/

import Derived.Test.YtnbfdfmphbehoaaGreatDoorRa
import Derived.Test.YtnbfdfmphbehoaaGreatDoorFe
namespace Go.Proofs.Tryz
open Go.Fw
set_option maxRecDepth 1000000
set_option maxHeartbeats 80000000
noncomputable def ma0 : List SV := [(false, [.lit (.string ⟨#[49, 59, 49, 47, 49, 32, 52, 47, 49]⟩)])]
noncomputable def mr0 : Res := .tup [(true, [.lit (.int .i64 1), .lit (.int .i64 1), .lit (.int .i64 1), .lit (.int .i64 4), .lit (.int .i64 1), .view []]), (false, [.lit (.int .i64 0)])]
noncomputable def tab0 : Memo := []
theorem tab0_ok : MemoOk cx.P cx.gl tab0 := MemoOk.nil
theorem m0_sat : Sat cx.P cx.gl 92 ma0 mr0 := (fnQ_ok cx_ok (orC_ok (memo_ok tab0_ok) bs_ok) delE_ok (L := 300) 40).cl _ _ _ (by kernel_rfl)
noncomputable def ma1 : List SV := [(true, [.view [[.lit (.string ⟨#[119, 105, 109]⟩), .lit (.int .i64 1)], [.lit (.string ⟨#[116, 101, 97]⟩), .lit (.int .i64 2)], [.lit (.string ⟨#[107, 97, 121]⟩), .lit (.int .i64 3)]], .view [[.lit (.string ⟨#[103, 49]⟩)]], .view [[.lit (.string ⟨#[114, 97, 116, 105, 111]⟩), .lit (.int .i64 0), .view [], .lit (.string ⟨#[]⟩), .lit (.int .i64 95), .lit (.int .i64 105)], [.lit (.string ⟨#[108, 111, 119]⟩), .lit (.int .i64 1), .view [[.lit (.string ⟨#[114, 97, 116, 105, 111]⟩)]], .lit (.string ⟨#[49, 59, 49, 47, 49, 32, 52, 47, 49]⟩), .lit (.int .i64 90), .lit (.int .i64 110)], [.lit (.string ⟨#[102, 117, 108, 108]⟩), .lit (.int .i64 2), .view [[.lit (.string ⟨#[108, 111, 119]⟩)]], .lit (.string ⟨#[49, 59, 49, 47, 49, 32, 52, 47, 49]⟩), .lit (.int .i64 0), .lit (.int .i64 0)]], .view [[.lit (.string ⟨#[108, 101, 97, 100]⟩), .view [[.lit (.string ⟨#[114, 97, 116, 105, 111]⟩)]]]], .lit (.int .i64 10), .lit (.int .i64 100)])]
noncomputable def mr1 : Res := .tup [(false, [.lit (.int .i64 0)]), (false, [.lit (.int .i64 0)])]
noncomputable def tab1 : Memo := (92, ma0, mr0) :: tab0
theorem tab1_ok : MemoOk cx.P cx.gl tab1 := MemoOk.cons m0_sat tab0_ok
theorem m1_sat : Sat cx.P cx.gl 8 ma1 mr1 := (fnQ_ok cx_ok (orC_ok (memo_ok tab1_ok) bs_ok) delE_ok (L := 300) 40).cl _ _ _ (by kernel_rfl)
noncomputable def ma2 : List SV := [(false, [.lit (.string ⟨#[49, 32, 48, 32, 51, 48, 32, 54, 48, 32, 49, 48, 48, 32, 57, 48, 32, 55, 48, 32, 53, 50, 32, 52, 48, 32, 50, 48]⟩)])]
noncomputable def mr2 : Res := .tup [(true, [.lit (.int .i64 1), .ints [0, 30, 60, 100, 90, 70, 52, 40, 20]]), (false, [.lit (.int .i64 0)])]
noncomputable def tab2 : Memo := (8, ma1, mr1) :: tab1
theorem tab2_ok : MemoOk cx.P cx.gl tab2 := MemoOk.cons m1_sat tab1_ok
theorem m2_sat : Sat cx.P cx.gl 228 ma2 mr2 := (fnQ_ok cx_ok (orC_ok (memo_ok tab2_ok) bs_ok) delE_ok (L := 300) 40).cl _ _ _ (by kernel_rfl)
noncomputable def ma3 : List SV := [(true, [.lit (.int .i64 1), .lit (.int .i64 1), .lit (.int .i64 1), .lit (.int .i64 4), .lit (.int .i64 1), .view []]), (true, [.lit (.int .i64 1), .ints [0, 30, 60, 100, 90, 70, 52, 40, 20]])]
noncomputable def mr3 : Res := .tup [(true, [.lit (.int .i64 3), .lit (.int .i64 99), .lit (.int .i64 101), .lit (.int .i64 1), .lit (.int .i64 2), .lit (.int .i64 3), .lit (.int .i64 3), .lit (.int .i64 7), .lit (.int .i64 7)]), (false, [.lit (.int .i64 0)])]
noncomputable def tab3 : Memo := (228, ma2, mr2) :: tab2
theorem tab3_ok : MemoOk cx.P cx.gl tab3 := MemoOk.cons m2_sat tab2_ok
theorem m3_sat : Sat cx.P cx.gl 230 ma3 mr3 := (fnQ_ok cx_ok (orC_ok (memo_ok tab3_ok) bs_ok) delE_ok (L := 300) 40).cl _ _ _ (by kernel_rfl)
noncomputable def ma4 : List SV := [(true, [.lit (.int .i64 1), .lit (.int .i64 1), .lit (.int .i64 1), .lit (.int .i64 4), .lit (.int .i64 1), .view []]), (true, [.lit (.int .i64 3), .lit (.int .i64 99), .lit (.int .i64 101), .lit (.int .i64 1), .lit (.int .i64 2), .lit (.int .i64 3), .lit (.int .i64 3), .lit (.int .i64 7), .lit (.int .i64 7)])]
noncomputable def mr4 : Res := .tup [(true, [.lit (.int .i64 99), .lit (.int .i64 101)]), (false, [.lit (.int .i64 0)])]
noncomputable def tab4 : Memo := (230, ma3, mr3) :: tab3
theorem tab4_ok : MemoOk cx.P cx.gl tab4 := MemoOk.cons m3_sat tab3_ok
theorem m4_sat : Sat cx.P cx.gl 231 ma4 mr4 := (fnQ_ok cx_ok (orC_ok (memo_ok tab4_ok) bs_ok) delE_ok (L := 300) 40).cl _ _ _ (by kernel_rfl)
noncomputable def ma5 : List SV := [(true, [.lit (.int .i64 99), .lit (.int .i64 101)]), (true, [.lit (.int .i64 95), .lit (.int .i64 105)])]
noncomputable def mr5 : Res := .tup [(false, [.lit (.int .i64 2)]), (false, [.lit (.int .i64 0)])]
noncomputable def tab5 : Memo := (231, ma4, mr4) :: tab4
theorem tab5_ok : MemoOk cx.P cx.gl tab5 := MemoOk.cons m4_sat tab4_ok
theorem m5_sat : Sat cx.P cx.gl 225 ma5 mr5 := (fnQ_ok cx_ok (orC_ok (memo_ok tab5_ok) bs_ok) delE_ok (L := 300) 40).cl _ _ _ (by kernel_rfl)
noncomputable def ma6 : List SV := [(true, [.lit (.int .i64 99), .lit (.int .i64 101)]), (true, [.lit (.int .i64 90), .lit (.int .i64 110)])]
noncomputable def mr6 : Res := .tup [(false, [.lit (.int .i64 2)]), (false, [.lit (.int .i64 0)])]
noncomputable def tab6 : Memo := (225, ma5, mr5) :: tab5
theorem tab6_ok : MemoOk cx.P cx.gl tab6 := MemoOk.cons m5_sat tab5_ok
theorem m6_sat : Sat cx.P cx.gl 225 ma6 mr6 := (fnQ_ok cx_ok (orC_ok (memo_ok tab6_ok) bs_ok) delE_ok (L := 300) 40).cl _ _ _ (by kernel_rfl)
noncomputable def ma7 : List SV := [(true, [.lit (.int .i64 1), .lit (.int .i64 1), .lit (.int .i64 1), .lit (.int .i64 4), .lit (.int .i64 1), .view []]), (true, [.lit (.int .i64 1), .ints [0, 30, 60, 100, 90, 70, 52, 40, 20]]), (true, [.lit (.int .i64 1), .ints [0, 30, 60, 100, 90, 70, 52, 40, 20]])]
noncomputable def mr7 : Res := .tup [(false, [.lit (.int .i64 1)]), (false, [.lit (.int .i64 0)])]
noncomputable def tab7 : Memo := (225, ma6, mr6) :: tab6
theorem tab7_ok : MemoOk cx.P cx.gl tab7 := MemoOk.cons m6_sat tab6_ok
theorem m7_sat : Sat cx.P cx.gl 262 ma7 mr7 := (fnQ_ok cx_ok (orC_ok (memo_ok tab7_ok) bs_ok) delE_ok (L := 300) 40).cl _ _ _ (by kernel_rfl)
noncomputable def ma8 : List SV := [(false, [.lit (.string ⟨#[100, 43, 48, 47, 52, 48, 48, 32, 121, 43, 48, 47, 50, 51, 49, 32, 53]⟩)])]
noncomputable def mr8 : Res := .tup [(true, [.lit (.int .i64 1), .lit (.int .i64 400), .lit (.int .i64 0), .lit (.bool false), .lit (.int .i64 0), .lit (.int .i64 231), .lit (.int .i64 0), .lit (.bool false), .lit (.int .i64 5)]), (false, [.lit (.int .i64 0)])]
noncomputable def tab8 : Memo := (262, ma7, mr7) :: tab7
theorem tab8_ok : MemoOk cx.P cx.gl tab8 := MemoOk.cons m7_sat tab7_ok
theorem m8_sat : Sat cx.P cx.gl 196 ma8 mr8 := (fnQ_ok cx_ok (orC_ok (memo_ok tab8_ok) bs_ok) delE_ok (L := 300) 40).cl _ _ _ (by kernel_rfl)
end Go.Proofs.Tryz
namespace Go.Proofs.Tryz
open Go.Fw
set_option maxRecDepth 1000000
set_option maxHeartbeats 80000000
noncomputable def ma9 : List SV := []
noncomputable def mr9 : Res := .own 3 (.view [[.lit (.int .i64 0), .lit (.string ⟨#[119, 105, 109]⟩), .lit (.string ⟨#[117, 110, 105, 116, 32, 116, 49, 32, 100, 43, 48, 47, 52, 48, 48, 32, 121, 43, 48, 47, 50, 51, 49, 32, 53]⟩)], [.lit (.int .i64 1), .lit (.string ⟨#[119, 105, 109]⟩), .lit (.string ⟨#[108, 111, 116, 32, 119, 105, 114, 101]⟩)], [.lit (.int .i64 2), .lit (.string ⟨#[119, 105, 109]⟩), .lit (.string ⟨#[117, 115, 101, 32, 116, 49, 32, 119, 105, 114, 101]⟩)], [.lit (.int .i64 3), .lit (.string ⟨#[116, 101, 97]⟩), .lit (.string ⟨#[111, 112, 101, 110, 32, 103, 49]⟩)], [.lit (.int .i64 4), .lit (.string ⟨#[119, 105, 109]⟩), .lit (.string ⟨#[101, 110, 116, 101, 114, 32, 116, 49]⟩)], [.lit (.int .i64 5), .lit (.string ⟨#[116, 101, 97]⟩), .lit (.string ⟨#[115, 104, 117, 116, 32, 103, 49]⟩)], [.lit (.int .i64 6), .lit (.string ⟨#[116, 101, 97]⟩), .lit (.string ⟨#[116, 101, 115, 116, 32, 116, 49, 32, 114, 97, 116, 105, 111, 32, 57, 57, 32, 49, 48, 49]⟩)], [.lit (.int .i64 7), .lit (.string ⟨#[116, 101, 97]⟩), .lit (.string ⟨#[108, 105, 102, 116]⟩)], [.lit (.int .i64 8), .lit (.string ⟨#[116, 101, 97]⟩), .lit (.string ⟨#[118, 111, 108, 116, 97, 103, 101]⟩)], [.lit (.int .i64 9), .lit (.string ⟨#[116, 101, 97]⟩), .lit (.string ⟨#[116, 101, 115, 116, 32, 116, 49, 32, 108, 111, 119, 32, 49, 32, 48, 32, 51, 48, 32, 54, 48, 32, 49, 48, 48, 32, 57, 48, 32, 55, 48, 32, 53, 50, 32, 52, 48, 32, 50, 48]⟩)], [.lit (.int .i64 10), .lit (.string ⟨#[116, 101, 97]⟩), .lit (.string ⟨#[116, 101, 115, 116, 32, 116, 49, 32, 102, 117, 108, 108, 32, 49, 32, 48, 32, 51, 48, 32, 54, 48, 32, 49, 48, 48, 32, 57, 48, 32, 55, 48, 32, 53, 50, 32, 52, 48, 32, 50, 48]⟩)]])
noncomputable def tab9 : Memo := (196, ma8, mr8) :: tab8
theorem tab9_ok : MemoOk cx.P cx.gl tab9 := MemoOk.cons m8_sat tab8_ok
theorem m9_sat : Sat cx.P cx.gl 34 ma9 mr9 := (fnQ_ok cx_ok (orC_ok (memo_ok tab9_ok) bs_ok) delE_ok (L := 300) 40).cl _ _ _ (by kernel_rfl)
end Go.Proofs.Tryz
