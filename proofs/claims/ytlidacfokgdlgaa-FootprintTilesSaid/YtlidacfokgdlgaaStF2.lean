/-
 Contract: which fields a stage may use, in the reference.
-/
import Derived.Test.YtlidacfokgdlgaaStF
import Derived.Test.YtlidacfokgdlgaaKH
namespace Go.Proofs.Ytlidacfokgdlgaa
open Go.RowKit
attribute [local go_sem ↓] Go.wp_at_zero Go.wp_at_succ edge_eq edge_ne
set_option linter.unusedVariables false
set_option linter.unusedSimpArgs false

set_option maxRecDepth 100000 in
set_option maxHeartbeats 6400000 in
theorem rsfields_1 (sa sb : Int) (bar : Bool) (ep ef kw kh : Int) (wa : Option Addr) (wn wc : Nat) (ra : Option Addr) (rn rc : Nat) (ca : Option Addr) (cn cc : Nat) (sh sh2 : Int) (xa : Option Addr) (xn xc : Nat) (ya : Option Addr) (yn yc : Nat) (bins : Int) (oa : Option Addr) (on oc : Nat) (mx : Int) (W : World) : Calls Try.prog 56 #[.agg #[.int .i64 1, .int .i64 sa, .int .i64 sb, .bool bar, .int .i64 ep, .int .i64 ef, .int .i64 kw, .int .i64 kh, .slice wa wn wc, .slice ra rn rc, .slice ca cn cc, .int .i64 sh, .int .i64 sh2, .slice xa xn xc, .slice ya yn yc, .int .i64 bins, .slice oa on oc, .int .i64 mx]] W fun e w' => e = .returned (.bool (sfOk 1 sb ep ef kw kh wn rn cn sh sh2 xn yn bins on mx)) ∧ Below W.heap.size W w' := by
 obtain ⟨B, hB⟩ : ∃ B, W.heap.size = B := ⟨_, rfl⟩
 have HI0 := hid (St.init hB)
 obtain ⟨eb, heb⟩ : ∃ x, decide (ep = 0 ∧ ef = 0) = x := ⟨_, rfl⟩
 have HEB := hid heb
 go_enter Try.func56, Try.ntmps56
 go_upto_region 1 with fail
 have H798 := hid (show St B W [.cells B #[.int .i64 1, .int .i64 sa, .int .i64 sb, .bool bar, .int .i64 ep, .int .i64 ef, .int .i64 kw, .int .i64 kh, .slice wa wn wc, .slice ra rn rc, .slice ca cn cc, .int .i64 sh, .int .i64 sh2, .slice xa xn xc, .slice ya yn yc, .int .i64 bins, .slice oa on oc, .int .i64 mx] 33] [] (W.alloc (.cells #[.int .i64 1, .int .i64 sa, .int .i64 sb, .bool bar, .int .i64 ep, .int .i64 ef, .int .i64 kw, .int .i64 kh, .slice wa wn wc, .slice ra rn rc, .slice ca cn cc, .int .i64 sh, .int .i64 sh2, .slice xa xn xc, .slice ya yn yc, .int .i64 bins, .slice oa on oc, .int .i64 mx] 33)) from (HI0.out.alloc #[.int .i64 1, .int .i64 sa, .int .i64 sb, .bool bar, .int .i64 ep, .int .i64 ef, .int .i64 kw, .int .i64 kh, .slice wa wn wc, .slice ra rn rc, .slice ca cn cc, .int .i64 sh, .int .i64 sh2, .slice xa xn xc, .slice ya yn yc, .int .i64 bins, .slice oa on oc, .int .i64 mx] 33 hB))
 first | refine gen_code H798.out ?_ | refine gen_list H798.out ?_ | refine gen_calls H798.out ?_
 intro w799 hG
 clear H798
 have H798 := hid hG
 clear hG
 by_cases c800 : (sb : Int) = (-1)
 ·
  obtain ⟨c800c, c800d⟩ : (sb : Int) ≤ (-1) ∧ ((-1) : Int) ≤ sb := by omega
  have c800a : ((sb : Int) == ((-1))) = true := by simpa using c800
  have c800b : ((sb : Int) != ((-1))) = false := by simpa using c800
  have c800h := hid c800
  clear c800
  obtain ⟨z801, z802, z803, z804, z805, z806, z807, z808, z809, z810, z811, z812, z813, z814, z815, z816, z817, z818⟩ := cs18 H798.out 0 rfl
  go_upto_region 3 with fail
  clear z801 z802 z803 z804 z805 z806 z807 z808 z809 z810 z811 z812 z813 z814 z815 z816 z817 z818
  have H819 := hid H798.out.drew
  refine wp_region_held_drew (S := (fun w' => w'.cell? ⟨B, 0, none⟩ = some (.int .i64 1) ∧ w'.cell? ⟨B, 1, none⟩ = some (.int .i64 sa) ∧ w'.cell? ⟨B, 2, none⟩ = some (.int .i64 sb) ∧ w'.cell? ⟨B, 3, none⟩ = some (.bool bar) ∧ w'.cell? ⟨B, 4, none⟩ = some (.int .i64 ep) ∧ w'.cell? ⟨B, 5, none⟩ = some (.int .i64 ef) ∧ w'.cell? ⟨B, 6, none⟩ = some (.int .i64 kw) ∧ w'.cell? ⟨B, 7, none⟩ = some (.int .i64 kh) ∧ w'.cell? ⟨B, 8, none⟩ = some (.slice wa wn wc) ∧ w'.cell? ⟨B, 9, none⟩ = some (.slice ra rn rc) ∧ w'.cell? ⟨B, 10, none⟩ = some (.slice ca cn cc) ∧ w'.cell? ⟨B, 11, none⟩ = some (.int .i64 sh) ∧ w'.cell? ⟨B, 12, none⟩ = some (.int .i64 sh2) ∧ w'.cell? ⟨B, 13, none⟩ = some (.slice xa xn xc) ∧ w'.cell? ⟨B, 14, none⟩ = some (.slice ya yn yc) ∧ w'.cell? ⟨B, 15, none⟩ = some (.int .i64 bins) ∧ w'.cell? ⟨B, 16, none⟩ = some (.slice oa on oc) ∧ w'.cell? ⟨B, 17, none⟩ = some (.int .i64 mx))) (by kernel_rfl) ⟨H819.out.cell 0 rfl 0 rfl, H819.out.cell 0 rfl 1 rfl, H819.out.cell 0 rfl 2 rfl, H819.out.cell 0 rfl 3 rfl, H819.out.cell 0 rfl 4 rfl, H819.out.cell 0 rfl 5 rfl, H819.out.cell 0 rfl 6 rfl, H819.out.cell 0 rfl 7 rfl, H819.out.cell 0 rfl 8 rfl, H819.out.cell 0 rfl 9 rfl, H819.out.cell 0 rfl 10 rfl, H819.out.cell 0 rfl 11 rfl, H819.out.cell 0 rfl 12 rfl, H819.out.cell 0 rfl 13 rfl, H819.out.cell 0 rfl 14 rfl, H819.out.cell 0 rfl 15 rfl, H819.out.cell 0 rfl 16 rfl, H819.out.cell 0 rfl 17 rfl⟩ (fun hHeld => ?_)
  generalize w799.drew = k820 at *
  refine tkA 0 ?_
  try simp only [Act.put, p1, p2, p3, p4, p5, p6]
  refine tkA 1 ?_
  try simp only [Act.put, p1, p2, p3, p4, p5, p6]
  refine tkA 2 ?_
  try simp only [Act.put, p1, p2, p3, p4, p5, p6]
  refine tkA 3 ?_
  try simp only [Act.put, p1, p2, p3, p4, p5, p6]
  refine tkA 4 ?_
  try simp only [Act.put, p1, p2, p3, p4, p5, p6]
  refine tkA 5 ?_
  try simp only [Act.put, p1, p2, p3, p4, p5, p6]
  refine tkA 6 ?_
  try simp only [Act.put, p1, p2, p3, p4, p5, p6]
  refine tkA 7 ?_
  try simp only [Act.put, p1, p2, p3, p4, p5, p6]
  refine tkA 8 ?_
  try simp only [Act.put, p1, p2, p3, p4, p5, p6]
  refine tkA 9 ?_
  try simp only [Act.put, p1, p2, p3, p4, p5, p6]
  refine tkA 10 ?_
  try simp only [Act.put, p1, p2, p3, p4, p5, p6]
  refine tkA 11 ?_
  try simp only [Act.put, p1, p2, p3, p4, p5, p6]
  refine wpAnyH_done (by kernel_rfl) ?_ _
  try clear hHeld
  obtain ⟨z821, z822, z823, z824, z825, z826, z827, z828, z829, z830, z831, z832, z833, z834, z835, z836, z837, z838⟩ := cs18 H819.out 0 rfl
  go_wp2_with fail
  clear z821 z822 z823 z824 z825 z826 z827 z828 z829 z830 z831 z832 z833 z834 z835 z836 z837 z838
  refine (redged_any _ _).mono ?_
  rintro e w839 ⟨rfl, hsw⟩
  have hsw2 : k820 = w839 := by first | exact hsw | exact hsw.symm
  clear hsw
  subst hsw2
  rw [show edOk 1 = true from by decide]
  by_cases c840 : (0 : Int) < rn
  ·
   skip
   obtain ⟨z841, z842, z843, z844, z845, z846, z847, z848, z849, z850, z851, z852, z853, z854, z855, z856, z857, z858⟩ := cs18 H819.out 0 rfl
   go_wp2_with fail
   clear z841 z842 z843 z844 z845 z846 z847 z848 z849 z850 z851 z852 z853 z854 z855 z856 z857 z858
   have he0 := HEB.out
   try simp only [decide_eq_true_eq, decide_eq_false_iff_not] at he0
   go_ret
   exact ⟨ret_b (by unfold sfOk; have := c800h.out; exact (decide_eq_false (by omega)).symm), by first | exact H819.out.below | exact H819.out.below'⟩
  ·
   skip
   by_cases c859 : (0 : Int) < cn
   ·
    skip
    obtain ⟨z860, z861, z862, z863, z864, z865, z866, z867, z868, z869, z870, z871, z872, z873, z874, z875, z876, z877⟩ := cs18 H819.out 0 rfl
    go_wp2_with fail
    clear z860 z861 z862 z863 z864 z865 z866 z867 z868 z869 z870 z871 z872 z873 z874 z875 z876 z877
    have he0 := HEB.out
    try simp only [decide_eq_true_eq, decide_eq_false_iff_not] at he0
    go_ret
    exact ⟨ret_b (by unfold sfOk; have := c800h.out; exact (decide_eq_false (by omega)).symm), by first | exact H819.out.below | exact H819.out.below'⟩
   ·
    skip
    by_cases c878 : (0 : Int) < xn
    ·
     skip
     obtain ⟨z879, z880, z881, z882, z883, z884, z885, z886, z887, z888, z889, z890, z891, z892, z893, z894, z895, z896⟩ := cs18 H819.out 0 rfl
     go_wp2_with fail
     clear z879 z880 z881 z882 z883 z884 z885 z886 z887 z888 z889 z890 z891 z892 z893 z894 z895 z896
     have he0 := HEB.out
     try simp only [decide_eq_true_eq, decide_eq_false_iff_not] at he0
     go_ret
     exact ⟨ret_b (by unfold sfOk; have := c800h.out; exact (decide_eq_false (by omega)).symm), by first | exact H819.out.below | exact H819.out.below'⟩
    ·
     skip
     by_cases c897 : (0 : Int) < yn
     ·
      skip
      obtain ⟨z898, z899, z900, z901, z902, z903, z904, z905, z906, z907, z908, z909, z910, z911, z912, z913, z914, z915⟩ := cs18 H819.out 0 rfl
      go_wp2_with fail
      clear z898 z899 z900 z901 z902 z903 z904 z905 z906 z907 z908 z909 z910 z911 z912 z913 z914 z915
      have he0 := HEB.out
      try simp only [decide_eq_true_eq, decide_eq_false_iff_not] at he0
      go_ret
      exact ⟨ret_b (by unfold sfOk; have := c800h.out; exact (decide_eq_false (by omega)).symm), by first | exact H819.out.below | exact H819.out.below'⟩
     ·
      skip
      obtain ⟨z916, z917, z918, z919, z920, z921, z922, z923, z924, z925, z926, z927, z928, z929, z930, z931, z932, z933⟩ := cs18 H819.out 0 rfl
      go_wp2_with fail
      clear z916 z917 z918 z919 z920 z921 z922 z923 z924 z925 z926 z927 z928 z929 z930 z931 z932 z933
      refine (redged_any _ _).mono ?_
      rintro e w934 ⟨rfl, hsw⟩
      have hsw2 : k820 = w934 := by first | exact hsw | exact hsw.symm
      clear hsw
      subst hsw2
      rw [show edOk 1 = true from by decide]
      by_cases c935 : (sh2 : Int) = 0
      ·
       obtain ⟨c935c, c935d⟩ : (sh2 : Int) ≤ 0 ∧ (0 : Int) ≤ sh2 := by omega
       have c935a : ((sh2 : Int) == (0)) = true := by simpa using c935
       have c935b : ((sh2 : Int) != (0)) = false := by simpa using c935
       have c935h := hid c935
       clear c935
       by_cases c936 : (bins : Int) = 0
       ·
        obtain ⟨c936c, c936d⟩ : (bins : Int) ≤ 0 ∧ (0 : Int) ≤ bins := by omega
        have c936a : ((bins : Int) == (0)) = true := by simpa using c936
        have c936b : ((bins : Int) != (0)) = false := by simpa using c936
        have c936h := hid c936
        clear c936
        by_cases c937 : (0 : Int) < on
        ·
         skip
         obtain ⟨z938, z939, z940, z941, z942, z943, z944, z945, z946, z947, z948, z949, z950, z951, z952, z953, z954, z955⟩ := cs18 H819.out 0 rfl
         go_wp2_with fail
         clear z938 z939 z940 z941 z942 z943 z944 z945 z946 z947 z948 z949 z950 z951 z952 z953 z954 z955
         have he0 := HEB.out
         try simp only [decide_eq_true_eq, decide_eq_false_iff_not] at he0
         go_ret
         exact ⟨ret_b (by unfold sfOk; have := c800h.out; have := c935h.out; have := c936h.out; exact (decide_eq_false (by omega)).symm), by first | exact H819.out.below | exact H819.out.below'⟩
        ·
         skip
         obtain ⟨z956, z957, z958, z959, z960, z961, z962, z963, z964, z965, z966, z967, z968, z969, z970, z971, z972, z973⟩ := cs18 H819.out 0 rfl
         go_wp2_with fail
         clear z956 z957 z958 z959 z960 z961 z962 z963 z964 z965 z966 z967 z968 z969 z970 z971 z972 z973
         have he0 := HEB.out
         try simp only [decide_eq_true_eq, decide_eq_false_iff_not] at he0
         go_ret
         exact ⟨ret_b (by unfold sfOk; have := c800h.out; have := c935h.out; have := c936h.out; exact (decide_eq_true (by omega)).symm), by first | exact H819.out.below | exact H819.out.below'⟩
       ·
        have c936a : ((bins : Int) == (0)) = false := by simpa using c936
        have c936b : ((bins : Int) != (0)) = true := by simpa using c936
        have c936h := hid c936
        clear c936
        obtain ⟨z974, z975, z976, z977, z978, z979, z980, z981, z982, z983, z984, z985, z986, z987, z988, z989, z990, z991⟩ := cs18 H819.out 0 rfl
        go_wp2_with fail
        clear z974 z975 z976 z977 z978 z979 z980 z981 z982 z983 z984 z985 z986 z987 z988 z989 z990 z991
        have he0 := HEB.out
        try simp only [decide_eq_true_eq, decide_eq_false_iff_not] at he0
        go_ret
        exact ⟨ret_b (by unfold sfOk; have := c800h.out; have := c935h.out; have := c936h.out; exact (decide_eq_false (by omega)).symm), by first | exact H819.out.below | exact H819.out.below'⟩
      ·
       have c935a : ((sh2 : Int) == (0)) = false := by simpa using c935
       have c935b : ((sh2 : Int) != (0)) = true := by simpa using c935
       have c935h := hid c935
       clear c935
       obtain ⟨z992, z993, z994, z995, z996, z997, z998, z999, z1000, z1001, z1002, z1003, z1004, z1005, z1006, z1007, z1008, z1009⟩ := cs18 H819.out 0 rfl
       go_wp2_with fail
       clear z992 z993 z994 z995 z996 z997 z998 z999 z1000 z1001 z1002 z1003 z1004 z1005 z1006 z1007 z1008 z1009
       have he0 := HEB.out
       try simp only [decide_eq_true_eq, decide_eq_false_iff_not] at he0
       go_ret
       exact ⟨ret_b (by unfold sfOk; have := c800h.out; have := c935h.out; exact (decide_eq_false (by omega)).symm), by first | exact H819.out.below | exact H819.out.below'⟩
 ·
  have c800a : ((sb : Int) == ((-1))) = false := by simpa using c800
  have c800b : ((sb : Int) != ((-1))) = true := by simpa using c800
  have c800h := hid c800
  clear c800
  obtain ⟨z1010, z1011, z1012, z1013, z1014, z1015, z1016, z1017, z1018, z1019, z1020, z1021, z1022, z1023, z1024, z1025, z1026, z1027⟩ := cs18 H798.out 0 rfl
  go_wp2_with fail
  clear z1010 z1011 z1012 z1013 z1014 z1015 z1016 z1017 z1018 z1019 z1020 z1021 z1022 z1023 z1024 z1025 z1026 z1027
  have he0 := HEB.out
  try simp only [decide_eq_true_eq, decide_eq_false_iff_not] at he0
  go_ret
  exact ⟨ret_b (by unfold sfOk; have := c800h.out; exact (decide_eq_false (by omega)).symm), by first | exact H798.out.below | exact H798.out.below'⟩

set_option maxRecDepth 100000 in
set_option maxHeartbeats 6400000 in
theorem rsfields_2 (sa sb : Int) (bar : Bool) (ep ef kw kh : Int) (wa : Option Addr) (wn wc : Nat) (ra : Option Addr) (rn rc : Nat) (ca : Option Addr) (cn cc : Nat) (sh sh2 : Int) (xa : Option Addr) (xn xc : Nat) (ya : Option Addr) (yn yc : Nat) (bins : Int) (oa : Option Addr) (on oc : Nat) (mx : Int) (W : World) : Calls Try.prog 56 #[.agg #[.int .i64 2, .int .i64 sa, .int .i64 sb, .bool bar, .int .i64 ep, .int .i64 ef, .int .i64 kw, .int .i64 kh, .slice wa wn wc, .slice ra rn rc, .slice ca cn cc, .int .i64 sh, .int .i64 sh2, .slice xa xn xc, .slice ya yn yc, .int .i64 bins, .slice oa on oc, .int .i64 mx]] W fun e w' => e = .returned (.bool (sfOk 2 sb ep ef kw kh wn rn cn sh sh2 xn yn bins on mx)) ∧ Below W.heap.size W w' := by
 obtain ⟨B, hB⟩ : ∃ B, W.heap.size = B := ⟨_, rfl⟩
 have HI0 := hid (St.init hB)
 obtain ⟨eb, heb⟩ : ∃ x, decide (ep = 0 ∧ ef = 0) = x := ⟨_, rfl⟩
 have HEB := hid heb
 go_enter Try.func56, Try.ntmps56
 go_upto_region 1 with fail
 have H1028 := hid (show St B W [.cells B #[.int .i64 2, .int .i64 sa, .int .i64 sb, .bool bar, .int .i64 ep, .int .i64 ef, .int .i64 kw, .int .i64 kh, .slice wa wn wc, .slice ra rn rc, .slice ca cn cc, .int .i64 sh, .int .i64 sh2, .slice xa xn xc, .slice ya yn yc, .int .i64 bins, .slice oa on oc, .int .i64 mx] 33] [] (W.alloc (.cells #[.int .i64 2, .int .i64 sa, .int .i64 sb, .bool bar, .int .i64 ep, .int .i64 ef, .int .i64 kw, .int .i64 kh, .slice wa wn wc, .slice ra rn rc, .slice ca cn cc, .int .i64 sh, .int .i64 sh2, .slice xa xn xc, .slice ya yn yc, .int .i64 bins, .slice oa on oc, .int .i64 mx] 33)) from (HI0.out.alloc #[.int .i64 2, .int .i64 sa, .int .i64 sb, .bool bar, .int .i64 ep, .int .i64 ef, .int .i64 kw, .int .i64 kh, .slice wa wn wc, .slice ra rn rc, .slice ca cn cc, .int .i64 sh, .int .i64 sh2, .slice xa xn xc, .slice ya yn yc, .int .i64 bins, .slice oa on oc, .int .i64 mx] 33 hB))
 first | refine gen_code H1028.out ?_ | refine gen_list H1028.out ?_ | refine gen_calls H1028.out ?_
 intro w1029 hG
 clear H1028
 have H1028 := hid hG
 clear hG
 by_cases c1030 : (sb : Int) = (-1)
 ·
  obtain ⟨c1030c, c1030d⟩ : (sb : Int) ≤ (-1) ∧ ((-1) : Int) ≤ sb := by omega
  have c1030a : ((sb : Int) == ((-1))) = true := by simpa using c1030
  have c1030b : ((sb : Int) != ((-1))) = false := by simpa using c1030
  have c1030h := hid c1030
  clear c1030
  obtain ⟨z1031, z1032, z1033, z1034, z1035, z1036, z1037, z1038, z1039, z1040, z1041, z1042, z1043, z1044, z1045, z1046, z1047, z1048⟩ := cs18 H1028.out 0 rfl
  go_upto_region 3 with fail
  clear z1031 z1032 z1033 z1034 z1035 z1036 z1037 z1038 z1039 z1040 z1041 z1042 z1043 z1044 z1045 z1046 z1047 z1048
  have H1049 := hid H1028.out.drew
  refine wp_region_held_drew (S := (fun w' => w'.cell? ⟨B, 0, none⟩ = some (.int .i64 2) ∧ w'.cell? ⟨B, 1, none⟩ = some (.int .i64 sa) ∧ w'.cell? ⟨B, 2, none⟩ = some (.int .i64 sb) ∧ w'.cell? ⟨B, 3, none⟩ = some (.bool bar) ∧ w'.cell? ⟨B, 4, none⟩ = some (.int .i64 ep) ∧ w'.cell? ⟨B, 5, none⟩ = some (.int .i64 ef) ∧ w'.cell? ⟨B, 6, none⟩ = some (.int .i64 kw) ∧ w'.cell? ⟨B, 7, none⟩ = some (.int .i64 kh) ∧ w'.cell? ⟨B, 8, none⟩ = some (.slice wa wn wc) ∧ w'.cell? ⟨B, 9, none⟩ = some (.slice ra rn rc) ∧ w'.cell? ⟨B, 10, none⟩ = some (.slice ca cn cc) ∧ w'.cell? ⟨B, 11, none⟩ = some (.int .i64 sh) ∧ w'.cell? ⟨B, 12, none⟩ = some (.int .i64 sh2) ∧ w'.cell? ⟨B, 13, none⟩ = some (.slice xa xn xc) ∧ w'.cell? ⟨B, 14, none⟩ = some (.slice ya yn yc) ∧ w'.cell? ⟨B, 15, none⟩ = some (.int .i64 bins) ∧ w'.cell? ⟨B, 16, none⟩ = some (.slice oa on oc) ∧ w'.cell? ⟨B, 17, none⟩ = some (.int .i64 mx))) (by kernel_rfl) ⟨H1049.out.cell 0 rfl 0 rfl, H1049.out.cell 0 rfl 1 rfl, H1049.out.cell 0 rfl 2 rfl, H1049.out.cell 0 rfl 3 rfl, H1049.out.cell 0 rfl 4 rfl, H1049.out.cell 0 rfl 5 rfl, H1049.out.cell 0 rfl 6 rfl, H1049.out.cell 0 rfl 7 rfl, H1049.out.cell 0 rfl 8 rfl, H1049.out.cell 0 rfl 9 rfl, H1049.out.cell 0 rfl 10 rfl, H1049.out.cell 0 rfl 11 rfl, H1049.out.cell 0 rfl 12 rfl, H1049.out.cell 0 rfl 13 rfl, H1049.out.cell 0 rfl 14 rfl, H1049.out.cell 0 rfl 15 rfl, H1049.out.cell 0 rfl 16 rfl, H1049.out.cell 0 rfl 17 rfl⟩ (fun hHeld => ?_)
  generalize w1029.drew = k1050 at *
  refine tkA 0 ?_
  try simp only [Act.put, p1, p2, p3, p4, p5, p6]
  refine tkA 1 ?_
  try simp only [Act.put, p1, p2, p3, p4, p5, p6]
  refine tkA 2 ?_
  try simp only [Act.put, p1, p2, p3, p4, p5, p6]
  refine tkA 3 ?_
  try simp only [Act.put, p1, p2, p3, p4, p5, p6]
  refine tkA 4 ?_
  try simp only [Act.put, p1, p2, p3, p4, p5, p6]
  refine tkA 5 ?_
  try simp only [Act.put, p1, p2, p3, p4, p5, p6]
  refine tkA 6 ?_
  try simp only [Act.put, p1, p2, p3, p4, p5, p6]
  refine tkA 7 ?_
  try simp only [Act.put, p1, p2, p3, p4, p5, p6]
  refine tkA 8 ?_
  try simp only [Act.put, p1, p2, p3, p4, p5, p6]
  refine tkA 9 ?_
  try simp only [Act.put, p1, p2, p3, p4, p5, p6]
  refine tkA 10 ?_
  try simp only [Act.put, p1, p2, p3, p4, p5, p6]
  refine tkA 11 ?_
  try simp only [Act.put, p1, p2, p3, p4, p5, p6]
  refine wpAnyH_done (by kernel_rfl) ?_ _
  try clear hHeld
  obtain ⟨z1051, z1052, z1053, z1054, z1055, z1056, z1057, z1058, z1059, z1060, z1061, z1062, z1063, z1064, z1065, z1066, z1067, z1068⟩ := cs18 H1049.out 0 rfl
  go_wp2_with fail
  clear z1051 z1052 z1053 z1054 z1055 z1056 z1057 z1058 z1059 z1060 z1061 z1062 z1063 z1064 z1065 z1066 z1067 z1068
  refine (redged_any _ _).mono ?_
  rintro e w1069 ⟨rfl, hsw⟩
  have hsw2 : k1050 = w1069 := by first | exact hsw | exact hsw.symm
  clear hsw
  subst hsw2
  rw [show edOk 2 = true from by decide]
  by_cases c1070 : (kw : Int) = 0
  ·
   obtain ⟨c1070c, c1070d⟩ : (kw : Int) ≤ 0 ∧ (0 : Int) ≤ kw := by omega
   have c1070a : ((kw : Int) == (0)) = true := by simpa using c1070
   have c1070b : ((kw : Int) != (0)) = false := by simpa using c1070
   have c1070h := hid c1070
   clear c1070
   by_cases c1071 : (kh : Int) = 0
   ·
    obtain ⟨c1071c, c1071d⟩ : (kh : Int) ≤ 0 ∧ (0 : Int) ≤ kh := by omega
    have c1071a : ((kh : Int) == (0)) = true := by simpa using c1071
    have c1071b : ((kh : Int) != (0)) = false := by simpa using c1071
    have c1071h := hid c1071
    clear c1071
    by_cases c1072 : (0 : Int) < wn
    ·
     skip
     obtain ⟨z1073, z1074, z1075, z1076, z1077, z1078, z1079, z1080, z1081, z1082, z1083, z1084, z1085, z1086, z1087, z1088, z1089, z1090⟩ := cs18 H1049.out 0 rfl
     go_wp2_with fail
     clear z1073 z1074 z1075 z1076 z1077 z1078 z1079 z1080 z1081 z1082 z1083 z1084 z1085 z1086 z1087 z1088 z1089 z1090
     have he0 := HEB.out
     try simp only [decide_eq_true_eq, decide_eq_false_iff_not] at he0
     go_ret
     exact ⟨ret_b (by unfold sfOk; have := c1030h.out; have := c1070h.out; have := c1071h.out; exact (decide_eq_false (by omega)).symm), by first | exact H1049.out.below | exact H1049.out.below'⟩
    ·
     skip
     by_cases c1091 : (0 : Int) < xn
     ·
      skip
      obtain ⟨z1092, z1093, z1094, z1095, z1096, z1097, z1098, z1099, z1100, z1101, z1102, z1103, z1104, z1105, z1106, z1107, z1108, z1109⟩ := cs18 H1049.out 0 rfl
      go_wp2_with fail
      clear z1092 z1093 z1094 z1095 z1096 z1097 z1098 z1099 z1100 z1101 z1102 z1103 z1104 z1105 z1106 z1107 z1108 z1109
      have he0 := HEB.out
      try simp only [decide_eq_true_eq, decide_eq_false_iff_not] at he0
      go_ret
      exact ⟨ret_b (by unfold sfOk; have := c1030h.out; have := c1070h.out; have := c1071h.out; exact (decide_eq_false (by omega)).symm), by first | exact H1049.out.below | exact H1049.out.below'⟩
     ·
      skip
      by_cases c1110 : (0 : Int) < yn
      ·
       skip
       obtain ⟨z1111, z1112, z1113, z1114, z1115, z1116, z1117, z1118, z1119, z1120, z1121, z1122, z1123, z1124, z1125, z1126, z1127, z1128⟩ := cs18 H1049.out 0 rfl
       go_wp2_with fail
       clear z1111 z1112 z1113 z1114 z1115 z1116 z1117 z1118 z1119 z1120 z1121 z1122 z1123 z1124 z1125 z1126 z1127 z1128
       have he0 := HEB.out
       try simp only [decide_eq_true_eq, decide_eq_false_iff_not] at he0
       go_ret
       exact ⟨ret_b (by unfold sfOk; have := c1030h.out; have := c1070h.out; have := c1071h.out; exact (decide_eq_false (by omega)).symm), by first | exact H1049.out.below | exact H1049.out.below'⟩
      ·
       skip
       obtain ⟨z1129, z1130, z1131, z1132, z1133, z1134, z1135, z1136, z1137, z1138, z1139, z1140, z1141, z1142, z1143, z1144, z1145, z1146⟩ := cs18 H1049.out 0 rfl
       go_wp2_with fail
       clear z1129 z1130 z1131 z1132 z1133 z1134 z1135 z1136 z1137 z1138 z1139 z1140 z1141 z1142 z1143 z1144 z1145 z1146
       refine (redged_any _ _).mono ?_
       rintro e w1147 ⟨rfl, hsw⟩
       have hsw2 : k1050 = w1147 := by first | exact hsw | exact hsw.symm
       clear hsw
       subst hsw2
       rw [show edOk 2 = true from by decide]
       by_cases c1148 : (bins : Int) = 0
       ·
        obtain ⟨c1148c, c1148d⟩ : (bins : Int) ≤ 0 ∧ (0 : Int) ≤ bins := by omega
        have c1148a : ((bins : Int) == (0)) = true := by simpa using c1148
        have c1148b : ((bins : Int) != (0)) = false := by simpa using c1148
        have c1148h := hid c1148
        clear c1148
        by_cases c1149 : (0 : Int) < on
        ·
         skip
         obtain ⟨z1150, z1151, z1152, z1153, z1154, z1155, z1156, z1157, z1158, z1159, z1160, z1161, z1162, z1163, z1164, z1165, z1166, z1167⟩ := cs18 H1049.out 0 rfl
         go_wp2_with fail
         clear z1150 z1151 z1152 z1153 z1154 z1155 z1156 z1157 z1158 z1159 z1160 z1161 z1162 z1163 z1164 z1165 z1166 z1167
         have he0 := HEB.out
         try simp only [decide_eq_true_eq, decide_eq_false_iff_not] at he0
         go_ret
         exact ⟨ret_b (by unfold sfOk; have := c1030h.out; have := c1070h.out; have := c1071h.out; have := c1148h.out; exact (decide_eq_false (by omega)).symm), by first | exact H1049.out.below | exact H1049.out.below'⟩
        ·
         skip
         obtain ⟨z1168, z1169, z1170, z1171, z1172, z1173, z1174, z1175, z1176, z1177, z1178, z1179, z1180, z1181, z1182, z1183, z1184, z1185⟩ := cs18 H1049.out 0 rfl
         go_wp2_with fail
         clear z1168 z1169 z1170 z1171 z1172 z1173 z1174 z1175 z1176 z1177 z1178 z1179 z1180 z1181 z1182 z1183 z1184 z1185
         have he0 := HEB.out
         try simp only [decide_eq_true_eq, decide_eq_false_iff_not] at he0
         go_ret
         exact ⟨ret_b (by unfold sfOk; have := c1030h.out; have := c1070h.out; have := c1071h.out; have := c1148h.out; exact (decide_eq_true (by omega)).symm), by first | exact H1049.out.below | exact H1049.out.below'⟩
       ·
        have c1148a : ((bins : Int) == (0)) = false := by simpa using c1148
        have c1148b : ((bins : Int) != (0)) = true := by simpa using c1148
        have c1148h := hid c1148
        clear c1148
        obtain ⟨z1186, z1187, z1188, z1189, z1190, z1191, z1192, z1193, z1194, z1195, z1196, z1197, z1198, z1199, z1200, z1201, z1202, z1203⟩ := cs18 H1049.out 0 rfl
        go_wp2_with fail
        clear z1186 z1187 z1188 z1189 z1190 z1191 z1192 z1193 z1194 z1195 z1196 z1197 z1198 z1199 z1200 z1201 z1202 z1203
        have he0 := HEB.out
        try simp only [decide_eq_true_eq, decide_eq_false_iff_not] at he0
        go_ret
        exact ⟨ret_b (by unfold sfOk; have := c1030h.out; have := c1070h.out; have := c1071h.out; have := c1148h.out; exact (decide_eq_false (by omega)).symm), by first | exact H1049.out.below | exact H1049.out.below'⟩
   ·
    have c1071a : ((kh : Int) == (0)) = false := by simpa using c1071
    have c1071b : ((kh : Int) != (0)) = true := by simpa using c1071
    have c1071h := hid c1071
    clear c1071
    obtain ⟨z1204, z1205, z1206, z1207, z1208, z1209, z1210, z1211, z1212, z1213, z1214, z1215, z1216, z1217, z1218, z1219, z1220, z1221⟩ := cs18 H1049.out 0 rfl
    go_wp2_with fail
    clear z1204 z1205 z1206 z1207 z1208 z1209 z1210 z1211 z1212 z1213 z1214 z1215 z1216 z1217 z1218 z1219 z1220 z1221
    have he0 := HEB.out
    try simp only [decide_eq_true_eq, decide_eq_false_iff_not] at he0
    go_ret
    exact ⟨ret_b (by unfold sfOk; have := c1030h.out; have := c1070h.out; have := c1071h.out; exact (decide_eq_false (by omega)).symm), by first | exact H1049.out.below | exact H1049.out.below'⟩
  ·
   have c1070a : ((kw : Int) == (0)) = false := by simpa using c1070
   have c1070b : ((kw : Int) != (0)) = true := by simpa using c1070
   have c1070h := hid c1070
   clear c1070
   obtain ⟨z1222, z1223, z1224, z1225, z1226, z1227, z1228, z1229, z1230, z1231, z1232, z1233, z1234, z1235, z1236, z1237, z1238, z1239⟩ := cs18 H1049.out 0 rfl
   go_wp2_with fail
   clear z1222 z1223 z1224 z1225 z1226 z1227 z1228 z1229 z1230 z1231 z1232 z1233 z1234 z1235 z1236 z1237 z1238 z1239
   have he0 := HEB.out
   try simp only [decide_eq_true_eq, decide_eq_false_iff_not] at he0
   go_ret
   exact ⟨ret_b (by unfold sfOk; have := c1030h.out; have := c1070h.out; exact (decide_eq_false (by omega)).symm), by first | exact H1049.out.below | exact H1049.out.below'⟩
 ·
  have c1030a : ((sb : Int) == ((-1))) = false := by simpa using c1030
  have c1030b : ((sb : Int) != ((-1))) = true := by simpa using c1030
  have c1030h := hid c1030
  clear c1030
  obtain ⟨z1240, z1241, z1242, z1243, z1244, z1245, z1246, z1247, z1248, z1249, z1250, z1251, z1252, z1253, z1254, z1255, z1256, z1257⟩ := cs18 H1028.out 0 rfl
  go_wp2_with fail
  clear z1240 z1241 z1242 z1243 z1244 z1245 z1246 z1247 z1248 z1249 z1250 z1251 z1252 z1253 z1254 z1255 z1256 z1257
  have he0 := HEB.out
  try simp only [decide_eq_true_eq, decide_eq_false_iff_not] at he0
  go_ret
  exact ⟨ret_b (by unfold sfOk; have := c1030h.out; exact (decide_eq_false (by omega)).symm), by first | exact H1028.out.below | exact H1028.out.below'⟩

set_option maxRecDepth 100000 in
set_option maxHeartbeats 6400000 in
theorem rsfields_3 (sa sb : Int) (bar : Bool) (ep ef kw kh : Int) (wa : Option Addr) (wn wc : Nat) (ra : Option Addr) (rn rc : Nat) (ca : Option Addr) (cn cc : Nat) (sh sh2 : Int) (xa : Option Addr) (xn xc : Nat) (ya : Option Addr) (yn yc : Nat) (bins : Int) (oa : Option Addr) (on oc : Nat) (mx : Int) (W : World) : Calls Try.prog 56 #[.agg #[.int .i64 3, .int .i64 sa, .int .i64 sb, .bool bar, .int .i64 ep, .int .i64 ef, .int .i64 kw, .int .i64 kh, .slice wa wn wc, .slice ra rn rc, .slice ca cn cc, .int .i64 sh, .int .i64 sh2, .slice xa xn xc, .slice ya yn yc, .int .i64 bins, .slice oa on oc, .int .i64 mx]] W fun e w' => e = .returned (.bool (sfOk 3 sb ep ef kw kh wn rn cn sh sh2 xn yn bins on mx)) ∧ Below W.heap.size W w' := by
 obtain ⟨B, hB⟩ : ∃ B, W.heap.size = B := ⟨_, rfl⟩
 have HI0 := hid (St.init hB)
 obtain ⟨eb, heb⟩ : ∃ x, decide (ep = 0 ∧ ef = 0) = x := ⟨_, rfl⟩
 have HEB := hid heb
 go_enter Try.func56, Try.ntmps56
 go_upto_region 1 with fail
 have H1258 := hid (show St B W [.cells B #[.int .i64 3, .int .i64 sa, .int .i64 sb, .bool bar, .int .i64 ep, .int .i64 ef, .int .i64 kw, .int .i64 kh, .slice wa wn wc, .slice ra rn rc, .slice ca cn cc, .int .i64 sh, .int .i64 sh2, .slice xa xn xc, .slice ya yn yc, .int .i64 bins, .slice oa on oc, .int .i64 mx] 33] [] (W.alloc (.cells #[.int .i64 3, .int .i64 sa, .int .i64 sb, .bool bar, .int .i64 ep, .int .i64 ef, .int .i64 kw, .int .i64 kh, .slice wa wn wc, .slice ra rn rc, .slice ca cn cc, .int .i64 sh, .int .i64 sh2, .slice xa xn xc, .slice ya yn yc, .int .i64 bins, .slice oa on oc, .int .i64 mx] 33)) from (HI0.out.alloc #[.int .i64 3, .int .i64 sa, .int .i64 sb, .bool bar, .int .i64 ep, .int .i64 ef, .int .i64 kw, .int .i64 kh, .slice wa wn wc, .slice ra rn rc, .slice ca cn cc, .int .i64 sh, .int .i64 sh2, .slice xa xn xc, .slice ya yn yc, .int .i64 bins, .slice oa on oc, .int .i64 mx] 33 hB))
 first | refine gen_code H1258.out ?_ | refine gen_list H1258.out ?_ | refine gen_calls H1258.out ?_
 intro w1259 hG
 clear H1258
 have H1258 := hid hG
 clear hG
 by_cases c1260 : (sb : Int) = (-1)
 ·
  obtain ⟨c1260c, c1260d⟩ : (sb : Int) ≤ (-1) ∧ ((-1) : Int) ≤ sb := by omega
  have c1260a : ((sb : Int) == ((-1))) = true := by simpa using c1260
  have c1260b : ((sb : Int) != ((-1))) = false := by simpa using c1260
  have c1260h := hid c1260
  clear c1260
  obtain ⟨z1261, z1262, z1263, z1264, z1265, z1266, z1267, z1268, z1269, z1270, z1271, z1272, z1273, z1274, z1275, z1276, z1277, z1278⟩ := cs18 H1258.out 0 rfl
  go_upto_region 3 with fail
  clear z1261 z1262 z1263 z1264 z1265 z1266 z1267 z1268 z1269 z1270 z1271 z1272 z1273 z1274 z1275 z1276 z1277 z1278
  have H1279 := hid H1258.out.drew
  refine wp_region_held_drew (S := (fun w' => w'.cell? ⟨B, 0, none⟩ = some (.int .i64 3) ∧ w'.cell? ⟨B, 1, none⟩ = some (.int .i64 sa) ∧ w'.cell? ⟨B, 2, none⟩ = some (.int .i64 sb) ∧ w'.cell? ⟨B, 3, none⟩ = some (.bool bar) ∧ w'.cell? ⟨B, 4, none⟩ = some (.int .i64 ep) ∧ w'.cell? ⟨B, 5, none⟩ = some (.int .i64 ef) ∧ w'.cell? ⟨B, 6, none⟩ = some (.int .i64 kw) ∧ w'.cell? ⟨B, 7, none⟩ = some (.int .i64 kh) ∧ w'.cell? ⟨B, 8, none⟩ = some (.slice wa wn wc) ∧ w'.cell? ⟨B, 9, none⟩ = some (.slice ra rn rc) ∧ w'.cell? ⟨B, 10, none⟩ = some (.slice ca cn cc) ∧ w'.cell? ⟨B, 11, none⟩ = some (.int .i64 sh) ∧ w'.cell? ⟨B, 12, none⟩ = some (.int .i64 sh2) ∧ w'.cell? ⟨B, 13, none⟩ = some (.slice xa xn xc) ∧ w'.cell? ⟨B, 14, none⟩ = some (.slice ya yn yc) ∧ w'.cell? ⟨B, 15, none⟩ = some (.int .i64 bins) ∧ w'.cell? ⟨B, 16, none⟩ = some (.slice oa on oc) ∧ w'.cell? ⟨B, 17, none⟩ = some (.int .i64 mx))) (by kernel_rfl) ⟨H1279.out.cell 0 rfl 0 rfl, H1279.out.cell 0 rfl 1 rfl, H1279.out.cell 0 rfl 2 rfl, H1279.out.cell 0 rfl 3 rfl, H1279.out.cell 0 rfl 4 rfl, H1279.out.cell 0 rfl 5 rfl, H1279.out.cell 0 rfl 6 rfl, H1279.out.cell 0 rfl 7 rfl, H1279.out.cell 0 rfl 8 rfl, H1279.out.cell 0 rfl 9 rfl, H1279.out.cell 0 rfl 10 rfl, H1279.out.cell 0 rfl 11 rfl, H1279.out.cell 0 rfl 12 rfl, H1279.out.cell 0 rfl 13 rfl, H1279.out.cell 0 rfl 14 rfl, H1279.out.cell 0 rfl 15 rfl, H1279.out.cell 0 rfl 16 rfl, H1279.out.cell 0 rfl 17 rfl⟩ (fun hHeld => ?_)
  generalize w1259.drew = k1280 at *
  refine tkA 0 ?_
  try simp only [Act.put, p1, p2, p3, p4, p5, p6]
  refine tkA 1 ?_
  try simp only [Act.put, p1, p2, p3, p4, p5, p6]
  refine tkA 2 ?_
  try simp only [Act.put, p1, p2, p3, p4, p5, p6]
  refine tkA 3 ?_
  try simp only [Act.put, p1, p2, p3, p4, p5, p6]
  refine tkA 4 ?_
  try simp only [Act.put, p1, p2, p3, p4, p5, p6]
  refine tkA 5 ?_
  try simp only [Act.put, p1, p2, p3, p4, p5, p6]
  refine tkA 6 ?_
  try simp only [Act.put, p1, p2, p3, p4, p5, p6]
  refine tkA 7 ?_
  try simp only [Act.put, p1, p2, p3, p4, p5, p6]
  refine tkA 8 ?_
  try simp only [Act.put, p1, p2, p3, p4, p5, p6]
  refine tkA 9 ?_
  try simp only [Act.put, p1, p2, p3, p4, p5, p6]
  refine tkA 10 ?_
  try simp only [Act.put, p1, p2, p3, p4, p5, p6]
  refine tkA 11 ?_
  try simp only [Act.put, p1, p2, p3, p4, p5, p6]
  refine wpAnyH_done (by kernel_rfl) ?_ _
  try clear hHeld
  obtain ⟨z1281, z1282, z1283, z1284, z1285, z1286, z1287, z1288, z1289, z1290, z1291, z1292, z1293, z1294, z1295, z1296, z1297, z1298⟩ := cs18 H1279.out 0 rfl
  go_wp2_with fail
  clear z1281 z1282 z1283 z1284 z1285 z1286 z1287 z1288 z1289 z1290 z1291 z1292 z1293 z1294 z1295 z1296 z1297 z1298
  refine (redged_any _ _).mono ?_
  rintro e w1299 ⟨rfl, hsw⟩
  have hsw2 : k1280 = w1299 := by first | exact hsw | exact hsw.symm
  clear hsw
  subst hsw2
  rw [show edOk 3 = true from by decide]
  by_cases c1300 : (kw : Int) = 0
  ·
   obtain ⟨c1300c, c1300d⟩ : (kw : Int) ≤ 0 ∧ (0 : Int) ≤ kw := by omega
   have c1300a : ((kw : Int) == (0)) = true := by simpa using c1300
   have c1300b : ((kw : Int) != (0)) = false := by simpa using c1300
   have c1300h := hid c1300
   clear c1300
   by_cases c1301 : (kh : Int) = 0
   ·
    obtain ⟨c1301c, c1301d⟩ : (kh : Int) ≤ 0 ∧ (0 : Int) ≤ kh := by omega
    have c1301a : ((kh : Int) == (0)) = true := by simpa using c1301
    have c1301b : ((kh : Int) != (0)) = false := by simpa using c1301
    have c1301h := hid c1301
    clear c1301
    by_cases c1302 : (0 : Int) < wn
    ·
     skip
     obtain ⟨z1303, z1304, z1305, z1306, z1307, z1308, z1309, z1310, z1311, z1312, z1313, z1314, z1315, z1316, z1317, z1318, z1319, z1320⟩ := cs18 H1279.out 0 rfl
     go_wp2_with fail
     clear z1303 z1304 z1305 z1306 z1307 z1308 z1309 z1310 z1311 z1312 z1313 z1314 z1315 z1316 z1317 z1318 z1319 z1320
     have he0 := HEB.out
     try simp only [decide_eq_true_eq, decide_eq_false_iff_not] at he0
     go_ret
     exact ⟨ret_b (by unfold sfOk; have := c1260h.out; have := c1300h.out; have := c1301h.out; exact (decide_eq_false (by omega)).symm), by first | exact H1279.out.below | exact H1279.out.below'⟩
    ·
     skip
     by_cases c1321 : (0 : Int) < rn
     ·
      skip
      obtain ⟨z1322, z1323, z1324, z1325, z1326, z1327, z1328, z1329, z1330, z1331, z1332, z1333, z1334, z1335, z1336, z1337, z1338, z1339⟩ := cs18 H1279.out 0 rfl
      go_wp2_with fail
      clear z1322 z1323 z1324 z1325 z1326 z1327 z1328 z1329 z1330 z1331 z1332 z1333 z1334 z1335 z1336 z1337 z1338 z1339
      have he0 := HEB.out
      try simp only [decide_eq_true_eq, decide_eq_false_iff_not] at he0
      go_ret
      exact ⟨ret_b (by unfold sfOk; have := c1260h.out; have := c1300h.out; have := c1301h.out; exact (decide_eq_false (by omega)).symm), by first | exact H1279.out.below | exact H1279.out.below'⟩
     ·
      skip
      by_cases c1340 : (0 : Int) < cn
      ·
       skip
       obtain ⟨z1341, z1342, z1343, z1344, z1345, z1346, z1347, z1348, z1349, z1350, z1351, z1352, z1353, z1354, z1355, z1356, z1357, z1358⟩ := cs18 H1279.out 0 rfl
       go_wp2_with fail
       clear z1341 z1342 z1343 z1344 z1345 z1346 z1347 z1348 z1349 z1350 z1351 z1352 z1353 z1354 z1355 z1356 z1357 z1358
       have he0 := HEB.out
       try simp only [decide_eq_true_eq, decide_eq_false_iff_not] at he0
       go_ret
       exact ⟨ret_b (by unfold sfOk; have := c1260h.out; have := c1300h.out; have := c1301h.out; exact (decide_eq_false (by omega)).symm), by first | exact H1279.out.below | exact H1279.out.below'⟩
      ·
       skip
       obtain ⟨z1359, z1360, z1361, z1362, z1363, z1364, z1365, z1366, z1367, z1368, z1369, z1370, z1371, z1372, z1373, z1374, z1375, z1376⟩ := cs18 H1279.out 0 rfl
       go_wp2_with fail
       clear z1359 z1360 z1361 z1362 z1363 z1364 z1365 z1366 z1367 z1368 z1369 z1370 z1371 z1372 z1373 z1374 z1375 z1376
       refine (redged_any _ _).mono ?_
       rintro e w1377 ⟨rfl, hsw⟩
       have hsw2 : k1280 = w1377 := by first | exact hsw | exact hsw.symm
       clear hsw
       subst hsw2
       rw [show edOk 3 = true from by decide]
       by_cases c1378 : (bins : Int) = 0
       ·
        obtain ⟨c1378c, c1378d⟩ : (bins : Int) ≤ 0 ∧ (0 : Int) ≤ bins := by omega
        have c1378a : ((bins : Int) == (0)) = true := by simpa using c1378
        have c1378b : ((bins : Int) != (0)) = false := by simpa using c1378
        have c1378h := hid c1378
        clear c1378
        by_cases c1379 : (0 : Int) < on
        ·
         skip
         obtain ⟨z1380, z1381, z1382, z1383, z1384, z1385, z1386, z1387, z1388, z1389, z1390, z1391, z1392, z1393, z1394, z1395, z1396, z1397⟩ := cs18 H1279.out 0 rfl
         go_wp2_with fail
         clear z1380 z1381 z1382 z1383 z1384 z1385 z1386 z1387 z1388 z1389 z1390 z1391 z1392 z1393 z1394 z1395 z1396 z1397
         have he0 := HEB.out
         try simp only [decide_eq_true_eq, decide_eq_false_iff_not] at he0
         go_ret
         exact ⟨ret_b (by unfold sfOk; have := c1260h.out; have := c1300h.out; have := c1301h.out; have := c1378h.out; exact (decide_eq_false (by omega)).symm), by first | exact H1279.out.below | exact H1279.out.below'⟩
        ·
         skip
         obtain ⟨z1398, z1399, z1400, z1401, z1402, z1403, z1404, z1405, z1406, z1407, z1408, z1409, z1410, z1411, z1412, z1413, z1414, z1415⟩ := cs18 H1279.out 0 rfl
         go_wp2_with fail
         clear z1398 z1399 z1400 z1401 z1402 z1403 z1404 z1405 z1406 z1407 z1408 z1409 z1410 z1411 z1412 z1413 z1414 z1415
         have he0 := HEB.out
         try simp only [decide_eq_true_eq, decide_eq_false_iff_not] at he0
         go_ret
         exact ⟨ret_b (by unfold sfOk; have := c1260h.out; have := c1300h.out; have := c1301h.out; have := c1378h.out; exact (decide_eq_true (by omega)).symm), by first | exact H1279.out.below | exact H1279.out.below'⟩
       ·
        have c1378a : ((bins : Int) == (0)) = false := by simpa using c1378
        have c1378b : ((bins : Int) != (0)) = true := by simpa using c1378
        have c1378h := hid c1378
        clear c1378
        obtain ⟨z1416, z1417, z1418, z1419, z1420, z1421, z1422, z1423, z1424, z1425, z1426, z1427, z1428, z1429, z1430, z1431, z1432, z1433⟩ := cs18 H1279.out 0 rfl
        go_wp2_with fail
        clear z1416 z1417 z1418 z1419 z1420 z1421 z1422 z1423 z1424 z1425 z1426 z1427 z1428 z1429 z1430 z1431 z1432 z1433
        have he0 := HEB.out
        try simp only [decide_eq_true_eq, decide_eq_false_iff_not] at he0
        go_ret
        exact ⟨ret_b (by unfold sfOk; have := c1260h.out; have := c1300h.out; have := c1301h.out; have := c1378h.out; exact (decide_eq_false (by omega)).symm), by first | exact H1279.out.below | exact H1279.out.below'⟩
   ·
    have c1301a : ((kh : Int) == (0)) = false := by simpa using c1301
    have c1301b : ((kh : Int) != (0)) = true := by simpa using c1301
    have c1301h := hid c1301
    clear c1301
    obtain ⟨z1434, z1435, z1436, z1437, z1438, z1439, z1440, z1441, z1442, z1443, z1444, z1445, z1446, z1447, z1448, z1449, z1450, z1451⟩ := cs18 H1279.out 0 rfl
    go_wp2_with fail
    clear z1434 z1435 z1436 z1437 z1438 z1439 z1440 z1441 z1442 z1443 z1444 z1445 z1446 z1447 z1448 z1449 z1450 z1451
    have he0 := HEB.out
    try simp only [decide_eq_true_eq, decide_eq_false_iff_not] at he0
    go_ret
    exact ⟨ret_b (by unfold sfOk; have := c1260h.out; have := c1300h.out; have := c1301h.out; exact (decide_eq_false (by omega)).symm), by first | exact H1279.out.below | exact H1279.out.below'⟩
  ·
   have c1300a : ((kw : Int) == (0)) = false := by simpa using c1300
   have c1300b : ((kw : Int) != (0)) = true := by simpa using c1300
   have c1300h := hid c1300
   clear c1300
   obtain ⟨z1452, z1453, z1454, z1455, z1456, z1457, z1458, z1459, z1460, z1461, z1462, z1463, z1464, z1465, z1466, z1467, z1468, z1469⟩ := cs18 H1279.out 0 rfl
   go_wp2_with fail
   clear z1452 z1453 z1454 z1455 z1456 z1457 z1458 z1459 z1460 z1461 z1462 z1463 z1464 z1465 z1466 z1467 z1468 z1469
   have he0 := HEB.out
   try simp only [decide_eq_true_eq, decide_eq_false_iff_not] at he0
   go_ret
   exact ⟨ret_b (by unfold sfOk; have := c1260h.out; have := c1300h.out; exact (decide_eq_false (by omega)).symm), by first | exact H1279.out.below | exact H1279.out.below'⟩
 ·
  have c1260a : ((sb : Int) == ((-1))) = false := by simpa using c1260
  have c1260b : ((sb : Int) != ((-1))) = true := by simpa using c1260
  have c1260h := hid c1260
  clear c1260
  obtain ⟨z1470, z1471, z1472, z1473, z1474, z1475, z1476, z1477, z1478, z1479, z1480, z1481, z1482, z1483, z1484, z1485, z1486, z1487⟩ := cs18 H1258.out 0 rfl
  go_wp2_with fail
  clear z1470 z1471 z1472 z1473 z1474 z1475 z1476 z1477 z1478 z1479 z1480 z1481 z1482 z1483 z1484 z1485 z1486 z1487
  have he0 := HEB.out
  try simp only [decide_eq_true_eq, decide_eq_false_iff_not] at he0
  go_ret
  exact ⟨ret_b (by unfold sfOk; have := c1260h.out; exact (decide_eq_false (by omega)).symm), by first | exact H1258.out.below | exact H1258.out.below'⟩

set_option maxRecDepth 100000 in
set_option maxHeartbeats 6400000 in
theorem rsfields_4 (sa sb : Int) (bar : Bool) (ep ef kw kh : Int) (wa : Option Addr) (wn wc : Nat) (ra : Option Addr) (rn rc : Nat) (ca : Option Addr) (cn cc : Nat) (sh sh2 : Int) (xa : Option Addr) (xn xc : Nat) (ya : Option Addr) (yn yc : Nat) (bins : Int) (oa : Option Addr) (on oc : Nat) (mx : Int) (W : World) : Calls Try.prog 56 #[.agg #[.int .i64 4, .int .i64 sa, .int .i64 sb, .bool bar, .int .i64 ep, .int .i64 ef, .int .i64 kw, .int .i64 kh, .slice wa wn wc, .slice ra rn rc, .slice ca cn cc, .int .i64 sh, .int .i64 sh2, .slice xa xn xc, .slice ya yn yc, .int .i64 bins, .slice oa on oc, .int .i64 mx]] W fun e w' => e = .returned (.bool (sfOk 4 sb ep ef kw kh wn rn cn sh sh2 xn yn bins on mx)) ∧ Below W.heap.size W w' := by
 obtain ⟨B, hB⟩ : ∃ B, W.heap.size = B := ⟨_, rfl⟩
 have HI0 := hid (St.init hB)
 obtain ⟨eb, heb⟩ : ∃ x, decide (ep = 0 ∧ ef = 0) = x := ⟨_, rfl⟩
 have HEB := hid heb
 go_enter Try.func56, Try.ntmps56
 go_upto_region 1 with fail
 have H1488 := hid (show St B W [.cells B #[.int .i64 4, .int .i64 sa, .int .i64 sb, .bool bar, .int .i64 ep, .int .i64 ef, .int .i64 kw, .int .i64 kh, .slice wa wn wc, .slice ra rn rc, .slice ca cn cc, .int .i64 sh, .int .i64 sh2, .slice xa xn xc, .slice ya yn yc, .int .i64 bins, .slice oa on oc, .int .i64 mx] 33] [] (W.alloc (.cells #[.int .i64 4, .int .i64 sa, .int .i64 sb, .bool bar, .int .i64 ep, .int .i64 ef, .int .i64 kw, .int .i64 kh, .slice wa wn wc, .slice ra rn rc, .slice ca cn cc, .int .i64 sh, .int .i64 sh2, .slice xa xn xc, .slice ya yn yc, .int .i64 bins, .slice oa on oc, .int .i64 mx] 33)) from (HI0.out.alloc #[.int .i64 4, .int .i64 sa, .int .i64 sb, .bool bar, .int .i64 ep, .int .i64 ef, .int .i64 kw, .int .i64 kh, .slice wa wn wc, .slice ra rn rc, .slice ca cn cc, .int .i64 sh, .int .i64 sh2, .slice xa xn xc, .slice ya yn yc, .int .i64 bins, .slice oa on oc, .int .i64 mx] 33 hB))
 first | refine gen_code H1488.out ?_ | refine gen_list H1488.out ?_ | refine gen_calls H1488.out ?_
 intro w1489 hG
 clear H1488
 have H1488 := hid hG
 clear hG
 by_cases c1490 : (sb : Int) = (-1)
 ·
  obtain ⟨c1490c, c1490d⟩ : (sb : Int) ≤ (-1) ∧ ((-1) : Int) ≤ sb := by omega
  have c1490a : ((sb : Int) == ((-1))) = true := by simpa using c1490
  have c1490b : ((sb : Int) != ((-1))) = false := by simpa using c1490
  have c1490h := hid c1490
  clear c1490
  obtain ⟨z1491, z1492, z1493, z1494, z1495, z1496, z1497, z1498, z1499, z1500, z1501, z1502, z1503, z1504, z1505, z1506, z1507, z1508⟩ := cs18 H1488.out 0 rfl
  go_upto_region 3 with fail
  clear z1491 z1492 z1493 z1494 z1495 z1496 z1497 z1498 z1499 z1500 z1501 z1502 z1503 z1504 z1505 z1506 z1507 z1508
  have H1509 := hid H1488.out.drew
  refine wp_region_held_drew (S := (fun w' => w'.cell? ⟨B, 0, none⟩ = some (.int .i64 4) ∧ w'.cell? ⟨B, 1, none⟩ = some (.int .i64 sa) ∧ w'.cell? ⟨B, 2, none⟩ = some (.int .i64 sb) ∧ w'.cell? ⟨B, 3, none⟩ = some (.bool bar) ∧ w'.cell? ⟨B, 4, none⟩ = some (.int .i64 ep) ∧ w'.cell? ⟨B, 5, none⟩ = some (.int .i64 ef) ∧ w'.cell? ⟨B, 6, none⟩ = some (.int .i64 kw) ∧ w'.cell? ⟨B, 7, none⟩ = some (.int .i64 kh) ∧ w'.cell? ⟨B, 8, none⟩ = some (.slice wa wn wc) ∧ w'.cell? ⟨B, 9, none⟩ = some (.slice ra rn rc) ∧ w'.cell? ⟨B, 10, none⟩ = some (.slice ca cn cc) ∧ w'.cell? ⟨B, 11, none⟩ = some (.int .i64 sh) ∧ w'.cell? ⟨B, 12, none⟩ = some (.int .i64 sh2) ∧ w'.cell? ⟨B, 13, none⟩ = some (.slice xa xn xc) ∧ w'.cell? ⟨B, 14, none⟩ = some (.slice ya yn yc) ∧ w'.cell? ⟨B, 15, none⟩ = some (.int .i64 bins) ∧ w'.cell? ⟨B, 16, none⟩ = some (.slice oa on oc) ∧ w'.cell? ⟨B, 17, none⟩ = some (.int .i64 mx))) (by kernel_rfl) ⟨H1509.out.cell 0 rfl 0 rfl, H1509.out.cell 0 rfl 1 rfl, H1509.out.cell 0 rfl 2 rfl, H1509.out.cell 0 rfl 3 rfl, H1509.out.cell 0 rfl 4 rfl, H1509.out.cell 0 rfl 5 rfl, H1509.out.cell 0 rfl 6 rfl, H1509.out.cell 0 rfl 7 rfl, H1509.out.cell 0 rfl 8 rfl, H1509.out.cell 0 rfl 9 rfl, H1509.out.cell 0 rfl 10 rfl, H1509.out.cell 0 rfl 11 rfl, H1509.out.cell 0 rfl 12 rfl, H1509.out.cell 0 rfl 13 rfl, H1509.out.cell 0 rfl 14 rfl, H1509.out.cell 0 rfl 15 rfl, H1509.out.cell 0 rfl 16 rfl, H1509.out.cell 0 rfl 17 rfl⟩ (fun hHeld => ?_)
  generalize w1489.drew = k1510 at *
  refine tkA 0 ?_
  try simp only [Act.put, p1, p2, p3, p4, p5, p6]
  refine tkA 1 ?_
  try simp only [Act.put, p1, p2, p3, p4, p5, p6]
  refine tkA 2 ?_
  try simp only [Act.put, p1, p2, p3, p4, p5, p6]
  refine tkA 3 ?_
  try simp only [Act.put, p1, p2, p3, p4, p5, p6]
  refine tkA 4 ?_
  try simp only [Act.put, p1, p2, p3, p4, p5, p6]
  refine tkA 5 ?_
  try simp only [Act.put, p1, p2, p3, p4, p5, p6]
  refine tkA 6 ?_
  try simp only [Act.put, p1, p2, p3, p4, p5, p6]
  refine tkA 7 ?_
  try simp only [Act.put, p1, p2, p3, p4, p5, p6]
  refine tkA 8 ?_
  try simp only [Act.put, p1, p2, p3, p4, p5, p6]
  refine tkA 9 ?_
  try simp only [Act.put, p1, p2, p3, p4, p5, p6]
  refine tkA 10 ?_
  try simp only [Act.put, p1, p2, p3, p4, p5, p6]
  refine tkA 11 ?_
  try simp only [Act.put, p1, p2, p3, p4, p5, p6]
  refine wpAnyH_done (by kernel_rfl) ?_ _
  try clear hHeld
  obtain ⟨z1511, z1512, z1513, z1514, z1515, z1516, z1517, z1518, z1519, z1520, z1521, z1522, z1523, z1524, z1525, z1526, z1527, z1528⟩ := cs18 H1509.out 0 rfl
  go_wp2_with fail
  clear z1511 z1512 z1513 z1514 z1515 z1516 z1517 z1518 z1519 z1520 z1521 z1522 z1523 z1524 z1525 z1526 z1527 z1528
  refine (redged_any _ _).mono ?_
  rintro e w1529 ⟨rfl, hsw⟩
  have hsw2 : k1510 = w1529 := by first | exact hsw | exact hsw.symm
  clear hsw
  subst hsw2
  rw [show edOk 4 = false from by decide]
  cases eb with
  | true =>
   by_cases c1530 : (kw : Int) = 0
   ·
    obtain ⟨c1530c, c1530d⟩ : (kw : Int) ≤ 0 ∧ (0 : Int) ≤ kw := by omega
    have c1530a : ((kw : Int) == (0)) = true := by simpa using c1530
    have c1530b : ((kw : Int) != (0)) = false := by simpa using c1530
    have c1530h := hid c1530
    clear c1530
    by_cases c1531 : (kh : Int) = 0
    ·
     obtain ⟨c1531c, c1531d⟩ : (kh : Int) ≤ 0 ∧ (0 : Int) ≤ kh := by omega
     have c1531a : ((kh : Int) == (0)) = true := by simpa using c1531
     have c1531b : ((kh : Int) != (0)) = false := by simpa using c1531
     have c1531h := hid c1531
     clear c1531
     by_cases c1532 : (0 : Int) < wn
     ·
      skip
      obtain ⟨z1533, z1534, z1535, z1536, z1537, z1538, z1539, z1540, z1541, z1542, z1543, z1544, z1545, z1546, z1547, z1548, z1549, z1550⟩ := cs18 H1509.out 0 rfl
      go_wp2_with fail
      clear z1533 z1534 z1535 z1536 z1537 z1538 z1539 z1540 z1541 z1542 z1543 z1544 z1545 z1546 z1547 z1548 z1549 z1550
      have he0 := HEB.out
      try simp only [decide_eq_true_eq, decide_eq_false_iff_not] at he0
      go_ret
      exact ⟨ret_b (by unfold sfOk; have := c1490h.out; have := c1530h.out; have := c1531h.out; exact (decide_eq_false (by omega)).symm), by first | exact H1509.out.below | exact H1509.out.below'⟩
     ·
      skip
      by_cases c1551 : (0 : Int) < rn
      ·
       skip
       obtain ⟨z1552, z1553, z1554, z1555, z1556, z1557, z1558, z1559, z1560, z1561, z1562, z1563, z1564, z1565, z1566, z1567, z1568, z1569⟩ := cs18 H1509.out 0 rfl
       go_wp2_with fail
       clear z1552 z1553 z1554 z1555 z1556 z1557 z1558 z1559 z1560 z1561 z1562 z1563 z1564 z1565 z1566 z1567 z1568 z1569
       have he0 := HEB.out
       try simp only [decide_eq_true_eq, decide_eq_false_iff_not] at he0
       go_ret
       exact ⟨ret_b (by unfold sfOk; have := c1490h.out; have := c1530h.out; have := c1531h.out; exact (decide_eq_false (by omega)).symm), by first | exact H1509.out.below | exact H1509.out.below'⟩
      ·
       skip
       by_cases c1570 : (0 : Int) < cn
       ·
        skip
        obtain ⟨z1571, z1572, z1573, z1574, z1575, z1576, z1577, z1578, z1579, z1580, z1581, z1582, z1583, z1584, z1585, z1586, z1587, z1588⟩ := cs18 H1509.out 0 rfl
        go_wp2_with fail
        clear z1571 z1572 z1573 z1574 z1575 z1576 z1577 z1578 z1579 z1580 z1581 z1582 z1583 z1584 z1585 z1586 z1587 z1588
        have he0 := HEB.out
        try simp only [decide_eq_true_eq, decide_eq_false_iff_not] at he0
        go_ret
        exact ⟨ret_b (by unfold sfOk; have := c1490h.out; have := c1530h.out; have := c1531h.out; exact (decide_eq_false (by omega)).symm), by first | exact H1509.out.below | exact H1509.out.below'⟩
       ·
        skip
        by_cases c1589 : (0 : Int) < xn
        ·
         skip
         obtain ⟨z1590, z1591, z1592, z1593, z1594, z1595, z1596, z1597, z1598, z1599, z1600, z1601, z1602, z1603, z1604, z1605, z1606, z1607⟩ := cs18 H1509.out 0 rfl
         go_wp2_with fail
         clear z1590 z1591 z1592 z1593 z1594 z1595 z1596 z1597 z1598 z1599 z1600 z1601 z1602 z1603 z1604 z1605 z1606 z1607
         have he0 := HEB.out
         try simp only [decide_eq_true_eq, decide_eq_false_iff_not] at he0
         go_ret
         exact ⟨ret_b (by unfold sfOk; have := c1490h.out; have := c1530h.out; have := c1531h.out; exact (decide_eq_false (by omega)).symm), by first | exact H1509.out.below | exact H1509.out.below'⟩
        ·
         skip
         by_cases c1608 : (0 : Int) < yn
         ·
          skip
          obtain ⟨z1609, z1610, z1611, z1612, z1613, z1614, z1615, z1616, z1617, z1618, z1619, z1620, z1621, z1622, z1623, z1624, z1625, z1626⟩ := cs18 H1509.out 0 rfl
          go_wp2_with fail
          clear z1609 z1610 z1611 z1612 z1613 z1614 z1615 z1616 z1617 z1618 z1619 z1620 z1621 z1622 z1623 z1624 z1625 z1626
          have he0 := HEB.out
          try simp only [decide_eq_true_eq, decide_eq_false_iff_not] at he0
          go_ret
          exact ⟨ret_b (by unfold sfOk; have := c1490h.out; have := c1530h.out; have := c1531h.out; exact (decide_eq_false (by omega)).symm), by first | exact H1509.out.below | exact H1509.out.below'⟩
         ·
          skip
          obtain ⟨z1627, z1628, z1629, z1630, z1631, z1632, z1633, z1634, z1635, z1636, z1637, z1638, z1639, z1640, z1641, z1642, z1643, z1644⟩ := cs18 H1509.out 0 rfl
          go_wp2_with fail
          clear z1627 z1628 z1629 z1630 z1631 z1632 z1633 z1634 z1635 z1636 z1637 z1638 z1639 z1640 z1641 z1642 z1643 z1644
          refine (redged_any _ _).mono ?_
          rintro e w1645 ⟨rfl, hsw⟩
          have hsw2 : k1510 = w1645 := by first | exact hsw | exact hsw.symm
          clear hsw
          subst hsw2
          rw [show edOk 4 = false from by decide]
          by_cases c1646 : (sh : Int) = 0
          ·
           obtain ⟨c1646c, c1646d⟩ : (sh : Int) ≤ 0 ∧ (0 : Int) ≤ sh := by omega
           have c1646a : ((sh : Int) == (0)) = true := by simpa using c1646
           have c1646b : ((sh : Int) != (0)) = false := by simpa using c1646
           have c1646h := hid c1646
           clear c1646
           by_cases c1647 : (sh2 : Int) = 0
           ·
            obtain ⟨c1647c, c1647d⟩ : (sh2 : Int) ≤ 0 ∧ (0 : Int) ≤ sh2 := by omega
            have c1647a : ((sh2 : Int) == (0)) = true := by simpa using c1647
            have c1647b : ((sh2 : Int) != (0)) = false := by simpa using c1647
            have c1647h := hid c1647
            clear c1647
            by_cases c1648 : (0 : Int) < on
            ·
             skip
             obtain ⟨z1649, z1650, z1651, z1652, z1653, z1654, z1655, z1656, z1657, z1658, z1659, z1660, z1661, z1662, z1663, z1664, z1665, z1666⟩ := cs18 H1509.out 0 rfl
             go_wp2_with fail
             clear z1649 z1650 z1651 z1652 z1653 z1654 z1655 z1656 z1657 z1658 z1659 z1660 z1661 z1662 z1663 z1664 z1665 z1666
             have he0 := HEB.out
             try simp only [decide_eq_true_eq, decide_eq_false_iff_not] at he0
             go_ret
             exact ⟨ret_b (by unfold sfOk; have := c1490h.out; have := c1530h.out; have := c1531h.out; have := c1646h.out; have := c1647h.out; exact (decide_eq_false (by omega)).symm), by first | exact H1509.out.below | exact H1509.out.below'⟩
            ·
             skip
             by_cases c1667 : (mx : Int) = 0
             ·
              obtain ⟨c1667c, c1667d⟩ : (mx : Int) ≤ 0 ∧ (0 : Int) ≤ mx := by omega
              have c1667a : ((mx : Int) == (0)) = true := by simpa using c1667
              have c1667b : ((mx : Int) != (0)) = false := by simpa using c1667
              have c1667h := hid c1667
              clear c1667
              obtain ⟨z1668, z1669, z1670, z1671, z1672, z1673, z1674, z1675, z1676, z1677, z1678, z1679, z1680, z1681, z1682, z1683, z1684, z1685⟩ := cs18 H1509.out 0 rfl
              go_wp2_with fail
              clear z1668 z1669 z1670 z1671 z1672 z1673 z1674 z1675 z1676 z1677 z1678 z1679 z1680 z1681 z1682 z1683 z1684 z1685
              have he0 := HEB.out
              try simp only [decide_eq_true_eq, decide_eq_false_iff_not] at he0
              go_ret
              exact ⟨ret_b (by unfold sfOk; have := c1490h.out; have := c1530h.out; have := c1531h.out; have := c1646h.out; have := c1647h.out; have := c1667h.out; exact (decide_eq_true (by omega)).symm), by first | exact H1509.out.below | exact H1509.out.below'⟩
             ·
              have c1667a : ((mx : Int) == (0)) = false := by simpa using c1667
              have c1667b : ((mx : Int) != (0)) = true := by simpa using c1667
              have c1667h := hid c1667
              clear c1667
              obtain ⟨z1686, z1687, z1688, z1689, z1690, z1691, z1692, z1693, z1694, z1695, z1696, z1697, z1698, z1699, z1700, z1701, z1702, z1703⟩ := cs18 H1509.out 0 rfl
              go_wp2_with fail
              clear z1686 z1687 z1688 z1689 z1690 z1691 z1692 z1693 z1694 z1695 z1696 z1697 z1698 z1699 z1700 z1701 z1702 z1703
              have he0 := HEB.out
              try simp only [decide_eq_true_eq, decide_eq_false_iff_not] at he0
              go_ret
              exact ⟨ret_b (by unfold sfOk; have := c1490h.out; have := c1530h.out; have := c1531h.out; have := c1646h.out; have := c1647h.out; have := c1667h.out; exact (decide_eq_false (by omega)).symm), by first | exact H1509.out.below | exact H1509.out.below'⟩
           ·
            have c1647a : ((sh2 : Int) == (0)) = false := by simpa using c1647
            have c1647b : ((sh2 : Int) != (0)) = true := by simpa using c1647
            have c1647h := hid c1647
            clear c1647
            obtain ⟨z1704, z1705, z1706, z1707, z1708, z1709, z1710, z1711, z1712, z1713, z1714, z1715, z1716, z1717, z1718, z1719, z1720, z1721⟩ := cs18 H1509.out 0 rfl
            go_wp2_with fail
            clear z1704 z1705 z1706 z1707 z1708 z1709 z1710 z1711 z1712 z1713 z1714 z1715 z1716 z1717 z1718 z1719 z1720 z1721
            have he0 := HEB.out
            try simp only [decide_eq_true_eq, decide_eq_false_iff_not] at he0
            go_ret
            exact ⟨ret_b (by unfold sfOk; have := c1490h.out; have := c1530h.out; have := c1531h.out; have := c1646h.out; have := c1647h.out; exact (decide_eq_false (by omega)).symm), by first | exact H1509.out.below | exact H1509.out.below'⟩
          ·
           have c1646a : ((sh : Int) == (0)) = false := by simpa using c1646
           have c1646b : ((sh : Int) != (0)) = true := by simpa using c1646
           have c1646h := hid c1646
           clear c1646
           obtain ⟨z1722, z1723, z1724, z1725, z1726, z1727, z1728, z1729, z1730, z1731, z1732, z1733, z1734, z1735, z1736, z1737, z1738, z1739⟩ := cs18 H1509.out 0 rfl
           go_wp2_with fail
           clear z1722 z1723 z1724 z1725 z1726 z1727 z1728 z1729 z1730 z1731 z1732 z1733 z1734 z1735 z1736 z1737 z1738 z1739
           have he0 := HEB.out
           try simp only [decide_eq_true_eq, decide_eq_false_iff_not] at he0
           go_ret
           exact ⟨ret_b (by unfold sfOk; have := c1490h.out; have := c1530h.out; have := c1531h.out; have := c1646h.out; exact (decide_eq_false (by omega)).symm), by first | exact H1509.out.below | exact H1509.out.below'⟩
    ·
     have c1531a : ((kh : Int) == (0)) = false := by simpa using c1531
     have c1531b : ((kh : Int) != (0)) = true := by simpa using c1531
     have c1531h := hid c1531
     clear c1531
     obtain ⟨z1740, z1741, z1742, z1743, z1744, z1745, z1746, z1747, z1748, z1749, z1750, z1751, z1752, z1753, z1754, z1755, z1756, z1757⟩ := cs18 H1509.out 0 rfl
     go_wp2_with fail
     clear z1740 z1741 z1742 z1743 z1744 z1745 z1746 z1747 z1748 z1749 z1750 z1751 z1752 z1753 z1754 z1755 z1756 z1757
     have he0 := HEB.out
     try simp only [decide_eq_true_eq, decide_eq_false_iff_not] at he0
     go_ret
     exact ⟨ret_b (by unfold sfOk; have := c1490h.out; have := c1530h.out; have := c1531h.out; exact (decide_eq_false (by omega)).symm), by first | exact H1509.out.below | exact H1509.out.below'⟩
   ·
    have c1530a : ((kw : Int) == (0)) = false := by simpa using c1530
    have c1530b : ((kw : Int) != (0)) = true := by simpa using c1530
    have c1530h := hid c1530
    clear c1530
    obtain ⟨z1758, z1759, z1760, z1761, z1762, z1763, z1764, z1765, z1766, z1767, z1768, z1769, z1770, z1771, z1772, z1773, z1774, z1775⟩ := cs18 H1509.out 0 rfl
    go_wp2_with fail
    clear z1758 z1759 z1760 z1761 z1762 z1763 z1764 z1765 z1766 z1767 z1768 z1769 z1770 z1771 z1772 z1773 z1774 z1775
    have he0 := HEB.out
    try simp only [decide_eq_true_eq, decide_eq_false_iff_not] at he0
    go_ret
    exact ⟨ret_b (by unfold sfOk; have := c1490h.out; have := c1530h.out; exact (decide_eq_false (by omega)).symm), by first | exact H1509.out.below | exact H1509.out.below'⟩
  | false =>
   obtain ⟨z1776, z1777, z1778, z1779, z1780, z1781, z1782, z1783, z1784, z1785, z1786, z1787, z1788, z1789, z1790, z1791, z1792, z1793⟩ := cs18 H1509.out 0 rfl
   go_wp2_with fail
   clear z1776 z1777 z1778 z1779 z1780 z1781 z1782 z1783 z1784 z1785 z1786 z1787 z1788 z1789 z1790 z1791 z1792 z1793
   have he0 := HEB.out
   try simp only [decide_eq_true_eq, decide_eq_false_iff_not] at he0
   go_ret
   exact ⟨ret_b (by unfold sfOk; have := c1490h.out; exact (decide_eq_false (by omega)).symm), by first | exact H1509.out.below | exact H1509.out.below'⟩
 ·
  have c1490a : ((sb : Int) == ((-1))) = false := by simpa using c1490
  have c1490b : ((sb : Int) != ((-1))) = true := by simpa using c1490
  have c1490h := hid c1490
  clear c1490
  obtain ⟨z1794, z1795, z1796, z1797, z1798, z1799, z1800, z1801, z1802, z1803, z1804, z1805, z1806, z1807, z1808, z1809, z1810, z1811⟩ := cs18 H1488.out 0 rfl
  go_wp2_with fail
  clear z1794 z1795 z1796 z1797 z1798 z1799 z1800 z1801 z1802 z1803 z1804 z1805 z1806 z1807 z1808 z1809 z1810 z1811
  have he0 := HEB.out
  try simp only [decide_eq_true_eq, decide_eq_false_iff_not] at he0
  go_ret
  exact ⟨ret_b (by unfold sfOk; have := c1490h.out; exact (decide_eq_false (by omega)).symm), by first | exact H1488.out.below | exact H1488.out.below'⟩

set_option maxRecDepth 100000 in
set_option maxHeartbeats 6400000 in
theorem rsfields_5 (sa sb : Int) (bar : Bool) (ep ef kw kh : Int) (wa : Option Addr) (wn wc : Nat) (ra : Option Addr) (rn rc : Nat) (ca : Option Addr) (cn cc : Nat) (sh sh2 : Int) (xa : Option Addr) (xn xc : Nat) (ya : Option Addr) (yn yc : Nat) (bins : Int) (oa : Option Addr) (on oc : Nat) (mx : Int) (W : World) : Calls Try.prog 56 #[.agg #[.int .i64 5, .int .i64 sa, .int .i64 sb, .bool bar, .int .i64 ep, .int .i64 ef, .int .i64 kw, .int .i64 kh, .slice wa wn wc, .slice ra rn rc, .slice ca cn cc, .int .i64 sh, .int .i64 sh2, .slice xa xn xc, .slice ya yn yc, .int .i64 bins, .slice oa on oc, .int .i64 mx]] W fun e w' => e = .returned (.bool (sfOk 5 sb ep ef kw kh wn rn cn sh sh2 xn yn bins on mx)) ∧ Below W.heap.size W w' := by
 obtain ⟨B, hB⟩ : ∃ B, W.heap.size = B := ⟨_, rfl⟩
 have HI0 := hid (St.init hB)
 obtain ⟨eb, heb⟩ : ∃ x, decide (ep = 0 ∧ ef = 0) = x := ⟨_, rfl⟩
 have HEB := hid heb
 go_enter Try.func56, Try.ntmps56
 go_upto_region 1 with fail
 have H1812 := hid (show St B W [.cells B #[.int .i64 5, .int .i64 sa, .int .i64 sb, .bool bar, .int .i64 ep, .int .i64 ef, .int .i64 kw, .int .i64 kh, .slice wa wn wc, .slice ra rn rc, .slice ca cn cc, .int .i64 sh, .int .i64 sh2, .slice xa xn xc, .slice ya yn yc, .int .i64 bins, .slice oa on oc, .int .i64 mx] 33] [] (W.alloc (.cells #[.int .i64 5, .int .i64 sa, .int .i64 sb, .bool bar, .int .i64 ep, .int .i64 ef, .int .i64 kw, .int .i64 kh, .slice wa wn wc, .slice ra rn rc, .slice ca cn cc, .int .i64 sh, .int .i64 sh2, .slice xa xn xc, .slice ya yn yc, .int .i64 bins, .slice oa on oc, .int .i64 mx] 33)) from (HI0.out.alloc #[.int .i64 5, .int .i64 sa, .int .i64 sb, .bool bar, .int .i64 ep, .int .i64 ef, .int .i64 kw, .int .i64 kh, .slice wa wn wc, .slice ra rn rc, .slice ca cn cc, .int .i64 sh, .int .i64 sh2, .slice xa xn xc, .slice ya yn yc, .int .i64 bins, .slice oa on oc, .int .i64 mx] 33 hB))
 first | refine gen_code H1812.out ?_ | refine gen_list H1812.out ?_ | refine gen_calls H1812.out ?_
 intro w1813 hG
 clear H1812
 have H1812 := hid hG
 clear hG
 by_cases c1814 : (sb : Int) = (-1)
 ·
  obtain ⟨c1814c, c1814d⟩ : (sb : Int) ≤ (-1) ∧ ((-1) : Int) ≤ sb := by omega
  have c1814a : ((sb : Int) == ((-1))) = true := by simpa using c1814
  have c1814b : ((sb : Int) != ((-1))) = false := by simpa using c1814
  have c1814h := hid c1814
  clear c1814
  obtain ⟨z1815, z1816, z1817, z1818, z1819, z1820, z1821, z1822, z1823, z1824, z1825, z1826, z1827, z1828, z1829, z1830, z1831, z1832⟩ := cs18 H1812.out 0 rfl
  go_upto_region 3 with fail
  clear z1815 z1816 z1817 z1818 z1819 z1820 z1821 z1822 z1823 z1824 z1825 z1826 z1827 z1828 z1829 z1830 z1831 z1832
  have H1833 := hid H1812.out.drew
  refine wp_region_held_drew (S := (fun w' => w'.cell? ⟨B, 0, none⟩ = some (.int .i64 5) ∧ w'.cell? ⟨B, 1, none⟩ = some (.int .i64 sa) ∧ w'.cell? ⟨B, 2, none⟩ = some (.int .i64 sb) ∧ w'.cell? ⟨B, 3, none⟩ = some (.bool bar) ∧ w'.cell? ⟨B, 4, none⟩ = some (.int .i64 ep) ∧ w'.cell? ⟨B, 5, none⟩ = some (.int .i64 ef) ∧ w'.cell? ⟨B, 6, none⟩ = some (.int .i64 kw) ∧ w'.cell? ⟨B, 7, none⟩ = some (.int .i64 kh) ∧ w'.cell? ⟨B, 8, none⟩ = some (.slice wa wn wc) ∧ w'.cell? ⟨B, 9, none⟩ = some (.slice ra rn rc) ∧ w'.cell? ⟨B, 10, none⟩ = some (.slice ca cn cc) ∧ w'.cell? ⟨B, 11, none⟩ = some (.int .i64 sh) ∧ w'.cell? ⟨B, 12, none⟩ = some (.int .i64 sh2) ∧ w'.cell? ⟨B, 13, none⟩ = some (.slice xa xn xc) ∧ w'.cell? ⟨B, 14, none⟩ = some (.slice ya yn yc) ∧ w'.cell? ⟨B, 15, none⟩ = some (.int .i64 bins) ∧ w'.cell? ⟨B, 16, none⟩ = some (.slice oa on oc) ∧ w'.cell? ⟨B, 17, none⟩ = some (.int .i64 mx))) (by kernel_rfl) ⟨H1833.out.cell 0 rfl 0 rfl, H1833.out.cell 0 rfl 1 rfl, H1833.out.cell 0 rfl 2 rfl, H1833.out.cell 0 rfl 3 rfl, H1833.out.cell 0 rfl 4 rfl, H1833.out.cell 0 rfl 5 rfl, H1833.out.cell 0 rfl 6 rfl, H1833.out.cell 0 rfl 7 rfl, H1833.out.cell 0 rfl 8 rfl, H1833.out.cell 0 rfl 9 rfl, H1833.out.cell 0 rfl 10 rfl, H1833.out.cell 0 rfl 11 rfl, H1833.out.cell 0 rfl 12 rfl, H1833.out.cell 0 rfl 13 rfl, H1833.out.cell 0 rfl 14 rfl, H1833.out.cell 0 rfl 15 rfl, H1833.out.cell 0 rfl 16 rfl, H1833.out.cell 0 rfl 17 rfl⟩ (fun hHeld => ?_)
  generalize w1813.drew = k1834 at *
  refine tkA 0 ?_
  try simp only [Act.put, p1, p2, p3, p4, p5, p6]
  refine tkA 1 ?_
  try simp only [Act.put, p1, p2, p3, p4, p5, p6]
  refine tkA 2 ?_
  try simp only [Act.put, p1, p2, p3, p4, p5, p6]
  refine tkA 3 ?_
  try simp only [Act.put, p1, p2, p3, p4, p5, p6]
  refine tkA 4 ?_
  try simp only [Act.put, p1, p2, p3, p4, p5, p6]
  refine tkA 5 ?_
  try simp only [Act.put, p1, p2, p3, p4, p5, p6]
  refine tkA 6 ?_
  try simp only [Act.put, p1, p2, p3, p4, p5, p6]
  refine tkA 7 ?_
  try simp only [Act.put, p1, p2, p3, p4, p5, p6]
  refine tkA 8 ?_
  try simp only [Act.put, p1, p2, p3, p4, p5, p6]
  refine tkA 9 ?_
  try simp only [Act.put, p1, p2, p3, p4, p5, p6]
  refine tkA 10 ?_
  try simp only [Act.put, p1, p2, p3, p4, p5, p6]
  refine tkA 11 ?_
  try simp only [Act.put, p1, p2, p3, p4, p5, p6]
  refine wpAnyH_done (by kernel_rfl) ?_ _
  try clear hHeld
  obtain ⟨z1835, z1836, z1837, z1838, z1839, z1840, z1841, z1842, z1843, z1844, z1845, z1846, z1847, z1848, z1849, z1850, z1851, z1852⟩ := cs18 H1833.out 0 rfl
  go_wp2_with fail
  clear z1835 z1836 z1837 z1838 z1839 z1840 z1841 z1842 z1843 z1844 z1845 z1846 z1847 z1848 z1849 z1850 z1851 z1852
  refine (redged_any _ _).mono ?_
  rintro e w1853 ⟨rfl, hsw⟩
  have hsw2 : k1834 = w1853 := by first | exact hsw | exact hsw.symm
  clear hsw
  subst hsw2
  rw [show edOk 5 = false from by decide]
  cases eb with
  | true =>
   by_cases c1854 : (kw : Int) = 0
   ·
    obtain ⟨c1854c, c1854d⟩ : (kw : Int) ≤ 0 ∧ (0 : Int) ≤ kw := by omega
    have c1854a : ((kw : Int) == (0)) = true := by simpa using c1854
    have c1854b : ((kw : Int) != (0)) = false := by simpa using c1854
    have c1854h := hid c1854
    clear c1854
    by_cases c1855 : (kh : Int) = 0
    ·
     obtain ⟨c1855c, c1855d⟩ : (kh : Int) ≤ 0 ∧ (0 : Int) ≤ kh := by omega
     have c1855a : ((kh : Int) == (0)) = true := by simpa using c1855
     have c1855b : ((kh : Int) != (0)) = false := by simpa using c1855
     have c1855h := hid c1855
     clear c1855
     by_cases c1856 : (0 : Int) < wn
     ·
      skip
      obtain ⟨z1857, z1858, z1859, z1860, z1861, z1862, z1863, z1864, z1865, z1866, z1867, z1868, z1869, z1870, z1871, z1872, z1873, z1874⟩ := cs18 H1833.out 0 rfl
      go_wp2_with fail
      clear z1857 z1858 z1859 z1860 z1861 z1862 z1863 z1864 z1865 z1866 z1867 z1868 z1869 z1870 z1871 z1872 z1873 z1874
      have he0 := HEB.out
      try simp only [decide_eq_true_eq, decide_eq_false_iff_not] at he0
      go_ret
      exact ⟨ret_b (by unfold sfOk; have := c1814h.out; have := c1854h.out; have := c1855h.out; exact (decide_eq_false (by omega)).symm), by first | exact H1833.out.below | exact H1833.out.below'⟩
     ·
      skip
      by_cases c1875 : (0 : Int) < rn
      ·
       skip
       obtain ⟨z1876, z1877, z1878, z1879, z1880, z1881, z1882, z1883, z1884, z1885, z1886, z1887, z1888, z1889, z1890, z1891, z1892, z1893⟩ := cs18 H1833.out 0 rfl
       go_wp2_with fail
       clear z1876 z1877 z1878 z1879 z1880 z1881 z1882 z1883 z1884 z1885 z1886 z1887 z1888 z1889 z1890 z1891 z1892 z1893
       have he0 := HEB.out
       try simp only [decide_eq_true_eq, decide_eq_false_iff_not] at he0
       go_ret
       exact ⟨ret_b (by unfold sfOk; have := c1814h.out; have := c1854h.out; have := c1855h.out; exact (decide_eq_false (by omega)).symm), by first | exact H1833.out.below | exact H1833.out.below'⟩
      ·
       skip
       by_cases c1894 : (0 : Int) < cn
       ·
        skip
        obtain ⟨z1895, z1896, z1897, z1898, z1899, z1900, z1901, z1902, z1903, z1904, z1905, z1906, z1907, z1908, z1909, z1910, z1911, z1912⟩ := cs18 H1833.out 0 rfl
        go_wp2_with fail
        clear z1895 z1896 z1897 z1898 z1899 z1900 z1901 z1902 z1903 z1904 z1905 z1906 z1907 z1908 z1909 z1910 z1911 z1912
        have he0 := HEB.out
        try simp only [decide_eq_true_eq, decide_eq_false_iff_not] at he0
        go_ret
        exact ⟨ret_b (by unfold sfOk; have := c1814h.out; have := c1854h.out; have := c1855h.out; exact (decide_eq_false (by omega)).symm), by first | exact H1833.out.below | exact H1833.out.below'⟩
       ·
        skip
        by_cases c1913 : (0 : Int) < xn
        ·
         skip
         obtain ⟨z1914, z1915, z1916, z1917, z1918, z1919, z1920, z1921, z1922, z1923, z1924, z1925, z1926, z1927, z1928, z1929, z1930, z1931⟩ := cs18 H1833.out 0 rfl
         go_wp2_with fail
         clear z1914 z1915 z1916 z1917 z1918 z1919 z1920 z1921 z1922 z1923 z1924 z1925 z1926 z1927 z1928 z1929 z1930 z1931
         have he0 := HEB.out
         try simp only [decide_eq_true_eq, decide_eq_false_iff_not] at he0
         go_ret
         exact ⟨ret_b (by unfold sfOk; have := c1814h.out; have := c1854h.out; have := c1855h.out; exact (decide_eq_false (by omega)).symm), by first | exact H1833.out.below | exact H1833.out.below'⟩
        ·
         skip
         by_cases c1932 : (0 : Int) < yn
         ·
          skip
          obtain ⟨z1933, z1934, z1935, z1936, z1937, z1938, z1939, z1940, z1941, z1942, z1943, z1944, z1945, z1946, z1947, z1948, z1949, z1950⟩ := cs18 H1833.out 0 rfl
          go_wp2_with fail
          clear z1933 z1934 z1935 z1936 z1937 z1938 z1939 z1940 z1941 z1942 z1943 z1944 z1945 z1946 z1947 z1948 z1949 z1950
          have he0 := HEB.out
          try simp only [decide_eq_true_eq, decide_eq_false_iff_not] at he0
          go_ret
          exact ⟨ret_b (by unfold sfOk; have := c1814h.out; have := c1854h.out; have := c1855h.out; exact (decide_eq_false (by omega)).symm), by first | exact H1833.out.below | exact H1833.out.below'⟩
         ·
          skip
          obtain ⟨z1951, z1952, z1953, z1954, z1955, z1956, z1957, z1958, z1959, z1960, z1961, z1962, z1963, z1964, z1965, z1966, z1967, z1968⟩ := cs18 H1833.out 0 rfl
          go_wp2_with fail
          clear z1951 z1952 z1953 z1954 z1955 z1956 z1957 z1958 z1959 z1960 z1961 z1962 z1963 z1964 z1965 z1966 z1967 z1968
          refine (redged_any _ _).mono ?_
          rintro e w1969 ⟨rfl, hsw⟩
          have hsw2 : k1834 = w1969 := by first | exact hsw | exact hsw.symm
          clear hsw
          subst hsw2
          rw [show edOk 5 = false from by decide]
          by_cases c1970 : (sh : Int) = 0
          ·
           obtain ⟨c1970c, c1970d⟩ : (sh : Int) ≤ 0 ∧ (0 : Int) ≤ sh := by omega
           have c1970a : ((sh : Int) == (0)) = true := by simpa using c1970
           have c1970b : ((sh : Int) != (0)) = false := by simpa using c1970
           have c1970h := hid c1970
           clear c1970
           by_cases c1971 : (sh2 : Int) = 0
           ·
            obtain ⟨c1971c, c1971d⟩ : (sh2 : Int) ≤ 0 ∧ (0 : Int) ≤ sh2 := by omega
            have c1971a : ((sh2 : Int) == (0)) = true := by simpa using c1971
            have c1971b : ((sh2 : Int) != (0)) = false := by simpa using c1971
            have c1971h := hid c1971
            clear c1971
            by_cases c1972 : (bins : Int) = 0
            ·
             obtain ⟨c1972c, c1972d⟩ : (bins : Int) ≤ 0 ∧ (0 : Int) ≤ bins := by omega
             have c1972a : ((bins : Int) == (0)) = true := by simpa using c1972
             have c1972b : ((bins : Int) != (0)) = false := by simpa using c1972
             have c1972h := hid c1972
             clear c1972
             by_cases c1973 : (0 : Int) < on
             ·
              skip
              obtain ⟨z1974, z1975, z1976, z1977, z1978, z1979, z1980, z1981, z1982, z1983, z1984, z1985, z1986, z1987, z1988, z1989, z1990, z1991⟩ := cs18 H1833.out 0 rfl
              go_wp2_with fail
              clear z1974 z1975 z1976 z1977 z1978 z1979 z1980 z1981 z1982 z1983 z1984 z1985 z1986 z1987 z1988 z1989 z1990 z1991
              have he0 := HEB.out
              try simp only [decide_eq_true_eq, decide_eq_false_iff_not] at he0
              go_ret
              exact ⟨ret_b (by unfold sfOk; have := c1814h.out; have := c1854h.out; have := c1855h.out; have := c1970h.out; have := c1971h.out; have := c1972h.out; exact (decide_eq_false (by omega)).symm), by first | exact H1833.out.below | exact H1833.out.below'⟩
             ·
              skip
              by_cases c1992 : (mx : Int) = 0
              ·
               obtain ⟨c1992c, c1992d⟩ : (mx : Int) ≤ 0 ∧ (0 : Int) ≤ mx := by omega
               have c1992a : ((mx : Int) == (0)) = true := by simpa using c1992
               have c1992b : ((mx : Int) != (0)) = false := by simpa using c1992
               have c1992h := hid c1992
               clear c1992
               obtain ⟨z1993, z1994, z1995, z1996, z1997, z1998, z1999, z2000, z2001, z2002, z2003, z2004, z2005, z2006, z2007, z2008, z2009, z2010⟩ := cs18 H1833.out 0 rfl
               go_wp2_with fail
               clear z1993 z1994 z1995 z1996 z1997 z1998 z1999 z2000 z2001 z2002 z2003 z2004 z2005 z2006 z2007 z2008 z2009 z2010
               have he0 := HEB.out
               try simp only [decide_eq_true_eq, decide_eq_false_iff_not] at he0
               go_ret
               exact ⟨ret_b (by unfold sfOk; have := c1814h.out; have := c1854h.out; have := c1855h.out; have := c1970h.out; have := c1971h.out; have := c1972h.out; have := c1992h.out; exact (decide_eq_true (by omega)).symm), by first | exact H1833.out.below | exact H1833.out.below'⟩
              ·
               have c1992a : ((mx : Int) == (0)) = false := by simpa using c1992
               have c1992b : ((mx : Int) != (0)) = true := by simpa using c1992
               have c1992h := hid c1992
               clear c1992
               obtain ⟨z2011, z2012, z2013, z2014, z2015, z2016, z2017, z2018, z2019, z2020, z2021, z2022, z2023, z2024, z2025, z2026, z2027, z2028⟩ := cs18 H1833.out 0 rfl
               go_wp2_with fail
               clear z2011 z2012 z2013 z2014 z2015 z2016 z2017 z2018 z2019 z2020 z2021 z2022 z2023 z2024 z2025 z2026 z2027 z2028
               have he0 := HEB.out
               try simp only [decide_eq_true_eq, decide_eq_false_iff_not] at he0
               go_ret
               exact ⟨ret_b (by unfold sfOk; have := c1814h.out; have := c1854h.out; have := c1855h.out; have := c1970h.out; have := c1971h.out; have := c1972h.out; have := c1992h.out; exact (decide_eq_false (by omega)).symm), by first | exact H1833.out.below | exact H1833.out.below'⟩
            ·
             have c1972a : ((bins : Int) == (0)) = false := by simpa using c1972
             have c1972b : ((bins : Int) != (0)) = true := by simpa using c1972
             have c1972h := hid c1972
             clear c1972
             obtain ⟨z2029, z2030, z2031, z2032, z2033, z2034, z2035, z2036, z2037, z2038, z2039, z2040, z2041, z2042, z2043, z2044, z2045, z2046⟩ := cs18 H1833.out 0 rfl
             go_wp2_with fail
             clear z2029 z2030 z2031 z2032 z2033 z2034 z2035 z2036 z2037 z2038 z2039 z2040 z2041 z2042 z2043 z2044 z2045 z2046
             have he0 := HEB.out
             try simp only [decide_eq_true_eq, decide_eq_false_iff_not] at he0
             go_ret
             exact ⟨ret_b (by unfold sfOk; have := c1814h.out; have := c1854h.out; have := c1855h.out; have := c1970h.out; have := c1971h.out; have := c1972h.out; exact (decide_eq_false (by omega)).symm), by first | exact H1833.out.below | exact H1833.out.below'⟩
           ·
            have c1971a : ((sh2 : Int) == (0)) = false := by simpa using c1971
            have c1971b : ((sh2 : Int) != (0)) = true := by simpa using c1971
            have c1971h := hid c1971
            clear c1971
            obtain ⟨z2047, z2048, z2049, z2050, z2051, z2052, z2053, z2054, z2055, z2056, z2057, z2058, z2059, z2060, z2061, z2062, z2063, z2064⟩ := cs18 H1833.out 0 rfl
            go_wp2_with fail
            clear z2047 z2048 z2049 z2050 z2051 z2052 z2053 z2054 z2055 z2056 z2057 z2058 z2059 z2060 z2061 z2062 z2063 z2064
            have he0 := HEB.out
            try simp only [decide_eq_true_eq, decide_eq_false_iff_not] at he0
            go_ret
            exact ⟨ret_b (by unfold sfOk; have := c1814h.out; have := c1854h.out; have := c1855h.out; have := c1970h.out; have := c1971h.out; exact (decide_eq_false (by omega)).symm), by first | exact H1833.out.below | exact H1833.out.below'⟩
          ·
           have c1970a : ((sh : Int) == (0)) = false := by simpa using c1970
           have c1970b : ((sh : Int) != (0)) = true := by simpa using c1970
           have c1970h := hid c1970
           clear c1970
           obtain ⟨z2065, z2066, z2067, z2068, z2069, z2070, z2071, z2072, z2073, z2074, z2075, z2076, z2077, z2078, z2079, z2080, z2081, z2082⟩ := cs18 H1833.out 0 rfl
           go_wp2_with fail
           clear z2065 z2066 z2067 z2068 z2069 z2070 z2071 z2072 z2073 z2074 z2075 z2076 z2077 z2078 z2079 z2080 z2081 z2082
           have he0 := HEB.out
           try simp only [decide_eq_true_eq, decide_eq_false_iff_not] at he0
           go_ret
           exact ⟨ret_b (by unfold sfOk; have := c1814h.out; have := c1854h.out; have := c1855h.out; have := c1970h.out; exact (decide_eq_false (by omega)).symm), by first | exact H1833.out.below | exact H1833.out.below'⟩
    ·
     have c1855a : ((kh : Int) == (0)) = false := by simpa using c1855
     have c1855b : ((kh : Int) != (0)) = true := by simpa using c1855
     have c1855h := hid c1855
     clear c1855
     obtain ⟨z2083, z2084, z2085, z2086, z2087, z2088, z2089, z2090, z2091, z2092, z2093, z2094, z2095, z2096, z2097, z2098, z2099, z2100⟩ := cs18 H1833.out 0 rfl
     go_wp2_with fail
     clear z2083 z2084 z2085 z2086 z2087 z2088 z2089 z2090 z2091 z2092 z2093 z2094 z2095 z2096 z2097 z2098 z2099 z2100
     have he0 := HEB.out
     try simp only [decide_eq_true_eq, decide_eq_false_iff_not] at he0
     go_ret
     exact ⟨ret_b (by unfold sfOk; have := c1814h.out; have := c1854h.out; have := c1855h.out; exact (decide_eq_false (by omega)).symm), by first | exact H1833.out.below | exact H1833.out.below'⟩
   ·
    have c1854a : ((kw : Int) == (0)) = false := by simpa using c1854
    have c1854b : ((kw : Int) != (0)) = true := by simpa using c1854
    have c1854h := hid c1854
    clear c1854
    obtain ⟨z2101, z2102, z2103, z2104, z2105, z2106, z2107, z2108, z2109, z2110, z2111, z2112, z2113, z2114, z2115, z2116, z2117, z2118⟩ := cs18 H1833.out 0 rfl
    go_wp2_with fail
    clear z2101 z2102 z2103 z2104 z2105 z2106 z2107 z2108 z2109 z2110 z2111 z2112 z2113 z2114 z2115 z2116 z2117 z2118
    have he0 := HEB.out
    try simp only [decide_eq_true_eq, decide_eq_false_iff_not] at he0
    go_ret
    exact ⟨ret_b (by unfold sfOk; have := c1814h.out; have := c1854h.out; exact (decide_eq_false (by omega)).symm), by first | exact H1833.out.below | exact H1833.out.below'⟩
  | false =>
   obtain ⟨z2119, z2120, z2121, z2122, z2123, z2124, z2125, z2126, z2127, z2128, z2129, z2130, z2131, z2132, z2133, z2134, z2135, z2136⟩ := cs18 H1833.out 0 rfl
   go_wp2_with fail
   clear z2119 z2120 z2121 z2122 z2123 z2124 z2125 z2126 z2127 z2128 z2129 z2130 z2131 z2132 z2133 z2134 z2135 z2136
   have he0 := HEB.out
   try simp only [decide_eq_true_eq, decide_eq_false_iff_not] at he0
   go_ret
   exact ⟨ret_b (by unfold sfOk; have := c1814h.out; exact (decide_eq_false (by omega)).symm), by first | exact H1833.out.below | exact H1833.out.below'⟩
 ·
  have c1814a : ((sb : Int) == ((-1))) = false := by simpa using c1814
  have c1814b : ((sb : Int) != ((-1))) = true := by simpa using c1814
  have c1814h := hid c1814
  clear c1814
  obtain ⟨z2137, z2138, z2139, z2140, z2141, z2142, z2143, z2144, z2145, z2146, z2147, z2148, z2149, z2150, z2151, z2152, z2153, z2154⟩ := cs18 H1812.out 0 rfl
  go_wp2_with fail
  clear z2137 z2138 z2139 z2140 z2141 z2142 z2143 z2144 z2145 z2146 z2147 z2148 z2149 z2150 z2151 z2152 z2153 z2154
  have he0 := HEB.out
  try simp only [decide_eq_true_eq, decide_eq_false_iff_not] at he0
  go_ret
  exact ⟨ret_b (by unfold sfOk; have := c1814h.out; exact (decide_eq_false (by omega)).symm), by first | exact H1812.out.below | exact H1812.out.below'⟩

set_option maxRecDepth 100000 in
set_option maxHeartbeats 6400000 in
theorem rsfields_6 (sa sb : Int) (bar : Bool) (ep ef kw kh : Int) (wa : Option Addr) (wn wc : Nat) (ra : Option Addr) (rn rc : Nat) (ca : Option Addr) (cn cc : Nat) (sh sh2 : Int) (xa : Option Addr) (xn xc : Nat) (ya : Option Addr) (yn yc : Nat) (bins : Int) (oa : Option Addr) (on oc : Nat) (mx : Int) (W : World) : Calls Try.prog 56 #[.agg #[.int .i64 6, .int .i64 sa, .int .i64 sb, .bool bar, .int .i64 ep, .int .i64 ef, .int .i64 kw, .int .i64 kh, .slice wa wn wc, .slice ra rn rc, .slice ca cn cc, .int .i64 sh, .int .i64 sh2, .slice xa xn xc, .slice ya yn yc, .int .i64 bins, .slice oa on oc, .int .i64 mx]] W fun e w' => e = .returned (.bool (sfOk 6 sb ep ef kw kh wn rn cn sh sh2 xn yn bins on mx)) ∧ Below W.heap.size W w' := by
 obtain ⟨B, hB⟩ : ∃ B, W.heap.size = B := ⟨_, rfl⟩
 have HI0 := hid (St.init hB)
 obtain ⟨eb, heb⟩ : ∃ x, decide (ep = 0 ∧ ef = 0) = x := ⟨_, rfl⟩
 have HEB := hid heb
 go_enter Try.func56, Try.ntmps56
 go_upto_region 1 with fail
 have H2155 := hid (show St B W [.cells B #[.int .i64 6, .int .i64 sa, .int .i64 sb, .bool bar, .int .i64 ep, .int .i64 ef, .int .i64 kw, .int .i64 kh, .slice wa wn wc, .slice ra rn rc, .slice ca cn cc, .int .i64 sh, .int .i64 sh2, .slice xa xn xc, .slice ya yn yc, .int .i64 bins, .slice oa on oc, .int .i64 mx] 33] [] (W.alloc (.cells #[.int .i64 6, .int .i64 sa, .int .i64 sb, .bool bar, .int .i64 ep, .int .i64 ef, .int .i64 kw, .int .i64 kh, .slice wa wn wc, .slice ra rn rc, .slice ca cn cc, .int .i64 sh, .int .i64 sh2, .slice xa xn xc, .slice ya yn yc, .int .i64 bins, .slice oa on oc, .int .i64 mx] 33)) from (HI0.out.alloc #[.int .i64 6, .int .i64 sa, .int .i64 sb, .bool bar, .int .i64 ep, .int .i64 ef, .int .i64 kw, .int .i64 kh, .slice wa wn wc, .slice ra rn rc, .slice ca cn cc, .int .i64 sh, .int .i64 sh2, .slice xa xn xc, .slice ya yn yc, .int .i64 bins, .slice oa on oc, .int .i64 mx] 33 hB))
 first | refine gen_code H2155.out ?_ | refine gen_list H2155.out ?_ | refine gen_calls H2155.out ?_
 intro w2156 hG
 clear H2155
 have H2155 := hid hG
 clear hG
 obtain ⟨z2157, z2158, z2159, z2160, z2161, z2162, z2163, z2164, z2165, z2166, z2167, z2168, z2169, z2170, z2171, z2172, z2173, z2174⟩ := cs18 H2155.out 0 rfl
 go_upto_region 3 with fail
 clear z2157 z2158 z2159 z2160 z2161 z2162 z2163 z2164 z2165 z2166 z2167 z2168 z2169 z2170 z2171 z2172 z2173 z2174
 have H2175 := hid H2155.out.drew
 refine wp_region_held_drew (S := (fun w' => w'.cell? ⟨B, 0, none⟩ = some (.int .i64 6) ∧ w'.cell? ⟨B, 1, none⟩ = some (.int .i64 sa) ∧ w'.cell? ⟨B, 2, none⟩ = some (.int .i64 sb) ∧ w'.cell? ⟨B, 3, none⟩ = some (.bool bar) ∧ w'.cell? ⟨B, 4, none⟩ = some (.int .i64 ep) ∧ w'.cell? ⟨B, 5, none⟩ = some (.int .i64 ef) ∧ w'.cell? ⟨B, 6, none⟩ = some (.int .i64 kw) ∧ w'.cell? ⟨B, 7, none⟩ = some (.int .i64 kh) ∧ w'.cell? ⟨B, 8, none⟩ = some (.slice wa wn wc) ∧ w'.cell? ⟨B, 9, none⟩ = some (.slice ra rn rc) ∧ w'.cell? ⟨B, 10, none⟩ = some (.slice ca cn cc) ∧ w'.cell? ⟨B, 11, none⟩ = some (.int .i64 sh) ∧ w'.cell? ⟨B, 12, none⟩ = some (.int .i64 sh2) ∧ w'.cell? ⟨B, 13, none⟩ = some (.slice xa xn xc) ∧ w'.cell? ⟨B, 14, none⟩ = some (.slice ya yn yc) ∧ w'.cell? ⟨B, 15, none⟩ = some (.int .i64 bins) ∧ w'.cell? ⟨B, 16, none⟩ = some (.slice oa on oc) ∧ w'.cell? ⟨B, 17, none⟩ = some (.int .i64 mx))) (by kernel_rfl) ⟨H2175.out.cell 0 rfl 0 rfl, H2175.out.cell 0 rfl 1 rfl, H2175.out.cell 0 rfl 2 rfl, H2175.out.cell 0 rfl 3 rfl, H2175.out.cell 0 rfl 4 rfl, H2175.out.cell 0 rfl 5 rfl, H2175.out.cell 0 rfl 6 rfl, H2175.out.cell 0 rfl 7 rfl, H2175.out.cell 0 rfl 8 rfl, H2175.out.cell 0 rfl 9 rfl, H2175.out.cell 0 rfl 10 rfl, H2175.out.cell 0 rfl 11 rfl, H2175.out.cell 0 rfl 12 rfl, H2175.out.cell 0 rfl 13 rfl, H2175.out.cell 0 rfl 14 rfl, H2175.out.cell 0 rfl 15 rfl, H2175.out.cell 0 rfl 16 rfl, H2175.out.cell 0 rfl 17 rfl⟩ (fun hHeld => ?_)
 generalize w2156.drew = k2176 at *
 refine tkA 0 ?_
 try simp only [Act.put, p1, p2, p3, p4, p5, p6]
 refine tkA 1 ?_
 try simp only [Act.put, p1, p2, p3, p4, p5, p6]
 refine tkA 2 ?_
 try simp only [Act.put, p1, p2, p3, p4, p5, p6]
 refine tkA 3 ?_
 try simp only [Act.put, p1, p2, p3, p4, p5, p6]
 refine tkA 4 ?_
 try simp only [Act.put, p1, p2, p3, p4, p5, p6]
 refine tkA 5 ?_
 try simp only [Act.put, p1, p2, p3, p4, p5, p6]
 refine tkA 6 ?_
 try simp only [Act.put, p1, p2, p3, p4, p5, p6]
 refine tkA 7 ?_
 try simp only [Act.put, p1, p2, p3, p4, p5, p6]
 refine tkA 8 ?_
 try simp only [Act.put, p1, p2, p3, p4, p5, p6]
 refine tkA 9 ?_
 try simp only [Act.put, p1, p2, p3, p4, p5, p6]
 refine tkA 10 ?_
 try simp only [Act.put, p1, p2, p3, p4, p5, p6]
 refine tkA 11 ?_
 try simp only [Act.put, p1, p2, p3, p4, p5, p6]
 refine wpAnyH_done (by kernel_rfl) ?_ _
 try clear hHeld
 obtain ⟨z2177, z2178, z2179, z2180, z2181, z2182, z2183, z2184, z2185, z2186, z2187, z2188, z2189, z2190, z2191, z2192, z2193, z2194⟩ := cs18 H2175.out 0 rfl
 go_wp2_with fail
 clear z2177 z2178 z2179 z2180 z2181 z2182 z2183 z2184 z2185 z2186 z2187 z2188 z2189 z2190 z2191 z2192 z2193 z2194
 refine (redged_any _ _).mono ?_
 rintro e w2195 ⟨rfl, hsw⟩
 have hsw2 : k2176 = w2195 := by first | exact hsw | exact hsw.symm
 clear hsw
 subst hsw2
 rw [show edOk 6 = false from by decide]
 cases eb with
 | true =>
  by_cases c2196 : (kw : Int) = 0
  ·
   obtain ⟨c2196c, c2196d⟩ : (kw : Int) ≤ 0 ∧ (0 : Int) ≤ kw := by omega
   have c2196a : ((kw : Int) == (0)) = true := by simpa using c2196
   have c2196b : ((kw : Int) != (0)) = false := by simpa using c2196
   have c2196h := hid c2196
   clear c2196
   by_cases c2197 : (kh : Int) = 0
   ·
    obtain ⟨c2197c, c2197d⟩ : (kh : Int) ≤ 0 ∧ (0 : Int) ≤ kh := by omega
    have c2197a : ((kh : Int) == (0)) = true := by simpa using c2197
    have c2197b : ((kh : Int) != (0)) = false := by simpa using c2197
    have c2197h := hid c2197
    clear c2197
    by_cases c2198 : (0 : Int) < wn
    ·
     skip
     obtain ⟨z2199, z2200, z2201, z2202, z2203, z2204, z2205, z2206, z2207, z2208, z2209, z2210, z2211, z2212, z2213, z2214, z2215, z2216⟩ := cs18 H2175.out 0 rfl
     go_wp2_with fail
     clear z2199 z2200 z2201 z2202 z2203 z2204 z2205 z2206 z2207 z2208 z2209 z2210 z2211 z2212 z2213 z2214 z2215 z2216
     have he0 := HEB.out
     try simp only [decide_eq_true_eq, decide_eq_false_iff_not] at he0
     go_ret
     exact ⟨ret_b (by unfold sfOk; have := c2196h.out; have := c2197h.out; exact (decide_eq_false (by omega)).symm), by first | exact H2175.out.below | exact H2175.out.below'⟩
    ·
     skip
     by_cases c2217 : (0 : Int) < rn
     ·
      skip
      obtain ⟨z2218, z2219, z2220, z2221, z2222, z2223, z2224, z2225, z2226, z2227, z2228, z2229, z2230, z2231, z2232, z2233, z2234, z2235⟩ := cs18 H2175.out 0 rfl
      go_wp2_with fail
      clear z2218 z2219 z2220 z2221 z2222 z2223 z2224 z2225 z2226 z2227 z2228 z2229 z2230 z2231 z2232 z2233 z2234 z2235
      have he0 := HEB.out
      try simp only [decide_eq_true_eq, decide_eq_false_iff_not] at he0
      go_ret
      exact ⟨ret_b (by unfold sfOk; have := c2196h.out; have := c2197h.out; exact (decide_eq_false (by omega)).symm), by first | exact H2175.out.below | exact H2175.out.below'⟩
     ·
      skip
      by_cases c2236 : (0 : Int) < cn
      ·
       skip
       obtain ⟨z2237, z2238, z2239, z2240, z2241, z2242, z2243, z2244, z2245, z2246, z2247, z2248, z2249, z2250, z2251, z2252, z2253, z2254⟩ := cs18 H2175.out 0 rfl
       go_wp2_with fail
       clear z2237 z2238 z2239 z2240 z2241 z2242 z2243 z2244 z2245 z2246 z2247 z2248 z2249 z2250 z2251 z2252 z2253 z2254
       have he0 := HEB.out
       try simp only [decide_eq_true_eq, decide_eq_false_iff_not] at he0
       go_ret
       exact ⟨ret_b (by unfold sfOk; have := c2196h.out; have := c2197h.out; exact (decide_eq_false (by omega)).symm), by first | exact H2175.out.below | exact H2175.out.below'⟩
      ·
       skip
       by_cases c2255 : (0 : Int) < xn
       ·
        skip
        obtain ⟨z2256, z2257, z2258, z2259, z2260, z2261, z2262, z2263, z2264, z2265, z2266, z2267, z2268, z2269, z2270, z2271, z2272, z2273⟩ := cs18 H2175.out 0 rfl
        go_wp2_with fail
        clear z2256 z2257 z2258 z2259 z2260 z2261 z2262 z2263 z2264 z2265 z2266 z2267 z2268 z2269 z2270 z2271 z2272 z2273
        have he0 := HEB.out
        try simp only [decide_eq_true_eq, decide_eq_false_iff_not] at he0
        go_ret
        exact ⟨ret_b (by unfold sfOk; have := c2196h.out; have := c2197h.out; exact (decide_eq_false (by omega)).symm), by first | exact H2175.out.below | exact H2175.out.below'⟩
       ·
        skip
        by_cases c2274 : (0 : Int) < yn
        ·
         skip
         obtain ⟨z2275, z2276, z2277, z2278, z2279, z2280, z2281, z2282, z2283, z2284, z2285, z2286, z2287, z2288, z2289, z2290, z2291, z2292⟩ := cs18 H2175.out 0 rfl
         go_wp2_with fail
         clear z2275 z2276 z2277 z2278 z2279 z2280 z2281 z2282 z2283 z2284 z2285 z2286 z2287 z2288 z2289 z2290 z2291 z2292
         have he0 := HEB.out
         try simp only [decide_eq_true_eq, decide_eq_false_iff_not] at he0
         go_ret
         exact ⟨ret_b (by unfold sfOk; have := c2196h.out; have := c2197h.out; exact (decide_eq_false (by omega)).symm), by first | exact H2175.out.below | exact H2175.out.below'⟩
        ·
         skip
         obtain ⟨z2293, z2294, z2295, z2296, z2297, z2298, z2299, z2300, z2301, z2302, z2303, z2304, z2305, z2306, z2307, z2308, z2309, z2310⟩ := cs18 H2175.out 0 rfl
         go_wp2_with fail
         clear z2293 z2294 z2295 z2296 z2297 z2298 z2299 z2300 z2301 z2302 z2303 z2304 z2305 z2306 z2307 z2308 z2309 z2310
         refine (redged_any _ _).mono ?_
         rintro e w2311 ⟨rfl, hsw⟩
         have hsw2 : k2176 = w2311 := by first | exact hsw | exact hsw.symm
         clear hsw
         subst hsw2
         rw [show edOk 6 = false from by decide]
         by_cases c2312 : (sh : Int) = 0
         ·
          obtain ⟨c2312c, c2312d⟩ : (sh : Int) ≤ 0 ∧ (0 : Int) ≤ sh := by omega
          have c2312a : ((sh : Int) == (0)) = true := by simpa using c2312
          have c2312b : ((sh : Int) != (0)) = false := by simpa using c2312
          have c2312h := hid c2312
          clear c2312
          by_cases c2313 : (sh2 : Int) = 0
          ·
           obtain ⟨c2313c, c2313d⟩ : (sh2 : Int) ≤ 0 ∧ (0 : Int) ≤ sh2 := by omega
           have c2313a : ((sh2 : Int) == (0)) = true := by simpa using c2313
           have c2313b : ((sh2 : Int) != (0)) = false := by simpa using c2313
           have c2313h := hid c2313
           clear c2313
           by_cases c2314 : (bins : Int) = 0
           ·
            obtain ⟨c2314c, c2314d⟩ : (bins : Int) ≤ 0 ∧ (0 : Int) ≤ bins := by omega
            have c2314a : ((bins : Int) == (0)) = true := by simpa using c2314
            have c2314b : ((bins : Int) != (0)) = false := by simpa using c2314
            have c2314h := hid c2314
            clear c2314
            obtain ⟨z2315, z2316, z2317, z2318, z2319, z2320, z2321, z2322, z2323, z2324, z2325, z2326, z2327, z2328, z2329, z2330, z2331, z2332⟩ := cs18 H2175.out 0 rfl
            go_wp2_with fail
            clear z2315 z2316 z2317 z2318 z2319 z2320 z2321 z2322 z2323 z2324 z2325 z2326 z2327 z2328 z2329 z2330 z2331 z2332
            have he0 := HEB.out
            try simp only [decide_eq_true_eq, decide_eq_false_iff_not] at he0
            go_ret
            exact ⟨ret_b (by unfold sfOk; have := c2196h.out; have := c2197h.out; have := c2312h.out; have := c2313h.out; have := c2314h.out; exact (decide_eq_true (by omega)).symm), by first | exact H2175.out.below | exact H2175.out.below'⟩
           ·
            have c2314a : ((bins : Int) == (0)) = false := by simpa using c2314
            have c2314b : ((bins : Int) != (0)) = true := by simpa using c2314
            have c2314h := hid c2314
            clear c2314
            obtain ⟨z2333, z2334, z2335, z2336, z2337, z2338, z2339, z2340, z2341, z2342, z2343, z2344, z2345, z2346, z2347, z2348, z2349, z2350⟩ := cs18 H2175.out 0 rfl
            go_wp2_with fail
            clear z2333 z2334 z2335 z2336 z2337 z2338 z2339 z2340 z2341 z2342 z2343 z2344 z2345 z2346 z2347 z2348 z2349 z2350
            have he0 := HEB.out
            try simp only [decide_eq_true_eq, decide_eq_false_iff_not] at he0
            go_ret
            exact ⟨ret_b (by unfold sfOk; have := c2196h.out; have := c2197h.out; have := c2312h.out; have := c2313h.out; have := c2314h.out; exact (decide_eq_false (by omega)).symm), by first | exact H2175.out.below | exact H2175.out.below'⟩
          ·
           have c2313a : ((sh2 : Int) == (0)) = false := by simpa using c2313
           have c2313b : ((sh2 : Int) != (0)) = true := by simpa using c2313
           have c2313h := hid c2313
           clear c2313
           obtain ⟨z2351, z2352, z2353, z2354, z2355, z2356, z2357, z2358, z2359, z2360, z2361, z2362, z2363, z2364, z2365, z2366, z2367, z2368⟩ := cs18 H2175.out 0 rfl
           go_wp2_with fail
           clear z2351 z2352 z2353 z2354 z2355 z2356 z2357 z2358 z2359 z2360 z2361 z2362 z2363 z2364 z2365 z2366 z2367 z2368
           have he0 := HEB.out
           try simp only [decide_eq_true_eq, decide_eq_false_iff_not] at he0
           go_ret
           exact ⟨ret_b (by unfold sfOk; have := c2196h.out; have := c2197h.out; have := c2312h.out; have := c2313h.out; exact (decide_eq_false (by omega)).symm), by first | exact H2175.out.below | exact H2175.out.below'⟩
         ·
          have c2312a : ((sh : Int) == (0)) = false := by simpa using c2312
          have c2312b : ((sh : Int) != (0)) = true := by simpa using c2312
          have c2312h := hid c2312
          clear c2312
          obtain ⟨z2369, z2370, z2371, z2372, z2373, z2374, z2375, z2376, z2377, z2378, z2379, z2380, z2381, z2382, z2383, z2384, z2385, z2386⟩ := cs18 H2175.out 0 rfl
          go_wp2_with fail
          clear z2369 z2370 z2371 z2372 z2373 z2374 z2375 z2376 z2377 z2378 z2379 z2380 z2381 z2382 z2383 z2384 z2385 z2386
          have he0 := HEB.out
          try simp only [decide_eq_true_eq, decide_eq_false_iff_not] at he0
          go_ret
          exact ⟨ret_b (by unfold sfOk; have := c2196h.out; have := c2197h.out; have := c2312h.out; exact (decide_eq_false (by omega)).symm), by first | exact H2175.out.below | exact H2175.out.below'⟩
   ·
    have c2197a : ((kh : Int) == (0)) = false := by simpa using c2197
    have c2197b : ((kh : Int) != (0)) = true := by simpa using c2197
    have c2197h := hid c2197
    clear c2197
    obtain ⟨z2387, z2388, z2389, z2390, z2391, z2392, z2393, z2394, z2395, z2396, z2397, z2398, z2399, z2400, z2401, z2402, z2403, z2404⟩ := cs18 H2175.out 0 rfl
    go_wp2_with fail
    clear z2387 z2388 z2389 z2390 z2391 z2392 z2393 z2394 z2395 z2396 z2397 z2398 z2399 z2400 z2401 z2402 z2403 z2404
    have he0 := HEB.out
    try simp only [decide_eq_true_eq, decide_eq_false_iff_not] at he0
    go_ret
    exact ⟨ret_b (by unfold sfOk; have := c2196h.out; have := c2197h.out; exact (decide_eq_false (by omega)).symm), by first | exact H2175.out.below | exact H2175.out.below'⟩
  ·
   have c2196a : ((kw : Int) == (0)) = false := by simpa using c2196
   have c2196b : ((kw : Int) != (0)) = true := by simpa using c2196
   have c2196h := hid c2196
   clear c2196
   obtain ⟨z2405, z2406, z2407, z2408, z2409, z2410, z2411, z2412, z2413, z2414, z2415, z2416, z2417, z2418, z2419, z2420, z2421, z2422⟩ := cs18 H2175.out 0 rfl
   go_wp2_with fail
   clear z2405 z2406 z2407 z2408 z2409 z2410 z2411 z2412 z2413 z2414 z2415 z2416 z2417 z2418 z2419 z2420 z2421 z2422
   have he0 := HEB.out
   try simp only [decide_eq_true_eq, decide_eq_false_iff_not] at he0
   go_ret
   exact ⟨ret_b (by unfold sfOk; have := c2196h.out; exact (decide_eq_false (by omega)).symm), by first | exact H2175.out.below | exact H2175.out.below'⟩
 | false =>
  obtain ⟨z2423, z2424, z2425, z2426, z2427, z2428, z2429, z2430, z2431, z2432, z2433, z2434, z2435, z2436, z2437, z2438, z2439, z2440⟩ := cs18 H2175.out 0 rfl
  go_wp2_with fail
  clear z2423 z2424 z2425 z2426 z2427 z2428 z2429 z2430 z2431 z2432 z2433 z2434 z2435 z2436 z2437 z2438 z2439 z2440
  have he0 := HEB.out
  try simp only [decide_eq_true_eq, decide_eq_false_iff_not] at he0
  go_ret
  exact ⟨ret_b (by unfold sfOk; exact (decide_eq_false (by omega)).symm), by first | exact H2175.out.below | exact H2175.out.below'⟩

set_option maxRecDepth 100000 in
set_option maxHeartbeats 6400000 in
theorem rsfields_any (kd sa sb : Int) (bar : Bool) (ep ef kw kh : Int) (wa : Option Addr) (wn wc : Nat) (ra : Option Addr) (rn rc : Nat) (ca : Option Addr) (cn cc : Nat) (sh sh2 : Int) (xa : Option Addr) (xn xc : Nat) (ya : Option Addr) (yn yc : Nat) (bins : Int) (oa : Option Addr) (on oc : Nat) (mx : Int) (W : World) : Calls Try.prog 56 #[.agg #[.int .i64 kd, .int .i64 sa, .int .i64 sb, .bool bar, .int .i64 ep, .int .i64 ef, .int .i64 kw, .int .i64 kh, .slice wa wn wc, .slice ra rn rc, .slice ca cn cc, .int .i64 sh, .int .i64 sh2, .slice xa xn xc, .slice ya yn yc, .int .i64 bins, .slice oa on oc, .int .i64 mx]] W fun e w' => e = .returned (.bool (sfOk kd sb ep ef kw kh wn rn cn sh sh2 xn yn bins on mx)) ∧ Below W.heap.size W w' := by
 by_cases hk : 1 ≤ kd ∧ kd ≤ 6
 ·
  rcases (show kd = 1 ∨ kd = 2 ∨ kd = 3 ∨ kd = 4 ∨ kd = 5 ∨ kd = 6 by omega) with rfl | rfl | rfl | rfl | rfl | rfl
  ·
   exact rsfields_1 _ _ _ _ _ _ _ _ _ _ _ _ _ _ _ _ _ _ _ _ _ _ _ _ _ _ _ _ _ _
  ·
   exact rsfields_2 _ _ _ _ _ _ _ _ _ _ _ _ _ _ _ _ _ _ _ _ _ _ _ _ _ _ _ _ _ _
  ·
   exact rsfields_3 _ _ _ _ _ _ _ _ _ _ _ _ _ _ _ _ _ _ _ _ _ _ _ _ _ _ _ _ _ _
  ·
   exact rsfields_4 _ _ _ _ _ _ _ _ _ _ _ _ _ _ _ _ _ _ _ _ _ _ _ _ _ _ _ _ _ _
  ·
   exact rsfields_5 _ _ _ _ _ _ _ _ _ _ _ _ _ _ _ _ _ _ _ _ _ _ _ _ _ _ _ _ _ _
  ·
   exact rsfields_6 _ _ _ _ _ _ _ _ _ _ _ _ _ _ _ _ _ _ _ _ _ _ _ _ _ _ _ _ _ _
 obtain ⟨B, hB⟩ : ∃ B, W.heap.size = B := ⟨_, rfl⟩
 have HI0 := hid (St.init hB)
 go_enter Try.func56, Try.ntmps56
 go_upto_region 1 with fail
 have H2441 := hid (show St B W [.cells B #[.int .i64 kd, .int .i64 sa, .int .i64 sb, .bool bar, .int .i64 ep, .int .i64 ef, .int .i64 kw, .int .i64 kh, .slice wa wn wc, .slice ra rn rc, .slice ca cn cc, .int .i64 sh, .int .i64 sh2, .slice xa xn xc, .slice ya yn yc, .int .i64 bins, .slice oa on oc, .int .i64 mx] 33] [] (W.alloc (.cells #[.int .i64 kd, .int .i64 sa, .int .i64 sb, .bool bar, .int .i64 ep, .int .i64 ef, .int .i64 kw, .int .i64 kh, .slice wa wn wc, .slice ra rn rc, .slice ca cn cc, .int .i64 sh, .int .i64 sh2, .slice xa xn xc, .slice ya yn yc, .int .i64 bins, .slice oa on oc, .int .i64 mx] 33)) from (HI0.out.alloc #[.int .i64 kd, .int .i64 sa, .int .i64 sb, .bool bar, .int .i64 ep, .int .i64 ef, .int .i64 kw, .int .i64 kh, .slice wa wn wc, .slice ra rn rc, .slice ca cn cc, .int .i64 sh, .int .i64 sh2, .slice xa xn xc, .slice ya yn yc, .int .i64 bins, .slice oa on oc, .int .i64 mx] 33 hB))
 first | refine gen_code H2441.out ?_ | refine gen_list H2441.out ?_ | refine gen_calls H2441.out ?_
 intro w2442 hG
 clear H2441
 have H2441 := hid hG
 clear hG
 by_cases c2443 : (kd : Int) < 1
 ·
  skip
  obtain ⟨z2444, z2445, z2446, z2447, z2448, z2449, z2450, z2451, z2452, z2453, z2454, z2455, z2456, z2457, z2458, z2459, z2460, z2461⟩ := cs18 H2441.out 0 rfl
  go_wp2_with fail
  clear z2444 z2445 z2446 z2447 z2448 z2449 z2450 z2451 z2452 z2453 z2454 z2455 z2456 z2457 z2458 z2459 z2460 z2461
  go_ret
  exact ⟨ret_b (by unfold sfOk; exact (decide_eq_false (by omega)).symm), by first | exact H2441.out.below | exact H2441.out.below'⟩
 ·
  skip
  by_cases c2462 : (6 : Int) < kd
  ·
   skip
   obtain ⟨z2463, z2464, z2465, z2466, z2467, z2468, z2469, z2470, z2471, z2472, z2473, z2474, z2475, z2476, z2477, z2478, z2479, z2480⟩ := cs18 H2441.out 0 rfl
   go_wp2_with fail
   clear z2463 z2464 z2465 z2466 z2467 z2468 z2469 z2470 z2471 z2472 z2473 z2474 z2475 z2476 z2477 z2478 z2479 z2480
   go_ret
   exact ⟨ret_b (by unfold sfOk; exact (decide_eq_false (by omega)).symm), by first | exact H2441.out.below | exact H2441.out.below'⟩
  ·
   skip
   exfalso; omega
end Go.Proofs.Ytlidacfokgdlgaa
