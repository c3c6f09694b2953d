/-
  Contract: which fields a stage may use, in the reference.
-/
import Derived.Test.YtlidacfokgdlgaaStF
import Derived.Test.YtlidacfokgdlgaaLs
namespace Go.Proofs.Ytlidacfokgdlgaa
open Go.RowKit
attribute [local go_sem ↓] Go.wp_at_zero Go.wp_at_succ edge_eq edge_ne
set_option linter.unusedVariables false
set_option linter.unusedSimpArgs false

set_option maxRecDepth 100000 in
set_option maxHeartbeats 6400000 in
theorem rsfields_1 (sa sb : Int) (bar : Bool) (ep ef kw kh : Int) (wa : Option Addr) (wn wc : Nat) (ra : Option Addr) (rn rc : Nat) (ca : Option Addr) (cn cc : Nat) (sh sh2 : Int) (xa : Option Addr) (xn xc : Nat) (ya : Option Addr) (yn yc : Nat) (bins : Int) (oa : Option Addr) (on oc : Nat) (mx : Int) (W : World) : Calls Try.prog 56 #[.agg #[.int .i64 1, .int .i64 sa, .int .i64 sb, .bool bar, .int .i64 ep, .int .i64 ef, .int .i64 kw, .int .i64 kh, .slice wa wn wc, .slice ra rn rc, .slice ca cn cc, .int .i64 sh, .int .i64 sh2, .slice xa xn xc, .slice ya yn yc, .int .i64 bins, .slice oa on oc, .int .i64 mx]] W fun e w' => e = .returned (.bool (sfOk 1 sb ep ef kw kh wn rn cn sh sh2 xn yn bins on mx)) ∧ Below W.heap.size W w' := by
  obtain ⟨B, hB⟩ : ∃ B, W.heap.size = B := ⟨_, rfl⟩
  have HI0 := hid (St.init hB)
  obtain ⟨eb, heb⟩ : ∃ x, decide (ep = 0 ∧ ef = 0) = x := ⟨_, rfl⟩
  have HEB := hid heb
  go_enter Try.func56, Try.ntmps56
  go_upto_region 1 with fail
  have H798 := hid (show St B W [.cells B #[.int .i64 1, .int .i64 sa, .int .i64 sb, .bool bar, .int .i64 ep, .int .i64 ef, .int .i64 kw, .int .i64 kh, .slice wa wn wc, .slice ra rn rc, .slice ca cn cc, .int .i64 sh, .int .i64 sh2, .slice xa xn xc, .slice ya yn yc, .int .i64 bins, .slice oa on oc, .int .i64 mx] 33] [] (W.alloc (.cells #[.int .i64 1, .int .i64 sa, .int .i64 sb, .bool bar, .int .i64 ep, .int .i64 ef, .int .i64 kw, .int .i64 kh, .slice wa wn wc, .slice ra rn rc, .slice ca cn cc, .int .i64 sh, .int .i64 sh2, .slice xa xn xc, .slice ya yn yc, .int .i64 bins, .slice oa on oc, .int .i64 mx] 33)) from (HI0.out.alloc #[.int .i64 1, .int .i64 sa, .int .i64 sb, .bool bar, .int .i64 ep, .int .i64 ef, .int .i64 kw, .int .i64 kh, .slice wa wn wc, .slice ra rn rc, .slice ca cn cc, .int .i64 sh, .int .i64 sh2, .slice xa xn xc, .slice ya yn yc, .int .i64 bins, .slice oa on oc, .int .i64 mx] 33 hB))
  first | refine gen_code H798.out ?_ | refine gen_list H798.out ?_ | refine gen_calls H798.out ?_
  intro w799 hG
  clear H798
  have H798 := hid hG
  clear hG
  by_cases c800 : (sb : Int) = (-1)
  · obtain ⟨c800c, c800d⟩ : (sb : Int) ≤ (-1) ∧ ((-1) : Int) ≤ sb := by omega
    have c800a : ((sb : Int) == ((-1))) = true := by simpa using c800
    have c800b : ((sb : Int) != ((-1))) = false := by simpa using c800
    have c800h := hid c800
    clear c800
    have z801 := H798.out.cell 0 rfl 0 rfl
    have z802 := H798.out.cell 0 rfl 1 rfl
    have z803 := H798.out.cell 0 rfl 2 rfl
    have z804 := H798.out.cell 0 rfl 3 rfl
    have z805 := H798.out.cell 0 rfl 4 rfl
    have z806 := H798.out.cell 0 rfl 5 rfl
    have z807 := H798.out.cell 0 rfl 6 rfl
    have z808 := H798.out.cell 0 rfl 7 rfl
    have z809 := H798.out.cell 0 rfl 8 rfl
    have z810 := H798.out.cell 0 rfl 9 rfl
    have z811 := H798.out.cell 0 rfl 10 rfl
    have z812 := H798.out.cell 0 rfl 11 rfl
    have z813 := H798.out.cell 0 rfl 12 rfl
    have z814 := H798.out.cell 0 rfl 13 rfl
    have z815 := H798.out.cell 0 rfl 14 rfl
    have z816 := H798.out.cell 0 rfl 15 rfl
    have z817 := H798.out.cell 0 rfl 16 rfl
    have z818 := H798.out.cell 0 rfl 17 rfl
    go_upto_region 3 with fail
    clear z801 z802 z803 z804 z805 z806 z807 z808 z809 z810 z811 z812 z813 z814 z815 z816 z817 z818
    have H819 := hid H798.out.drew
    refine wp_region_held_drew (S := (fun w' => w'.cell? ⟨B, 0, none⟩ = some (.int .i64 1) ∧ w'.cell? ⟨B, 1, none⟩ = some (.int .i64 sa) ∧ w'.cell? ⟨B, 2, none⟩ = some (.int .i64 sb) ∧ w'.cell? ⟨B, 3, none⟩ = some (.bool bar) ∧ w'.cell? ⟨B, 4, none⟩ = some (.int .i64 ep) ∧ w'.cell? ⟨B, 5, none⟩ = some (.int .i64 ef) ∧ w'.cell? ⟨B, 6, none⟩ = some (.int .i64 kw) ∧ w'.cell? ⟨B, 7, none⟩ = some (.int .i64 kh) ∧ w'.cell? ⟨B, 8, none⟩ = some (.slice wa wn wc) ∧ w'.cell? ⟨B, 9, none⟩ = some (.slice ra rn rc) ∧ w'.cell? ⟨B, 10, none⟩ = some (.slice ca cn cc) ∧ w'.cell? ⟨B, 11, none⟩ = some (.int .i64 sh) ∧ w'.cell? ⟨B, 12, none⟩ = some (.int .i64 sh2) ∧ w'.cell? ⟨B, 13, none⟩ = some (.slice xa xn xc) ∧ w'.cell? ⟨B, 14, none⟩ = some (.slice ya yn yc) ∧ w'.cell? ⟨B, 15, none⟩ = some (.int .i64 bins) ∧ w'.cell? ⟨B, 16, none⟩ = some (.slice oa on oc) ∧ w'.cell? ⟨B, 17, none⟩ = some (.int .i64 mx))) (by kernel_rfl) ⟨H819.out.cell 0 rfl 0 rfl, H819.out.cell 0 rfl 1 rfl, H819.out.cell 0 rfl 2 rfl, H819.out.cell 0 rfl 3 rfl, H819.out.cell 0 rfl 4 rfl, H819.out.cell 0 rfl 5 rfl, H819.out.cell 0 rfl 6 rfl, H819.out.cell 0 rfl 7 rfl, H819.out.cell 0 rfl 8 rfl, H819.out.cell 0 rfl 9 rfl, H819.out.cell 0 rfl 10 rfl, H819.out.cell 0 rfl 11 rfl, H819.out.cell 0 rfl 12 rfl, H819.out.cell 0 rfl 13 rfl, H819.out.cell 0 rfl 14 rfl, H819.out.cell 0 rfl 15 rfl, H819.out.cell 0 rfl 16 rfl, H819.out.cell 0 rfl 17 rfl⟩ (fun hHeld => ?_)
    generalize w799.drew = k820 at *
    refine tkA 0 ?_
    try simp only [Act.put, p1, p2, p3, p4, p5, p6]
    refine tkA 1 ?_
    try simp only [Act.put, p1, p2, p3, p4, p5, p6]
    refine tkA 2 ?_
    try simp only [Act.put, p1, p2, p3, p4, p5, p6]
    refine tkA 3 ?_
    try simp only [Act.put, p1, p2, p3, p4, p5, p6]
    refine tkA 4 ?_
    try simp only [Act.put, p1, p2, p3, p4, p5, p6]
    refine tkA 5 ?_
    try simp only [Act.put, p1, p2, p3, p4, p5, p6]
    refine tkA 6 ?_
    try simp only [Act.put, p1, p2, p3, p4, p5, p6]
    refine tkA 7 ?_
    try simp only [Act.put, p1, p2, p3, p4, p5, p6]
    refine tkA 8 ?_
    try simp only [Act.put, p1, p2, p3, p4, p5, p6]
    refine tkA 9 ?_
    try simp only [Act.put, p1, p2, p3, p4, p5, p6]
    refine tkA 10 ?_
    try simp only [Act.put, p1, p2, p3, p4, p5, p6]
    refine tkA 11 ?_
    try simp only [Act.put, p1, p2, p3, p4, p5, p6]
    refine wpAnyH_done (by kernel_rfl) ?_ _
    try clear hHeld
    have z821 := H819.out.cell 0 rfl 0 rfl
    have z822 := H819.out.cell 0 rfl 1 rfl
    have z823 := H819.out.cell 0 rfl 2 rfl
    have z824 := H819.out.cell 0 rfl 3 rfl
    have z825 := H819.out.cell 0 rfl 4 rfl
    have z826 := H819.out.cell 0 rfl 5 rfl
    have z827 := H819.out.cell 0 rfl 6 rfl
    have z828 := H819.out.cell 0 rfl 7 rfl
    have z829 := H819.out.cell 0 rfl 8 rfl
    have z830 := H819.out.cell 0 rfl 9 rfl
    have z831 := H819.out.cell 0 rfl 10 rfl
    have z832 := H819.out.cell 0 rfl 11 rfl
    have z833 := H819.out.cell 0 rfl 12 rfl
    have z834 := H819.out.cell 0 rfl 13 rfl
    have z835 := H819.out.cell 0 rfl 14 rfl
    have z836 := H819.out.cell 0 rfl 15 rfl
    have z837 := H819.out.cell 0 rfl 16 rfl
    have z838 := H819.out.cell 0 rfl 17 rfl
    go_wp2_with fail
    clear z821 z822 z823 z824 z825 z826 z827 z828 z829 z830 z831 z832 z833 z834 z835 z836 z837 z838
    refine (redged_any _ _).mono ?_
    rintro e w839 ⟨rfl, hsw⟩
    have hsw2 : k820 = w839 := by first | exact hsw | exact hsw.symm
    clear hsw
    subst hsw2
    rw [show edOk 1 = true from by decide]
    by_cases c840 : (0 : Int) < rn
    · skip
      have z841 := H819.out.cell 0 rfl 0 rfl
      have z842 := H819.out.cell 0 rfl 1 rfl
      have z843 := H819.out.cell 0 rfl 2 rfl
      have z844 := H819.out.cell 0 rfl 3 rfl
      have z845 := H819.out.cell 0 rfl 4 rfl
      have z846 := H819.out.cell 0 rfl 5 rfl
      have z847 := H819.out.cell 0 rfl 6 rfl
      have z848 := H819.out.cell 0 rfl 7 rfl
      have z849 := H819.out.cell 0 rfl 8 rfl
      have z850 := H819.out.cell 0 rfl 9 rfl
      have z851 := H819.out.cell 0 rfl 10 rfl
      have z852 := H819.out.cell 0 rfl 11 rfl
      have z853 := H819.out.cell 0 rfl 12 rfl
      have z854 := H819.out.cell 0 rfl 13 rfl
      have z855 := H819.out.cell 0 rfl 14 rfl
      have z856 := H819.out.cell 0 rfl 15 rfl
      have z857 := H819.out.cell 0 rfl 16 rfl
      have z858 := H819.out.cell 0 rfl 17 rfl
      go_wp2_with fail
      clear z841 z842 z843 z844 z845 z846 z847 z848 z849 z850 z851 z852 z853 z854 z855 z856 z857 z858
      have he0 := HEB.out
      try simp only [decide_eq_true_eq, decide_eq_false_iff_not] at he0
      go_ret
      exact ⟨ret_b (by unfold sfOk; have := c800h.out; exact (decide_eq_false (by omega)).symm), by first | exact H819.out.below | exact H819.out.below'⟩
    · skip
      by_cases c859 : (0 : Int) < cn
      · skip
        have z860 := H819.out.cell 0 rfl 0 rfl
        have z861 := H819.out.cell 0 rfl 1 rfl
        have z862 := H819.out.cell 0 rfl 2 rfl
        have z863 := H819.out.cell 0 rfl 3 rfl
        have z864 := H819.out.cell 0 rfl 4 rfl
        have z865 := H819.out.cell 0 rfl 5 rfl
        have z866 := H819.out.cell 0 rfl 6 rfl
        have z867 := H819.out.cell 0 rfl 7 rfl
        have z868 := H819.out.cell 0 rfl 8 rfl
        have z869 := H819.out.cell 0 rfl 9 rfl
        have z870 := H819.out.cell 0 rfl 10 rfl
        have z871 := H819.out.cell 0 rfl 11 rfl
        have z872 := H819.out.cell 0 rfl 12 rfl
        have z873 := H819.out.cell 0 rfl 13 rfl
        have z874 := H819.out.cell 0 rfl 14 rfl
        have z875 := H819.out.cell 0 rfl 15 rfl
        have z876 := H819.out.cell 0 rfl 16 rfl
        have z877 := H819.out.cell 0 rfl 17 rfl
        go_wp2_with fail
        clear z860 z861 z862 z863 z864 z865 z866 z867 z868 z869 z870 z871 z872 z873 z874 z875 z876 z877
        have he0 := HEB.out
        try simp only [decide_eq_true_eq, decide_eq_false_iff_not] at he0
        go_ret
        exact ⟨ret_b (by unfold sfOk; have := c800h.out; exact (decide_eq_false (by omega)).symm), by first | exact H819.out.below | exact H819.out.below'⟩
      · skip
        by_cases c878 : (0 : Int) < xn
        · skip
          have z879 := H819.out.cell 0 rfl 0 rfl
          have z880 := H819.out.cell 0 rfl 1 rfl
          have z881 := H819.out.cell 0 rfl 2 rfl
          have z882 := H819.out.cell 0 rfl 3 rfl
          have z883 := H819.out.cell 0 rfl 4 rfl
          have z884 := H819.out.cell 0 rfl 5 rfl
          have z885 := H819.out.cell 0 rfl 6 rfl
          have z886 := H819.out.cell 0 rfl 7 rfl
          have z887 := H819.out.cell 0 rfl 8 rfl
          have z888 := H819.out.cell 0 rfl 9 rfl
          have z889 := H819.out.cell 0 rfl 10 rfl
          have z890 := H819.out.cell 0 rfl 11 rfl
          have z891 := H819.out.cell 0 rfl 12 rfl
          have z892 := H819.out.cell 0 rfl 13 rfl
          have z893 := H819.out.cell 0 rfl 14 rfl
          have z894 := H819.out.cell 0 rfl 15 rfl
          have z895 := H819.out.cell 0 rfl 16 rfl
          have z896 := H819.out.cell 0 rfl 17 rfl
          go_wp2_with fail
          clear z879 z880 z881 z882 z883 z884 z885 z886 z887 z888 z889 z890 z891 z892 z893 z894 z895 z896
          have he0 := HEB.out
          try simp only [decide_eq_true_eq, decide_eq_false_iff_not] at he0
          go_ret
          exact ⟨ret_b (by unfold sfOk; have := c800h.out; exact (decide_eq_false (by omega)).symm), by first | exact H819.out.below | exact H819.out.below'⟩
        · skip
          by_cases c897 : (0 : Int) < yn
          · skip
            have z898 := H819.out.cell 0 rfl 0 rfl
            have z899 := H819.out.cell 0 rfl 1 rfl
            have z900 := H819.out.cell 0 rfl 2 rfl
            have z901 := H819.out.cell 0 rfl 3 rfl
            have z902 := H819.out.cell 0 rfl 4 rfl
            have z903 := H819.out.cell 0 rfl 5 rfl
            have z904 := H819.out.cell 0 rfl 6 rfl
            have z905 := H819.out.cell 0 rfl 7 rfl
            have z906 := H819.out.cell 0 rfl 8 rfl
            have z907 := H819.out.cell 0 rfl 9 rfl
            have z908 := H819.out.cell 0 rfl 10 rfl
            have z909 := H819.out.cell 0 rfl 11 rfl
            have z910 := H819.out.cell 0 rfl 12 rfl
            have z911 := H819.out.cell 0 rfl 13 rfl
            have z912 := H819.out.cell 0 rfl 14 rfl
            have z913 := H819.out.cell 0 rfl 15 rfl
            have z914 := H819.out.cell 0 rfl 16 rfl
            have z915 := H819.out.cell 0 rfl 17 rfl
            go_wp2_with fail
            clear z898 z899 z900 z901 z902 z903 z904 z905 z906 z907 z908 z909 z910 z911 z912 z913 z914 z915
            have he0 := HEB.out
            try simp only [decide_eq_true_eq, decide_eq_false_iff_not] at he0
            go_ret
            exact ⟨ret_b (by unfold sfOk; have := c800h.out; exact (decide_eq_false (by omega)).symm), by first | exact H819.out.below | exact H819.out.below'⟩
          · skip
            have z916 := H819.out.cell 0 rfl 0 rfl
            have z917 := H819.out.cell 0 rfl 1 rfl
            have z918 := H819.out.cell 0 rfl 2 rfl
            have z919 := H819.out.cell 0 rfl 3 rfl
            have z920 := H819.out.cell 0 rfl 4 rfl
            have z921 := H819.out.cell 0 rfl 5 rfl
            have z922 := H819.out.cell 0 rfl 6 rfl
            have z923 := H819.out.cell 0 rfl 7 rfl
            have z924 := H819.out.cell 0 rfl 8 rfl
            have z925 := H819.out.cell 0 rfl 9 rfl
            have z926 := H819.out.cell 0 rfl 10 rfl
            have z927 := H819.out.cell 0 rfl 11 rfl
            have z928 := H819.out.cell 0 rfl 12 rfl
            have z929 := H819.out.cell 0 rfl 13 rfl
            have z930 := H819.out.cell 0 rfl 14 rfl
            have z931 := H819.out.cell 0 rfl 15 rfl
            have z932 := H819.out.cell 0 rfl 16 rfl
            have z933 := H819.out.cell 0 rfl 17 rfl
            go_wp2_with fail
            clear z916 z917 z918 z919 z920 z921 z922 z923 z924 z925 z926 z927 z928 z929 z930 z931 z932 z933
            refine (redged_any _ _).mono ?_
            rintro e w934 ⟨rfl, hsw⟩
            have hsw2 : k820 = w934 := by first | exact hsw | exact hsw.symm
            clear hsw
            subst hsw2
            rw [show edOk 1 = true from by decide]
            by_cases c935 : (sh2 : Int) = 0
            · obtain ⟨c935c, c935d⟩ : (sh2 : Int) ≤ 0 ∧ (0 : Int) ≤ sh2 := by omega
              have c935a : ((sh2 : Int) == (0)) = true := by simpa using c935
              have c935b : ((sh2 : Int) != (0)) = false := by simpa using c935
              have c935h := hid c935
              clear c935
              by_cases c936 : (bins : Int) = 0
              · obtain ⟨c936c, c936d⟩ : (bins : Int) ≤ 0 ∧ (0 : Int) ≤ bins := by omega
                have c936a : ((bins : Int) == (0)) = true := by simpa using c936
                have c936b : ((bins : Int) != (0)) = false := by simpa using c936
                have c936h := hid c936
                clear c936
                by_cases c937 : (0 : Int) < on
                · skip
                  have z938 := H819.out.cell 0 rfl 0 rfl
                  have z939 := H819.out.cell 0 rfl 1 rfl
                  have z940 := H819.out.cell 0 rfl 2 rfl
                  have z941 := H819.out.cell 0 rfl 3 rfl
                  have z942 := H819.out.cell 0 rfl 4 rfl
                  have z943 := H819.out.cell 0 rfl 5 rfl
                  have z944 := H819.out.cell 0 rfl 6 rfl
                  have z945 := H819.out.cell 0 rfl 7 rfl
                  have z946 := H819.out.cell 0 rfl 8 rfl
                  have z947 := H819.out.cell 0 rfl 9 rfl
                  have z948 := H819.out.cell 0 rfl 10 rfl
                  have z949 := H819.out.cell 0 rfl 11 rfl
                  have z950 := H819.out.cell 0 rfl 12 rfl
                  have z951 := H819.out.cell 0 rfl 13 rfl
                  have z952 := H819.out.cell 0 rfl 14 rfl
                  have z953 := H819.out.cell 0 rfl 15 rfl
                  have z954 := H819.out.cell 0 rfl 16 rfl
                  have z955 := H819.out.cell 0 rfl 17 rfl
                  go_wp2_with fail
                  clear z938 z939 z940 z941 z942 z943 z944 z945 z946 z947 z948 z949 z950 z951 z952 z953 z954 z955
                  have he0 := HEB.out
                  try simp only [decide_eq_true_eq, decide_eq_false_iff_not] at he0
                  go_ret
                  exact ⟨ret_b (by unfold sfOk; have := c800h.out; have := c935h.out; have := c936h.out; exact (decide_eq_false (by omega)).symm), by first | exact H819.out.below | exact H819.out.below'⟩
                · skip
                  have z956 := H819.out.cell 0 rfl 0 rfl
                  have z957 := H819.out.cell 0 rfl 1 rfl
                  have z958 := H819.out.cell 0 rfl 2 rfl
                  have z959 := H819.out.cell 0 rfl 3 rfl
                  have z960 := H819.out.cell 0 rfl 4 rfl
                  have z961 := H819.out.cell 0 rfl 5 rfl
                  have z962 := H819.out.cell 0 rfl 6 rfl
                  have z963 := H819.out.cell 0 rfl 7 rfl
                  have z964 := H819.out.cell 0 rfl 8 rfl
                  have z965 := H819.out.cell 0 rfl 9 rfl
                  have z966 := H819.out.cell 0 rfl 10 rfl
                  have z967 := H819.out.cell 0 rfl 11 rfl
                  have z968 := H819.out.cell 0 rfl 12 rfl
                  have z969 := H819.out.cell 0 rfl 13 rfl
                  have z970 := H819.out.cell 0 rfl 14 rfl
                  have z971 := H819.out.cell 0 rfl 15 rfl
                  have z972 := H819.out.cell 0 rfl 16 rfl
                  have z973 := H819.out.cell 0 rfl 17 rfl
                  go_wp2_with fail
                  clear z956 z957 z958 z959 z960 z961 z962 z963 z964 z965 z966 z967 z968 z969 z970 z971 z972 z973
                  have he0 := HEB.out
                  try simp only [decide_eq_true_eq, decide_eq_false_iff_not] at he0
                  go_ret
                  exact ⟨ret_b (by unfold sfOk; have := c800h.out; have := c935h.out; have := c936h.out; exact (decide_eq_true (by omega)).symm), by first | exact H819.out.below | exact H819.out.below'⟩
              · have c936a : ((bins : Int) == (0)) = false := by simpa using c936
                have c936b : ((bins : Int) != (0)) = true := by simpa using c936
                have c936h := hid c936
                clear c936
                have z974 := H819.out.cell 0 rfl 0 rfl
                have z975 := H819.out.cell 0 rfl 1 rfl
                have z976 := H819.out.cell 0 rfl 2 rfl
                have z977 := H819.out.cell 0 rfl 3 rfl
                have z978 := H819.out.cell 0 rfl 4 rfl
                have z979 := H819.out.cell 0 rfl 5 rfl
                have z980 := H819.out.cell 0 rfl 6 rfl
                have z981 := H819.out.cell 0 rfl 7 rfl
                have z982 := H819.out.cell 0 rfl 8 rfl
                have z983 := H819.out.cell 0 rfl 9 rfl
                have z984 := H819.out.cell 0 rfl 10 rfl
                have z985 := H819.out.cell 0 rfl 11 rfl
                have z986 := H819.out.cell 0 rfl 12 rfl
                have z987 := H819.out.cell 0 rfl 13 rfl
                have z988 := H819.out.cell 0 rfl 14 rfl
                have z989 := H819.out.cell 0 rfl 15 rfl
                have z990 := H819.out.cell 0 rfl 16 rfl
                have z991 := H819.out.cell 0 rfl 17 rfl
                go_wp2_with fail
                clear z974 z975 z976 z977 z978 z979 z980 z981 z982 z983 z984 z985 z986 z987 z988 z989 z990 z991
                have he0 := HEB.out
                try simp only [decide_eq_true_eq, decide_eq_false_iff_not] at he0
                go_ret
                exact ⟨ret_b (by unfold sfOk; have := c800h.out; have := c935h.out; have := c936h.out; exact (decide_eq_false (by omega)).symm), by first | exact H819.out.below | exact H819.out.below'⟩
            · have c935a : ((sh2 : Int) == (0)) = false := by simpa using c935
              have c935b : ((sh2 : Int) != (0)) = true := by simpa using c935
              have c935h := hid c935
              clear c935
              have z992 := H819.out.cell 0 rfl 0 rfl
              have z993 := H819.out.cell 0 rfl 1 rfl
              have z994 := H819.out.cell 0 rfl 2 rfl
              have z995 := H819.out.cell 0 rfl 3 rfl
              have z996 := H819.out.cell 0 rfl 4 rfl
              have z997 := H819.out.cell 0 rfl 5 rfl
              have z998 := H819.out.cell 0 rfl 6 rfl
              have z999 := H819.out.cell 0 rfl 7 rfl
              have z1000 := H819.out.cell 0 rfl 8 rfl
              have z1001 := H819.out.cell 0 rfl 9 rfl
              have z1002 := H819.out.cell 0 rfl 10 rfl
              have z1003 := H819.out.cell 0 rfl 11 rfl
              have z1004 := H819.out.cell 0 rfl 12 rfl
              have z1005 := H819.out.cell 0 rfl 13 rfl
              have z1006 := H819.out.cell 0 rfl 14 rfl
              have z1007 := H819.out.cell 0 rfl 15 rfl
              have z1008 := H819.out.cell 0 rfl 16 rfl
              have z1009 := H819.out.cell 0 rfl 17 rfl
              go_wp2_with fail
              clear z992 z993 z994 z995 z996 z997 z998 z999 z1000 z1001 z1002 z1003 z1004 z1005 z1006 z1007 z1008 z1009
              have he0 := HEB.out
              try simp only [decide_eq_true_eq, decide_eq_false_iff_not] at he0
              go_ret
              exact ⟨ret_b (by unfold sfOk; have := c800h.out; have := c935h.out; exact (decide_eq_false (by omega)).symm), by first | exact H819.out.below | exact H819.out.below'⟩
  · have c800a : ((sb : Int) == ((-1))) = false := by simpa using c800
    have c800b : ((sb : Int) != ((-1))) = true := by simpa using c800
    have c800h := hid c800
    clear c800
    have z1010 := H798.out.cell 0 rfl 0 rfl
    have z1011 := H798.out.cell 0 rfl 1 rfl
    have z1012 := H798.out.cell 0 rfl 2 rfl
    have z1013 := H798.out.cell 0 rfl 3 rfl
    have z1014 := H798.out.cell 0 rfl 4 rfl
    have z1015 := H798.out.cell 0 rfl 5 rfl
    have z1016 := H798.out.cell 0 rfl 6 rfl
    have z1017 := H798.out.cell 0 rfl 7 rfl
    have z1018 := H798.out.cell 0 rfl 8 rfl
    have z1019 := H798.out.cell 0 rfl 9 rfl
    have z1020 := H798.out.cell 0 rfl 10 rfl
    have z1021 := H798.out.cell 0 rfl 11 rfl
    have z1022 := H798.out.cell 0 rfl 12 rfl
    have z1023 := H798.out.cell 0 rfl 13 rfl
    have z1024 := H798.out.cell 0 rfl 14 rfl
    have z1025 := H798.out.cell 0 rfl 15 rfl
    have z1026 := H798.out.cell 0 rfl 16 rfl
    have z1027 := H798.out.cell 0 rfl 17 rfl
    go_wp2_with fail
    clear z1010 z1011 z1012 z1013 z1014 z1015 z1016 z1017 z1018 z1019 z1020 z1021 z1022 z1023 z1024 z1025 z1026 z1027
    have he0 := HEB.out
    try simp only [decide_eq_true_eq, decide_eq_false_iff_not] at he0
    go_ret
    exact ⟨ret_b (by unfold sfOk; have := c800h.out; exact (decide_eq_false (by omega)).symm), by first | exact H798.out.below | exact H798.out.below'⟩

set_option maxRecDepth 100000 in
set_option maxHeartbeats 6400000 in
theorem rsfields_2 (sa sb : Int) (bar : Bool) (ep ef kw kh : Int) (wa : Option Addr) (wn wc : Nat) (ra : Option Addr) (rn rc : Nat) (ca : Option Addr) (cn cc : Nat) (sh sh2 : Int) (xa : Option Addr) (xn xc : Nat) (ya : Option Addr) (yn yc : Nat) (bins : Int) (oa : Option Addr) (on oc : Nat) (mx : Int) (W : World) : Calls Try.prog 56 #[.agg #[.int .i64 2, .int .i64 sa, .int .i64 sb, .bool bar, .int .i64 ep, .int .i64 ef, .int .i64 kw, .int .i64 kh, .slice wa wn wc, .slice ra rn rc, .slice ca cn cc, .int .i64 sh, .int .i64 sh2, .slice xa xn xc, .slice ya yn yc, .int .i64 bins, .slice oa on oc, .int .i64 mx]] W fun e w' => e = .returned (.bool (sfOk 2 sb ep ef kw kh wn rn cn sh sh2 xn yn bins on mx)) ∧ Below W.heap.size W w' := by
  obtain ⟨B, hB⟩ : ∃ B, W.heap.size = B := ⟨_, rfl⟩
  have HI0 := hid (St.init hB)
  obtain ⟨eb, heb⟩ : ∃ x, decide (ep = 0 ∧ ef = 0) = x := ⟨_, rfl⟩
  have HEB := hid heb
  go_enter Try.func56, Try.ntmps56
  go_upto_region 1 with fail
  have H1028 := hid (show St B W [.cells B #[.int .i64 2, .int .i64 sa, .int .i64 sb, .bool bar, .int .i64 ep, .int .i64 ef, .int .i64 kw, .int .i64 kh, .slice wa wn wc, .slice ra rn rc, .slice ca cn cc, .int .i64 sh, .int .i64 sh2, .slice xa xn xc, .slice ya yn yc, .int .i64 bins, .slice oa on oc, .int .i64 mx] 33] [] (W.alloc (.cells #[.int .i64 2, .int .i64 sa, .int .i64 sb, .bool bar, .int .i64 ep, .int .i64 ef, .int .i64 kw, .int .i64 kh, .slice wa wn wc, .slice ra rn rc, .slice ca cn cc, .int .i64 sh, .int .i64 sh2, .slice xa xn xc, .slice ya yn yc, .int .i64 bins, .slice oa on oc, .int .i64 mx] 33)) from (HI0.out.alloc #[.int .i64 2, .int .i64 sa, .int .i64 sb, .bool bar, .int .i64 ep, .int .i64 ef, .int .i64 kw, .int .i64 kh, .slice wa wn wc, .slice ra rn rc, .slice ca cn cc, .int .i64 sh, .int .i64 sh2, .slice xa xn xc, .slice ya yn yc, .int .i64 bins, .slice oa on oc, .int .i64 mx] 33 hB))
  first | refine gen_code H1028.out ?_ | refine gen_list H1028.out ?_ | refine gen_calls H1028.out ?_
  intro w1029 hG
  clear H1028
  have H1028 := hid hG
  clear hG
  by_cases c1030 : (sb : Int) = (-1)
  · obtain ⟨c1030c, c1030d⟩ : (sb : Int) ≤ (-1) ∧ ((-1) : Int) ≤ sb := by omega
    have c1030a : ((sb : Int) == ((-1))) = true := by simpa using c1030
    have c1030b : ((sb : Int) != ((-1))) = false := by simpa using c1030
    have c1030h := hid c1030
    clear c1030
    have z1031 := H1028.out.cell 0 rfl 0 rfl
    have z1032 := H1028.out.cell 0 rfl 1 rfl
    have z1033 := H1028.out.cell 0 rfl 2 rfl
    have z1034 := H1028.out.cell 0 rfl 3 rfl
    have z1035 := H1028.out.cell 0 rfl 4 rfl
    have z1036 := H1028.out.cell 0 rfl 5 rfl
    have z1037 := H1028.out.cell 0 rfl 6 rfl
    have z1038 := H1028.out.cell 0 rfl 7 rfl
    have z1039 := H1028.out.cell 0 rfl 8 rfl
    have z1040 := H1028.out.cell 0 rfl 9 rfl
    have z1041 := H1028.out.cell 0 rfl 10 rfl
    have z1042 := H1028.out.cell 0 rfl 11 rfl
    have z1043 := H1028.out.cell 0 rfl 12 rfl
    have z1044 := H1028.out.cell 0 rfl 13 rfl
    have z1045 := H1028.out.cell 0 rfl 14 rfl
    have z1046 := H1028.out.cell 0 rfl 15 rfl
    have z1047 := H1028.out.cell 0 rfl 16 rfl
    have z1048 := H1028.out.cell 0 rfl 17 rfl
    go_upto_region 3 with fail
    clear z1031 z1032 z1033 z1034 z1035 z1036 z1037 z1038 z1039 z1040 z1041 z1042 z1043 z1044 z1045 z1046 z1047 z1048
    have H1049 := hid H1028.out.drew
    refine wp_region_held_drew (S := (fun w' => w'.cell? ⟨B, 0, none⟩ = some (.int .i64 2) ∧ w'.cell? ⟨B, 1, none⟩ = some (.int .i64 sa) ∧ w'.cell? ⟨B, 2, none⟩ = some (.int .i64 sb) ∧ w'.cell? ⟨B, 3, none⟩ = some (.bool bar) ∧ w'.cell? ⟨B, 4, none⟩ = some (.int .i64 ep) ∧ w'.cell? ⟨B, 5, none⟩ = some (.int .i64 ef) ∧ w'.cell? ⟨B, 6, none⟩ = some (.int .i64 kw) ∧ w'.cell? ⟨B, 7, none⟩ = some (.int .i64 kh) ∧ w'.cell? ⟨B, 8, none⟩ = some (.slice wa wn wc) ∧ w'.cell? ⟨B, 9, none⟩ = some (.slice ra rn rc) ∧ w'.cell? ⟨B, 10, none⟩ = some (.slice ca cn cc) ∧ w'.cell? ⟨B, 11, none⟩ = some (.int .i64 sh) ∧ w'.cell? ⟨B, 12, none⟩ = some (.int .i64 sh2) ∧ w'.cell? ⟨B, 13, none⟩ = some (.slice xa xn xc) ∧ w'.cell? ⟨B, 14, none⟩ = some (.slice ya yn yc) ∧ w'.cell? ⟨B, 15, none⟩ = some (.int .i64 bins) ∧ w'.cell? ⟨B, 16, none⟩ = some (.slice oa on oc) ∧ w'.cell? ⟨B, 17, none⟩ = some (.int .i64 mx))) (by kernel_rfl) ⟨H1049.out.cell 0 rfl 0 rfl, H1049.out.cell 0 rfl 1 rfl, H1049.out.cell 0 rfl 2 rfl, H1049.out.cell 0 rfl 3 rfl, H1049.out.cell 0 rfl 4 rfl, H1049.out.cell 0 rfl 5 rfl, H1049.out.cell 0 rfl 6 rfl, H1049.out.cell 0 rfl 7 rfl, H1049.out.cell 0 rfl 8 rfl, H1049.out.cell 0 rfl 9 rfl, H1049.out.cell 0 rfl 10 rfl, H1049.out.cell 0 rfl 11 rfl, H1049.out.cell 0 rfl 12 rfl, H1049.out.cell 0 rfl 13 rfl, H1049.out.cell 0 rfl 14 rfl, H1049.out.cell 0 rfl 15 rfl, H1049.out.cell 0 rfl 16 rfl, H1049.out.cell 0 rfl 17 rfl⟩ (fun hHeld => ?_)
    generalize w1029.drew = k1050 at *
    refine tkA 0 ?_
    try simp only [Act.put, p1, p2, p3, p4, p5, p6]
    refine tkA 1 ?_
    try simp only [Act.put, p1, p2, p3, p4, p5, p6]
    refine tkA 2 ?_
    try simp only [Act.put, p1, p2, p3, p4, p5, p6]
    refine tkA 3 ?_
    try simp only [Act.put, p1, p2, p3, p4, p5, p6]
    refine tkA 4 ?_
    try simp only [Act.put, p1, p2, p3, p4, p5, p6]
    refine tkA 5 ?_
    try simp only [Act.put, p1, p2, p3, p4, p5, p6]
    refine tkA 6 ?_
    try simp only [Act.put, p1, p2, p3, p4, p5, p6]
    refine tkA 7 ?_
    try simp only [Act.put, p1, p2, p3, p4, p5, p6]
    refine tkA 8 ?_
    try simp only [Act.put, p1, p2, p3, p4, p5, p6]
    refine tkA 9 ?_
    try simp only [Act.put, p1, p2, p3, p4, p5, p6]
    refine tkA 10 ?_
    try simp only [Act.put, p1, p2, p3, p4, p5, p6]
    refine tkA 11 ?_
    try simp only [Act.put, p1, p2, p3, p4, p5, p6]
    refine wpAnyH_done (by kernel_rfl) ?_ _
    try clear hHeld
    have z1051 := H1049.out.cell 0 rfl 0 rfl
    have z1052 := H1049.out.cell 0 rfl 1 rfl
    have z1053 := H1049.out.cell 0 rfl 2 rfl
    have z1054 := H1049.out.cell 0 rfl 3 rfl
    have z1055 := H1049.out.cell 0 rfl 4 rfl
    have z1056 := H1049.out.cell 0 rfl 5 rfl
    have z1057 := H1049.out.cell 0 rfl 6 rfl
    have z1058 := H1049.out.cell 0 rfl 7 rfl
    have z1059 := H1049.out.cell 0 rfl 8 rfl
    have z1060 := H1049.out.cell 0 rfl 9 rfl
    have z1061 := H1049.out.cell 0 rfl 10 rfl
    have z1062 := H1049.out.cell 0 rfl 11 rfl
    have z1063 := H1049.out.cell 0 rfl 12 rfl
    have z1064 := H1049.out.cell 0 rfl 13 rfl
    have z1065 := H1049.out.cell 0 rfl 14 rfl
    have z1066 := H1049.out.cell 0 rfl 15 rfl
    have z1067 := H1049.out.cell 0 rfl 16 rfl
    have z1068 := H1049.out.cell 0 rfl 17 rfl
    go_wp2_with fail
    clear z1051 z1052 z1053 z1054 z1055 z1056 z1057 z1058 z1059 z1060 z1061 z1062 z1063 z1064 z1065 z1066 z1067 z1068
    refine (redged_any _ _).mono ?_
    rintro e w1069 ⟨rfl, hsw⟩
    have hsw2 : k1050 = w1069 := by first | exact hsw | exact hsw.symm
    clear hsw
    subst hsw2
    rw [show edOk 2 = true from by decide]
    by_cases c1070 : (kw : Int) = 0
    · obtain ⟨c1070c, c1070d⟩ : (kw : Int) ≤ 0 ∧ (0 : Int) ≤ kw := by omega
      have c1070a : ((kw : Int) == (0)) = true := by simpa using c1070
      have c1070b : ((kw : Int) != (0)) = false := by simpa using c1070
      have c1070h := hid c1070
      clear c1070
      by_cases c1071 : (kh : Int) = 0
      · obtain ⟨c1071c, c1071d⟩ : (kh : Int) ≤ 0 ∧ (0 : Int) ≤ kh := by omega
        have c1071a : ((kh : Int) == (0)) = true := by simpa using c1071
        have c1071b : ((kh : Int) != (0)) = false := by simpa using c1071
        have c1071h := hid c1071
        clear c1071
        by_cases c1072 : (0 : Int) < wn
        · skip
          have z1073 := H1049.out.cell 0 rfl 0 rfl
          have z1074 := H1049.out.cell 0 rfl 1 rfl
          have z1075 := H1049.out.cell 0 rfl 2 rfl
          have z1076 := H1049.out.cell 0 rfl 3 rfl
          have z1077 := H1049.out.cell 0 rfl 4 rfl
          have z1078 := H1049.out.cell 0 rfl 5 rfl
          have z1079 := H1049.out.cell 0 rfl 6 rfl
          have z1080 := H1049.out.cell 0 rfl 7 rfl
          have z1081 := H1049.out.cell 0 rfl 8 rfl
          have z1082 := H1049.out.cell 0 rfl 9 rfl
          have z1083 := H1049.out.cell 0 rfl 10 rfl
          have z1084 := H1049.out.cell 0 rfl 11 rfl
          have z1085 := H1049.out.cell 0 rfl 12 rfl
          have z1086 := H1049.out.cell 0 rfl 13 rfl
          have z1087 := H1049.out.cell 0 rfl 14 rfl
          have z1088 := H1049.out.cell 0 rfl 15 rfl
          have z1089 := H1049.out.cell 0 rfl 16 rfl
          have z1090 := H1049.out.cell 0 rfl 17 rfl
          go_wp2_with fail
          clear z1073 z1074 z1075 z1076 z1077 z1078 z1079 z1080 z1081 z1082 z1083 z1084 z1085 z1086 z1087 z1088 z1089 z1090
          have he0 := HEB.out
          try simp only [decide_eq_true_eq, decide_eq_false_iff_not] at he0
          go_ret
          exact ⟨ret_b (by unfold sfOk; have := c1030h.out; have := c1070h.out; have := c1071h.out; exact (decide_eq_false (by omega)).symm), by first | exact H1049.out.below | exact H1049.out.below'⟩
        · skip
          by_cases c1091 : (0 : Int) < xn
          · skip
            have z1092 := H1049.out.cell 0 rfl 0 rfl
            have z1093 := H1049.out.cell 0 rfl 1 rfl
            have z1094 := H1049.out.cell 0 rfl 2 rfl
            have z1095 := H1049.out.cell 0 rfl 3 rfl
            have z1096 := H1049.out.cell 0 rfl 4 rfl
            have z1097 := H1049.out.cell 0 rfl 5 rfl
            have z1098 := H1049.out.cell 0 rfl 6 rfl
            have z1099 := H1049.out.cell 0 rfl 7 rfl
            have z1100 := H1049.out.cell 0 rfl 8 rfl
            have z1101 := H1049.out.cell 0 rfl 9 rfl
            have z1102 := H1049.out.cell 0 rfl 10 rfl
            have z1103 := H1049.out.cell 0 rfl 11 rfl
            have z1104 := H1049.out.cell 0 rfl 12 rfl
            have z1105 := H1049.out.cell 0 rfl 13 rfl
            have z1106 := H1049.out.cell 0 rfl 14 rfl
            have z1107 := H1049.out.cell 0 rfl 15 rfl
            have z1108 := H1049.out.cell 0 rfl 16 rfl
            have z1109 := H1049.out.cell 0 rfl 17 rfl
            go_wp2_with fail
            clear z1092 z1093 z1094 z1095 z1096 z1097 z1098 z1099 z1100 z1101 z1102 z1103 z1104 z1105 z1106 z1107 z1108 z1109
            have he0 := HEB.out
            try simp only [decide_eq_true_eq, decide_eq_false_iff_not] at he0
            go_ret
            exact ⟨ret_b (by unfold sfOk; have := c1030h.out; have := c1070h.out; have := c1071h.out; exact (decide_eq_false (by omega)).symm), by first | exact H1049.out.below | exact H1049.out.below'⟩
          · skip
            by_cases c1110 : (0 : Int) < yn
            · skip
              have z1111 := H1049.out.cell 0 rfl 0 rfl
              have z1112 := H1049.out.cell 0 rfl 1 rfl
              have z1113 := H1049.out.cell 0 rfl 2 rfl
              have z1114 := H1049.out.cell 0 rfl 3 rfl
              have z1115 := H1049.out.cell 0 rfl 4 rfl
              have z1116 := H1049.out.cell 0 rfl 5 rfl
              have z1117 := H1049.out.cell 0 rfl 6 rfl
              have z1118 := H1049.out.cell 0 rfl 7 rfl
              have z1119 := H1049.out.cell 0 rfl 8 rfl
              have z1120 := H1049.out.cell 0 rfl 9 rfl
              have z1121 := H1049.out.cell 0 rfl 10 rfl
              have z1122 := H1049.out.cell 0 rfl 11 rfl
              have z1123 := H1049.out.cell 0 rfl 12 rfl
              have z1124 := H1049.out.cell 0 rfl 13 rfl
              have z1125 := H1049.out.cell 0 rfl 14 rfl
              have z1126 := H1049.out.cell 0 rfl 15 rfl
              have z1127 := H1049.out.cell 0 rfl 16 rfl
              have z1128 := H1049.out.cell 0 rfl 17 rfl
              go_wp2_with fail
              clear z1111 z1112 z1113 z1114 z1115 z1116 z1117 z1118 z1119 z1120 z1121 z1122 z1123 z1124 z1125 z1126 z1127 z1128
              have he0 := HEB.out
              try simp only [decide_eq_true_eq, decide_eq_false_iff_not] at he0
              go_ret
              exact ⟨ret_b (by unfold sfOk; have := c1030h.out; have := c1070h.out; have := c1071h.out; exact (decide_eq_false (by omega)).symm), by first | exact H1049.out.below | exact H1049.out.below'⟩
            · skip
              have z1129 := H1049.out.cell 0 rfl 0 rfl
              have z1130 := H1049.out.cell 0 rfl 1 rfl
              have z1131 := H1049.out.cell 0 rfl 2 rfl
              have z1132 := H1049.out.cell 0 rfl 3 rfl
              have z1133 := H1049.out.cell 0 rfl 4 rfl
              have z1134 := H1049.out.cell 0 rfl 5 rfl
              have z1135 := H1049.out.cell 0 rfl 6 rfl
              have z1136 := H1049.out.cell 0 rfl 7 rfl
              have z1137 := H1049.out.cell 0 rfl 8 rfl
              have z1138 := H1049.out.cell 0 rfl 9 rfl
              have z1139 := H1049.out.cell 0 rfl 10 rfl
              have z1140 := H1049.out.cell 0 rfl 11 rfl
              have z1141 := H1049.out.cell 0 rfl 12 rfl
              have z1142 := H1049.out.cell 0 rfl 13 rfl
              have z1143 := H1049.out.cell 0 rfl 14 rfl
              have z1144 := H1049.out.cell 0 rfl 15 rfl
              have z1145 := H1049.out.cell 0 rfl 16 rfl
              have z1146 := H1049.out.cell 0 rfl 17 rfl
              go_wp2_with fail
              clear z1129 z1130 z1131 z1132 z1133 z1134 z1135 z1136 z1137 z1138 z1139 z1140 z1141 z1142 z1143 z1144 z1145 z1146
              refine (redged_any _ _).mono ?_
              rintro e w1147 ⟨rfl, hsw⟩
              have hsw2 : k1050 = w1147 := by first | exact hsw | exact hsw.symm
              clear hsw
              subst hsw2
              rw [show edOk 2 = true from by decide]
              by_cases c1148 : (bins : Int) = 0
              · obtain ⟨c1148c, c1148d⟩ : (bins : Int) ≤ 0 ∧ (0 : Int) ≤ bins := by omega
                have c1148a : ((bins : Int) == (0)) = true := by simpa using c1148
                have c1148b : ((bins : Int) != (0)) = false := by simpa using c1148
                have c1148h := hid c1148
                clear c1148
                by_cases c1149 : (0 : Int) < on
                · skip
                  have z1150 := H1049.out.cell 0 rfl 0 rfl
                  have z1151 := H1049.out.cell 0 rfl 1 rfl
                  have z1152 := H1049.out.cell 0 rfl 2 rfl
                  have z1153 := H1049.out.cell 0 rfl 3 rfl
                  have z1154 := H1049.out.cell 0 rfl 4 rfl
                  have z1155 := H1049.out.cell 0 rfl 5 rfl
                  have z1156 := H1049.out.cell 0 rfl 6 rfl
                  have z1157 := H1049.out.cell 0 rfl 7 rfl
                  have z1158 := H1049.out.cell 0 rfl 8 rfl
                  have z1159 := H1049.out.cell 0 rfl 9 rfl
                  have z1160 := H1049.out.cell 0 rfl 10 rfl
                  have z1161 := H1049.out.cell 0 rfl 11 rfl
                  have z1162 := H1049.out.cell 0 rfl 12 rfl
                  have z1163 := H1049.out.cell 0 rfl 13 rfl
                  have z1164 := H1049.out.cell 0 rfl 14 rfl
                  have z1165 := H1049.out.cell 0 rfl 15 rfl
                  have z1166 := H1049.out.cell 0 rfl 16 rfl
                  have z1167 := H1049.out.cell 0 rfl 17 rfl
                  go_wp2_with fail
                  clear z1150 z1151 z1152 z1153 z1154 z1155 z1156 z1157 z1158 z1159 z1160 z1161 z1162 z1163 z1164 z1165 z1166 z1167
                  have he0 := HEB.out
                  try simp only [decide_eq_true_eq, decide_eq_false_iff_not] at he0
                  go_ret
                  exact ⟨ret_b (by unfold sfOk; have := c1030h.out; have := c1070h.out; have := c1071h.out; have := c1148h.out; exact (decide_eq_false (by omega)).symm), by first | exact H1049.out.below | exact H1049.out.below'⟩
                · skip
                  have z1168 := H1049.out.cell 0 rfl 0 rfl
                  have z1169 := H1049.out.cell 0 rfl 1 rfl
                  have z1170 := H1049.out.cell 0 rfl 2 rfl
                  have z1171 := H1049.out.cell 0 rfl 3 rfl
                  have z1172 := H1049.out.cell 0 rfl 4 rfl
                  have z1173 := H1049.out.cell 0 rfl 5 rfl
                  have z1174 := H1049.out.cell 0 rfl 6 rfl
                  have z1175 := H1049.out.cell 0 rfl 7 rfl
                  have z1176 := H1049.out.cell 0 rfl 8 rfl
                  have z1177 := H1049.out.cell 0 rfl 9 rfl
                  have z1178 := H1049.out.cell 0 rfl 10 rfl
                  have z1179 := H1049.out.cell 0 rfl 11 rfl
                  have z1180 := H1049.out.cell 0 rfl 12 rfl
                  have z1181 := H1049.out.cell 0 rfl 13 rfl
                  have z1182 := H1049.out.cell 0 rfl 14 rfl
                  have z1183 := H1049.out.cell 0 rfl 15 rfl
                  have z1184 := H1049.out.cell 0 rfl 16 rfl
                  have z1185 := H1049.out.cell 0 rfl 17 rfl
                  go_wp2_with fail
                  clear z1168 z1169 z1170 z1171 z1172 z1173 z1174 z1175 z1176 z1177 z1178 z1179 z1180 z1181 z1182 z1183 z1184 z1185
                  have he0 := HEB.out
                  try simp only [decide_eq_true_eq, decide_eq_false_iff_not] at he0
                  go_ret
                  exact ⟨ret_b (by unfold sfOk; have := c1030h.out; have := c1070h.out; have := c1071h.out; have := c1148h.out; exact (decide_eq_true (by omega)).symm), by first | exact H1049.out.below | exact H1049.out.below'⟩
              · have c1148a : ((bins : Int) == (0)) = false := by simpa using c1148
                have c1148b : ((bins : Int) != (0)) = true := by simpa using c1148
                have c1148h := hid c1148
                clear c1148
                have z1186 := H1049.out.cell 0 rfl 0 rfl
                have z1187 := H1049.out.cell 0 rfl 1 rfl
                have z1188 := H1049.out.cell 0 rfl 2 rfl
                have z1189 := H1049.out.cell 0 rfl 3 rfl
                have z1190 := H1049.out.cell 0 rfl 4 rfl
                have z1191 := H1049.out.cell 0 rfl 5 rfl
                have z1192 := H1049.out.cell 0 rfl 6 rfl
                have z1193 := H1049.out.cell 0 rfl 7 rfl
                have z1194 := H1049.out.cell 0 rfl 8 rfl
                have z1195 := H1049.out.cell 0 rfl 9 rfl
                have z1196 := H1049.out.cell 0 rfl 10 rfl
                have z1197 := H1049.out.cell 0 rfl 11 rfl
                have z1198 := H1049.out.cell 0 rfl 12 rfl
                have z1199 := H1049.out.cell 0 rfl 13 rfl
                have z1200 := H1049.out.cell 0 rfl 14 rfl
                have z1201 := H1049.out.cell 0 rfl 15 rfl
                have z1202 := H1049.out.cell 0 rfl 16 rfl
                have z1203 := H1049.out.cell 0 rfl 17 rfl
                go_wp2_with fail
                clear z1186 z1187 z1188 z1189 z1190 z1191 z1192 z1193 z1194 z1195 z1196 z1197 z1198 z1199 z1200 z1201 z1202 z1203
                have he0 := HEB.out
                try simp only [decide_eq_true_eq, decide_eq_false_iff_not] at he0
                go_ret
                exact ⟨ret_b (by unfold sfOk; have := c1030h.out; have := c1070h.out; have := c1071h.out; have := c1148h.out; exact (decide_eq_false (by omega)).symm), by first | exact H1049.out.below | exact H1049.out.below'⟩
      · have c1071a : ((kh : Int) == (0)) = false := by simpa using c1071
        have c1071b : ((kh : Int) != (0)) = true := by simpa using c1071
        have c1071h := hid c1071
        clear c1071
        have z1204 := H1049.out.cell 0 rfl 0 rfl
        have z1205 := H1049.out.cell 0 rfl 1 rfl
        have z1206 := H1049.out.cell 0 rfl 2 rfl
        have z1207 := H1049.out.cell 0 rfl 3 rfl
        have z1208 := H1049.out.cell 0 rfl 4 rfl
        have z1209 := H1049.out.cell 0 rfl 5 rfl
        have z1210 := H1049.out.cell 0 rfl 6 rfl
        have z1211 := H1049.out.cell 0 rfl 7 rfl
        have z1212 := H1049.out.cell 0 rfl 8 rfl
        have z1213 := H1049.out.cell 0 rfl 9 rfl
        have z1214 := H1049.out.cell 0 rfl 10 rfl
        have z1215 := H1049.out.cell 0 rfl 11 rfl
        have z1216 := H1049.out.cell 0 rfl 12 rfl
        have z1217 := H1049.out.cell 0 rfl 13 rfl
        have z1218 := H1049.out.cell 0 rfl 14 rfl
        have z1219 := H1049.out.cell 0 rfl 15 rfl
        have z1220 := H1049.out.cell 0 rfl 16 rfl
        have z1221 := H1049.out.cell 0 rfl 17 rfl
        go_wp2_with fail
        clear z1204 z1205 z1206 z1207 z1208 z1209 z1210 z1211 z1212 z1213 z1214 z1215 z1216 z1217 z1218 z1219 z1220 z1221
        have he0 := HEB.out
        try simp only [decide_eq_true_eq, decide_eq_false_iff_not] at he0
        go_ret
        exact ⟨ret_b (by unfold sfOk; have := c1030h.out; have := c1070h.out; have := c1071h.out; exact (decide_eq_false (by omega)).symm), by first | exact H1049.out.below | exact H1049.out.below'⟩
    · have c1070a : ((kw : Int) == (0)) = false := by simpa using c1070
      have c1070b : ((kw : Int) != (0)) = true := by simpa using c1070
      have c1070h := hid c1070
      clear c1070
      have z1222 := H1049.out.cell 0 rfl 0 rfl
      have z1223 := H1049.out.cell 0 rfl 1 rfl
      have z1224 := H1049.out.cell 0 rfl 2 rfl
      have z1225 := H1049.out.cell 0 rfl 3 rfl
      have z1226 := H1049.out.cell 0 rfl 4 rfl
      have z1227 := H1049.out.cell 0 rfl 5 rfl
      have z1228 := H1049.out.cell 0 rfl 6 rfl
      have z1229 := H1049.out.cell 0 rfl 7 rfl
      have z1230 := H1049.out.cell 0 rfl 8 rfl
      have z1231 := H1049.out.cell 0 rfl 9 rfl
      have z1232 := H1049.out.cell 0 rfl 10 rfl
      have z1233 := H1049.out.cell 0 rfl 11 rfl
      have z1234 := H1049.out.cell 0 rfl 12 rfl
      have z1235 := H1049.out.cell 0 rfl 13 rfl
      have z1236 := H1049.out.cell 0 rfl 14 rfl
      have z1237 := H1049.out.cell 0 rfl 15 rfl
      have z1238 := H1049.out.cell 0 rfl 16 rfl
      have z1239 := H1049.out.cell 0 rfl 17 rfl
      go_wp2_with fail
      clear z1222 z1223 z1224 z1225 z1226 z1227 z1228 z1229 z1230 z1231 z1232 z1233 z1234 z1235 z1236 z1237 z1238 z1239
      have he0 := HEB.out
      try simp only [decide_eq_true_eq, decide_eq_false_iff_not] at he0
      go_ret
      exact ⟨ret_b (by unfold sfOk; have := c1030h.out; have := c1070h.out; exact (decide_eq_false (by omega)).symm), by first | exact H1049.out.below | exact H1049.out.below'⟩
  · have c1030a : ((sb : Int) == ((-1))) = false := by simpa using c1030
    have c1030b : ((sb : Int) != ((-1))) = true := by simpa using c1030
    have c1030h := hid c1030
    clear c1030
    have z1240 := H1028.out.cell 0 rfl 0 rfl
    have z1241 := H1028.out.cell 0 rfl 1 rfl
    have z1242 := H1028.out.cell 0 rfl 2 rfl
    have z1243 := H1028.out.cell 0 rfl 3 rfl
    have z1244 := H1028.out.cell 0 rfl 4 rfl
    have z1245 := H1028.out.cell 0 rfl 5 rfl
    have z1246 := H1028.out.cell 0 rfl 6 rfl
    have z1247 := H1028.out.cell 0 rfl 7 rfl
    have z1248 := H1028.out.cell 0 rfl 8 rfl
    have z1249 := H1028.out.cell 0 rfl 9 rfl
    have z1250 := H1028.out.cell 0 rfl 10 rfl
    have z1251 := H1028.out.cell 0 rfl 11 rfl
    have z1252 := H1028.out.cell 0 rfl 12 rfl
    have z1253 := H1028.out.cell 0 rfl 13 rfl
    have z1254 := H1028.out.cell 0 rfl 14 rfl
    have z1255 := H1028.out.cell 0 rfl 15 rfl
    have z1256 := H1028.out.cell 0 rfl 16 rfl
    have z1257 := H1028.out.cell 0 rfl 17 rfl
    go_wp2_with fail
    clear z1240 z1241 z1242 z1243 z1244 z1245 z1246 z1247 z1248 z1249 z1250 z1251 z1252 z1253 z1254 z1255 z1256 z1257
    have he0 := HEB.out
    try simp only [decide_eq_true_eq, decide_eq_false_iff_not] at he0
    go_ret
    exact ⟨ret_b (by unfold sfOk; have := c1030h.out; exact (decide_eq_false (by omega)).symm), by first | exact H1028.out.below | exact H1028.out.below'⟩

set_option maxRecDepth 100000 in
set_option maxHeartbeats 6400000 in
theorem rsfields_3 (sa sb : Int) (bar : Bool) (ep ef kw kh : Int) (wa : Option Addr) (wn wc : Nat) (ra : Option Addr) (rn rc : Nat) (ca : Option Addr) (cn cc : Nat) (sh sh2 : Int) (xa : Option Addr) (xn xc : Nat) (ya : Option Addr) (yn yc : Nat) (bins : Int) (oa : Option Addr) (on oc : Nat) (mx : Int) (W : World) : Calls Try.prog 56 #[.agg #[.int .i64 3, .int .i64 sa, .int .i64 sb, .bool bar, .int .i64 ep, .int .i64 ef, .int .i64 kw, .int .i64 kh, .slice wa wn wc, .slice ra rn rc, .slice ca cn cc, .int .i64 sh, .int .i64 sh2, .slice xa xn xc, .slice ya yn yc, .int .i64 bins, .slice oa on oc, .int .i64 mx]] W fun e w' => e = .returned (.bool (sfOk 3 sb ep ef kw kh wn rn cn sh sh2 xn yn bins on mx)) ∧ Below W.heap.size W w' := by
  obtain ⟨B, hB⟩ : ∃ B, W.heap.size = B := ⟨_, rfl⟩
  have HI0 := hid (St.init hB)
  obtain ⟨eb, heb⟩ : ∃ x, decide (ep = 0 ∧ ef = 0) = x := ⟨_, rfl⟩
  have HEB := hid heb
  go_enter Try.func56, Try.ntmps56
  go_upto_region 1 with fail
  have H1258 := hid (show St B W [.cells B #[.int .i64 3, .int .i64 sa, .int .i64 sb, .bool bar, .int .i64 ep, .int .i64 ef, .int .i64 kw, .int .i64 kh, .slice wa wn wc, .slice ra rn rc, .slice ca cn cc, .int .i64 sh, .int .i64 sh2, .slice xa xn xc, .slice ya yn yc, .int .i64 bins, .slice oa on oc, .int .i64 mx] 33] [] (W.alloc (.cells #[.int .i64 3, .int .i64 sa, .int .i64 sb, .bool bar, .int .i64 ep, .int .i64 ef, .int .i64 kw, .int .i64 kh, .slice wa wn wc, .slice ra rn rc, .slice ca cn cc, .int .i64 sh, .int .i64 sh2, .slice xa xn xc, .slice ya yn yc, .int .i64 bins, .slice oa on oc, .int .i64 mx] 33)) from (HI0.out.alloc #[.int .i64 3, .int .i64 sa, .int .i64 sb, .bool bar, .int .i64 ep, .int .i64 ef, .int .i64 kw, .int .i64 kh, .slice wa wn wc, .slice ra rn rc, .slice ca cn cc, .int .i64 sh, .int .i64 sh2, .slice xa xn xc, .slice ya yn yc, .int .i64 bins, .slice oa on oc, .int .i64 mx] 33 hB))
  first | refine gen_code H1258.out ?_ | refine gen_list H1258.out ?_ | refine gen_calls H1258.out ?_
  intro w1259 hG
  clear H1258
  have H1258 := hid hG
  clear hG
  by_cases c1260 : (sb : Int) = (-1)
  · obtain ⟨c1260c, c1260d⟩ : (sb : Int) ≤ (-1) ∧ ((-1) : Int) ≤ sb := by omega
    have c1260a : ((sb : Int) == ((-1))) = true := by simpa using c1260
    have c1260b : ((sb : Int) != ((-1))) = false := by simpa using c1260
    have c1260h := hid c1260
    clear c1260
    have z1261 := H1258.out.cell 0 rfl 0 rfl
    have z1262 := H1258.out.cell 0 rfl 1 rfl
    have z1263 := H1258.out.cell 0 rfl 2 rfl
    have z1264 := H1258.out.cell 0 rfl 3 rfl
    have z1265 := H1258.out.cell 0 rfl 4 rfl
    have z1266 := H1258.out.cell 0 rfl 5 rfl
    have z1267 := H1258.out.cell 0 rfl 6 rfl
    have z1268 := H1258.out.cell 0 rfl 7 rfl
    have z1269 := H1258.out.cell 0 rfl 8 rfl
    have z1270 := H1258.out.cell 0 rfl 9 rfl
    have z1271 := H1258.out.cell 0 rfl 10 rfl
    have z1272 := H1258.out.cell 0 rfl 11 rfl
    have z1273 := H1258.out.cell 0 rfl 12 rfl
    have z1274 := H1258.out.cell 0 rfl 13 rfl
    have z1275 := H1258.out.cell 0 rfl 14 rfl
    have z1276 := H1258.out.cell 0 rfl 15 rfl
    have z1277 := H1258.out.cell 0 rfl 16 rfl
    have z1278 := H1258.out.cell 0 rfl 17 rfl
    go_upto_region 3 with fail
    clear z1261 z1262 z1263 z1264 z1265 z1266 z1267 z1268 z1269 z1270 z1271 z1272 z1273 z1274 z1275 z1276 z1277 z1278
    have H1279 := hid H1258.out.drew
    refine wp_region_held_drew (S := (fun w' => w'.cell? ⟨B, 0, none⟩ = some (.int .i64 3) ∧ w'.cell? ⟨B, 1, none⟩ = some (.int .i64 sa) ∧ w'.cell? ⟨B, 2, none⟩ = some (.int .i64 sb) ∧ w'.cell? ⟨B, 3, none⟩ = some (.bool bar) ∧ w'.cell? ⟨B, 4, none⟩ = some (.int .i64 ep) ∧ w'.cell? ⟨B, 5, none⟩ = some (.int .i64 ef) ∧ w'.cell? ⟨B, 6, none⟩ = some (.int .i64 kw) ∧ w'.cell? ⟨B, 7, none⟩ = some (.int .i64 kh) ∧ w'.cell? ⟨B, 8, none⟩ = some (.slice wa wn wc) ∧ w'.cell? ⟨B, 9, none⟩ = some (.slice ra rn rc) ∧ w'.cell? ⟨B, 10, none⟩ = some (.slice ca cn cc) ∧ w'.cell? ⟨B, 11, none⟩ = some (.int .i64 sh) ∧ w'.cell? ⟨B, 12, none⟩ = some (.int .i64 sh2) ∧ w'.cell? ⟨B, 13, none⟩ = some (.slice xa xn xc) ∧ w'.cell? ⟨B, 14, none⟩ = some (.slice ya yn yc) ∧ w'.cell? ⟨B, 15, none⟩ = some (.int .i64 bins) ∧ w'.cell? ⟨B, 16, none⟩ = some (.slice oa on oc) ∧ w'.cell? ⟨B, 17, none⟩ = some (.int .i64 mx))) (by kernel_rfl) ⟨H1279.out.cell 0 rfl 0 rfl, H1279.out.cell 0 rfl 1 rfl, H1279.out.cell 0 rfl 2 rfl, H1279.out.cell 0 rfl 3 rfl, H1279.out.cell 0 rfl 4 rfl, H1279.out.cell 0 rfl 5 rfl, H1279.out.cell 0 rfl 6 rfl, H1279.out.cell 0 rfl 7 rfl, H1279.out.cell 0 rfl 8 rfl, H1279.out.cell 0 rfl 9 rfl, H1279.out.cell 0 rfl 10 rfl, H1279.out.cell 0 rfl 11 rfl, H1279.out.cell 0 rfl 12 rfl, H1279.out.cell 0 rfl 13 rfl, H1279.out.cell 0 rfl 14 rfl, H1279.out.cell 0 rfl 15 rfl, H1279.out.cell 0 rfl 16 rfl, H1279.out.cell 0 rfl 17 rfl⟩ (fun hHeld => ?_)
    generalize w1259.drew = k1280 at *
    refine tkA 0 ?_
    try simp only [Act.put, p1, p2, p3, p4, p5, p6]
    refine tkA 1 ?_
    try simp only [Act.put, p1, p2, p3, p4, p5, p6]
    refine tkA 2 ?_
    try simp only [Act.put, p1, p2, p3, p4, p5, p6]
    refine tkA 3 ?_
    try simp only [Act.put, p1, p2, p3, p4, p5, p6]
    refine tkA 4 ?_
    try simp only [Act.put, p1, p2, p3, p4, p5, p6]
    refine tkA 5 ?_
    try simp only [Act.put, p1, p2, p3, p4, p5, p6]
    refine tkA 6 ?_
    try simp only [Act.put, p1, p2, p3, p4, p5, p6]
    refine tkA 7 ?_
    try simp only [Act.put, p1, p2, p3, p4, p5, p6]
    refine tkA 8 ?_
    try simp only [Act.put, p1, p2, p3, p4, p5, p6]
    refine tkA 9 ?_
    try simp only [Act.put, p1, p2, p3, p4, p5, p6]
    refine tkA 10 ?_
    try simp only [Act.put, p1, p2, p3, p4, p5, p6]
    refine tkA 11 ?_
    try simp only [Act.put, p1, p2, p3, p4, p5, p6]
    refine wpAnyH_done (by kernel_rfl) ?_ _
    try clear hHeld
    have z1281 := H1279.out.cell 0 rfl 0 rfl
    have z1282 := H1279.out.cell 0 rfl 1 rfl
    have z1283 := H1279.out.cell 0 rfl 2 rfl
    have z1284 := H1279.out.cell 0 rfl 3 rfl
    have z1285 := H1279.out.cell 0 rfl 4 rfl
    have z1286 := H1279.out.cell 0 rfl 5 rfl
    have z1287 := H1279.out.cell 0 rfl 6 rfl
    have z1288 := H1279.out.cell 0 rfl 7 rfl
    have z1289 := H1279.out.cell 0 rfl 8 rfl
    have z1290 := H1279.out.cell 0 rfl 9 rfl
    have z1291 := H1279.out.cell 0 rfl 10 rfl
    have z1292 := H1279.out.cell 0 rfl 11 rfl
    have z1293 := H1279.out.cell 0 rfl 12 rfl
    have z1294 := H1279.out.cell 0 rfl 13 rfl
    have z1295 := H1279.out.cell 0 rfl 14 rfl
    have z1296 := H1279.out.cell 0 rfl 15 rfl
    have z1297 := H1279.out.cell 0 rfl 16 rfl
    have z1298 := H1279.out.cell 0 rfl 17 rfl
    go_wp2_with fail
    clear z1281 z1282 z1283 z1284 z1285 z1286 z1287 z1288 z1289 z1290 z1291 z1292 z1293 z1294 z1295 z1296 z1297 z1298
    refine (redged_any _ _).mono ?_
    rintro e w1299 ⟨rfl, hsw⟩
    have hsw2 : k1280 = w1299 := by first | exact hsw | exact hsw.symm
    clear hsw
    subst hsw2
    rw [show edOk 3 = true from by decide]
    by_cases c1300 : (kw : Int) = 0
    · obtain ⟨c1300c, c1300d⟩ : (kw : Int) ≤ 0 ∧ (0 : Int) ≤ kw := by omega
      have c1300a : ((kw : Int) == (0)) = true := by simpa using c1300
      have c1300b : ((kw : Int) != (0)) = false := by simpa using c1300
      have c1300h := hid c1300
      clear c1300
      by_cases c1301 : (kh : Int) = 0
      · obtain ⟨c1301c, c1301d⟩ : (kh : Int) ≤ 0 ∧ (0 : Int) ≤ kh := by omega
        have c1301a : ((kh : Int) == (0)) = true := by simpa using c1301
        have c1301b : ((kh : Int) != (0)) = false := by simpa using c1301
        have c1301h := hid c1301
        clear c1301
        by_cases c1302 : (0 : Int) < wn
        · skip
          have z1303 := H1279.out.cell 0 rfl 0 rfl
          have z1304 := H1279.out.cell 0 rfl 1 rfl
          have z1305 := H1279.out.cell 0 rfl 2 rfl
          have z1306 := H1279.out.cell 0 rfl 3 rfl
          have z1307 := H1279.out.cell 0 rfl 4 rfl
          have z1308 := H1279.out.cell 0 rfl 5 rfl
          have z1309 := H1279.out.cell 0 rfl 6 rfl
          have z1310 := H1279.out.cell 0 rfl 7 rfl
          have z1311 := H1279.out.cell 0 rfl 8 rfl
          have z1312 := H1279.out.cell 0 rfl 9 rfl
          have z1313 := H1279.out.cell 0 rfl 10 rfl
          have z1314 := H1279.out.cell 0 rfl 11 rfl
          have z1315 := H1279.out.cell 0 rfl 12 rfl
          have z1316 := H1279.out.cell 0 rfl 13 rfl
          have z1317 := H1279.out.cell 0 rfl 14 rfl
          have z1318 := H1279.out.cell 0 rfl 15 rfl
          have z1319 := H1279.out.cell 0 rfl 16 rfl
          have z1320 := H1279.out.cell 0 rfl 17 rfl
          go_wp2_with fail
          clear z1303 z1304 z1305 z1306 z1307 z1308 z1309 z1310 z1311 z1312 z1313 z1314 z1315 z1316 z1317 z1318 z1319 z1320
          have he0 := HEB.out
          try simp only [decide_eq_true_eq, decide_eq_false_iff_not] at he0
          go_ret
          exact ⟨ret_b (by unfold sfOk; have := c1260h.out; have := c1300h.out; have := c1301h.out; exact (decide_eq_false (by omega)).symm), by first | exact H1279.out.below | exact H1279.out.below'⟩
        · skip
          by_cases c1321 : (0 : Int) < rn
          · skip
            have z1322 := H1279.out.cell 0 rfl 0 rfl
            have z1323 := H1279.out.cell 0 rfl 1 rfl
            have z1324 := H1279.out.cell 0 rfl 2 rfl
            have z1325 := H1279.out.cell 0 rfl 3 rfl
            have z1326 := H1279.out.cell 0 rfl 4 rfl
            have z1327 := H1279.out.cell 0 rfl 5 rfl
            have z1328 := H1279.out.cell 0 rfl 6 rfl
            have z1329 := H1279.out.cell 0 rfl 7 rfl
            have z1330 := H1279.out.cell 0 rfl 8 rfl
            have z1331 := H1279.out.cell 0 rfl 9 rfl
            have z1332 := H1279.out.cell 0 rfl 10 rfl
            have z1333 := H1279.out.cell 0 rfl 11 rfl
            have z1334 := H1279.out.cell 0 rfl 12 rfl
            have z1335 := H1279.out.cell 0 rfl 13 rfl
            have z1336 := H1279.out.cell 0 rfl 14 rfl
            have z1337 := H1279.out.cell 0 rfl 15 rfl
            have z1338 := H1279.out.cell 0 rfl 16 rfl
            have z1339 := H1279.out.cell 0 rfl 17 rfl
            go_wp2_with fail
            clear z1322 z1323 z1324 z1325 z1326 z1327 z1328 z1329 z1330 z1331 z1332 z1333 z1334 z1335 z1336 z1337 z1338 z1339
            have he0 := HEB.out
            try simp only [decide_eq_true_eq, decide_eq_false_iff_not] at he0
            go_ret
            exact ⟨ret_b (by unfold sfOk; have := c1260h.out; have := c1300h.out; have := c1301h.out; exact (decide_eq_false (by omega)).symm), by first | exact H1279.out.below | exact H1279.out.below'⟩
          · skip
            by_cases c1340 : (0 : Int) < cn
            · skip
              have z1341 := H1279.out.cell 0 rfl 0 rfl
              have z1342 := H1279.out.cell 0 rfl 1 rfl
              have z1343 := H1279.out.cell 0 rfl 2 rfl
              have z1344 := H1279.out.cell 0 rfl 3 rfl
              have z1345 := H1279.out.cell 0 rfl 4 rfl
              have z1346 := H1279.out.cell 0 rfl 5 rfl
              have z1347 := H1279.out.cell 0 rfl 6 rfl
              have z1348 := H1279.out.cell 0 rfl 7 rfl
              have z1349 := H1279.out.cell 0 rfl 8 rfl
              have z1350 := H1279.out.cell 0 rfl 9 rfl
              have z1351 := H1279.out.cell 0 rfl 10 rfl
              have z1352 := H1279.out.cell 0 rfl 11 rfl
              have z1353 := H1279.out.cell 0 rfl 12 rfl
              have z1354 := H1279.out.cell 0 rfl 13 rfl
              have z1355 := H1279.out.cell 0 rfl 14 rfl
              have z1356 := H1279.out.cell 0 rfl 15 rfl
              have z1357 := H1279.out.cell 0 rfl 16 rfl
              have z1358 := H1279.out.cell 0 rfl 17 rfl
              go_wp2_with fail
              clear z1341 z1342 z1343 z1344 z1345 z1346 z1347 z1348 z1349 z1350 z1351 z1352 z1353 z1354 z1355 z1356 z1357 z1358
              have he0 := HEB.out
              try simp only [decide_eq_true_eq, decide_eq_false_iff_not] at he0
              go_ret
              exact ⟨ret_b (by unfold sfOk; have := c1260h.out; have := c1300h.out; have := c1301h.out; exact (decide_eq_false (by omega)).symm), by first | exact H1279.out.below | exact H1279.out.below'⟩
            · skip
              have z1359 := H1279.out.cell 0 rfl 0 rfl
              have z1360 := H1279.out.cell 0 rfl 1 rfl
              have z1361 := H1279.out.cell 0 rfl 2 rfl
              have z1362 := H1279.out.cell 0 rfl 3 rfl
              have z1363 := H1279.out.cell 0 rfl 4 rfl
              have z1364 := H1279.out.cell 0 rfl 5 rfl
              have z1365 := H1279.out.cell 0 rfl 6 rfl
              have z1366 := H1279.out.cell 0 rfl 7 rfl
              have z1367 := H1279.out.cell 0 rfl 8 rfl
              have z1368 := H1279.out.cell 0 rfl 9 rfl
              have z1369 := H1279.out.cell 0 rfl 10 rfl
              have z1370 := H1279.out.cell 0 rfl 11 rfl
              have z1371 := H1279.out.cell 0 rfl 12 rfl
              have z1372 := H1279.out.cell 0 rfl 13 rfl
              have z1373 := H1279.out.cell 0 rfl 14 rfl
              have z1374 := H1279.out.cell 0 rfl 15 rfl
              have z1375 := H1279.out.cell 0 rfl 16 rfl
              have z1376 := H1279.out.cell 0 rfl 17 rfl
              go_wp2_with fail
              clear z1359 z1360 z1361 z1362 z1363 z1364 z1365 z1366 z1367 z1368 z1369 z1370 z1371 z1372 z1373 z1374 z1375 z1376
              refine (redged_any _ _).mono ?_
              rintro e w1377 ⟨rfl, hsw⟩
              have hsw2 : k1280 = w1377 := by first | exact hsw | exact hsw.symm
              clear hsw
              subst hsw2
              rw [show edOk 3 = true from by decide]
              by_cases c1378 : (bins : Int) = 0
              · obtain ⟨c1378c, c1378d⟩ : (bins : Int) ≤ 0 ∧ (0 : Int) ≤ bins := by omega
                have c1378a : ((bins : Int) == (0)) = true := by simpa using c1378
                have c1378b : ((bins : Int) != (0)) = false := by simpa using c1378
                have c1378h := hid c1378
                clear c1378
                by_cases c1379 : (0 : Int) < on
                · skip
                  have z1380 := H1279.out.cell 0 rfl 0 rfl
                  have z1381 := H1279.out.cell 0 rfl 1 rfl
                  have z1382 := H1279.out.cell 0 rfl 2 rfl
                  have z1383 := H1279.out.cell 0 rfl 3 rfl
                  have z1384 := H1279.out.cell 0 rfl 4 rfl
                  have z1385 := H1279.out.cell 0 rfl 5 rfl
                  have z1386 := H1279.out.cell 0 rfl 6 rfl
                  have z1387 := H1279.out.cell 0 rfl 7 rfl
                  have z1388 := H1279.out.cell 0 rfl 8 rfl
                  have z1389 := H1279.out.cell 0 rfl 9 rfl
                  have z1390 := H1279.out.cell 0 rfl 10 rfl
                  have z1391 := H1279.out.cell 0 rfl 11 rfl
                  have z1392 := H1279.out.cell 0 rfl 12 rfl
                  have z1393 := H1279.out.cell 0 rfl 13 rfl
                  have z1394 := H1279.out.cell 0 rfl 14 rfl
                  have z1395 := H1279.out.cell 0 rfl 15 rfl
                  have z1396 := H1279.out.cell 0 rfl 16 rfl
                  have z1397 := H1279.out.cell 0 rfl 17 rfl
                  go_wp2_with fail
                  clear z1380 z1381 z1382 z1383 z1384 z1385 z1386 z1387 z1388 z1389 z1390 z1391 z1392 z1393 z1394 z1395 z1396 z1397
                  have he0 := HEB.out
                  try simp only [decide_eq_true_eq, decide_eq_false_iff_not] at he0
                  go_ret
                  exact ⟨ret_b (by unfold sfOk; have := c1260h.out; have := c1300h.out; have := c1301h.out; have := c1378h.out; exact (decide_eq_false (by omega)).symm), by first | exact H1279.out.below | exact H1279.out.below'⟩
                · skip
                  have z1398 := H1279.out.cell 0 rfl 0 rfl
                  have z1399 := H1279.out.cell 0 rfl 1 rfl
                  have z1400 := H1279.out.cell 0 rfl 2 rfl
                  have z1401 := H1279.out.cell 0 rfl 3 rfl
                  have z1402 := H1279.out.cell 0 rfl 4 rfl
                  have z1403 := H1279.out.cell 0 rfl 5 rfl
                  have z1404 := H1279.out.cell 0 rfl 6 rfl
                  have z1405 := H1279.out.cell 0 rfl 7 rfl
                  have z1406 := H1279.out.cell 0 rfl 8 rfl
                  have z1407 := H1279.out.cell 0 rfl 9 rfl
                  have z1408 := H1279.out.cell 0 rfl 10 rfl
                  have z1409 := H1279.out.cell 0 rfl 11 rfl
                  have z1410 := H1279.out.cell 0 rfl 12 rfl
                  have z1411 := H1279.out.cell 0 rfl 13 rfl
                  have z1412 := H1279.out.cell 0 rfl 14 rfl
                  have z1413 := H1279.out.cell 0 rfl 15 rfl
                  have z1414 := H1279.out.cell 0 rfl 16 rfl
                  have z1415 := H1279.out.cell 0 rfl 17 rfl
                  go_wp2_with fail
                  clear z1398 z1399 z1400 z1401 z1402 z1403 z1404 z1405 z1406 z1407 z1408 z1409 z1410 z1411 z1412 z1413 z1414 z1415
                  have he0 := HEB.out
                  try simp only [decide_eq_true_eq, decide_eq_false_iff_not] at he0
                  go_ret
                  exact ⟨ret_b (by unfold sfOk; have := c1260h.out; have := c1300h.out; have := c1301h.out; have := c1378h.out; exact (decide_eq_true (by omega)).symm), by first | exact H1279.out.below | exact H1279.out.below'⟩
              · have c1378a : ((bins : Int) == (0)) = false := by simpa using c1378
                have c1378b : ((bins : Int) != (0)) = true := by simpa using c1378
                have c1378h := hid c1378
                clear c1378
                have z1416 := H1279.out.cell 0 rfl 0 rfl
                have z1417 := H1279.out.cell 0 rfl 1 rfl
                have z1418 := H1279.out.cell 0 rfl 2 rfl
                have z1419 := H1279.out.cell 0 rfl 3 rfl
                have z1420 := H1279.out.cell 0 rfl 4 rfl
                have z1421 := H1279.out.cell 0 rfl 5 rfl
                have z1422 := H1279.out.cell 0 rfl 6 rfl
                have z1423 := H1279.out.cell 0 rfl 7 rfl
                have z1424 := H1279.out.cell 0 rfl 8 rfl
                have z1425 := H1279.out.cell 0 rfl 9 rfl
                have z1426 := H1279.out.cell 0 rfl 10 rfl
                have z1427 := H1279.out.cell 0 rfl 11 rfl
                have z1428 := H1279.out.cell 0 rfl 12 rfl
                have z1429 := H1279.out.cell 0 rfl 13 rfl
                have z1430 := H1279.out.cell 0 rfl 14 rfl
                have z1431 := H1279.out.cell 0 rfl 15 rfl
                have z1432 := H1279.out.cell 0 rfl 16 rfl
                have z1433 := H1279.out.cell 0 rfl 17 rfl
                go_wp2_with fail
                clear z1416 z1417 z1418 z1419 z1420 z1421 z1422 z1423 z1424 z1425 z1426 z1427 z1428 z1429 z1430 z1431 z1432 z1433
                have he0 := HEB.out
                try simp only [decide_eq_true_eq, decide_eq_false_iff_not] at he0
                go_ret
                exact ⟨ret_b (by unfold sfOk; have := c1260h.out; have := c1300h.out; have := c1301h.out; have := c1378h.out; exact (decide_eq_false (by omega)).symm), by first | exact H1279.out.below | exact H1279.out.below'⟩
      · have c1301a : ((kh : Int) == (0)) = false := by simpa using c1301
        have c1301b : ((kh : Int) != (0)) = true := by simpa using c1301
        have c1301h := hid c1301
        clear c1301
        have z1434 := H1279.out.cell 0 rfl 0 rfl
        have z1435 := H1279.out.cell 0 rfl 1 rfl
        have z1436 := H1279.out.cell 0 rfl 2 rfl
        have z1437 := H1279.out.cell 0 rfl 3 rfl
        have z1438 := H1279.out.cell 0 rfl 4 rfl
        have z1439 := H1279.out.cell 0 rfl 5 rfl
        have z1440 := H1279.out.cell 0 rfl 6 rfl
        have z1441 := H1279.out.cell 0 rfl 7 rfl
        have z1442 := H1279.out.cell 0 rfl 8 rfl
        have z1443 := H1279.out.cell 0 rfl 9 rfl
        have z1444 := H1279.out.cell 0 rfl 10 rfl
        have z1445 := H1279.out.cell 0 rfl 11 rfl
        have z1446 := H1279.out.cell 0 rfl 12 rfl
        have z1447 := H1279.out.cell 0 rfl 13 rfl
        have z1448 := H1279.out.cell 0 rfl 14 rfl
        have z1449 := H1279.out.cell 0 rfl 15 rfl
        have z1450 := H1279.out.cell 0 rfl 16 rfl
        have z1451 := H1279.out.cell 0 rfl 17 rfl
        go_wp2_with fail
        clear z1434 z1435 z1436 z1437 z1438 z1439 z1440 z1441 z1442 z1443 z1444 z1445 z1446 z1447 z1448 z1449 z1450 z1451
        have he0 := HEB.out
        try simp only [decide_eq_true_eq, decide_eq_false_iff_not] at he0
        go_ret
        exact ⟨ret_b (by unfold sfOk; have := c1260h.out; have := c1300h.out; have := c1301h.out; exact (decide_eq_false (by omega)).symm), by first | exact H1279.out.below | exact H1279.out.below'⟩
    · have c1300a : ((kw : Int) == (0)) = false := by simpa using c1300
      have c1300b : ((kw : Int) != (0)) = true := by simpa using c1300
      have c1300h := hid c1300
      clear c1300
      have z1452 := H1279.out.cell 0 rfl 0 rfl
      have z1453 := H1279.out.cell 0 rfl 1 rfl
      have z1454 := H1279.out.cell 0 rfl 2 rfl
      have z1455 := H1279.out.cell 0 rfl 3 rfl
      have z1456 := H1279.out.cell 0 rfl 4 rfl
      have z1457 := H1279.out.cell 0 rfl 5 rfl
      have z1458 := H1279.out.cell 0 rfl 6 rfl
      have z1459 := H1279.out.cell 0 rfl 7 rfl
      have z1460 := H1279.out.cell 0 rfl 8 rfl
      have z1461 := H1279.out.cell 0 rfl 9 rfl
      have z1462 := H1279.out.cell 0 rfl 10 rfl
      have z1463 := H1279.out.cell 0 rfl 11 rfl
      have z1464 := H1279.out.cell 0 rfl 12 rfl
      have z1465 := H1279.out.cell 0 rfl 13 rfl
      have z1466 := H1279.out.cell 0 rfl 14 rfl
      have z1467 := H1279.out.cell 0 rfl 15 rfl
      have z1468 := H1279.out.cell 0 rfl 16 rfl
      have z1469 := H1279.out.cell 0 rfl 17 rfl
      go_wp2_with fail
      clear z1452 z1453 z1454 z1455 z1456 z1457 z1458 z1459 z1460 z1461 z1462 z1463 z1464 z1465 z1466 z1467 z1468 z1469
      have he0 := HEB.out
      try simp only [decide_eq_true_eq, decide_eq_false_iff_not] at he0
      go_ret
      exact ⟨ret_b (by unfold sfOk; have := c1260h.out; have := c1300h.out; exact (decide_eq_false (by omega)).symm), by first | exact H1279.out.below | exact H1279.out.below'⟩
  · have c1260a : ((sb : Int) == ((-1))) = false := by simpa using c1260
    have c1260b : ((sb : Int) != ((-1))) = true := by simpa using c1260
    have c1260h := hid c1260
    clear c1260
    have z1470 := H1258.out.cell 0 rfl 0 rfl
    have z1471 := H1258.out.cell 0 rfl 1 rfl
    have z1472 := H1258.out.cell 0 rfl 2 rfl
    have z1473 := H1258.out.cell 0 rfl 3 rfl
    have z1474 := H1258.out.cell 0 rfl 4 rfl
    have z1475 := H1258.out.cell 0 rfl 5 rfl
    have z1476 := H1258.out.cell 0 rfl 6 rfl
    have z1477 := H1258.out.cell 0 rfl 7 rfl
    have z1478 := H1258.out.cell 0 rfl 8 rfl
    have z1479 := H1258.out.cell 0 rfl 9 rfl
    have z1480 := H1258.out.cell 0 rfl 10 rfl
    have z1481 := H1258.out.cell 0 rfl 11 rfl
    have z1482 := H1258.out.cell 0 rfl 12 rfl
    have z1483 := H1258.out.cell 0 rfl 13 rfl
    have z1484 := H1258.out.cell 0 rfl 14 rfl
    have z1485 := H1258.out.cell 0 rfl 15 rfl
    have z1486 := H1258.out.cell 0 rfl 16 rfl
    have z1487 := H1258.out.cell 0 rfl 17 rfl
    go_wp2_with fail
    clear z1470 z1471 z1472 z1473 z1474 z1475 z1476 z1477 z1478 z1479 z1480 z1481 z1482 z1483 z1484 z1485 z1486 z1487
    have he0 := HEB.out
    try simp only [decide_eq_true_eq, decide_eq_false_iff_not] at he0
    go_ret
    exact ⟨ret_b (by unfold sfOk; have := c1260h.out; exact (decide_eq_false (by omega)).symm), by first | exact H1258.out.below | exact H1258.out.below'⟩

set_option maxRecDepth 100000 in
set_option maxHeartbeats 6400000 in
theorem rsfields_4 (sa sb : Int) (bar : Bool) (ep ef kw kh : Int) (wa : Option Addr) (wn wc : Nat) (ra : Option Addr) (rn rc : Nat) (ca : Option Addr) (cn cc : Nat) (sh sh2 : Int) (xa : Option Addr) (xn xc : Nat) (ya : Option Addr) (yn yc : Nat) (bins : Int) (oa : Option Addr) (on oc : Nat) (mx : Int) (W : World) : Calls Try.prog 56 #[.agg #[.int .i64 4, .int .i64 sa, .int .i64 sb, .bool bar, .int .i64 ep, .int .i64 ef, .int .i64 kw, .int .i64 kh, .slice wa wn wc, .slice ra rn rc, .slice ca cn cc, .int .i64 sh, .int .i64 sh2, .slice xa xn xc, .slice ya yn yc, .int .i64 bins, .slice oa on oc, .int .i64 mx]] W fun e w' => e = .returned (.bool (sfOk 4 sb ep ef kw kh wn rn cn sh sh2 xn yn bins on mx)) ∧ Below W.heap.size W w' := by
  obtain ⟨B, hB⟩ : ∃ B, W.heap.size = B := ⟨_, rfl⟩
  have HI0 := hid (St.init hB)
  obtain ⟨eb, heb⟩ : ∃ x, decide (ep = 0 ∧ ef = 0) = x := ⟨_, rfl⟩
  have HEB := hid heb
  go_enter Try.func56, Try.ntmps56
  go_upto_region 1 with fail
  have H1488 := hid (show St B W [.cells B #[.int .i64 4, .int .i64 sa, .int .i64 sb, .bool bar, .int .i64 ep, .int .i64 ef, .int .i64 kw, .int .i64 kh, .slice wa wn wc, .slice ra rn rc, .slice ca cn cc, .int .i64 sh, .int .i64 sh2, .slice xa xn xc, .slice ya yn yc, .int .i64 bins, .slice oa on oc, .int .i64 mx] 33] [] (W.alloc (.cells #[.int .i64 4, .int .i64 sa, .int .i64 sb, .bool bar, .int .i64 ep, .int .i64 ef, .int .i64 kw, .int .i64 kh, .slice wa wn wc, .slice ra rn rc, .slice ca cn cc, .int .i64 sh, .int .i64 sh2, .slice xa xn xc, .slice ya yn yc, .int .i64 bins, .slice oa on oc, .int .i64 mx] 33)) from (HI0.out.alloc #[.int .i64 4, .int .i64 sa, .int .i64 sb, .bool bar, .int .i64 ep, .int .i64 ef, .int .i64 kw, .int .i64 kh, .slice wa wn wc, .slice ra rn rc, .slice ca cn cc, .int .i64 sh, .int .i64 sh2, .slice xa xn xc, .slice ya yn yc, .int .i64 bins, .slice oa on oc, .int .i64 mx] 33 hB))
  first | refine gen_code H1488.out ?_ | refine gen_list H1488.out ?_ | refine gen_calls H1488.out ?_
  intro w1489 hG
  clear H1488
  have H1488 := hid hG
  clear hG
  by_cases c1490 : (sb : Int) = (-1)
  · obtain ⟨c1490c, c1490d⟩ : (sb : Int) ≤ (-1) ∧ ((-1) : Int) ≤ sb := by omega
    have c1490a : ((sb : Int) == ((-1))) = true := by simpa using c1490
    have c1490b : ((sb : Int) != ((-1))) = false := by simpa using c1490
    have c1490h := hid c1490
    clear c1490
    have z1491 := H1488.out.cell 0 rfl 0 rfl
    have z1492 := H1488.out.cell 0 rfl 1 rfl
    have z1493 := H1488.out.cell 0 rfl 2 rfl
    have z1494 := H1488.out.cell 0 rfl 3 rfl
    have z1495 := H1488.out.cell 0 rfl 4 rfl
    have z1496 := H1488.out.cell 0 rfl 5 rfl
    have z1497 := H1488.out.cell 0 rfl 6 rfl
    have z1498 := H1488.out.cell 0 rfl 7 rfl
    have z1499 := H1488.out.cell 0 rfl 8 rfl
    have z1500 := H1488.out.cell 0 rfl 9 rfl
    have z1501 := H1488.out.cell 0 rfl 10 rfl
    have z1502 := H1488.out.cell 0 rfl 11 rfl
    have z1503 := H1488.out.cell 0 rfl 12 rfl
    have z1504 := H1488.out.cell 0 rfl 13 rfl
    have z1505 := H1488.out.cell 0 rfl 14 rfl
    have z1506 := H1488.out.cell 0 rfl 15 rfl
    have z1507 := H1488.out.cell 0 rfl 16 rfl
    have z1508 := H1488.out.cell 0 rfl 17 rfl
    go_upto_region 3 with fail
    clear z1491 z1492 z1493 z1494 z1495 z1496 z1497 z1498 z1499 z1500 z1501 z1502 z1503 z1504 z1505 z1506 z1507 z1508
    have H1509 := hid H1488.out.drew
    refine wp_region_held_drew (S := (fun w' => w'.cell? ⟨B, 0, none⟩ = some (.int .i64 4) ∧ w'.cell? ⟨B, 1, none⟩ = some (.int .i64 sa) ∧ w'.cell? ⟨B, 2, none⟩ = some (.int .i64 sb) ∧ w'.cell? ⟨B, 3, none⟩ = some (.bool bar) ∧ w'.cell? ⟨B, 4, none⟩ = some (.int .i64 ep) ∧ w'.cell? ⟨B, 5, none⟩ = some (.int .i64 ef) ∧ w'.cell? ⟨B, 6, none⟩ = some (.int .i64 kw) ∧ w'.cell? ⟨B, 7, none⟩ = some (.int .i64 kh) ∧ w'.cell? ⟨B, 8, none⟩ = some (.slice wa wn wc) ∧ w'.cell? ⟨B, 9, none⟩ = some (.slice ra rn rc) ∧ w'.cell? ⟨B, 10, none⟩ = some (.slice ca cn cc) ∧ w'.cell? ⟨B, 11, none⟩ = some (.int .i64 sh) ∧ w'.cell? ⟨B, 12, none⟩ = some (.int .i64 sh2) ∧ w'.cell? ⟨B, 13, none⟩ = some (.slice xa xn xc) ∧ w'.cell? ⟨B, 14, none⟩ = some (.slice ya yn yc) ∧ w'.cell? ⟨B, 15, none⟩ = some (.int .i64 bins) ∧ w'.cell? ⟨B, 16, none⟩ = some (.slice oa on oc) ∧ w'.cell? ⟨B, 17, none⟩ = some (.int .i64 mx))) (by kernel_rfl) ⟨H1509.out.cell 0 rfl 0 rfl, H1509.out.cell 0 rfl 1 rfl, H1509.out.cell 0 rfl 2 rfl, H1509.out.cell 0 rfl 3 rfl, H1509.out.cell 0 rfl 4 rfl, H1509.out.cell 0 rfl 5 rfl, H1509.out.cell 0 rfl 6 rfl, H1509.out.cell 0 rfl 7 rfl, H1509.out.cell 0 rfl 8 rfl, H1509.out.cell 0 rfl 9 rfl, H1509.out.cell 0 rfl 10 rfl, H1509.out.cell 0 rfl 11 rfl, H1509.out.cell 0 rfl 12 rfl, H1509.out.cell 0 rfl 13 rfl, H1509.out.cell 0 rfl 14 rfl, H1509.out.cell 0 rfl 15 rfl, H1509.out.cell 0 rfl 16 rfl, H1509.out.cell 0 rfl 17 rfl⟩ (fun hHeld => ?_)
    generalize w1489.drew = k1510 at *
    refine tkA 0 ?_
    try simp only [Act.put, p1, p2, p3, p4, p5, p6]
    refine tkA 1 ?_
    try simp only [Act.put, p1, p2, p3, p4, p5, p6]
    refine tkA 2 ?_
    try simp only [Act.put, p1, p2, p3, p4, p5, p6]
    refine tkA 3 ?_
    try simp only [Act.put, p1, p2, p3, p4, p5, p6]
    refine tkA 4 ?_
    try simp only [Act.put, p1, p2, p3, p4, p5, p6]
    refine tkA 5 ?_
    try simp only [Act.put, p1, p2, p3, p4, p5, p6]
    refine tkA 6 ?_
    try simp only [Act.put, p1, p2, p3, p4, p5, p6]
    refine tkA 7 ?_
    try simp only [Act.put, p1, p2, p3, p4, p5, p6]
    refine tkA 8 ?_
    try simp only [Act.put, p1, p2, p3, p4, p5, p6]
    refine tkA 9 ?_
    try simp only [Act.put, p1, p2, p3, p4, p5, p6]
    refine tkA 10 ?_
    try simp only [Act.put, p1, p2, p3, p4, p5, p6]
    refine tkA 11 ?_
    try simp only [Act.put, p1, p2, p3, p4, p5, p6]
    refine wpAnyH_done (by kernel_rfl) ?_ _
    try clear hHeld
    have z1511 := H1509.out.cell 0 rfl 0 rfl
    have z1512 := H1509.out.cell 0 rfl 1 rfl
    have z1513 := H1509.out.cell 0 rfl 2 rfl
    have z1514 := H1509.out.cell 0 rfl 3 rfl
    have z1515 := H1509.out.cell 0 rfl 4 rfl
    have z1516 := H1509.out.cell 0 rfl 5 rfl
    have z1517 := H1509.out.cell 0 rfl 6 rfl
    have z1518 := H1509.out.cell 0 rfl 7 rfl
    have z1519 := H1509.out.cell 0 rfl 8 rfl
    have z1520 := H1509.out.cell 0 rfl 9 rfl
    have z1521 := H1509.out.cell 0 rfl 10 rfl
    have z1522 := H1509.out.cell 0 rfl 11 rfl
    have z1523 := H1509.out.cell 0 rfl 12 rfl
    have z1524 := H1509.out.cell 0 rfl 13 rfl
    have z1525 := H1509.out.cell 0 rfl 14 rfl
    have z1526 := H1509.out.cell 0 rfl 15 rfl
    have z1527 := H1509.out.cell 0 rfl 16 rfl
    have z1528 := H1509.out.cell 0 rfl 17 rfl
    go_wp2_with fail
    clear z1511 z1512 z1513 z1514 z1515 z1516 z1517 z1518 z1519 z1520 z1521 z1522 z1523 z1524 z1525 z1526 z1527 z1528
    refine (redged_any _ _).mono ?_
    rintro e w1529 ⟨rfl, hsw⟩
    have hsw2 : k1510 = w1529 := by first | exact hsw | exact hsw.symm
    clear hsw
    subst hsw2
    rw [show edOk 4 = false from by decide]
    cases eb with
    | true =>
      by_cases c1530 : (kw : Int) = 0
      · obtain ⟨c1530c, c1530d⟩ : (kw : Int) ≤ 0 ∧ (0 : Int) ≤ kw := by omega
        have c1530a : ((kw : Int) == (0)) = true := by simpa using c1530
        have c1530b : ((kw : Int) != (0)) = false := by simpa using c1530
        have c1530h := hid c1530
        clear c1530
        by_cases c1531 : (kh : Int) = 0
        · obtain ⟨c1531c, c1531d⟩ : (kh : Int) ≤ 0 ∧ (0 : Int) ≤ kh := by omega
          have c1531a : ((kh : Int) == (0)) = true := by simpa using c1531
          have c1531b : ((kh : Int) != (0)) = false := by simpa using c1531
          have c1531h := hid c1531
          clear c1531
          by_cases c1532 : (0 : Int) < wn
          · skip
            have z1533 := H1509.out.cell 0 rfl 0 rfl
            have z1534 := H1509.out.cell 0 rfl 1 rfl
            have z1535 := H1509.out.cell 0 rfl 2 rfl
            have z1536 := H1509.out.cell 0 rfl 3 rfl
            have z1537 := H1509.out.cell 0 rfl 4 rfl
            have z1538 := H1509.out.cell 0 rfl 5 rfl
            have z1539 := H1509.out.cell 0 rfl 6 rfl
            have z1540 := H1509.out.cell 0 rfl 7 rfl
            have z1541 := H1509.out.cell 0 rfl 8 rfl
            have z1542 := H1509.out.cell 0 rfl 9 rfl
            have z1543 := H1509.out.cell 0 rfl 10 rfl
            have z1544 := H1509.out.cell 0 rfl 11 rfl
            have z1545 := H1509.out.cell 0 rfl 12 rfl
            have z1546 := H1509.out.cell 0 rfl 13 rfl
            have z1547 := H1509.out.cell 0 rfl 14 rfl
            have z1548 := H1509.out.cell 0 rfl 15 rfl
            have z1549 := H1509.out.cell 0 rfl 16 rfl
            have z1550 := H1509.out.cell 0 rfl 17 rfl
            go_wp2_with fail
            clear z1533 z1534 z1535 z1536 z1537 z1538 z1539 z1540 z1541 z1542 z1543 z1544 z1545 z1546 z1547 z1548 z1549 z1550
            have he0 := HEB.out
            try simp only [decide_eq_true_eq, decide_eq_false_iff_not] at he0
            go_ret
            exact ⟨ret_b (by unfold sfOk; have := c1490h.out; have := c1530h.out; have := c1531h.out; exact (decide_eq_false (by omega)).symm), by first | exact H1509.out.below | exact H1509.out.below'⟩
          · skip
            by_cases c1551 : (0 : Int) < rn
            · skip
              have z1552 := H1509.out.cell 0 rfl 0 rfl
              have z1553 := H1509.out.cell 0 rfl 1 rfl
              have z1554 := H1509.out.cell 0 rfl 2 rfl
              have z1555 := H1509.out.cell 0 rfl 3 rfl
              have z1556 := H1509.out.cell 0 rfl 4 rfl
              have z1557 := H1509.out.cell 0 rfl 5 rfl
              have z1558 := H1509.out.cell 0 rfl 6 rfl
              have z1559 := H1509.out.cell 0 rfl 7 rfl
              have z1560 := H1509.out.cell 0 rfl 8 rfl
              have z1561 := H1509.out.cell 0 rfl 9 rfl
              have z1562 := H1509.out.cell 0 rfl 10 rfl
              have z1563 := H1509.out.cell 0 rfl 11 rfl
              have z1564 := H1509.out.cell 0 rfl 12 rfl
              have z1565 := H1509.out.cell 0 rfl 13 rfl
              have z1566 := H1509.out.cell 0 rfl 14 rfl
              have z1567 := H1509.out.cell 0 rfl 15 rfl
              have z1568 := H1509.out.cell 0 rfl 16 rfl
              have z1569 := H1509.out.cell 0 rfl 17 rfl
              go_wp2_with fail
              clear z1552 z1553 z1554 z1555 z1556 z1557 z1558 z1559 z1560 z1561 z1562 z1563 z1564 z1565 z1566 z1567 z1568 z1569
              have he0 := HEB.out
              try simp only [decide_eq_true_eq, decide_eq_false_iff_not] at he0
              go_ret
              exact ⟨ret_b (by unfold sfOk; have := c1490h.out; have := c1530h.out; have := c1531h.out; exact (decide_eq_false (by omega)).symm), by first | exact H1509.out.below | exact H1509.out.below'⟩
            · skip
              by_cases c1570 : (0 : Int) < cn
              · skip
                have z1571 := H1509.out.cell 0 rfl 0 rfl
                have z1572 := H1509.out.cell 0 rfl 1 rfl
                have z1573 := H1509.out.cell 0 rfl 2 rfl
                have z1574 := H1509.out.cell 0 rfl 3 rfl
                have z1575 := H1509.out.cell 0 rfl 4 rfl
                have z1576 := H1509.out.cell 0 rfl 5 rfl
                have z1577 := H1509.out.cell 0 rfl 6 rfl
                have z1578 := H1509.out.cell 0 rfl 7 rfl
                have z1579 := H1509.out.cell 0 rfl 8 rfl
                have z1580 := H1509.out.cell 0 rfl 9 rfl
                have z1581 := H1509.out.cell 0 rfl 10 rfl
                have z1582 := H1509.out.cell 0 rfl 11 rfl
                have z1583 := H1509.out.cell 0 rfl 12 rfl
                have z1584 := H1509.out.cell 0 rfl 13 rfl
                have z1585 := H1509.out.cell 0 rfl 14 rfl
                have z1586 := H1509.out.cell 0 rfl 15 rfl
                have z1587 := H1509.out.cell 0 rfl 16 rfl
                have z1588 := H1509.out.cell 0 rfl 17 rfl
                go_wp2_with fail
                clear z1571 z1572 z1573 z1574 z1575 z1576 z1577 z1578 z1579 z1580 z1581 z1582 z1583 z1584 z1585 z1586 z1587 z1588
                have he0 := HEB.out
                try simp only [decide_eq_true_eq, decide_eq_false_iff_not] at he0
                go_ret
                exact ⟨ret_b (by unfold sfOk; have := c1490h.out; have := c1530h.out; have := c1531h.out; exact (decide_eq_false (by omega)).symm), by first | exact H1509.out.below | exact H1509.out.below'⟩
              · skip
                by_cases c1589 : (0 : Int) < xn
                · skip
                  have z1590 := H1509.out.cell 0 rfl 0 rfl
                  have z1591 := H1509.out.cell 0 rfl 1 rfl
                  have z1592 := H1509.out.cell 0 rfl 2 rfl
                  have z1593 := H1509.out.cell 0 rfl 3 rfl
                  have z1594 := H1509.out.cell 0 rfl 4 rfl
                  have z1595 := H1509.out.cell 0 rfl 5 rfl
                  have z1596 := H1509.out.cell 0 rfl 6 rfl
                  have z1597 := H1509.out.cell 0 rfl 7 rfl
                  have z1598 := H1509.out.cell 0 rfl 8 rfl
                  have z1599 := H1509.out.cell 0 rfl 9 rfl
                  have z1600 := H1509.out.cell 0 rfl 10 rfl
                  have z1601 := H1509.out.cell 0 rfl 11 rfl
                  have z1602 := H1509.out.cell 0 rfl 12 rfl
                  have z1603 := H1509.out.cell 0 rfl 13 rfl
                  have z1604 := H1509.out.cell 0 rfl 14 rfl
                  have z1605 := H1509.out.cell 0 rfl 15 rfl
                  have z1606 := H1509.out.cell 0 rfl 16 rfl
                  have z1607 := H1509.out.cell 0 rfl 17 rfl
                  go_wp2_with fail
                  clear z1590 z1591 z1592 z1593 z1594 z1595 z1596 z1597 z1598 z1599 z1600 z1601 z1602 z1603 z1604 z1605 z1606 z1607
                  have he0 := HEB.out
                  try simp only [decide_eq_true_eq, decide_eq_false_iff_not] at he0
                  go_ret
                  exact ⟨ret_b (by unfold sfOk; have := c1490h.out; have := c1530h.out; have := c1531h.out; exact (decide_eq_false (by omega)).symm), by first | exact H1509.out.below | exact H1509.out.below'⟩
                · skip
                  by_cases c1608 : (0 : Int) < yn
                  · skip
                    have z1609 := H1509.out.cell 0 rfl 0 rfl
                    have z1610 := H1509.out.cell 0 rfl 1 rfl
                    have z1611 := H1509.out.cell 0 rfl 2 rfl
                    have z1612 := H1509.out.cell 0 rfl 3 rfl
                    have z1613 := H1509.out.cell 0 rfl 4 rfl
                    have z1614 := H1509.out.cell 0 rfl 5 rfl
                    have z1615 := H1509.out.cell 0 rfl 6 rfl
                    have z1616 := H1509.out.cell 0 rfl 7 rfl
                    have z1617 := H1509.out.cell 0 rfl 8 rfl
                    have z1618 := H1509.out.cell 0 rfl 9 rfl
                    have z1619 := H1509.out.cell 0 rfl 10 rfl
                    have z1620 := H1509.out.cell 0 rfl 11 rfl
                    have z1621 := H1509.out.cell 0 rfl 12 rfl
                    have z1622 := H1509.out.cell 0 rfl 13 rfl
                    have z1623 := H1509.out.cell 0 rfl 14 rfl
                    have z1624 := H1509.out.cell 0 rfl 15 rfl
                    have z1625 := H1509.out.cell 0 rfl 16 rfl
                    have z1626 := H1509.out.cell 0 rfl 17 rfl
                    go_wp2_with fail
                    clear z1609 z1610 z1611 z1612 z1613 z1614 z1615 z1616 z1617 z1618 z1619 z1620 z1621 z1622 z1623 z1624 z1625 z1626
                    have he0 := HEB.out
                    try simp only [decide_eq_true_eq, decide_eq_false_iff_not] at he0
                    go_ret
                    exact ⟨ret_b (by unfold sfOk; have := c1490h.out; have := c1530h.out; have := c1531h.out; exact (decide_eq_false (by omega)).symm), by first | exact H1509.out.below | exact H1509.out.below'⟩
                  · skip
                    have z1627 := H1509.out.cell 0 rfl 0 rfl
                    have z1628 := H1509.out.cell 0 rfl 1 rfl
                    have z1629 := H1509.out.cell 0 rfl 2 rfl
                    have z1630 := H1509.out.cell 0 rfl 3 rfl
                    have z1631 := H1509.out.cell 0 rfl 4 rfl
                    have z1632 := H1509.out.cell 0 rfl 5 rfl
                    have z1633 := H1509.out.cell 0 rfl 6 rfl
                    have z1634 := H1509.out.cell 0 rfl 7 rfl
                    have z1635 := H1509.out.cell 0 rfl 8 rfl
                    have z1636 := H1509.out.cell 0 rfl 9 rfl
                    have z1637 := H1509.out.cell 0 rfl 10 rfl
                    have z1638 := H1509.out.cell 0 rfl 11 rfl
                    have z1639 := H1509.out.cell 0 rfl 12 rfl
                    have z1640 := H1509.out.cell 0 rfl 13 rfl
                    have z1641 := H1509.out.cell 0 rfl 14 rfl
                    have z1642 := H1509.out.cell 0 rfl 15 rfl
                    have z1643 := H1509.out.cell 0 rfl 16 rfl
                    have z1644 := H1509.out.cell 0 rfl 17 rfl
                    go_wp2_with fail
                    clear z1627 z1628 z1629 z1630 z1631 z1632 z1633 z1634 z1635 z1636 z1637 z1638 z1639 z1640 z1641 z1642 z1643 z1644
                    refine (redged_any _ _).mono ?_
                    rintro e w1645 ⟨rfl, hsw⟩
                    have hsw2 : k1510 = w1645 := by first | exact hsw | exact hsw.symm
                    clear hsw
                    subst hsw2
                    rw [show edOk 4 = false from by decide]
                    by_cases c1646 : (sh : Int) = 0
                    · obtain ⟨c1646c, c1646d⟩ : (sh : Int) ≤ 0 ∧ (0 : Int) ≤ sh := by omega
                      have c1646a : ((sh : Int) == (0)) = true := by simpa using c1646
                      have c1646b : ((sh : Int) != (0)) = false := by simpa using c1646
                      have c1646h := hid c1646
                      clear c1646
                      by_cases c1647 : (sh2 : Int) = 0
                      · obtain ⟨c1647c, c1647d⟩ : (sh2 : Int) ≤ 0 ∧ (0 : Int) ≤ sh2 := by omega
                        have c1647a : ((sh2 : Int) == (0)) = true := by simpa using c1647
                        have c1647b : ((sh2 : Int) != (0)) = false := by simpa using c1647
                        have c1647h := hid c1647
                        clear c1647
                        by_cases c1648 : (0 : Int) < on
                        · skip
                          have z1649 := H1509.out.cell 0 rfl 0 rfl
                          have z1650 := H1509.out.cell 0 rfl 1 rfl
                          have z1651 := H1509.out.cell 0 rfl 2 rfl
                          have z1652 := H1509.out.cell 0 rfl 3 rfl
                          have z1653 := H1509.out.cell 0 rfl 4 rfl
                          have z1654 := H1509.out.cell 0 rfl 5 rfl
                          have z1655 := H1509.out.cell 0 rfl 6 rfl
                          have z1656 := H1509.out.cell 0 rfl 7 rfl
                          have z1657 := H1509.out.cell 0 rfl 8 rfl
                          have z1658 := H1509.out.cell 0 rfl 9 rfl
                          have z1659 := H1509.out.cell 0 rfl 10 rfl
                          have z1660 := H1509.out.cell 0 rfl 11 rfl
                          have z1661 := H1509.out.cell 0 rfl 12 rfl
                          have z1662 := H1509.out.cell 0 rfl 13 rfl
                          have z1663 := H1509.out.cell 0 rfl 14 rfl
                          have z1664 := H1509.out.cell 0 rfl 15 rfl
                          have z1665 := H1509.out.cell 0 rfl 16 rfl
                          have z1666 := H1509.out.cell 0 rfl 17 rfl
                          go_wp2_with fail
                          clear z1649 z1650 z1651 z1652 z1653 z1654 z1655 z1656 z1657 z1658 z1659 z1660 z1661 z1662 z1663 z1664 z1665 z1666
                          have he0 := HEB.out
                          try simp only [decide_eq_true_eq, decide_eq_false_iff_not] at he0
                          go_ret
                          exact ⟨ret_b (by unfold sfOk; have := c1490h.out; have := c1530h.out; have := c1531h.out; have := c1646h.out; have := c1647h.out; exact (decide_eq_false (by omega)).symm), by first | exact H1509.out.below | exact H1509.out.below'⟩
                        · skip
                          by_cases c1667 : (mx : Int) = 0
                          · obtain ⟨c1667c, c1667d⟩ : (mx : Int) ≤ 0 ∧ (0 : Int) ≤ mx := by omega
                            have c1667a : ((mx : Int) == (0)) = true := by simpa using c1667
                            have c1667b : ((mx : Int) != (0)) = false := by simpa using c1667
                            have c1667h := hid c1667
                            clear c1667
                            have z1668 := H1509.out.cell 0 rfl 0 rfl
                            have z1669 := H1509.out.cell 0 rfl 1 rfl
                            have z1670 := H1509.out.cell 0 rfl 2 rfl
                            have z1671 := H1509.out.cell 0 rfl 3 rfl
                            have z1672 := H1509.out.cell 0 rfl 4 rfl
                            have z1673 := H1509.out.cell 0 rfl 5 rfl
                            have z1674 := H1509.out.cell 0 rfl 6 rfl
                            have z1675 := H1509.out.cell 0 rfl 7 rfl
                            have z1676 := H1509.out.cell 0 rfl 8 rfl
                            have z1677 := H1509.out.cell 0 rfl 9 rfl
                            have z1678 := H1509.out.cell 0 rfl 10 rfl
                            have z1679 := H1509.out.cell 0 rfl 11 rfl
                            have z1680 := H1509.out.cell 0 rfl 12 rfl
                            have z1681 := H1509.out.cell 0 rfl 13 rfl
                            have z1682 := H1509.out.cell 0 rfl 14 rfl
                            have z1683 := H1509.out.cell 0 rfl 15 rfl
                            have z1684 := H1509.out.cell 0 rfl 16 rfl
                            have z1685 := H1509.out.cell 0 rfl 17 rfl
                            go_wp2_with fail
                            clear z1668 z1669 z1670 z1671 z1672 z1673 z1674 z1675 z1676 z1677 z1678 z1679 z1680 z1681 z1682 z1683 z1684 z1685
                            have he0 := HEB.out
                            try simp only [decide_eq_true_eq, decide_eq_false_iff_not] at he0
                            go_ret
                            exact ⟨ret_b (by unfold sfOk; have := c1490h.out; have := c1530h.out; have := c1531h.out; have := c1646h.out; have := c1647h.out; have := c1667h.out; exact (decide_eq_true (by omega)).symm), by first | exact H1509.out.below | exact H1509.out.below'⟩
                          · have c1667a : ((mx : Int) == (0)) = false := by simpa using c1667
                            have c1667b : ((mx : Int) != (0)) = true := by simpa using c1667
                            have c1667h := hid c1667
                            clear c1667
                            have z1686 := H1509.out.cell 0 rfl 0 rfl
                            have z1687 := H1509.out.cell 0 rfl 1 rfl
                            have z1688 := H1509.out.cell 0 rfl 2 rfl
                            have z1689 := H1509.out.cell 0 rfl 3 rfl
                            have z1690 := H1509.out.cell 0 rfl 4 rfl
                            have z1691 := H1509.out.cell 0 rfl 5 rfl
                            have z1692 := H1509.out.cell 0 rfl 6 rfl
                            have z1693 := H1509.out.cell 0 rfl 7 rfl
                            have z1694 := H1509.out.cell 0 rfl 8 rfl
                            have z1695 := H1509.out.cell 0 rfl 9 rfl
                            have z1696 := H1509.out.cell 0 rfl 10 rfl
                            have z1697 := H1509.out.cell 0 rfl 11 rfl
                            have z1698 := H1509.out.cell 0 rfl 12 rfl
                            have z1699 := H1509.out.cell 0 rfl 13 rfl
                            have z1700 := H1509.out.cell 0 rfl 14 rfl
                            have z1701 := H1509.out.cell 0 rfl 15 rfl
                            have z1702 := H1509.out.cell 0 rfl 16 rfl
                            have z1703 := H1509.out.cell 0 rfl 17 rfl
                            go_wp2_with fail
                            clear z1686 z1687 z1688 z1689 z1690 z1691 z1692 z1693 z1694 z1695 z1696 z1697 z1698 z1699 z1700 z1701 z1702 z1703
                            have he0 := HEB.out
                            try simp only [decide_eq_true_eq, decide_eq_false_iff_not] at he0
                            go_ret
                            exact ⟨ret_b (by unfold sfOk; have := c1490h.out; have := c1530h.out; have := c1531h.out; have := c1646h.out; have := c1647h.out; have := c1667h.out; exact (decide_eq_false (by omega)).symm), by first | exact H1509.out.below | exact H1509.out.below'⟩
                      · have c1647a : ((sh2 : Int) == (0)) = false := by simpa using c1647
                        have c1647b : ((sh2 : Int) != (0)) = true := by simpa using c1647
                        have c1647h := hid c1647
                        clear c1647
                        have z1704 := H1509.out.cell 0 rfl 0 rfl
                        have z1705 := H1509.out.cell 0 rfl 1 rfl
                        have z1706 := H1509.out.cell 0 rfl 2 rfl
                        have z1707 := H1509.out.cell 0 rfl 3 rfl
                        have z1708 := H1509.out.cell 0 rfl 4 rfl
                        have z1709 := H1509.out.cell 0 rfl 5 rfl
                        have z1710 := H1509.out.cell 0 rfl 6 rfl
                        have z1711 := H1509.out.cell 0 rfl 7 rfl
                        have z1712 := H1509.out.cell 0 rfl 8 rfl
                        have z1713 := H1509.out.cell 0 rfl 9 rfl
                        have z1714 := H1509.out.cell 0 rfl 10 rfl
                        have z1715 := H1509.out.cell 0 rfl 11 rfl
                        have z1716 := H1509.out.cell 0 rfl 12 rfl
                        have z1717 := H1509.out.cell 0 rfl 13 rfl
                        have z1718 := H1509.out.cell 0 rfl 14 rfl
                        have z1719 := H1509.out.cell 0 rfl 15 rfl
                        have z1720 := H1509.out.cell 0 rfl 16 rfl
                        have z1721 := H1509.out.cell 0 rfl 17 rfl
                        go_wp2_with fail
                        clear z1704 z1705 z1706 z1707 z1708 z1709 z1710 z1711 z1712 z1713 z1714 z1715 z1716 z1717 z1718 z1719 z1720 z1721
                        have he0 := HEB.out
                        try simp only [decide_eq_true_eq, decide_eq_false_iff_not] at he0
                        go_ret
                        exact ⟨ret_b (by unfold sfOk; have := c1490h.out; have := c1530h.out; have := c1531h.out; have := c1646h.out; have := c1647h.out; exact (decide_eq_false (by omega)).symm), by first | exact H1509.out.below | exact H1509.out.below'⟩
                    · have c1646a : ((sh : Int) == (0)) = false := by simpa using c1646
                      have c1646b : ((sh : Int) != (0)) = true := by simpa using c1646
                      have c1646h := hid c1646
                      clear c1646
                      have z1722 := H1509.out.cell 0 rfl 0 rfl
                      have z1723 := H1509.out.cell 0 rfl 1 rfl
                      have z1724 := H1509.out.cell 0 rfl 2 rfl
                      have z1725 := H1509.out.cell 0 rfl 3 rfl
                      have z1726 := H1509.out.cell 0 rfl 4 rfl
                      have z1727 := H1509.out.cell 0 rfl 5 rfl
                      have z1728 := H1509.out.cell 0 rfl 6 rfl
                      have z1729 := H1509.out.cell 0 rfl 7 rfl
                      have z1730 := H1509.out.cell 0 rfl 8 rfl
                      have z1731 := H1509.out.cell 0 rfl 9 rfl
                      have z1732 := H1509.out.cell 0 rfl 10 rfl
                      have z1733 := H1509.out.cell 0 rfl 11 rfl
                      have z1734 := H1509.out.cell 0 rfl 12 rfl
                      have z1735 := H1509.out.cell 0 rfl 13 rfl
                      have z1736 := H1509.out.cell 0 rfl 14 rfl
                      have z1737 := H1509.out.cell 0 rfl 15 rfl
                      have z1738 := H1509.out.cell 0 rfl 16 rfl
                      have z1739 := H1509.out.cell 0 rfl 17 rfl
                      go_wp2_with fail
                      clear z1722 z1723 z1724 z1725 z1726 z1727 z1728 z1729 z1730 z1731 z1732 z1733 z1734 z1735 z1736 z1737 z1738 z1739
                      have he0 := HEB.out
                      try simp only [decide_eq_true_eq, decide_eq_false_iff_not] at he0
                      go_ret
                      exact ⟨ret_b (by unfold sfOk; have := c1490h.out; have := c1530h.out; have := c1531h.out; have := c1646h.out; exact (decide_eq_false (by omega)).symm), by first | exact H1509.out.below | exact H1509.out.below'⟩
        · have c1531a : ((kh : Int) == (0)) = false := by simpa using c1531
          have c1531b : ((kh : Int) != (0)) = true := by simpa using c1531
          have c1531h := hid c1531
          clear c1531
          have z1740 := H1509.out.cell 0 rfl 0 rfl
          have z1741 := H1509.out.cell 0 rfl 1 rfl
          have z1742 := H1509.out.cell 0 rfl 2 rfl
          have z1743 := H1509.out.cell 0 rfl 3 rfl
          have z1744 := H1509.out.cell 0 rfl 4 rfl
          have z1745 := H1509.out.cell 0 rfl 5 rfl
          have z1746 := H1509.out.cell 0 rfl 6 rfl
          have z1747 := H1509.out.cell 0 rfl 7 rfl
          have z1748 := H1509.out.cell 0 rfl 8 rfl
          have z1749 := H1509.out.cell 0 rfl 9 rfl
          have z1750 := H1509.out.cell 0 rfl 10 rfl
          have z1751 := H1509.out.cell 0 rfl 11 rfl
          have z1752 := H1509.out.cell 0 rfl 12 rfl
          have z1753 := H1509.out.cell 0 rfl 13 rfl
          have z1754 := H1509.out.cell 0 rfl 14 rfl
          have z1755 := H1509.out.cell 0 rfl 15 rfl
          have z1756 := H1509.out.cell 0 rfl 16 rfl
          have z1757 := H1509.out.cell 0 rfl 17 rfl
          go_wp2_with fail
          clear z1740 z1741 z1742 z1743 z1744 z1745 z1746 z1747 z1748 z1749 z1750 z1751 z1752 z1753 z1754 z1755 z1756 z1757
          have he0 := HEB.out
          try simp only [decide_eq_true_eq, decide_eq_false_iff_not] at he0
          go_ret
          exact ⟨ret_b (by unfold sfOk; have := c1490h.out; have := c1530h.out; have := c1531h.out; exact (decide_eq_false (by omega)).symm), by first | exact H1509.out.below | exact H1509.out.below'⟩
      · have c1530a : ((kw : Int) == (0)) = false := by simpa using c1530
        have c1530b : ((kw : Int) != (0)) = true := by simpa using c1530
        have c1530h := hid c1530
        clear c1530
        have z1758 := H1509.out.cell 0 rfl 0 rfl
        have z1759 := H1509.out.cell 0 rfl 1 rfl
        have z1760 := H1509.out.cell 0 rfl 2 rfl
        have z1761 := H1509.out.cell 0 rfl 3 rfl
        have z1762 := H1509.out.cell 0 rfl 4 rfl
        have z1763 := H1509.out.cell 0 rfl 5 rfl
        have z1764 := H1509.out.cell 0 rfl 6 rfl
        have z1765 := H1509.out.cell 0 rfl 7 rfl
        have z1766 := H1509.out.cell 0 rfl 8 rfl
        have z1767 := H1509.out.cell 0 rfl 9 rfl
        have z1768 := H1509.out.cell 0 rfl 10 rfl
        have z1769 := H1509.out.cell 0 rfl 11 rfl
        have z1770 := H1509.out.cell 0 rfl 12 rfl
        have z1771 := H1509.out.cell 0 rfl 13 rfl
        have z1772 := H1509.out.cell 0 rfl 14 rfl
        have z1773 := H1509.out.cell 0 rfl 15 rfl
        have z1774 := H1509.out.cell 0 rfl 16 rfl
        have z1775 := H1509.out.cell 0 rfl 17 rfl
        go_wp2_with fail
        clear z1758 z1759 z1760 z1761 z1762 z1763 z1764 z1765 z1766 z1767 z1768 z1769 z1770 z1771 z1772 z1773 z1774 z1775
        have he0 := HEB.out
        try simp only [decide_eq_true_eq, decide_eq_false_iff_not] at he0
        go_ret
        exact ⟨ret_b (by unfold sfOk; have := c1490h.out; have := c1530h.out; exact (decide_eq_false (by omega)).symm), by first | exact H1509.out.below | exact H1509.out.below'⟩
    | false =>
      have z1776 := H1509.out.cell 0 rfl 0 rfl
      have z1777 := H1509.out.cell 0 rfl 1 rfl
      have z1778 := H1509.out.cell 0 rfl 2 rfl
      have z1779 := H1509.out.cell 0 rfl 3 rfl
      have z1780 := H1509.out.cell 0 rfl 4 rfl
      have z1781 := H1509.out.cell 0 rfl 5 rfl
      have z1782 := H1509.out.cell 0 rfl 6 rfl
      have z1783 := H1509.out.cell 0 rfl 7 rfl
      have z1784 := H1509.out.cell 0 rfl 8 rfl
      have z1785 := H1509.out.cell 0 rfl 9 rfl
      have z1786 := H1509.out.cell 0 rfl 10 rfl
      have z1787 := H1509.out.cell 0 rfl 11 rfl
      have z1788 := H1509.out.cell 0 rfl 12 rfl
      have z1789 := H1509.out.cell 0 rfl 13 rfl
      have z1790 := H1509.out.cell 0 rfl 14 rfl
      have z1791 := H1509.out.cell 0 rfl 15 rfl
      have z1792 := H1509.out.cell 0 rfl 16 rfl
      have z1793 := H1509.out.cell 0 rfl 17 rfl
      go_wp2_with fail
      clear z1776 z1777 z1778 z1779 z1780 z1781 z1782 z1783 z1784 z1785 z1786 z1787 z1788 z1789 z1790 z1791 z1792 z1793
      have he0 := HEB.out
      try simp only [decide_eq_true_eq, decide_eq_false_iff_not] at he0
      go_ret
      exact ⟨ret_b (by unfold sfOk; have := c1490h.out; exact (decide_eq_false (by omega)).symm), by first | exact H1509.out.below | exact H1509.out.below'⟩
  · have c1490a : ((sb : Int) == ((-1))) = false := by simpa using c1490
    have c1490b : ((sb : Int) != ((-1))) = true := by simpa using c1490
    have c1490h := hid c1490
    clear c1490
    have z1794 := H1488.out.cell 0 rfl 0 rfl
    have z1795 := H1488.out.cell 0 rfl 1 rfl
    have z1796 := H1488.out.cell 0 rfl 2 rfl
    have z1797 := H1488.out.cell 0 rfl 3 rfl
    have z1798 := H1488.out.cell 0 rfl 4 rfl
    have z1799 := H1488.out.cell 0 rfl 5 rfl
    have z1800 := H1488.out.cell 0 rfl 6 rfl
    have z1801 := H1488.out.cell 0 rfl 7 rfl
    have z1802 := H1488.out.cell 0 rfl 8 rfl
    have z1803 := H1488.out.cell 0 rfl 9 rfl
    have z1804 := H1488.out.cell 0 rfl 10 rfl
    have z1805 := H1488.out.cell 0 rfl 11 rfl
    have z1806 := H1488.out.cell 0 rfl 12 rfl
    have z1807 := H1488.out.cell 0 rfl 13 rfl
    have z1808 := H1488.out.cell 0 rfl 14 rfl
    have z1809 := H1488.out.cell 0 rfl 15 rfl
    have z1810 := H1488.out.cell 0 rfl 16 rfl
    have z1811 := H1488.out.cell 0 rfl 17 rfl
    go_wp2_with fail
    clear z1794 z1795 z1796 z1797 z1798 z1799 z1800 z1801 z1802 z1803 z1804 z1805 z1806 z1807 z1808 z1809 z1810 z1811
    have he0 := HEB.out
    try simp only [decide_eq_true_eq, decide_eq_false_iff_not] at he0
    go_ret
    exact ⟨ret_b (by unfold sfOk; have := c1490h.out; exact (decide_eq_false (by omega)).symm), by first | exact H1488.out.below | exact H1488.out.below'⟩

set_option maxRecDepth 100000 in
set_option maxHeartbeats 6400000 in
theorem rsfields_5 (sa sb : Int) (bar : Bool) (ep ef kw kh : Int) (wa : Option Addr) (wn wc : Nat) (ra : Option Addr) (rn rc : Nat) (ca : Option Addr) (cn cc : Nat) (sh sh2 : Int) (xa : Option Addr) (xn xc : Nat) (ya : Option Addr) (yn yc : Nat) (bins : Int) (oa : Option Addr) (on oc : Nat) (mx : Int) (W : World) : Calls Try.prog 56 #[.agg #[.int .i64 5, .int .i64 sa, .int .i64 sb, .bool bar, .int .i64 ep, .int .i64 ef, .int .i64 kw, .int .i64 kh, .slice wa wn wc, .slice ra rn rc, .slice ca cn cc, .int .i64 sh, .int .i64 sh2, .slice xa xn xc, .slice ya yn yc, .int .i64 bins, .slice oa on oc, .int .i64 mx]] W fun e w' => e = .returned (.bool (sfOk 5 sb ep ef kw kh wn rn cn sh sh2 xn yn bins on mx)) ∧ Below W.heap.size W w' := by
  obtain ⟨B, hB⟩ : ∃ B, W.heap.size = B := ⟨_, rfl⟩
  have HI0 := hid (St.init hB)
  obtain ⟨eb, heb⟩ : ∃ x, decide (ep = 0 ∧ ef = 0) = x := ⟨_, rfl⟩
  have HEB := hid heb
  go_enter Try.func56, Try.ntmps56
  go_upto_region 1 with fail
  have H1812 := hid (show St B W [.cells B #[.int .i64 5, .int .i64 sa, .int .i64 sb, .bool bar, .int .i64 ep, .int .i64 ef, .int .i64 kw, .int .i64 kh, .slice wa wn wc, .slice ra rn rc, .slice ca cn cc, .int .i64 sh, .int .i64 sh2, .slice xa xn xc, .slice ya yn yc, .int .i64 bins, .slice oa on oc, .int .i64 mx] 33] [] (W.alloc (.cells #[.int .i64 5, .int .i64 sa, .int .i64 sb, .bool bar, .int .i64 ep, .int .i64 ef, .int .i64 kw, .int .i64 kh, .slice wa wn wc, .slice ra rn rc, .slice ca cn cc, .int .i64 sh, .int .i64 sh2, .slice xa xn xc, .slice ya yn yc, .int .i64 bins, .slice oa on oc, .int .i64 mx] 33)) from (HI0.out.alloc #[.int .i64 5, .int .i64 sa, .int .i64 sb, .bool bar, .int .i64 ep, .int .i64 ef, .int .i64 kw, .int .i64 kh, .slice wa wn wc, .slice ra rn rc, .slice ca cn cc, .int .i64 sh, .int .i64 sh2, .slice xa xn xc, .slice ya yn yc, .int .i64 bins, .slice oa on oc, .int .i64 mx] 33 hB))
  first | refine gen_code H1812.out ?_ | refine gen_list H1812.out ?_ | refine gen_calls H1812.out ?_
  intro w1813 hG
  clear H1812
  have H1812 := hid hG
  clear hG
  by_cases c1814 : (sb : Int) = (-1)
  · obtain ⟨c1814c, c1814d⟩ : (sb : Int) ≤ (-1) ∧ ((-1) : Int) ≤ sb := by omega
    have c1814a : ((sb : Int) == ((-1))) = true := by simpa using c1814
    have c1814b : ((sb : Int) != ((-1))) = false := by simpa using c1814
    have c1814h := hid c1814
    clear c1814
    have z1815 := H1812.out.cell 0 rfl 0 rfl
    have z1816 := H1812.out.cell 0 rfl 1 rfl
    have z1817 := H1812.out.cell 0 rfl 2 rfl
    have z1818 := H1812.out.cell 0 rfl 3 rfl
    have z1819 := H1812.out.cell 0 rfl 4 rfl
    have z1820 := H1812.out.cell 0 rfl 5 rfl
    have z1821 := H1812.out.cell 0 rfl 6 rfl
    have z1822 := H1812.out.cell 0 rfl 7 rfl
    have z1823 := H1812.out.cell 0 rfl 8 rfl
    have z1824 := H1812.out.cell 0 rfl 9 rfl
    have z1825 := H1812.out.cell 0 rfl 10 rfl
    have z1826 := H1812.out.cell 0 rfl 11 rfl
    have z1827 := H1812.out.cell 0 rfl 12 rfl
    have z1828 := H1812.out.cell 0 rfl 13 rfl
    have z1829 := H1812.out.cell 0 rfl 14 rfl
    have z1830 := H1812.out.cell 0 rfl 15 rfl
    have z1831 := H1812.out.cell 0 rfl 16 rfl
    have z1832 := H1812.out.cell 0 rfl 17 rfl
    go_upto_region 3 with fail
    clear z1815 z1816 z1817 z1818 z1819 z1820 z1821 z1822 z1823 z1824 z1825 z1826 z1827 z1828 z1829 z1830 z1831 z1832
    have H1833 := hid H1812.out.drew
    refine wp_region_held_drew (S := (fun w' => w'.cell? ⟨B, 0, none⟩ = some (.int .i64 5) ∧ w'.cell? ⟨B, 1, none⟩ = some (.int .i64 sa) ∧ w'.cell? ⟨B, 2, none⟩ = some (.int .i64 sb) ∧ w'.cell? ⟨B, 3, none⟩ = some (.bool bar) ∧ w'.cell? ⟨B, 4, none⟩ = some (.int .i64 ep) ∧ w'.cell? ⟨B, 5, none⟩ = some (.int .i64 ef) ∧ w'.cell? ⟨B, 6, none⟩ = some (.int .i64 kw) ∧ w'.cell? ⟨B, 7, none⟩ = some (.int .i64 kh) ∧ w'.cell? ⟨B, 8, none⟩ = some (.slice wa wn wc) ∧ w'.cell? ⟨B, 9, none⟩ = some (.slice ra rn rc) ∧ w'.cell? ⟨B, 10, none⟩ = some (.slice ca cn cc) ∧ w'.cell? ⟨B, 11, none⟩ = some (.int .i64 sh) ∧ w'.cell? ⟨B, 12, none⟩ = some (.int .i64 sh2) ∧ w'.cell? ⟨B, 13, none⟩ = some (.slice xa xn xc) ∧ w'.cell? ⟨B, 14, none⟩ = some (.slice ya yn yc) ∧ w'.cell? ⟨B, 15, none⟩ = some (.int .i64 bins) ∧ w'.cell? ⟨B, 16, none⟩ = some (.slice oa on oc) ∧ w'.cell? ⟨B, 17, none⟩ = some (.int .i64 mx))) (by kernel_rfl) ⟨H1833.out.cell 0 rfl 0 rfl, H1833.out.cell 0 rfl 1 rfl, H1833.out.cell 0 rfl 2 rfl, H1833.out.cell 0 rfl 3 rfl, H1833.out.cell 0 rfl 4 rfl, H1833.out.cell 0 rfl 5 rfl, H1833.out.cell 0 rfl 6 rfl, H1833.out.cell 0 rfl 7 rfl, H1833.out.cell 0 rfl 8 rfl, H1833.out.cell 0 rfl 9 rfl, H1833.out.cell 0 rfl 10 rfl, H1833.out.cell 0 rfl 11 rfl, H1833.out.cell 0 rfl 12 rfl, H1833.out.cell 0 rfl 13 rfl, H1833.out.cell 0 rfl 14 rfl, H1833.out.cell 0 rfl 15 rfl, H1833.out.cell 0 rfl 16 rfl, H1833.out.cell 0 rfl 17 rfl⟩ (fun hHeld => ?_)
    generalize w1813.drew = k1834 at *
    refine tkA 0 ?_
    try simp only [Act.put, p1, p2, p3, p4, p5, p6]
    refine tkA 1 ?_
    try simp only [Act.put, p1, p2, p3, p4, p5, p6]
    refine tkA 2 ?_
    try simp only [Act.put, p1, p2, p3, p4, p5, p6]
    refine tkA 3 ?_
    try simp only [Act.put, p1, p2, p3, p4, p5, p6]
    refine tkA 4 ?_
    try simp only [Act.put, p1, p2, p3, p4, p5, p6]
    refine tkA 5 ?_
    try simp only [Act.put, p1, p2, p3, p4, p5, p6]
    refine tkA 6 ?_
    try simp only [Act.put, p1, p2, p3, p4, p5, p6]
    refine tkA 7 ?_
    try simp only [Act.put, p1, p2, p3, p4, p5, p6]
    refine tkA 8 ?_
    try simp only [Act.put, p1, p2, p3, p4, p5, p6]
    refine tkA 9 ?_
    try simp only [Act.put, p1, p2, p3, p4, p5, p6]
    refine tkA 10 ?_
    try simp only [Act.put, p1, p2, p3, p4, p5, p6]
    refine tkA 11 ?_
    try simp only [Act.put, p1, p2, p3, p4, p5, p6]
    refine wpAnyH_done (by kernel_rfl) ?_ _
    try clear hHeld
    have z1835 := H1833.out.cell 0 rfl 0 rfl
    have z1836 := H1833.out.cell 0 rfl 1 rfl
    have z1837 := H1833.out.cell 0 rfl 2 rfl
    have z1838 := H1833.out.cell 0 rfl 3 rfl
    have z1839 := H1833.out.cell 0 rfl 4 rfl
    have z1840 := H1833.out.cell 0 rfl 5 rfl
    have z1841 := H1833.out.cell 0 rfl 6 rfl
    have z1842 := H1833.out.cell 0 rfl 7 rfl
    have z1843 := H1833.out.cell 0 rfl 8 rfl
    have z1844 := H1833.out.cell 0 rfl 9 rfl
    have z1845 := H1833.out.cell 0 rfl 10 rfl
    have z1846 := H1833.out.cell 0 rfl 11 rfl
    have z1847 := H1833.out.cell 0 rfl 12 rfl
    have z1848 := H1833.out.cell 0 rfl 13 rfl
    have z1849 := H1833.out.cell 0 rfl 14 rfl
    have z1850 := H1833.out.cell 0 rfl 15 rfl
    have z1851 := H1833.out.cell 0 rfl 16 rfl
    have z1852 := H1833.out.cell 0 rfl 17 rfl
    go_wp2_with fail
    clear z1835 z1836 z1837 z1838 z1839 z1840 z1841 z1842 z1843 z1844 z1845 z1846 z1847 z1848 z1849 z1850 z1851 z1852
    refine (redged_any _ _).mono ?_
    rintro e w1853 ⟨rfl, hsw⟩
    have hsw2 : k1834 = w1853 := by first | exact hsw | exact hsw.symm
    clear hsw
    subst hsw2
    rw [show edOk 5 = false from by decide]
    cases eb with
    | true =>
      by_cases c1854 : (kw : Int) = 0
      · obtain ⟨c1854c, c1854d⟩ : (kw : Int) ≤ 0 ∧ (0 : Int) ≤ kw := by omega
        have c1854a : ((kw : Int) == (0)) = true := by simpa using c1854
        have c1854b : ((kw : Int) != (0)) = false := by simpa using c1854
        have c1854h := hid c1854
        clear c1854
        by_cases c1855 : (kh : Int) = 0
        · obtain ⟨c1855c, c1855d⟩ : (kh : Int) ≤ 0 ∧ (0 : Int) ≤ kh := by omega
          have c1855a : ((kh : Int) == (0)) = true := by simpa using c1855
          have c1855b : ((kh : Int) != (0)) = false := by simpa using c1855
          have c1855h := hid c1855
          clear c1855
          by_cases c1856 : (0 : Int) < wn
          · skip
            have z1857 := H1833.out.cell 0 rfl 0 rfl
            have z1858 := H1833.out.cell 0 rfl 1 rfl
            have z1859 := H1833.out.cell 0 rfl 2 rfl
            have z1860 := H1833.out.cell 0 rfl 3 rfl
            have z1861 := H1833.out.cell 0 rfl 4 rfl
            have z1862 := H1833.out.cell 0 rfl 5 rfl
            have z1863 := H1833.out.cell 0 rfl 6 rfl
            have z1864 := H1833.out.cell 0 rfl 7 rfl
            have z1865 := H1833.out.cell 0 rfl 8 rfl
            have z1866 := H1833.out.cell 0 rfl 9 rfl
            have z1867 := H1833.out.cell 0 rfl 10 rfl
            have z1868 := H1833.out.cell 0 rfl 11 rfl
            have z1869 := H1833.out.cell 0 rfl 12 rfl
            have z1870 := H1833.out.cell 0 rfl 13 rfl
            have z1871 := H1833.out.cell 0 rfl 14 rfl
            have z1872 := H1833.out.cell 0 rfl 15 rfl
            have z1873 := H1833.out.cell 0 rfl 16 rfl
            have z1874 := H1833.out.cell 0 rfl 17 rfl
            go_wp2_with fail
            clear z1857 z1858 z1859 z1860 z1861 z1862 z1863 z1864 z1865 z1866 z1867 z1868 z1869 z1870 z1871 z1872 z1873 z1874
            have he0 := HEB.out
            try simp only [decide_eq_true_eq, decide_eq_false_iff_not] at he0
            go_ret
            exact ⟨ret_b (by unfold sfOk; have := c1814h.out; have := c1854h.out; have := c1855h.out; exact (decide_eq_false (by omega)).symm), by first | exact H1833.out.below | exact H1833.out.below'⟩
          · skip
            by_cases c1875 : (0 : Int) < rn
            · skip
              have z1876 := H1833.out.cell 0 rfl 0 rfl
              have z1877 := H1833.out.cell 0 rfl 1 rfl
              have z1878 := H1833.out.cell 0 rfl 2 rfl
              have z1879 := H1833.out.cell 0 rfl 3 rfl
              have z1880 := H1833.out.cell 0 rfl 4 rfl
              have z1881 := H1833.out.cell 0 rfl 5 rfl
              have z1882 := H1833.out.cell 0 rfl 6 rfl
              have z1883 := H1833.out.cell 0 rfl 7 rfl
              have z1884 := H1833.out.cell 0 rfl 8 rfl
              have z1885 := H1833.out.cell 0 rfl 9 rfl
              have z1886 := H1833.out.cell 0 rfl 10 rfl
              have z1887 := H1833.out.cell 0 rfl 11 rfl
              have z1888 := H1833.out.cell 0 rfl 12 rfl
              have z1889 := H1833.out.cell 0 rfl 13 rfl
              have z1890 := H1833.out.cell 0 rfl 14 rfl
              have z1891 := H1833.out.cell 0 rfl 15 rfl
              have z1892 := H1833.out.cell 0 rfl 16 rfl
              have z1893 := H1833.out.cell 0 rfl 17 rfl
              go_wp2_with fail
              clear z1876 z1877 z1878 z1879 z1880 z1881 z1882 z1883 z1884 z1885 z1886 z1887 z1888 z1889 z1890 z1891 z1892 z1893
              have he0 := HEB.out
              try simp only [decide_eq_true_eq, decide_eq_false_iff_not] at he0
              go_ret
              exact ⟨ret_b (by unfold sfOk; have := c1814h.out; have := c1854h.out; have := c1855h.out; exact (decide_eq_false (by omega)).symm), by first | exact H1833.out.below | exact H1833.out.below'⟩
            · skip
              by_cases c1894 : (0 : Int) < cn
              · skip
                have z1895 := H1833.out.cell 0 rfl 0 rfl
                have z1896 := H1833.out.cell 0 rfl 1 rfl
                have z1897 := H1833.out.cell 0 rfl 2 rfl
                have z1898 := H1833.out.cell 0 rfl 3 rfl
                have z1899 := H1833.out.cell 0 rfl 4 rfl
                have z1900 := H1833.out.cell 0 rfl 5 rfl
                have z1901 := H1833.out.cell 0 rfl 6 rfl
                have z1902 := H1833.out.cell 0 rfl 7 rfl
                have z1903 := H1833.out.cell 0 rfl 8 rfl
                have z1904 := H1833.out.cell 0 rfl 9 rfl
                have z1905 := H1833.out.cell 0 rfl 10 rfl
                have z1906 := H1833.out.cell 0 rfl 11 rfl
                have z1907 := H1833.out.cell 0 rfl 12 rfl
                have z1908 := H1833.out.cell 0 rfl 13 rfl
                have z1909 := H1833.out.cell 0 rfl 14 rfl
                have z1910 := H1833.out.cell 0 rfl 15 rfl
                have z1911 := H1833.out.cell 0 rfl 16 rfl
                have z1912 := H1833.out.cell 0 rfl 17 rfl
                go_wp2_with fail
                clear z1895 z1896 z1897 z1898 z1899 z1900 z1901 z1902 z1903 z1904 z1905 z1906 z1907 z1908 z1909 z1910 z1911 z1912
                have he0 := HEB.out
                try simp only [decide_eq_true_eq, decide_eq_false_iff_not] at he0
                go_ret
                exact ⟨ret_b (by unfold sfOk; have := c1814h.out; have := c1854h.out; have := c1855h.out; exact (decide_eq_false (by omega)).symm), by first | exact H1833.out.below | exact H1833.out.below'⟩
              · skip
                by_cases c1913 : (0 : Int) < xn
                · skip
                  have z1914 := H1833.out.cell 0 rfl 0 rfl
                  have z1915 := H1833.out.cell 0 rfl 1 rfl
                  have z1916 := H1833.out.cell 0 rfl 2 rfl
                  have z1917 := H1833.out.cell 0 rfl 3 rfl
                  have z1918 := H1833.out.cell 0 rfl 4 rfl
                  have z1919 := H1833.out.cell 0 rfl 5 rfl
                  have z1920 := H1833.out.cell 0 rfl 6 rfl
                  have z1921 := H1833.out.cell 0 rfl 7 rfl
                  have z1922 := H1833.out.cell 0 rfl 8 rfl
                  have z1923 := H1833.out.cell 0 rfl 9 rfl
                  have z1924 := H1833.out.cell 0 rfl 10 rfl
                  have z1925 := H1833.out.cell 0 rfl 11 rfl
                  have z1926 := H1833.out.cell 0 rfl 12 rfl
                  have z1927 := H1833.out.cell 0 rfl 13 rfl
                  have z1928 := H1833.out.cell 0 rfl 14 rfl
                  have z1929 := H1833.out.cell 0 rfl 15 rfl
                  have z1930 := H1833.out.cell 0 rfl 16 rfl
                  have z1931 := H1833.out.cell 0 rfl 17 rfl
                  go_wp2_with fail
                  clear z1914 z1915 z1916 z1917 z1918 z1919 z1920 z1921 z1922 z1923 z1924 z1925 z1926 z1927 z1928 z1929 z1930 z1931
                  have he0 := HEB.out
                  try simp only [decide_eq_true_eq, decide_eq_false_iff_not] at he0
                  go_ret
                  exact ⟨ret_b (by unfold sfOk; have := c1814h.out; have := c1854h.out; have := c1855h.out; exact (decide_eq_false (by omega)).symm), by first | exact H1833.out.below | exact H1833.out.below'⟩
                · skip
                  by_cases c1932 : (0 : Int) < yn
                  · skip
                    have z1933 := H1833.out.cell 0 rfl 0 rfl
                    have z1934 := H1833.out.cell 0 rfl 1 rfl
                    have z1935 := H1833.out.cell 0 rfl 2 rfl
                    have z1936 := H1833.out.cell 0 rfl 3 rfl
                    have z1937 := H1833.out.cell 0 rfl 4 rfl
                    have z1938 := H1833.out.cell 0 rfl 5 rfl
                    have z1939 := H1833.out.cell 0 rfl 6 rfl
                    have z1940 := H1833.out.cell 0 rfl 7 rfl
                    have z1941 := H1833.out.cell 0 rfl 8 rfl
                    have z1942 := H1833.out.cell 0 rfl 9 rfl
                    have z1943 := H1833.out.cell 0 rfl 10 rfl
                    have z1944 := H1833.out.cell 0 rfl 11 rfl
                    have z1945 := H1833.out.cell 0 rfl 12 rfl
                    have z1946 := H1833.out.cell 0 rfl 13 rfl
                    have z1947 := H1833.out.cell 0 rfl 14 rfl
                    have z1948 := H1833.out.cell 0 rfl 15 rfl
                    have z1949 := H1833.out.cell 0 rfl 16 rfl
                    have z1950 := H1833.out.cell 0 rfl 17 rfl
                    go_wp2_with fail
                    clear z1933 z1934 z1935 z1936 z1937 z1938 z1939 z1940 z1941 z1942 z1943 z1944 z1945 z1946 z1947 z1948 z1949 z1950
                    have he0 := HEB.out
                    try simp only [decide_eq_true_eq, decide_eq_false_iff_not] at he0
                    go_ret
                    exact ⟨ret_b (by unfold sfOk; have := c1814h.out; have := c1854h.out; have := c1855h.out; exact (decide_eq_false (by omega)).symm), by first | exact H1833.out.below | exact H1833.out.below'⟩
                  · skip
                    have z1951 := H1833.out.cell 0 rfl 0 rfl
                    have z1952 := H1833.out.cell 0 rfl 1 rfl
                    have z1953 := H1833.out.cell 0 rfl 2 rfl
                    have z1954 := H1833.out.cell 0 rfl 3 rfl
                    have z1955 := H1833.out.cell 0 rfl 4 rfl
                    have z1956 := H1833.out.cell 0 rfl 5 rfl
                    have z1957 := H1833.out.cell 0 rfl 6 rfl
                    have z1958 := H1833.out.cell 0 rfl 7 rfl
                    have z1959 := H1833.out.cell 0 rfl 8 rfl
                    have z1960 := H1833.out.cell 0 rfl 9 rfl
                    have z1961 := H1833.out.cell 0 rfl 10 rfl
                    have z1962 := H1833.out.cell 0 rfl 11 rfl
                    have z1963 := H1833.out.cell 0 rfl 12 rfl
                    have z1964 := H1833.out.cell 0 rfl 13 rfl
                    have z1965 := H1833.out.cell 0 rfl 14 rfl
                    have z1966 := H1833.out.cell 0 rfl 15 rfl
                    have z1967 := H1833.out.cell 0 rfl 16 rfl
                    have z1968 := H1833.out.cell 0 rfl 17 rfl
                    go_wp2_with fail
                    clear z1951 z1952 z1953 z1954 z1955 z1956 z1957 z1958 z1959 z1960 z1961 z1962 z1963 z1964 z1965 z1966 z1967 z1968
                    refine (redged_any _ _).mono ?_
                    rintro e w1969 ⟨rfl, hsw⟩
                    have hsw2 : k1834 = w1969 := by first | exact hsw | exact hsw.symm
                    clear hsw
                    subst hsw2
                    rw [show edOk 5 = false from by decide]
                    by_cases c1970 : (sh : Int) = 0
                    · obtain ⟨c1970c, c1970d⟩ : (sh : Int) ≤ 0 ∧ (0 : Int) ≤ sh := by omega
                      have c1970a : ((sh : Int) == (0)) = true := by simpa using c1970
                      have c1970b : ((sh : Int) != (0)) = false := by simpa using c1970
                      have c1970h := hid c1970
                      clear c1970
                      by_cases c1971 : (sh2 : Int) = 0
                      · obtain ⟨c1971c, c1971d⟩ : (sh2 : Int) ≤ 0 ∧ (0 : Int) ≤ sh2 := by omega
                        have c1971a : ((sh2 : Int) == (0)) = true := by simpa using c1971
                        have c1971b : ((sh2 : Int) != (0)) = false := by simpa using c1971
                        have c1971h := hid c1971
                        clear c1971
                        by_cases c1972 : (bins : Int) = 0
                        · obtain ⟨c1972c, c1972d⟩ : (bins : Int) ≤ 0 ∧ (0 : Int) ≤ bins := by omega
                          have c1972a : ((bins : Int) == (0)) = true := by simpa using c1972
                          have c1972b : ((bins : Int) != (0)) = false := by simpa using c1972
                          have c1972h := hid c1972
                          clear c1972
                          by_cases c1973 : (0 : Int) < on
                          · skip
                            have z1974 := H1833.out.cell 0 rfl 0 rfl
                            have z1975 := H1833.out.cell 0 rfl 1 rfl
                            have z1976 := H1833.out.cell 0 rfl 2 rfl
                            have z1977 := H1833.out.cell 0 rfl 3 rfl
                            have z1978 := H1833.out.cell 0 rfl 4 rfl
                            have z1979 := H1833.out.cell 0 rfl 5 rfl
                            have z1980 := H1833.out.cell 0 rfl 6 rfl
                            have z1981 := H1833.out.cell 0 rfl 7 rfl
                            have z1982 := H1833.out.cell 0 rfl 8 rfl
                            have z1983 := H1833.out.cell 0 rfl 9 rfl
                            have z1984 := H1833.out.cell 0 rfl 10 rfl
                            have z1985 := H1833.out.cell 0 rfl 11 rfl
                            have z1986 := H1833.out.cell 0 rfl 12 rfl
                            have z1987 := H1833.out.cell 0 rfl 13 rfl
                            have z1988 := H1833.out.cell 0 rfl 14 rfl
                            have z1989 := H1833.out.cell 0 rfl 15 rfl
                            have z1990 := H1833.out.cell 0 rfl 16 rfl
                            have z1991 := H1833.out.cell 0 rfl 17 rfl
                            go_wp2_with fail
                            clear z1974 z1975 z1976 z1977 z1978 z1979 z1980 z1981 z1982 z1983 z1984 z1985 z1986 z1987 z1988 z1989 z1990 z1991
                            have he0 := HEB.out
                            try simp only [decide_eq_true_eq, decide_eq_false_iff_not] at he0
                            go_ret
                            exact ⟨ret_b (by unfold sfOk; have := c1814h.out; have := c1854h.out; have := c1855h.out; have := c1970h.out; have := c1971h.out; have := c1972h.out; exact (decide_eq_false (by omega)).symm), by first | exact H1833.out.below | exact H1833.out.below'⟩
                          · skip
                            by_cases c1992 : (mx : Int) = 0
                            · obtain ⟨c1992c, c1992d⟩ : (mx : Int) ≤ 0 ∧ (0 : Int) ≤ mx := by omega
                              have c1992a : ((mx : Int) == (0)) = true := by simpa using c1992
                              have c1992b : ((mx : Int) != (0)) = false := by simpa using c1992
                              have c1992h := hid c1992
                              clear c1992
                              have z1993 := H1833.out.cell 0 rfl 0 rfl
                              have z1994 := H1833.out.cell 0 rfl 1 rfl
                              have z1995 := H1833.out.cell 0 rfl 2 rfl
                              have z1996 := H1833.out.cell 0 rfl 3 rfl
                              have z1997 := H1833.out.cell 0 rfl 4 rfl
                              have z1998 := H1833.out.cell 0 rfl 5 rfl
                              have z1999 := H1833.out.cell 0 rfl 6 rfl
                              have z2000 := H1833.out.cell 0 rfl 7 rfl
                              have z2001 := H1833.out.cell 0 rfl 8 rfl
                              have z2002 := H1833.out.cell 0 rfl 9 rfl
                              have z2003 := H1833.out.cell 0 rfl 10 rfl
                              have z2004 := H1833.out.cell 0 rfl 11 rfl
                              have z2005 := H1833.out.cell 0 rfl 12 rfl
                              have z2006 := H1833.out.cell 0 rfl 13 rfl
                              have z2007 := H1833.out.cell 0 rfl 14 rfl
                              have z2008 := H1833.out.cell 0 rfl 15 rfl
                              have z2009 := H1833.out.cell 0 rfl 16 rfl
                              have z2010 := H1833.out.cell 0 rfl 17 rfl
                              go_wp2_with fail
                              clear z1993 z1994 z1995 z1996 z1997 z1998 z1999 z2000 z2001 z2002 z2003 z2004 z2005 z2006 z2007 z2008 z2009 z2010
                              have he0 := HEB.out
                              try simp only [decide_eq_true_eq, decide_eq_false_iff_not] at he0
                              go_ret
                              exact ⟨ret_b (by unfold sfOk; have := c1814h.out; have := c1854h.out; have := c1855h.out; have := c1970h.out; have := c1971h.out; have := c1972h.out; have := c1992h.out; exact (decide_eq_true (by omega)).symm), by first | exact H1833.out.below | exact H1833.out.below'⟩
                            · have c1992a : ((mx : Int) == (0)) = false := by simpa using c1992
                              have c1992b : ((mx : Int) != (0)) = true := by simpa using c1992
                              have c1992h := hid c1992
                              clear c1992
                              have z2011 := H1833.out.cell 0 rfl 0 rfl
                              have z2012 := H1833.out.cell 0 rfl 1 rfl
                              have z2013 := H1833.out.cell 0 rfl 2 rfl
                              have z2014 := H1833.out.cell 0 rfl 3 rfl
                              have z2015 := H1833.out.cell 0 rfl 4 rfl
                              have z2016 := H1833.out.cell 0 rfl 5 rfl
                              have z2017 := H1833.out.cell 0 rfl 6 rfl
                              have z2018 := H1833.out.cell 0 rfl 7 rfl
                              have z2019 := H1833.out.cell 0 rfl 8 rfl
                              have z2020 := H1833.out.cell 0 rfl 9 rfl
                              have z2021 := H1833.out.cell 0 rfl 10 rfl
                              have z2022 := H1833.out.cell 0 rfl 11 rfl
                              have z2023 := H1833.out.cell 0 rfl 12 rfl
                              have z2024 := H1833.out.cell 0 rfl 13 rfl
                              have z2025 := H1833.out.cell 0 rfl 14 rfl
                              have z2026 := H1833.out.cell 0 rfl 15 rfl
                              have z2027 := H1833.out.cell 0 rfl 16 rfl
                              have z2028 := H1833.out.cell 0 rfl 17 rfl
                              go_wp2_with fail
                              clear z2011 z2012 z2013 z2014 z2015 z2016 z2017 z2018 z2019 z2020 z2021 z2022 z2023 z2024 z2025 z2026 z2027 z2028
                              have he0 := HEB.out
                              try simp only [decide_eq_true_eq, decide_eq_false_iff_not] at he0
                              go_ret
                              exact ⟨ret_b (by unfold sfOk; have := c1814h.out; have := c1854h.out; have := c1855h.out; have := c1970h.out; have := c1971h.out; have := c1972h.out; have := c1992h.out; exact (decide_eq_false (by omega)).symm), by first | exact H1833.out.below | exact H1833.out.below'⟩
                        · have c1972a : ((bins : Int) == (0)) = false := by simpa using c1972
                          have c1972b : ((bins : Int) != (0)) = true := by simpa using c1972
                          have c1972h := hid c1972
                          clear c1972
                          have z2029 := H1833.out.cell 0 rfl 0 rfl
                          have z2030 := H1833.out.cell 0 rfl 1 rfl
                          have z2031 := H1833.out.cell 0 rfl 2 rfl
                          have z2032 := H1833.out.cell 0 rfl 3 rfl
                          have z2033 := H1833.out.cell 0 rfl 4 rfl
                          have z2034 := H1833.out.cell 0 rfl 5 rfl
                          have z2035 := H1833.out.cell 0 rfl 6 rfl
                          have z2036 := H1833.out.cell 0 rfl 7 rfl
                          have z2037 := H1833.out.cell 0 rfl 8 rfl
                          have z2038 := H1833.out.cell 0 rfl 9 rfl
                          have z2039 := H1833.out.cell 0 rfl 10 rfl
                          have z2040 := H1833.out.cell 0 rfl 11 rfl
                          have z2041 := H1833.out.cell 0 rfl 12 rfl
                          have z2042 := H1833.out.cell 0 rfl 13 rfl
                          have z2043 := H1833.out.cell 0 rfl 14 rfl
                          have z2044 := H1833.out.cell 0 rfl 15 rfl
                          have z2045 := H1833.out.cell 0 rfl 16 rfl
                          have z2046 := H1833.out.cell 0 rfl 17 rfl
                          go_wp2_with fail
                          clear z2029 z2030 z2031 z2032 z2033 z2034 z2035 z2036 z2037 z2038 z2039 z2040 z2041 z2042 z2043 z2044 z2045 z2046
                          have he0 := HEB.out
                          try simp only [decide_eq_true_eq, decide_eq_false_iff_not] at he0
                          go_ret
                          exact ⟨ret_b (by unfold sfOk; have := c1814h.out; have := c1854h.out; have := c1855h.out; have := c1970h.out; have := c1971h.out; have := c1972h.out; exact (decide_eq_false (by omega)).symm), by first | exact H1833.out.below | exact H1833.out.below'⟩
                      · have c1971a : ((sh2 : Int) == (0)) = false := by simpa using c1971
                        have c1971b : ((sh2 : Int) != (0)) = true := by simpa using c1971
                        have c1971h := hid c1971
                        clear c1971
                        have z2047 := H1833.out.cell 0 rfl 0 rfl
                        have z2048 := H1833.out.cell 0 rfl 1 rfl
                        have z2049 := H1833.out.cell 0 rfl 2 rfl
                        have z2050 := H1833.out.cell 0 rfl 3 rfl
                        have z2051 := H1833.out.cell 0 rfl 4 rfl
                        have z2052 := H1833.out.cell 0 rfl 5 rfl
                        have z2053 := H1833.out.cell 0 rfl 6 rfl
                        have z2054 := H1833.out.cell 0 rfl 7 rfl
                        have z2055 := H1833.out.cell 0 rfl 8 rfl
                        have z2056 := H1833.out.cell 0 rfl 9 rfl
                        have z2057 := H1833.out.cell 0 rfl 10 rfl
                        have z2058 := H1833.out.cell 0 rfl 11 rfl
                        have z2059 := H1833.out.cell 0 rfl 12 rfl
                        have z2060 := H1833.out.cell 0 rfl 13 rfl
                        have z2061 := H1833.out.cell 0 rfl 14 rfl
                        have z2062 := H1833.out.cell 0 rfl 15 rfl
                        have z2063 := H1833.out.cell 0 rfl 16 rfl
                        have z2064 := H1833.out.cell 0 rfl 17 rfl
                        go_wp2_with fail
                        clear z2047 z2048 z2049 z2050 z2051 z2052 z2053 z2054 z2055 z2056 z2057 z2058 z2059 z2060 z2061 z2062 z2063 z2064
                        have he0 := HEB.out
                        try simp only [decide_eq_true_eq, decide_eq_false_iff_not] at he0
                        go_ret
                        exact ⟨ret_b (by unfold sfOk; have := c1814h.out; have := c1854h.out; have := c1855h.out; have := c1970h.out; have := c1971h.out; exact (decide_eq_false (by omega)).symm), by first | exact H1833.out.below | exact H1833.out.below'⟩
                    · have c1970a : ((sh : Int) == (0)) = false := by simpa using c1970
                      have c1970b : ((sh : Int) != (0)) = true := by simpa using c1970
                      have c1970h := hid c1970
                      clear c1970
                      have z2065 := H1833.out.cell 0 rfl 0 rfl
                      have z2066 := H1833.out.cell 0 rfl 1 rfl
                      have z2067 := H1833.out.cell 0 rfl 2 rfl
                      have z2068 := H1833.out.cell 0 rfl 3 rfl
                      have z2069 := H1833.out.cell 0 rfl 4 rfl
                      have z2070 := H1833.out.cell 0 rfl 5 rfl
                      have z2071 := H1833.out.cell 0 rfl 6 rfl
                      have z2072 := H1833.out.cell 0 rfl 7 rfl
                      have z2073 := H1833.out.cell 0 rfl 8 rfl
                      have z2074 := H1833.out.cell 0 rfl 9 rfl
                      have z2075 := H1833.out.cell 0 rfl 10 rfl
                      have z2076 := H1833.out.cell 0 rfl 11 rfl
                      have z2077 := H1833.out.cell 0 rfl 12 rfl
                      have z2078 := H1833.out.cell 0 rfl 13 rfl
                      have z2079 := H1833.out.cell 0 rfl 14 rfl
                      have z2080 := H1833.out.cell 0 rfl 15 rfl
                      have z2081 := H1833.out.cell 0 rfl 16 rfl
                      have z2082 := H1833.out.cell 0 rfl 17 rfl
                      go_wp2_with fail
                      clear z2065 z2066 z2067 z2068 z2069 z2070 z2071 z2072 z2073 z2074 z2075 z2076 z2077 z2078 z2079 z2080 z2081 z2082
                      have he0 := HEB.out
                      try simp only [decide_eq_true_eq, decide_eq_false_iff_not] at he0
                      go_ret
                      exact ⟨ret_b (by unfold sfOk; have := c1814h.out; have := c1854h.out; have := c1855h.out; have := c1970h.out; exact (decide_eq_false (by omega)).symm), by first | exact H1833.out.below | exact H1833.out.below'⟩
        · have c1855a : ((kh : Int) == (0)) = false := by simpa using c1855
          have c1855b : ((kh : Int) != (0)) = true := by simpa using c1855
          have c1855h := hid c1855
          clear c1855
          have z2083 := H1833.out.cell 0 rfl 0 rfl
          have z2084 := H1833.out.cell 0 rfl 1 rfl
          have z2085 := H1833.out.cell 0 rfl 2 rfl
          have z2086 := H1833.out.cell 0 rfl 3 rfl
          have z2087 := H1833.out.cell 0 rfl 4 rfl
          have z2088 := H1833.out.cell 0 rfl 5 rfl
          have z2089 := H1833.out.cell 0 rfl 6 rfl
          have z2090 := H1833.out.cell 0 rfl 7 rfl
          have z2091 := H1833.out.cell 0 rfl 8 rfl
          have z2092 := H1833.out.cell 0 rfl 9 rfl
          have z2093 := H1833.out.cell 0 rfl 10 rfl
          have z2094 := H1833.out.cell 0 rfl 11 rfl
          have z2095 := H1833.out.cell 0 rfl 12 rfl
          have z2096 := H1833.out.cell 0 rfl 13 rfl
          have z2097 := H1833.out.cell 0 rfl 14 rfl
          have z2098 := H1833.out.cell 0 rfl 15 rfl
          have z2099 := H1833.out.cell 0 rfl 16 rfl
          have z2100 := H1833.out.cell 0 rfl 17 rfl
          go_wp2_with fail
          clear z2083 z2084 z2085 z2086 z2087 z2088 z2089 z2090 z2091 z2092 z2093 z2094 z2095 z2096 z2097 z2098 z2099 z2100
          have he0 := HEB.out
          try simp only [decide_eq_true_eq, decide_eq_false_iff_not] at he0
          go_ret
          exact ⟨ret_b (by unfold sfOk; have := c1814h.out; have := c1854h.out; have := c1855h.out; exact (decide_eq_false (by omega)).symm), by first | exact H1833.out.below | exact H1833.out.below'⟩
      · have c1854a : ((kw : Int) == (0)) = false := by simpa using c1854
        have c1854b : ((kw : Int) != (0)) = true := by simpa using c1854
        have c1854h := hid c1854
        clear c1854
        have z2101 := H1833.out.cell 0 rfl 0 rfl
        have z2102 := H1833.out.cell 0 rfl 1 rfl
        have z2103 := H1833.out.cell 0 rfl 2 rfl
        have z2104 := H1833.out.cell 0 rfl 3 rfl
        have z2105 := H1833.out.cell 0 rfl 4 rfl
        have z2106 := H1833.out.cell 0 rfl 5 rfl
        have z2107 := H1833.out.cell 0 rfl 6 rfl
        have z2108 := H1833.out.cell 0 rfl 7 rfl
        have z2109 := H1833.out.cell 0 rfl 8 rfl
        have z2110 := H1833.out.cell 0 rfl 9 rfl
        have z2111 := H1833.out.cell 0 rfl 10 rfl
        have z2112 := H1833.out.cell 0 rfl 11 rfl
        have z2113 := H1833.out.cell 0 rfl 12 rfl
        have z2114 := H1833.out.cell 0 rfl 13 rfl
        have z2115 := H1833.out.cell 0 rfl 14 rfl
        have z2116 := H1833.out.cell 0 rfl 15 rfl
        have z2117 := H1833.out.cell 0 rfl 16 rfl
        have z2118 := H1833.out.cell 0 rfl 17 rfl
        go_wp2_with fail
        clear z2101 z2102 z2103 z2104 z2105 z2106 z2107 z2108 z2109 z2110 z2111 z2112 z2113 z2114 z2115 z2116 z2117 z2118
        have he0 := HEB.out
        try simp only [decide_eq_true_eq, decide_eq_false_iff_not] at he0
        go_ret
        exact ⟨ret_b (by unfold sfOk; have := c1814h.out; have := c1854h.out; exact (decide_eq_false (by omega)).symm), by first | exact H1833.out.below | exact H1833.out.below'⟩
    | false =>
      have z2119 := H1833.out.cell 0 rfl 0 rfl
      have z2120 := H1833.out.cell 0 rfl 1 rfl
      have z2121 := H1833.out.cell 0 rfl 2 rfl
      have z2122 := H1833.out.cell 0 rfl 3 rfl
      have z2123 := H1833.out.cell 0 rfl 4 rfl
      have z2124 := H1833.out.cell 0 rfl 5 rfl
      have z2125 := H1833.out.cell 0 rfl 6 rfl
      have z2126 := H1833.out.cell 0 rfl 7 rfl
      have z2127 := H1833.out.cell 0 rfl 8 rfl
      have z2128 := H1833.out.cell 0 rfl 9 rfl
      have z2129 := H1833.out.cell 0 rfl 10 rfl
      have z2130 := H1833.out.cell 0 rfl 11 rfl
      have z2131 := H1833.out.cell 0 rfl 12 rfl
      have z2132 := H1833.out.cell 0 rfl 13 rfl
      have z2133 := H1833.out.cell 0 rfl 14 rfl
      have z2134 := H1833.out.cell 0 rfl 15 rfl
      have z2135 := H1833.out.cell 0 rfl 16 rfl
      have z2136 := H1833.out.cell 0 rfl 17 rfl
      go_wp2_with fail
      clear z2119 z2120 z2121 z2122 z2123 z2124 z2125 z2126 z2127 z2128 z2129 z2130 z2131 z2132 z2133 z2134 z2135 z2136
      have he0 := HEB.out
      try simp only [decide_eq_true_eq, decide_eq_false_iff_not] at he0
      go_ret
      exact ⟨ret_b (by unfold sfOk; have := c1814h.out; exact (decide_eq_false (by omega)).symm), by first | exact H1833.out.below | exact H1833.out.below'⟩
  · have c1814a : ((sb : Int) == ((-1))) = false := by simpa using c1814
    have c1814b : ((sb : Int) != ((-1))) = true := by simpa using c1814
    have c1814h := hid c1814
    clear c1814
    have z2137 := H1812.out.cell 0 rfl 0 rfl
    have z2138 := H1812.out.cell 0 rfl 1 rfl
    have z2139 := H1812.out.cell 0 rfl 2 rfl
    have z2140 := H1812.out.cell 0 rfl 3 rfl
    have z2141 := H1812.out.cell 0 rfl 4 rfl
    have z2142 := H1812.out.cell 0 rfl 5 rfl
    have z2143 := H1812.out.cell 0 rfl 6 rfl
    have z2144 := H1812.out.cell 0 rfl 7 rfl
    have z2145 := H1812.out.cell 0 rfl 8 rfl
    have z2146 := H1812.out.cell 0 rfl 9 rfl
    have z2147 := H1812.out.cell 0 rfl 10 rfl
    have z2148 := H1812.out.cell 0 rfl 11 rfl
    have z2149 := H1812.out.cell 0 rfl 12 rfl
    have z2150 := H1812.out.cell 0 rfl 13 rfl
    have z2151 := H1812.out.cell 0 rfl 14 rfl
    have z2152 := H1812.out.cell 0 rfl 15 rfl
    have z2153 := H1812.out.cell 0 rfl 16 rfl
    have z2154 := H1812.out.cell 0 rfl 17 rfl
    go_wp2_with fail
    clear z2137 z2138 z2139 z2140 z2141 z2142 z2143 z2144 z2145 z2146 z2147 z2148 z2149 z2150 z2151 z2152 z2153 z2154
    have he0 := HEB.out
    try simp only [decide_eq_true_eq, decide_eq_false_iff_not] at he0
    go_ret
    exact ⟨ret_b (by unfold sfOk; have := c1814h.out; exact (decide_eq_false (by omega)).symm), by first | exact H1812.out.below | exact H1812.out.below'⟩

set_option maxRecDepth 100000 in
set_option maxHeartbeats 6400000 in
theorem rsfields_6 (sa sb : Int) (bar : Bool) (ep ef kw kh : Int) (wa : Option Addr) (wn wc : Nat) (ra : Option Addr) (rn rc : Nat) (ca : Option Addr) (cn cc : Nat) (sh sh2 : Int) (xa : Option Addr) (xn xc : Nat) (ya : Option Addr) (yn yc : Nat) (bins : Int) (oa : Option Addr) (on oc : Nat) (mx : Int) (W : World) : Calls Try.prog 56 #[.agg #[.int .i64 6, .int .i64 sa, .int .i64 sb, .bool bar, .int .i64 ep, .int .i64 ef, .int .i64 kw, .int .i64 kh, .slice wa wn wc, .slice ra rn rc, .slice ca cn cc, .int .i64 sh, .int .i64 sh2, .slice xa xn xc, .slice ya yn yc, .int .i64 bins, .slice oa on oc, .int .i64 mx]] W fun e w' => e = .returned (.bool (sfOk 6 sb ep ef kw kh wn rn cn sh sh2 xn yn bins on mx)) ∧ Below W.heap.size W w' := by
  obtain ⟨B, hB⟩ : ∃ B, W.heap.size = B := ⟨_, rfl⟩
  have HI0 := hid (St.init hB)
  obtain ⟨eb, heb⟩ : ∃ x, decide (ep = 0 ∧ ef = 0) = x := ⟨_, rfl⟩
  have HEB := hid heb
  go_enter Try.func56, Try.ntmps56
  go_upto_region 1 with fail
  have H2155 := hid (show St B W [.cells B #[.int .i64 6, .int .i64 sa, .int .i64 sb, .bool bar, .int .i64 ep, .int .i64 ef, .int .i64 kw, .int .i64 kh, .slice wa wn wc, .slice ra rn rc, .slice ca cn cc, .int .i64 sh, .int .i64 sh2, .slice xa xn xc, .slice ya yn yc, .int .i64 bins, .slice oa on oc, .int .i64 mx] 33] [] (W.alloc (.cells #[.int .i64 6, .int .i64 sa, .int .i64 sb, .bool bar, .int .i64 ep, .int .i64 ef, .int .i64 kw, .int .i64 kh, .slice wa wn wc, .slice ra rn rc, .slice ca cn cc, .int .i64 sh, .int .i64 sh2, .slice xa xn xc, .slice ya yn yc, .int .i64 bins, .slice oa on oc, .int .i64 mx] 33)) from (HI0.out.alloc #[.int .i64 6, .int .i64 sa, .int .i64 sb, .bool bar, .int .i64 ep, .int .i64 ef, .int .i64 kw, .int .i64 kh, .slice wa wn wc, .slice ra rn rc, .slice ca cn cc, .int .i64 sh, .int .i64 sh2, .slice xa xn xc, .slice ya yn yc, .int .i64 bins, .slice oa on oc, .int .i64 mx] 33 hB))
  first | refine gen_code H2155.out ?_ | refine gen_list H2155.out ?_ | refine gen_calls H2155.out ?_
  intro w2156 hG
  clear H2155
  have H2155 := hid hG
  clear hG
  have z2157 := H2155.out.cell 0 rfl 0 rfl
  have z2158 := H2155.out.cell 0 rfl 1 rfl
  have z2159 := H2155.out.cell 0 rfl 2 rfl
  have z2160 := H2155.out.cell 0 rfl 3 rfl
  have z2161 := H2155.out.cell 0 rfl 4 rfl
  have z2162 := H2155.out.cell 0 rfl 5 rfl
  have z2163 := H2155.out.cell 0 rfl 6 rfl
  have z2164 := H2155.out.cell 0 rfl 7 rfl
  have z2165 := H2155.out.cell 0 rfl 8 rfl
  have z2166 := H2155.out.cell 0 rfl 9 rfl
  have z2167 := H2155.out.cell 0 rfl 10 rfl
  have z2168 := H2155.out.cell 0 rfl 11 rfl
  have z2169 := H2155.out.cell 0 rfl 12 rfl
  have z2170 := H2155.out.cell 0 rfl 13 rfl
  have z2171 := H2155.out.cell 0 rfl 14 rfl
  have z2172 := H2155.out.cell 0 rfl 15 rfl
  have z2173 := H2155.out.cell 0 rfl 16 rfl
  have z2174 := H2155.out.cell 0 rfl 17 rfl
  go_upto_region 3 with fail
  clear z2157 z2158 z2159 z2160 z2161 z2162 z2163 z2164 z2165 z2166 z2167 z2168 z2169 z2170 z2171 z2172 z2173 z2174
  have H2175 := hid H2155.out.drew
  refine wp_region_held_drew (S := (fun w' => w'.cell? ⟨B, 0, none⟩ = some (.int .i64 6) ∧ w'.cell? ⟨B, 1, none⟩ = some (.int .i64 sa) ∧ w'.cell? ⟨B, 2, none⟩ = some (.int .i64 sb) ∧ w'.cell? ⟨B, 3, none⟩ = some (.bool bar) ∧ w'.cell? ⟨B, 4, none⟩ = some (.int .i64 ep) ∧ w'.cell? ⟨B, 5, none⟩ = some (.int .i64 ef) ∧ w'.cell? ⟨B, 6, none⟩ = some (.int .i64 kw) ∧ w'.cell? ⟨B, 7, none⟩ = some (.int .i64 kh) ∧ w'.cell? ⟨B, 8, none⟩ = some (.slice wa wn wc) ∧ w'.cell? ⟨B, 9, none⟩ = some (.slice ra rn rc) ∧ w'.cell? ⟨B, 10, none⟩ = some (.slice ca cn cc) ∧ w'.cell? ⟨B, 11, none⟩ = some (.int .i64 sh) ∧ w'.cell? ⟨B, 12, none⟩ = some (.int .i64 sh2) ∧ w'.cell? ⟨B, 13, none⟩ = some (.slice xa xn xc) ∧ w'.cell? ⟨B, 14, none⟩ = some (.slice ya yn yc) ∧ w'.cell? ⟨B, 15, none⟩ = some (.int .i64 bins) ∧ w'.cell? ⟨B, 16, none⟩ = some (.slice oa on oc) ∧ w'.cell? ⟨B, 17, none⟩ = some (.int .i64 mx))) (by kernel_rfl) ⟨H2175.out.cell 0 rfl 0 rfl, H2175.out.cell 0 rfl 1 rfl, H2175.out.cell 0 rfl 2 rfl, H2175.out.cell 0 rfl 3 rfl, H2175.out.cell 0 rfl 4 rfl, H2175.out.cell 0 rfl 5 rfl, H2175.out.cell 0 rfl 6 rfl, H2175.out.cell 0 rfl 7 rfl, H2175.out.cell 0 rfl 8 rfl, H2175.out.cell 0 rfl 9 rfl, H2175.out.cell 0 rfl 10 rfl, H2175.out.cell 0 rfl 11 rfl, H2175.out.cell 0 rfl 12 rfl, H2175.out.cell 0 rfl 13 rfl, H2175.out.cell 0 rfl 14 rfl, H2175.out.cell 0 rfl 15 rfl, H2175.out.cell 0 rfl 16 rfl, H2175.out.cell 0 rfl 17 rfl⟩ (fun hHeld => ?_)
  generalize w2156.drew = k2176 at *
  refine tkA 0 ?_
  try simp only [Act.put, p1, p2, p3, p4, p5, p6]
  refine tkA 1 ?_
  try simp only [Act.put, p1, p2, p3, p4, p5, p6]
  refine tkA 2 ?_
  try simp only [Act.put, p1, p2, p3, p4, p5, p6]
  refine tkA 3 ?_
  try simp only [Act.put, p1, p2, p3, p4, p5, p6]
  refine tkA 4 ?_
  try simp only [Act.put, p1, p2, p3, p4, p5, p6]
  refine tkA 5 ?_
  try simp only [Act.put, p1, p2, p3, p4, p5, p6]
  refine tkA 6 ?_
  try simp only [Act.put, p1, p2, p3, p4, p5, p6]
  refine tkA 7 ?_
  try simp only [Act.put, p1, p2, p3, p4, p5, p6]
  refine tkA 8 ?_
  try simp only [Act.put, p1, p2, p3, p4, p5, p6]
  refine tkA 9 ?_
  try simp only [Act.put, p1, p2, p3, p4, p5, p6]
  refine tkA 10 ?_
  try simp only [Act.put, p1, p2, p3, p4, p5, p6]
  refine tkA 11 ?_
  try simp only [Act.put, p1, p2, p3, p4, p5, p6]
  refine wpAnyH_done (by kernel_rfl) ?_ _
  try clear hHeld
  have z2177 := H2175.out.cell 0 rfl 0 rfl
  have z2178 := H2175.out.cell 0 rfl 1 rfl
  have z2179 := H2175.out.cell 0 rfl 2 rfl
  have z2180 := H2175.out.cell 0 rfl 3 rfl
  have z2181 := H2175.out.cell 0 rfl 4 rfl
  have z2182 := H2175.out.cell 0 rfl 5 rfl
  have z2183 := H2175.out.cell 0 rfl 6 rfl
  have z2184 := H2175.out.cell 0 rfl 7 rfl
  have z2185 := H2175.out.cell 0 rfl 8 rfl
  have z2186 := H2175.out.cell 0 rfl 9 rfl
  have z2187 := H2175.out.cell 0 rfl 10 rfl
  have z2188 := H2175.out.cell 0 rfl 11 rfl
  have z2189 := H2175.out.cell 0 rfl 12 rfl
  have z2190 := H2175.out.cell 0 rfl 13 rfl
  have z2191 := H2175.out.cell 0 rfl 14 rfl
  have z2192 := H2175.out.cell 0 rfl 15 rfl
  have z2193 := H2175.out.cell 0 rfl 16 rfl
  have z2194 := H2175.out.cell 0 rfl 17 rfl
  go_wp2_with fail
  clear z2177 z2178 z2179 z2180 z2181 z2182 z2183 z2184 z2185 z2186 z2187 z2188 z2189 z2190 z2191 z2192 z2193 z2194
  refine (redged_any _ _).mono ?_
  rintro e w2195 ⟨rfl, hsw⟩
  have hsw2 : k2176 = w2195 := by first | exact hsw | exact hsw.symm
  clear hsw
  subst hsw2
  rw [show edOk 6 = false from by decide]
  cases eb with
  | true =>
    by_cases c2196 : (kw : Int) = 0
    · obtain ⟨c2196c, c2196d⟩ : (kw : Int) ≤ 0 ∧ (0 : Int) ≤ kw := by omega
      have c2196a : ((kw : Int) == (0)) = true := by simpa using c2196
      have c2196b : ((kw : Int) != (0)) = false := by simpa using c2196
      have c2196h := hid c2196
      clear c2196
      by_cases c2197 : (kh : Int) = 0
      · obtain ⟨c2197c, c2197d⟩ : (kh : Int) ≤ 0 ∧ (0 : Int) ≤ kh := by omega
        have c2197a : ((kh : Int) == (0)) = true := by simpa using c2197
        have c2197b : ((kh : Int) != (0)) = false := by simpa using c2197
        have c2197h := hid c2197
        clear c2197
        by_cases c2198 : (0 : Int) < wn
        · skip
          have z2199 := H2175.out.cell 0 rfl 0 rfl
          have z2200 := H2175.out.cell 0 rfl 1 rfl
          have z2201 := H2175.out.cell 0 rfl 2 rfl
          have z2202 := H2175.out.cell 0 rfl 3 rfl
          have z2203 := H2175.out.cell 0 rfl 4 rfl
          have z2204 := H2175.out.cell 0 rfl 5 rfl
          have z2205 := H2175.out.cell 0 rfl 6 rfl
          have z2206 := H2175.out.cell 0 rfl 7 rfl
          have z2207 := H2175.out.cell 0 rfl 8 rfl
          have z2208 := H2175.out.cell 0 rfl 9 rfl
          have z2209 := H2175.out.cell 0 rfl 10 rfl
          have z2210 := H2175.out.cell 0 rfl 11 rfl
          have z2211 := H2175.out.cell 0 rfl 12 rfl
          have z2212 := H2175.out.cell 0 rfl 13 rfl
          have z2213 := H2175.out.cell 0 rfl 14 rfl
          have z2214 := H2175.out.cell 0 rfl 15 rfl
          have z2215 := H2175.out.cell 0 rfl 16 rfl
          have z2216 := H2175.out.cell 0 rfl 17 rfl
          go_wp2_with fail
          clear z2199 z2200 z2201 z2202 z2203 z2204 z2205 z2206 z2207 z2208 z2209 z2210 z2211 z2212 z2213 z2214 z2215 z2216
          have he0 := HEB.out
          try simp only [decide_eq_true_eq, decide_eq_false_iff_not] at he0
          go_ret
          exact ⟨ret_b (by unfold sfOk; have := c2196h.out; have := c2197h.out; exact (decide_eq_false (by omega)).symm), by first | exact H2175.out.below | exact H2175.out.below'⟩
        · skip
          by_cases c2217 : (0 : Int) < rn
          · skip
            have z2218 := H2175.out.cell 0 rfl 0 rfl
            have z2219 := H2175.out.cell 0 rfl 1 rfl
            have z2220 := H2175.out.cell 0 rfl 2 rfl
            have z2221 := H2175.out.cell 0 rfl 3 rfl
            have z2222 := H2175.out.cell 0 rfl 4 rfl
            have z2223 := H2175.out.cell 0 rfl 5 rfl
            have z2224 := H2175.out.cell 0 rfl 6 rfl
            have z2225 := H2175.out.cell 0 rfl 7 rfl
            have z2226 := H2175.out.cell 0 rfl 8 rfl
            have z2227 := H2175.out.cell 0 rfl 9 rfl
            have z2228 := H2175.out.cell 0 rfl 10 rfl
            have z2229 := H2175.out.cell 0 rfl 11 rfl
            have z2230 := H2175.out.cell 0 rfl 12 rfl
            have z2231 := H2175.out.cell 0 rfl 13 rfl
            have z2232 := H2175.out.cell 0 rfl 14 rfl
            have z2233 := H2175.out.cell 0 rfl 15 rfl
            have z2234 := H2175.out.cell 0 rfl 16 rfl
            have z2235 := H2175.out.cell 0 rfl 17 rfl
            go_wp2_with fail
            clear z2218 z2219 z2220 z2221 z2222 z2223 z2224 z2225 z2226 z2227 z2228 z2229 z2230 z2231 z2232 z2233 z2234 z2235
            have he0 := HEB.out
            try simp only [decide_eq_true_eq, decide_eq_false_iff_not] at he0
            go_ret
            exact ⟨ret_b (by unfold sfOk; have := c2196h.out; have := c2197h.out; exact (decide_eq_false (by omega)).symm), by first | exact H2175.out.below | exact H2175.out.below'⟩
          · skip
            by_cases c2236 : (0 : Int) < cn
            · skip
              have z2237 := H2175.out.cell 0 rfl 0 rfl
              have z2238 := H2175.out.cell 0 rfl 1 rfl
              have z2239 := H2175.out.cell 0 rfl 2 rfl
              have z2240 := H2175.out.cell 0 rfl 3 rfl
              have z2241 := H2175.out.cell 0 rfl 4 rfl
              have z2242 := H2175.out.cell 0 rfl 5 rfl
              have z2243 := H2175.out.cell 0 rfl 6 rfl
              have z2244 := H2175.out.cell 0 rfl 7 rfl
              have z2245 := H2175.out.cell 0 rfl 8 rfl
              have z2246 := H2175.out.cell 0 rfl 9 rfl
              have z2247 := H2175.out.cell 0 rfl 10 rfl
              have z2248 := H2175.out.cell 0 rfl 11 rfl
              have z2249 := H2175.out.cell 0 rfl 12 rfl
              have z2250 := H2175.out.cell 0 rfl 13 rfl
              have z2251 := H2175.out.cell 0 rfl 14 rfl
              have z2252 := H2175.out.cell 0 rfl 15 rfl
              have z2253 := H2175.out.cell 0 rfl 16 rfl
              have z2254 := H2175.out.cell 0 rfl 17 rfl
              go_wp2_with fail
              clear z2237 z2238 z2239 z2240 z2241 z2242 z2243 z2244 z2245 z2246 z2247 z2248 z2249 z2250 z2251 z2252 z2253 z2254
              have he0 := HEB.out
              try simp only [decide_eq_true_eq, decide_eq_false_iff_not] at he0
              go_ret
              exact ⟨ret_b (by unfold sfOk; have := c2196h.out; have := c2197h.out; exact (decide_eq_false (by omega)).symm), by first | exact H2175.out.below | exact H2175.out.below'⟩
            · skip
              by_cases c2255 : (0 : Int) < xn
              · skip
                have z2256 := H2175.out.cell 0 rfl 0 rfl
                have z2257 := H2175.out.cell 0 rfl 1 rfl
                have z2258 := H2175.out.cell 0 rfl 2 rfl
                have z2259 := H2175.out.cell 0 rfl 3 rfl
                have z2260 := H2175.out.cell 0 rfl 4 rfl
                have z2261 := H2175.out.cell 0 rfl 5 rfl
                have z2262 := H2175.out.cell 0 rfl 6 rfl
                have z2263 := H2175.out.cell 0 rfl 7 rfl
                have z2264 := H2175.out.cell 0 rfl 8 rfl
                have z2265 := H2175.out.cell 0 rfl 9 rfl
                have z2266 := H2175.out.cell 0 rfl 10 rfl
                have z2267 := H2175.out.cell 0 rfl 11 rfl
                have z2268 := H2175.out.cell 0 rfl 12 rfl
                have z2269 := H2175.out.cell 0 rfl 13 rfl
                have z2270 := H2175.out.cell 0 rfl 14 rfl
                have z2271 := H2175.out.cell 0 rfl 15 rfl
                have z2272 := H2175.out.cell 0 rfl 16 rfl
                have z2273 := H2175.out.cell 0 rfl 17 rfl
                go_wp2_with fail
                clear z2256 z2257 z2258 z2259 z2260 z2261 z2262 z2263 z2264 z2265 z2266 z2267 z2268 z2269 z2270 z2271 z2272 z2273
                have he0 := HEB.out
                try simp only [decide_eq_true_eq, decide_eq_false_iff_not] at he0
                go_ret
                exact ⟨ret_b (by unfold sfOk; have := c2196h.out; have := c2197h.out; exact (decide_eq_false (by omega)).symm), by first | exact H2175.out.below | exact H2175.out.below'⟩
              · skip
                by_cases c2274 : (0 : Int) < yn
                · skip
                  have z2275 := H2175.out.cell 0 rfl 0 rfl
                  have z2276 := H2175.out.cell 0 rfl 1 rfl
                  have z2277 := H2175.out.cell 0 rfl 2 rfl
                  have z2278 := H2175.out.cell 0 rfl 3 rfl
                  have z2279 := H2175.out.cell 0 rfl 4 rfl
                  have z2280 := H2175.out.cell 0 rfl 5 rfl
                  have z2281 := H2175.out.cell 0 rfl 6 rfl
                  have z2282 := H2175.out.cell 0 rfl 7 rfl
                  have z2283 := H2175.out.cell 0 rfl 8 rfl
                  have z2284 := H2175.out.cell 0 rfl 9 rfl
                  have z2285 := H2175.out.cell 0 rfl 10 rfl
                  have z2286 := H2175.out.cell 0 rfl 11 rfl
                  have z2287 := H2175.out.cell 0 rfl 12 rfl
                  have z2288 := H2175.out.cell 0 rfl 13 rfl
                  have z2289 := H2175.out.cell 0 rfl 14 rfl
                  have z2290 := H2175.out.cell 0 rfl 15 rfl
                  have z2291 := H2175.out.cell 0 rfl 16 rfl
                  have z2292 := H2175.out.cell 0 rfl 17 rfl
                  go_wp2_with fail
                  clear z2275 z2276 z2277 z2278 z2279 z2280 z2281 z2282 z2283 z2284 z2285 z2286 z2287 z2288 z2289 z2290 z2291 z2292
                  have he0 := HEB.out
                  try simp only [decide_eq_true_eq, decide_eq_false_iff_not] at he0
                  go_ret
                  exact ⟨ret_b (by unfold sfOk; have := c2196h.out; have := c2197h.out; exact (decide_eq_false (by omega)).symm), by first | exact H2175.out.below | exact H2175.out.below'⟩
                · skip
                  have z2293 := H2175.out.cell 0 rfl 0 rfl
                  have z2294 := H2175.out.cell 0 rfl 1 rfl
                  have z2295 := H2175.out.cell 0 rfl 2 rfl
                  have z2296 := H2175.out.cell 0 rfl 3 rfl
                  have z2297 := H2175.out.cell 0 rfl 4 rfl
                  have z2298 := H2175.out.cell 0 rfl 5 rfl
                  have z2299 := H2175.out.cell 0 rfl 6 rfl
                  have z2300 := H2175.out.cell 0 rfl 7 rfl
                  have z2301 := H2175.out.cell 0 rfl 8 rfl
                  have z2302 := H2175.out.cell 0 rfl 9 rfl
                  have z2303 := H2175.out.cell 0 rfl 10 rfl
                  have z2304 := H2175.out.cell 0 rfl 11 rfl
                  have z2305 := H2175.out.cell 0 rfl 12 rfl
                  have z2306 := H2175.out.cell 0 rfl 13 rfl
                  have z2307 := H2175.out.cell 0 rfl 14 rfl
                  have z2308 := H2175.out.cell 0 rfl 15 rfl
                  have z2309 := H2175.out.cell 0 rfl 16 rfl
                  have z2310 := H2175.out.cell 0 rfl 17 rfl
                  go_wp2_with fail
                  clear z2293 z2294 z2295 z2296 z2297 z2298 z2299 z2300 z2301 z2302 z2303 z2304 z2305 z2306 z2307 z2308 z2309 z2310
                  refine (redged_any _ _).mono ?_
                  rintro e w2311 ⟨rfl, hsw⟩
                  have hsw2 : k2176 = w2311 := by first | exact hsw | exact hsw.symm
                  clear hsw
                  subst hsw2
                  rw [show edOk 6 = false from by decide]
                  by_cases c2312 : (sh : Int) = 0
                  · obtain ⟨c2312c, c2312d⟩ : (sh : Int) ≤ 0 ∧ (0 : Int) ≤ sh := by omega
                    have c2312a : ((sh : Int) == (0)) = true := by simpa using c2312
                    have c2312b : ((sh : Int) != (0)) = false := by simpa using c2312
                    have c2312h := hid c2312
                    clear c2312
                    by_cases c2313 : (sh2 : Int) = 0
                    · obtain ⟨c2313c, c2313d⟩ : (sh2 : Int) ≤ 0 ∧ (0 : Int) ≤ sh2 := by omega
                      have c2313a : ((sh2 : Int) == (0)) = true := by simpa using c2313
                      have c2313b : ((sh2 : Int) != (0)) = false := by simpa using c2313
                      have c2313h := hid c2313
                      clear c2313
                      by_cases c2314 : (bins : Int) = 0
                      · obtain ⟨c2314c, c2314d⟩ : (bins : Int) ≤ 0 ∧ (0 : Int) ≤ bins := by omega
                        have c2314a : ((bins : Int) == (0)) = true := by simpa using c2314
                        have c2314b : ((bins : Int) != (0)) = false := by simpa using c2314
                        have c2314h := hid c2314
                        clear c2314
                        have z2315 := H2175.out.cell 0 rfl 0 rfl
                        have z2316 := H2175.out.cell 0 rfl 1 rfl
                        have z2317 := H2175.out.cell 0 rfl 2 rfl
                        have z2318 := H2175.out.cell 0 rfl 3 rfl
                        have z2319 := H2175.out.cell 0 rfl 4 rfl
                        have z2320 := H2175.out.cell 0 rfl 5 rfl
                        have z2321 := H2175.out.cell 0 rfl 6 rfl
                        have z2322 := H2175.out.cell 0 rfl 7 rfl
                        have z2323 := H2175.out.cell 0 rfl 8 rfl
                        have z2324 := H2175.out.cell 0 rfl 9 rfl
                        have z2325 := H2175.out.cell 0 rfl 10 rfl
                        have z2326 := H2175.out.cell 0 rfl 11 rfl
                        have z2327 := H2175.out.cell 0 rfl 12 rfl
                        have z2328 := H2175.out.cell 0 rfl 13 rfl
                        have z2329 := H2175.out.cell 0 rfl 14 rfl
                        have z2330 := H2175.out.cell 0 rfl 15 rfl
                        have z2331 := H2175.out.cell 0 rfl 16 rfl
                        have z2332 := H2175.out.cell 0 rfl 17 rfl
                        go_wp2_with fail
                        clear z2315 z2316 z2317 z2318 z2319 z2320 z2321 z2322 z2323 z2324 z2325 z2326 z2327 z2328 z2329 z2330 z2331 z2332
                        have he0 := HEB.out
                        try simp only [decide_eq_true_eq, decide_eq_false_iff_not] at he0
                        go_ret
                        exact ⟨ret_b (by unfold sfOk; have := c2196h.out; have := c2197h.out; have := c2312h.out; have := c2313h.out; have := c2314h.out; exact (decide_eq_true (by omega)).symm), by first | exact H2175.out.below | exact H2175.out.below'⟩
                      · have c2314a : ((bins : Int) == (0)) = false := by simpa using c2314
                        have c2314b : ((bins : Int) != (0)) = true := by simpa using c2314
                        have c2314h := hid c2314
                        clear c2314
                        have z2333 := H2175.out.cell 0 rfl 0 rfl
                        have z2334 := H2175.out.cell 0 rfl 1 rfl
                        have z2335 := H2175.out.cell 0 rfl 2 rfl
                        have z2336 := H2175.out.cell 0 rfl 3 rfl
                        have z2337 := H2175.out.cell 0 rfl 4 rfl
                        have z2338 := H2175.out.cell 0 rfl 5 rfl
                        have z2339 := H2175.out.cell 0 rfl 6 rfl
                        have z2340 := H2175.out.cell 0 rfl 7 rfl
                        have z2341 := H2175.out.cell 0 rfl 8 rfl
                        have z2342 := H2175.out.cell 0 rfl 9 rfl
                        have z2343 := H2175.out.cell 0 rfl 10 rfl
                        have z2344 := H2175.out.cell 0 rfl 11 rfl
                        have z2345 := H2175.out.cell 0 rfl 12 rfl
                        have z2346 := H2175.out.cell 0 rfl 13 rfl
                        have z2347 := H2175.out.cell 0 rfl 14 rfl
                        have z2348 := H2175.out.cell 0 rfl 15 rfl
                        have z2349 := H2175.out.cell 0 rfl 16 rfl
                        have z2350 := H2175.out.cell 0 rfl 17 rfl
                        go_wp2_with fail
                        clear z2333 z2334 z2335 z2336 z2337 z2338 z2339 z2340 z2341 z2342 z2343 z2344 z2345 z2346 z2347 z2348 z2349 z2350
                        have he0 := HEB.out
                        try simp only [decide_eq_true_eq, decide_eq_false_iff_not] at he0
                        go_ret
                        exact ⟨ret_b (by unfold sfOk; have := c2196h.out; have := c2197h.out; have := c2312h.out; have := c2313h.out; have := c2314h.out; exact (decide_eq_false (by omega)).symm), by first | exact H2175.out.below | exact H2175.out.below'⟩
                    · have c2313a : ((sh2 : Int) == (0)) = false := by simpa using c2313
                      have c2313b : ((sh2 : Int) != (0)) = true := by simpa using c2313
                      have c2313h := hid c2313
                      clear c2313
                      have z2351 := H2175.out.cell 0 rfl 0 rfl
                      have z2352 := H2175.out.cell 0 rfl 1 rfl
                      have z2353 := H2175.out.cell 0 rfl 2 rfl
                      have z2354 := H2175.out.cell 0 rfl 3 rfl
                      have z2355 := H2175.out.cell 0 rfl 4 rfl
                      have z2356 := H2175.out.cell 0 rfl 5 rfl
                      have z2357 := H2175.out.cell 0 rfl 6 rfl
                      have z2358 := H2175.out.cell 0 rfl 7 rfl
                      have z2359 := H2175.out.cell 0 rfl 8 rfl
                      have z2360 := H2175.out.cell 0 rfl 9 rfl
                      have z2361 := H2175.out.cell 0 rfl 10 rfl
                      have z2362 := H2175.out.cell 0 rfl 11 rfl
                      have z2363 := H2175.out.cell 0 rfl 12 rfl
                      have z2364 := H2175.out.cell 0 rfl 13 rfl
                      have z2365 := H2175.out.cell 0 rfl 14 rfl
                      have z2366 := H2175.out.cell 0 rfl 15 rfl
                      have z2367 := H2175.out.cell 0 rfl 16 rfl
                      have z2368 := H2175.out.cell 0 rfl 17 rfl
                      go_wp2_with fail
                      clear z2351 z2352 z2353 z2354 z2355 z2356 z2357 z2358 z2359 z2360 z2361 z2362 z2363 z2364 z2365 z2366 z2367 z2368
                      have he0 := HEB.out
                      try simp only [decide_eq_true_eq, decide_eq_false_iff_not] at he0
                      go_ret
                      exact ⟨ret_b (by unfold sfOk; have := c2196h.out; have := c2197h.out; have := c2312h.out; have := c2313h.out; exact (decide_eq_false (by omega)).symm), by first | exact H2175.out.below | exact H2175.out.below'⟩
                  · have c2312a : ((sh : Int) == (0)) = false := by simpa using c2312
                    have c2312b : ((sh : Int) != (0)) = true := by simpa using c2312
                    have c2312h := hid c2312
                    clear c2312
                    have z2369 := H2175.out.cell 0 rfl 0 rfl
                    have z2370 := H2175.out.cell 0 rfl 1 rfl
                    have z2371 := H2175.out.cell 0 rfl 2 rfl
                    have z2372 := H2175.out.cell 0 rfl 3 rfl
                    have z2373 := H2175.out.cell 0 rfl 4 rfl
                    have z2374 := H2175.out.cell 0 rfl 5 rfl
                    have z2375 := H2175.out.cell 0 rfl 6 rfl
                    have z2376 := H2175.out.cell 0 rfl 7 rfl
                    have z2377 := H2175.out.cell 0 rfl 8 rfl
                    have z2378 := H2175.out.cell 0 rfl 9 rfl
                    have z2379 := H2175.out.cell 0 rfl 10 rfl
                    have z2380 := H2175.out.cell 0 rfl 11 rfl
                    have z2381 := H2175.out.cell 0 rfl 12 rfl
                    have z2382 := H2175.out.cell 0 rfl 13 rfl
                    have z2383 := H2175.out.cell 0 rfl 14 rfl
                    have z2384 := H2175.out.cell 0 rfl 15 rfl
                    have z2385 := H2175.out.cell 0 rfl 16 rfl
                    have z2386 := H2175.out.cell 0 rfl 17 rfl
                    go_wp2_with fail
                    clear z2369 z2370 z2371 z2372 z2373 z2374 z2375 z2376 z2377 z2378 z2379 z2380 z2381 z2382 z2383 z2384 z2385 z2386
                    have he0 := HEB.out
                    try simp only [decide_eq_true_eq, decide_eq_false_iff_not] at he0
                    go_ret
                    exact ⟨ret_b (by unfold sfOk; have := c2196h.out; have := c2197h.out; have := c2312h.out; exact (decide_eq_false (by omega)).symm), by first | exact H2175.out.below | exact H2175.out.below'⟩
      · have c2197a : ((kh : Int) == (0)) = false := by simpa using c2197
        have c2197b : ((kh : Int) != (0)) = true := by simpa using c2197
        have c2197h := hid c2197
        clear c2197
        have z2387 := H2175.out.cell 0 rfl 0 rfl
        have z2388 := H2175.out.cell 0 rfl 1 rfl
        have z2389 := H2175.out.cell 0 rfl 2 rfl
        have z2390 := H2175.out.cell 0 rfl 3 rfl
        have z2391 := H2175.out.cell 0 rfl 4 rfl
        have z2392 := H2175.out.cell 0 rfl 5 rfl
        have z2393 := H2175.out.cell 0 rfl 6 rfl
        have z2394 := H2175.out.cell 0 rfl 7 rfl
        have z2395 := H2175.out.cell 0 rfl 8 rfl
        have z2396 := H2175.out.cell 0 rfl 9 rfl
        have z2397 := H2175.out.cell 0 rfl 10 rfl
        have z2398 := H2175.out.cell 0 rfl 11 rfl
        have z2399 := H2175.out.cell 0 rfl 12 rfl
        have z2400 := H2175.out.cell 0 rfl 13 rfl
        have z2401 := H2175.out.cell 0 rfl 14 rfl
        have z2402 := H2175.out.cell 0 rfl 15 rfl
        have z2403 := H2175.out.cell 0 rfl 16 rfl
        have z2404 := H2175.out.cell 0 rfl 17 rfl
        go_wp2_with fail
        clear z2387 z2388 z2389 z2390 z2391 z2392 z2393 z2394 z2395 z2396 z2397 z2398 z2399 z2400 z2401 z2402 z2403 z2404
        have he0 := HEB.out
        try simp only [decide_eq_true_eq, decide_eq_false_iff_not] at he0
        go_ret
        exact ⟨ret_b (by unfold sfOk; have := c2196h.out; have := c2197h.out; exact (decide_eq_false (by omega)).symm), by first | exact H2175.out.below | exact H2175.out.below'⟩
    · have c2196a : ((kw : Int) == (0)) = false := by simpa using c2196
      have c2196b : ((kw : Int) != (0)) = true := by simpa using c2196
      have c2196h := hid c2196
      clear c2196
      have z2405 := H2175.out.cell 0 rfl 0 rfl
      have z2406 := H2175.out.cell 0 rfl 1 rfl
      have z2407 := H2175.out.cell 0 rfl 2 rfl
      have z2408 := H2175.out.cell 0 rfl 3 rfl
      have z2409 := H2175.out.cell 0 rfl 4 rfl
      have z2410 := H2175.out.cell 0 rfl 5 rfl
      have z2411 := H2175.out.cell 0 rfl 6 rfl
      have z2412 := H2175.out.cell 0 rfl 7 rfl
      have z2413 := H2175.out.cell 0 rfl 8 rfl
      have z2414 := H2175.out.cell 0 rfl 9 rfl
      have z2415 := H2175.out.cell 0 rfl 10 rfl
      have z2416 := H2175.out.cell 0 rfl 11 rfl
      have z2417 := H2175.out.cell 0 rfl 12 rfl
      have z2418 := H2175.out.cell 0 rfl 13 rfl
      have z2419 := H2175.out.cell 0 rfl 14 rfl
      have z2420 := H2175.out.cell 0 rfl 15 rfl
      have z2421 := H2175.out.cell 0 rfl 16 rfl
      have z2422 := H2175.out.cell 0 rfl 17 rfl
      go_wp2_with fail
      clear z2405 z2406 z2407 z2408 z2409 z2410 z2411 z2412 z2413 z2414 z2415 z2416 z2417 z2418 z2419 z2420 z2421 z2422
      have he0 := HEB.out
      try simp only [decide_eq_true_eq, decide_eq_false_iff_not] at he0
      go_ret
      exact ⟨ret_b (by unfold sfOk; have := c2196h.out; exact (decide_eq_false (by omega)).symm), by first | exact H2175.out.below | exact H2175.out.below'⟩
  | false =>
    have z2423 := H2175.out.cell 0 rfl 0 rfl
    have z2424 := H2175.out.cell 0 rfl 1 rfl
    have z2425 := H2175.out.cell 0 rfl 2 rfl
    have z2426 := H2175.out.cell 0 rfl 3 rfl
    have z2427 := H2175.out.cell 0 rfl 4 rfl
    have z2428 := H2175.out.cell 0 rfl 5 rfl
    have z2429 := H2175.out.cell 0 rfl 6 rfl
    have z2430 := H2175.out.cell 0 rfl 7 rfl
    have z2431 := H2175.out.cell 0 rfl 8 rfl
    have z2432 := H2175.out.cell 0 rfl 9 rfl
    have z2433 := H2175.out.cell 0 rfl 10 rfl
    have z2434 := H2175.out.cell 0 rfl 11 rfl
    have z2435 := H2175.out.cell 0 rfl 12 rfl
    have z2436 := H2175.out.cell 0 rfl 13 rfl
    have z2437 := H2175.out.cell 0 rfl 14 rfl
    have z2438 := H2175.out.cell 0 rfl 15 rfl
    have z2439 := H2175.out.cell 0 rfl 16 rfl
    have z2440 := H2175.out.cell 0 rfl 17 rfl
    go_wp2_with fail
    clear z2423 z2424 z2425 z2426 z2427 z2428 z2429 z2430 z2431 z2432 z2433 z2434 z2435 z2436 z2437 z2438 z2439 z2440
    have he0 := HEB.out
    try simp only [decide_eq_true_eq, decide_eq_false_iff_not] at he0
    go_ret
    exact ⟨ret_b (by unfold sfOk; exact (decide_eq_false (by omega)).symm), by first | exact H2175.out.below | exact H2175.out.below'⟩

set_option maxRecDepth 100000 in
set_option maxHeartbeats 6400000 in
theorem rsfields_any (kd sa sb : Int) (bar : Bool) (ep ef kw kh : Int) (wa : Option Addr) (wn wc : Nat) (ra : Option Addr) (rn rc : Nat) (ca : Option Addr) (cn cc : Nat) (sh sh2 : Int) (xa : Option Addr) (xn xc : Nat) (ya : Option Addr) (yn yc : Nat) (bins : Int) (oa : Option Addr) (on oc : Nat) (mx : Int) (W : World) : Calls Try.prog 56 #[.agg #[.int .i64 kd, .int .i64 sa, .int .i64 sb, .bool bar, .int .i64 ep, .int .i64 ef, .int .i64 kw, .int .i64 kh, .slice wa wn wc, .slice ra rn rc, .slice ca cn cc, .int .i64 sh, .int .i64 sh2, .slice xa xn xc, .slice ya yn yc, .int .i64 bins, .slice oa on oc, .int .i64 mx]] W fun e w' => e = .returned (.bool (sfOk kd sb ep ef kw kh wn rn cn sh sh2 xn yn bins on mx)) ∧ Below W.heap.size W w' := by
  by_cases hk : 1 ≤ kd ∧ kd ≤ 6
  · rcases (show kd = 1 ∨ kd = 2 ∨ kd = 3 ∨ kd = 4 ∨ kd = 5 ∨ kd = 6 by omega) with rfl | rfl | rfl | rfl | rfl | rfl
    · exact rsfields_1 _ _ _ _ _ _ _ _ _ _ _ _ _ _ _ _ _ _ _ _ _ _ _ _ _ _ _ _ _ _
    · exact rsfields_2 _ _ _ _ _ _ _ _ _ _ _ _ _ _ _ _ _ _ _ _ _ _ _ _ _ _ _ _ _ _
    · exact rsfields_3 _ _ _ _ _ _ _ _ _ _ _ _ _ _ _ _ _ _ _ _ _ _ _ _ _ _ _ _ _ _
    · exact rsfields_4 _ _ _ _ _ _ _ _ _ _ _ _ _ _ _ _ _ _ _ _ _ _ _ _ _ _ _ _ _ _
    · exact rsfields_5 _ _ _ _ _ _ _ _ _ _ _ _ _ _ _ _ _ _ _ _ _ _ _ _ _ _ _ _ _ _
    · exact rsfields_6 _ _ _ _ _ _ _ _ _ _ _ _ _ _ _ _ _ _ _ _ _ _ _ _ _ _ _ _ _ _
  obtain ⟨B, hB⟩ : ∃ B, W.heap.size = B := ⟨_, rfl⟩
  have HI0 := hid (St.init hB)
  go_enter Try.func56, Try.ntmps56
  go_upto_region 1 with fail
  have H2441 := hid (show St B W [.cells B #[.int .i64 kd, .int .i64 sa, .int .i64 sb, .bool bar, .int .i64 ep, .int .i64 ef, .int .i64 kw, .int .i64 kh, .slice wa wn wc, .slice ra rn rc, .slice ca cn cc, .int .i64 sh, .int .i64 sh2, .slice xa xn xc, .slice ya yn yc, .int .i64 bins, .slice oa on oc, .int .i64 mx] 33] [] (W.alloc (.cells #[.int .i64 kd, .int .i64 sa, .int .i64 sb, .bool bar, .int .i64 ep, .int .i64 ef, .int .i64 kw, .int .i64 kh, .slice wa wn wc, .slice ra rn rc, .slice ca cn cc, .int .i64 sh, .int .i64 sh2, .slice xa xn xc, .slice ya yn yc, .int .i64 bins, .slice oa on oc, .int .i64 mx] 33)) from (HI0.out.alloc #[.int .i64 kd, .int .i64 sa, .int .i64 sb, .bool bar, .int .i64 ep, .int .i64 ef, .int .i64 kw, .int .i64 kh, .slice wa wn wc, .slice ra rn rc, .slice ca cn cc, .int .i64 sh, .int .i64 sh2, .slice xa xn xc, .slice ya yn yc, .int .i64 bins, .slice oa on oc, .int .i64 mx] 33 hB))
  first | refine gen_code H2441.out ?_ | refine gen_list H2441.out ?_ | refine gen_calls H2441.out ?_
  intro w2442 hG
  clear H2441
  have H2441 := hid hG
  clear hG
  by_cases c2443 : (kd : Int) < 1
  · skip
    have z2444 := H2441.out.cell 0 rfl 0 rfl
    have z2445 := H2441.out.cell 0 rfl 1 rfl
    have z2446 := H2441.out.cell 0 rfl 2 rfl
    have z2447 := H2441.out.cell 0 rfl 3 rfl
    have z2448 := H2441.out.cell 0 rfl 4 rfl
    have z2449 := H2441.out.cell 0 rfl 5 rfl
    have z2450 := H2441.out.cell 0 rfl 6 rfl
    have z2451 := H2441.out.cell 0 rfl 7 rfl
    have z2452 := H2441.out.cell 0 rfl 8 rfl
    have z2453 := H2441.out.cell 0 rfl 9 rfl
    have z2454 := H2441.out.cell 0 rfl 10 rfl
    have z2455 := H2441.out.cell 0 rfl 11 rfl
    have z2456 := H2441.out.cell 0 rfl 12 rfl
    have z2457 := H2441.out.cell 0 rfl 13 rfl
    have z2458 := H2441.out.cell 0 rfl 14 rfl
    have z2459 := H2441.out.cell 0 rfl 15 rfl
    have z2460 := H2441.out.cell 0 rfl 16 rfl
    have z2461 := H2441.out.cell 0 rfl 17 rfl
    go_wp2_with fail
    clear z2444 z2445 z2446 z2447 z2448 z2449 z2450 z2451 z2452 z2453 z2454 z2455 z2456 z2457 z2458 z2459 z2460 z2461
    go_ret
    exact ⟨ret_b (by unfold sfOk; exact (decide_eq_false (by omega)).symm), by first | exact H2441.out.below | exact H2441.out.below'⟩
  · skip
    by_cases c2462 : (6 : Int) < kd
    · skip
      have z2463 := H2441.out.cell 0 rfl 0 rfl
      have z2464 := H2441.out.cell 0 rfl 1 rfl
      have z2465 := H2441.out.cell 0 rfl 2 rfl
      have z2466 := H2441.out.cell 0 rfl 3 rfl
      have z2467 := H2441.out.cell 0 rfl 4 rfl
      have z2468 := H2441.out.cell 0 rfl 5 rfl
      have z2469 := H2441.out.cell 0 rfl 6 rfl
      have z2470 := H2441.out.cell 0 rfl 7 rfl
      have z2471 := H2441.out.cell 0 rfl 8 rfl
      have z2472 := H2441.out.cell 0 rfl 9 rfl
      have z2473 := H2441.out.cell 0 rfl 10 rfl
      have z2474 := H2441.out.cell 0 rfl 11 rfl
      have z2475 := H2441.out.cell 0 rfl 12 rfl
      have z2476 := H2441.out.cell 0 rfl 13 rfl
      have z2477 := H2441.out.cell 0 rfl 14 rfl
      have z2478 := H2441.out.cell 0 rfl 15 rfl
      have z2479 := H2441.out.cell 0 rfl 16 rfl
      have z2480 := H2441.out.cell 0 rfl 17 rfl
      go_wp2_with fail
      clear z2463 z2464 z2465 z2466 z2467 z2468 z2469 z2470 z2471 z2472 z2473 z2474 z2475 z2476 z2477 z2478 z2479 z2480
      go_ret
      exact ⟨ret_b (by unfold sfOk; exact (decide_eq_false (by omega)).symm), by first | exact H2441.out.below | exact H2441.out.below'⟩
    · skip
      exfalso; omega
end Go.Proofs.Ytlidacfokgdlgaa
