/- The code follows the plain programs: whenever the plain program has a result. -/
import Derived.Test.YthifkkpkmdpoiaaGreatSpA
import Derived.Test.YthifkkpkmdpoiaaGreatBaA
set_option linter.unusedVariables false
set_option linter.unusedSimpArgs false
section
namespace Go.Ab
open Go.Proofs
set_option linter.unusedVariables false
set_option maxRecDepth 100000
theorem shape_Joined_1_spec {F : Nat} {x1842 : Rect} {x1843 : (List Rect)} {x1844 : Int} {r : (List Rect) × Bool} (h : shape_Joined_1 F x1842 x1843 x1844 = some r) :
    FSpec Tryz.prog 115 [gE x1842, .v (.c (.ptr 0 0)), .v (.c (.ptr 1 0))] [(0, .box false [.ap 60]), (1, .box false [ci x1844]), (60, AP x1843)] (vb r.2) [(0, .box false [.ap 70]), (1, .box false [ci x1844]), (70, AP (α := Rect) r.1)] := by
  refine FSpec.intro prog_mixed prog_lay Tryz.func115 rfl (by kernel_rfl) fun C Fm => ?_
  unfold shape_Joined_1 at h
  refine Kn.re Fm [(960, 60)] [(0, gE x1842), (1, .v (.c (.ptr 0 0))), (2, .v (.c (.ptr 1 0)))] [(0, .box false [.ap 960]), (1, .box false [ci x1844]), (960, AP x1843)] (by kernel_rfl) (by kernel_rfl) (by kernel_rfl) (by kernel_rfl) ?_
  refine AW.sg0 Fm 2 [(1, .v (.c (.ptr 0 0))), (2, .v (.c (.ptr 1 0))), (3, .v (.c (.ptr 3 0)))] [(0, .box false [.ap 960]), (1, .box false [ci x1844]), (3, .box false (gC x1842)), (960, AP x1843)] (by kernel_rfl) ?_
  refine AW.join (r := r) (fun z : Bool => shape_Joined_1_k0 F x1842 x1843 z) (fun z => [(1, .v (.c (.ptr 0 0))), (3, .v (.c (.ptr 3 0))), (5, vb z)]) (fun z => [(0, .box false [.ap 960]), (1, .box false [ci x1844]), (3, .box false (gC x1842)), (960, AP x1843)]) (fun v1848 h => ?_) (fun J1849 hJ1849 => ?_)
  · have h : shape_Joined_1_k0 F x1842 x1843 v1848 = some r := h
    refine AW.join (r := r) (fun z : (List Rect) => shape_Joined_1_k1 F v1848 z) (fun z => [(5, vb v1848)]) (fun z => [(0, .box false [.ap 17]), (1, .box false [ci x1844]), (17, AP z)]) (fun v1852 h => ?_) (fun J1853 hJ1853 => ?_)
    · have h : shape_Joined_1_k1 F v1848 v1852 = some r := h
      refine AW.sg0 Fm 2 [(4, vb v1848)] [(0, .box false [.ap 17]), (1, .box false [ci x1844]), (17, AP v1852)] (by kernel_rfl) ?_
      refine AW.ret ?_
      obtain rfl := Option.some.inj h
      exact Kn.re Fm [(70, 17)] [(4, vb v1848)] [(0, .box false [.ap 70]), (1, .box false [ci x1844]), (70, AP v1852)] (by kernel_rfl) (by kernel_rfl) (by kernel_rfl) (by kernel_rfl) (Kn.dn Fm (by kernel_rfl))
    · refine AW.sg0 Fm 1 [(1, .v (.c (.ptr 0 0))), (3, .v (.c (.ptr 3 0))), (5, vb v1848), (13, vb v1848)] [(0, .box false [.ap 960]), (1, .box false [ci x1844]), (3, .box false (gC x1842)), (960, AP x1843)] (by kernel_rfl) ?_
      refine AW.cond (b := v1848) (by kernel_rfl) (fun hb1850 => ?_) (fun hb1850 => ?_)
      · have h := br_t h hb1850
        refine Kn.r Fm [(1, .v (.c (.ptr 0 0))), (3, .v (.c (.ptr 3 0))), (5, vb v1848), (13, vb v1848)] [(960, AP x1843), (0, .box false [.ap 960]), (1, .box false [ci x1844]), (3, .box false (gC x1842))] (by kernel_rfl) ?_
        refine Kn.ap_split (by kernel_rfl) ?_ ?_
        · refine Kn.r Fm [(1, .v (.c (.ptr 0 0))), (3, .v (.c (.ptr 3 0))), (5, vb v1848), (13, vb v1848)] [(0, .box false [.own 960]), (1, .box false [ci x1844]), (3, .box false (gC x1842)), (960, AO x1843)] (by kernel_rfl) ?_
          obtain ⟨hg1851, h⟩ := gd_some h
          refine AW.g Fm [.s, .s, .w (AL (α := Rect) ([x1842] : List Rect)), .s, .s] (fun K => (ALe (.v (.c (.d (.lst 1 (litF 4 [.int .i64 x1842.left_, .int .i64 x1842.low_, .int .i64 x1842.right_, .int .i64 x1842.high_]))))) (AL (α := Rect) ([x1842] : List Rect))) ∧ ((List.length (α := Rect) x1843) + (List.length (α := Rect) ([x1842] : List Rect)) ≤ LIM ∧ (∀ j, j < List.length (α := Rect) ([x1842] : List Rect) → ((LF (α := Rect) ([x1842] : List Rect)) j).length = 4) ∧ (True)) ∧ True) [(5, vb v1848)] [(0, .box false [.own 17]), (1, .box false [ci x1844]), (17, .arr 4 ((List.length (α := Rect) x1843) + (List.length (α := Rect) ([x1842] : List Rect))) (appF (List.length (α := Rect) x1843) (LF (α := Rect) x1843) (LF (α := Rect) ([x1842] : List Rect))))] ⟨ALe.lst (.lit ([x1842] : List Rect) (by kernel_rfl)), ⟨hg1851, (Is.refl ([x1842] : List Rect) : Is (List.length (α := Rect) ([x1842] : List Rect)) (LF (α := Rect) ([x1842] : List Rect)) ([x1842] : List Rect)).len, True.intro⟩, True.intro⟩ (by kernel_rfl) ?_
          refine Kn.wk [(5, vb v1848)] [(0, .box false [.own 17]), (1, .box false [ci x1844]), (17, AO (α := Rect) (x1843 ++ ([x1842] : List Rect)))] (FE.refl _) (⟨rfl, OLe.refl _, ⟨rfl, OLe.refl _, ⟨rfl, OLe.is (Is.app (Is.refl x1843) (Is.refl ([x1842] : List Rect))), True.intro⟩⟩⟩) ?_
          refine Kn.r Fm [(5, vb v1848)] [(0, .box false [.own 17]), (1, .box false [ci x1844]), (17, AO (α := Rect) (x1843 ++ ([x1842] : List Rect)))] (by kernel_rfl) ?_
          refine Kn.wk [(5, vb v1848)] [(0, .box false [.ap 17]), (1, .box false [ci x1844]), (17, AP (α := Rect) (x1843 ++ ([x1842] : List Rect)))] ⟨rfl, ALe.refl _, True.intro⟩ ⟨rfl, OLe.box ⟨CLe.ap 17, True.intro⟩, ⟨rfl, OLe.refl _, ⟨rfl, OLe.ap _ _ _, True.intro⟩⟩⟩ ?_
          exact Kn.r Fm [(5, vb v1848)] [(0, .box false [.ap 17]), (1, .box false [ci x1844]), (17, AP (x1843 ++ ([x1842] : List Rect)))] (by kernel_rfl) (hJ1853 (x1843 ++ ([x1842] : List Rect)) h)
        · refine Kn.r Fm [(1, .v (.c (.ptr 0 0))), (3, .v (.c (.ptr 3 0))), (5, vb v1848), (13, vb v1848)] [(0, .box false [.fl (List.length (α := Rect) x1843) (LF (α := Rect) x1843)]), (1, .box false [ci x1844]), (3, .box false (gC x1842))] (by kernel_rfl) ?_
          obtain ⟨hg1851, h⟩ := gd_some h
          refine AW.g Fm [.s, .s, .w (AL (α := Rect) ([x1842] : List Rect)), .k (rE { v := .v (.c (.own 17)), new := some (.arr 4 ((List.length (α := Rect) x1843) + (List.length (α := Rect) ([x1842] : List Rect))) (appF (List.length (α := Rect) x1843) (LF (α := Rect) x1843) (LF (α := Rect) ([x1842] : List Rect)))) }), .s] (fun K => (ALe (.v (.c (.d (.lst 1 (litF 4 [.int .i64 x1842.left_, .int .i64 x1842.low_, .int .i64 x1842.right_, .int .i64 x1842.high_]))))) (AL (α := Rect) ([x1842] : List Rect))) ∧ K 3 ∧ True) [(5, vb v1848)] [(0, .box false [.own 17]), (1, .box false [ci x1844]), (17, .arr 4 ((List.length (α := Rect) x1843) + (List.length (α := Rect) ([x1842] : List Rect))) (appF (List.length (α := Rect) x1843) (LF (α := Rect) x1843) (LF (α := Rect) ([x1842] : List Rect))))] ⟨ALe.lst (.lit ([x1842] : List Rect) (by kernel_rfl)), KAt.fappend (n := List.length (α := Rect) x1843) (m := List.length (α := Rect) ([x1842] : List Rect)) (f := LF (α := Rect) x1843) (g := LF (α := Rect) ([x1842] : List Rect)) prog_lay slT23 rfl rfl (by kernel_rfl) (by kernel_rfl) (by kernel_rfl) (Nat.succ_pos _) hg1851 (Is.refl ([x1842] : List Rect) : Is (List.length (α := Rect) ([x1842] : List Rect)) (LF (α := Rect) ([x1842] : List Rect)) ([x1842] : List Rect)).len (Is.refl x1843 : Is (List.length (α := Rect) x1843) (LF (α := Rect) x1843) x1843).len, True.intro⟩ (by kernel_rfl) ?_
          refine Kn.wk [(5, vb v1848)] [(0, .box false [.own 17]), (1, .box false [ci x1844]), (17, AO (α := Rect) (x1843 ++ ([x1842] : List Rect)))] (FE.refl _) (⟨rfl, OLe.refl _, ⟨rfl, OLe.refl _, ⟨rfl, OLe.is (Is.app (Is.refl x1843) (Is.refl ([x1842] : List Rect))), True.intro⟩⟩⟩) ?_
          refine Kn.r Fm [(5, vb v1848)] [(0, .box false [.own 17]), (1, .box false [ci x1844]), (17, AO (α := Rect) (x1843 ++ ([x1842] : List Rect)))] (by kernel_rfl) ?_
          refine Kn.wk [(5, vb v1848)] [(0, .box false [.ap 17]), (1, .box false [ci x1844]), (17, AP (α := Rect) (x1843 ++ ([x1842] : List Rect)))] ⟨rfl, ALe.refl _, True.intro⟩ ⟨rfl, OLe.box ⟨CLe.ap 17, True.intro⟩, ⟨rfl, OLe.refl _, ⟨rfl, OLe.ap _ _ _, True.intro⟩⟩⟩ ?_
          exact Kn.r Fm [(5, vb v1848)] [(0, .box false [.ap 17]), (1, .box false [ci x1844]), (17, AP (x1843 ++ ([x1842] : List Rect)))] (by kernel_rfl) (hJ1853 (x1843 ++ ([x1842] : List Rect)) h)
      · have h := br_f h hb1850
        refine AW.skip ?_
        exact Kn.re Fm [(17, 960)] [(5, vb v1848)] [(0, .box false [.ap 17]), (1, .box false [ci x1844]), (17, AP x1843)] (by kernel_rfl) (by kernel_rfl) (by kernel_rfl) (by kernel_rfl) (hJ1853 x1843 h)
  · refine Kn.r Fm [(1, .v (.c (.ptr 0 0))), (2, .v (.c (.ptr 1 0))), (3, .v (.c (.ptr 3 0)))] [(960, AP x1843), (0, .box false [.ap 960]), (1, .box false [ci x1844]), (3, .box false (gC x1842))] (by kernel_rfl) ?_
    refine Kn.ap_split (by kernel_rfl) ?_ ?_
    · refine Kn.r Fm [(1, .v (.c (.ptr 0 0))), (2, .v (.c (.ptr 1 0))), (3, .v (.c (.ptr 3 0)))] [(0, .box false [.own 960]), (1, .box false [ci x1844]), (3, .box false (gC x1842)), (960, AO x1843)] (by kernel_rfl) ?_
      obtain ⟨hg1845, h⟩ := gd_some h
      obtain ⟨z1846, hz1847, h⟩ := bd_some h
      refine AW.g Fm [.s, .s, .s, .s, .s, .k (cE [] [] (vi z1846) [] []), .s, .s] (fun K => (0 ≤ x1844 ∧ x1844 < ((List.length x1843 : Nat) : Int)) ∧ (x1844.toNat < List.length x1843) ∧ K 5 ∧ True) [(1, .v (.c (.ptr 0 0))), (3, .v (.c (.ptr 3 0))), (5, vb (decide ((0 : Int) < z1846)))] [(0, .box false [.own 960]), (1, .box false [ci x1844]), (3, .box false (gC x1842)), (960, AO x1843)] ⟨hg1845, (toNat_lt hg1845), KAt.cl (args := [.v (.g [ci ((gl x1843 x1844.toNat).left_), ci ((gl x1843 x1844.toNat).low_), ci ((gl x1843 x1844.toNat).right_), ci ((gl x1843 x1844.toNat).high_)]), gE x1842]) (shape_common_spec hz1847) Tryz.call66 [] rfl (by kernel_rfl), True.intro⟩ (by kernel_rfl) ?_
      refine Kn.r Fm [(1, .v (.c (.ptr 0 0))), (3, .v (.c (.ptr 3 0))), (5, vb (decide ((0 : Int) < z1846)))] [(0, .box false [.own 960]), (1, .box false [ci x1844]), (3, .box false (gC x1842)), (960, AO x1843)] (by kernel_rfl) ?_
      refine Kn.wk [(1, .v (.c (.ptr 0 0))), (3, .v (.c (.ptr 3 0))), (5, vb (decide ((0 : Int) < z1846)))] [(0, .box false [.ap 960]), (1, .box false [ci x1844]), (3, .box false (gC x1842)), (960, AP x1843)] ⟨rfl, ALe.refl _, ⟨rfl, ALe.refl _, ⟨rfl, ALe.refl _, True.intro⟩⟩⟩ ⟨rfl, OLe.box ⟨CLe.ap 960, True.intro⟩, ⟨rfl, OLe.refl _, ⟨rfl, OLe.refl _, ⟨rfl, OLe.ap _ _ _, True.intro⟩⟩⟩⟩ ?_
      exact Kn.r Fm [(1, .v (.c (.ptr 0 0))), (3, .v (.c (.ptr 3 0))), (5, vb (decide ((0 : Int) < z1846)))] [(0, .box false [.ap 960]), (1, .box false [ci x1844]), (3, .box false (gC x1842)), (960, AP x1843)] (by kernel_rfl) (hJ1849 (decide ((0 : Int) < z1846)) h)
    · refine Kn.r Fm [(1, .v (.c (.ptr 0 0))), (2, .v (.c (.ptr 1 0))), (3, .v (.c (.ptr 3 0)))] [(0, .box false [.fl (List.length (α := Rect) x1843) (LF (α := Rect) x1843)]), (1, .box false [ci x1844]), (3, .box false (gC x1842))] (by kernel_rfl) ?_
      obtain ⟨hg1845, h⟩ := gd_some h
      obtain ⟨z1846, hz1847, h⟩ := bd_some h
      refine AW.g Fm [.s, .s, .s, .s, .s, .k (cE [] [] (vi z1846) [] []), .s, .s] (fun K => (0 ≤ x1844 ∧ x1844 < ((List.length x1843 : Nat) : Int)) ∧ K 5 ∧ True) [(1, .v (.c (.ptr 0 0))), (3, .v (.c (.ptr 3 0))), (5, vb (decide ((0 : Int) < z1846)))] [(0, .box false [.fl (List.length (α := Rect) x1843) (LF (α := Rect) x1843)]), (1, .box false [ci x1844]), (3, .box false (gC x1842))] ⟨hg1845, KAt.cl (args := [.v (.g [ci ((gl x1843 x1844.toNat).left_), ci ((gl x1843 x1844.toNat).low_), ci ((gl x1843 x1844.toNat).right_), ci ((gl x1843 x1844.toNat).high_)]), gE x1842]) (shape_common_spec hz1847) Tryz.call66 [] rfl (by kernel_rfl), True.intro⟩ (by kernel_rfl) ?_
      refine Kn.r Fm [(1, .v (.c (.ptr 0 0))), (3, .v (.c (.ptr 3 0))), (5, vb (decide ((0 : Int) < z1846)))] [(0, .box false [.fl (List.length (α := Rect) x1843) (LF (α := Rect) x1843)]), (1, .box false [ci x1844]), (3, .box false (gC x1842))] (by kernel_rfl) ?_
      refine Kn.ap0 Fm (k := 960) (es := 4) (j := 0) (by kernel_rfl) (by kernel_rfl) (by simp) rfl ?_
      refine Kn.r Fm [(1, .v (.c (.ptr 0 0))), (3, .v (.c (.ptr 3 0))), (5, vb (decide ((0 : Int) < z1846)))] [(0, .box false [.ap 960]), (1, .box false [ci x1844]), (3, .box false (gC x1842)), (960, AP x1843)] (by kernel_rfl) ?_
      exact Kn.r Fm [(1, .v (.c (.ptr 0 0))), (3, .v (.c (.ptr 3 0))), (5, vb (decide ((0 : Int) < z1846)))] [(0, .box false [.ap 960]), (1, .box false [ci x1844]), (3, .box false (gC x1842)), (960, AP x1843)] (by kernel_rfl) (hJ1849 (decide ((0 : Int) < z1846)) h)
theorem slices_Clone_Rect_O_spec {F : Nat} {x1892 : (List Rect)} {r : (List Rect)} (h : slices_Clone_Rect_O F x1892 = some r) :
    FSpec Tryz.prog 113 [AL x1892] [] (.v (.c (.own 100))) [(100, AO (α := Rect) r)] := by
  refine FSpec.intro prog_mixed prog_lay Tryz.func113 rfl (by kernel_rfl) fun C Fm => ?_
  unfold slices_Clone_Rect_O at h
  refine AW.sg Fm [.m] (fun K => True) [(0, AL x1892)] [] True.intro (by kernel_rfl) ?_
  refine AW.seq ?_
  refine AW.sg Fm [.s, .k (sE (nb (List.length x1892)))] (fun K => K 1 ∧ True) [(0, AL x1892), (4, .v (.c (.sem (nbP (List.length x1892)))))] [] ⟨KAt.nil (t := 23) (el := 73) (n := List.length x1892) (by kernel_rfl) rfl rfl (by kernel_rfl) (by kernel_rfl) (by kernel_rfl), True.intro⟩ (by kernel_rfl) ?_
  refine AW.condNil (n := List.length x1892) (by kernel_rfl) (fun hn1893 => ?_) ?_
  · have h := brN_t h hn1893
    refine AW.sg Fm [.m] (fun K => True) [(2, .v (.c (.own 2)))] [(2, .arr 4 (0) (fun _ => []))] True.intro (by kernel_rfl) ?_
    refine Kn.wk [(2, .v (.c (.own 2)))] [(2, AO (α := Rect) ([] : List Rect))] (FE.refl _) (⟨rfl, OLe.is ((Is.nil (α := Rect))), True.intro⟩) ?_
    refine AW.ret ?_
    obtain rfl := Option.some.inj h
    exact Kn.re Fm [(100, 2)] [(2, .v (.c (.own 100)))] [(100, AO (α := Rect) ([] : List Rect))] (by kernel_rfl) (by kernel_rfl) (by kernel_rfl) (by kernel_rfl) (Kn.dn Fm (by kernel_rfl))
  · have h := brN_f h
    refine AW.skip ?_
    obtain ⟨hg1894, h⟩ := gd_some h
    refine AW.sg Fm [.m, .s, .s, .s] (fun K => ((0) + (List.length (α := Rect) x1892) ≤ LIM ∧ (∀ j, j < List.length (α := Rect) x1892 → ((LF (α := Rect) x1892) j).length = 4) ∧ (True)) ∧ True) [(2, .v (.c (.own 7)))] [(7, .arr 4 ((0) + (List.length (α := Rect) x1892)) (appF (0) (litF 4 []) (LF (α := Rect) x1892)))] ⟨⟨hg1894, (Is.refl x1892 : Is (List.length (α := Rect) x1892) (LF (α := Rect) x1892) x1892).len, True.intro⟩, True.intro⟩ (by kernel_rfl) ?_
    refine Kn.wk [(2, .v (.c (.own 7)))] [(7, AO (α := Rect) (([] : List Rect) ++ x1892))] (FE.refl _) (⟨rfl, OLe.is (Is.app (Is.lit ([] : List Rect) (by kernel_rfl)) (Is.refl x1892)), True.intro⟩) ?_
    refine AW.ret ?_
    obtain rfl := Option.some.inj h
    exact Kn.re Fm [(100, 7)] [(2, .v (.c (.own 100)))] [(100, AO (α := Rect) (([] : List Rect) ++ x1892))] (by kernel_rfl) (by kernel_rfl) (by kernel_rfl) (by kernel_rfl) (Kn.dn Fm (by kernel_rfl))
theorem slices_IndexFunc_Rect_J_spec {F : Nat} {x1895 : (List Rect)} {x1896 : (List Rect)} {x1897 : Int} {r : (List Rect) × (List Rect) × Int} (h : slices_IndexFunc_Rect_J F x1895 x1896 x1897 = some r) :
    FSpec Tryz.prog 155 [.v (.c (.own 0)), .v (.c (.clo 115 [50, 51]))] [(0, AO x1895), (50, .box false [.ap 60]), (51, .box false [ci x1897]), (60, AP x1896)] (vi r.2.2) [(0, AO (α := Rect) r.1), (50, .box false [.ap 70]), (51, .box false [ci x1897]), (70, AP (α := Rect) r.2.1)] := by
  refine FSpec.intro prog_mixed prog_lay Tryz.func155 rfl (by kernel_rfl) fun C Fm => ?_
  unfold slices_IndexFunc_Rect_J at h
  refine Kn.re Fm [(960, 60)] [(0, .v (.c (.own 0))), (1, .v (.c (.clo 115 [50, 51])))] [(0, AO x1895), (50, .box false [.ap 960]), (51, .box false [ci x1897]), (960, AP x1896)] (by kernel_rfl) (by kernel_rfl) (by kernel_rfl) (by kernel_rfl) ?_
  refine AW.sg0 Fm 1 [(0, .v (.c (.own 0))), (1, .v (.c (.clo 115 [50, 51])))] [(0, AO x1895), (50, .box false [.ap 960]), (51, .box false [ci x1897]), (960, AP x1896)] (by kernel_rfl) ?_
  refine AW.join (r := r) (fun z : (List Rect) => slices_IndexFunc_Rect_J_k1 F x1895 z) (fun z => []) (fun z => [(0, AO x1895), (50, .box false [.ap 960]), (51, .box false [ci x1897]), (960, AP z)]) (fun v1914 h => ?_) (fun J1915 hJ1915 => ?_)
  · have h : slices_IndexFunc_Rect_J_k1 F x1895 v1914 = some r := h
    refine AW.sg0 Fm 1 [(4, vi (-1 : Int))] [(0, AO x1895), (50, .box false [.ap 960]), (51, .box false [ci x1897]), (960, AP v1914)] (by kernel_rfl) ?_
    refine AW.ret ?_
    obtain rfl := Option.some.inj h
    exact Kn.re Fm [(70, 960)] [(4, vi (-1 : Int))] [(0, AO x1895), (50, .box false [.ap 70]), (51, .box false [ci x1897]), (70, AP v1914)] (by kernel_rfl) (by kernel_rfl) (by kernel_rfl) (by kernel_rfl) (Kn.dn Fm (by kernel_rfl))
  · refine AW.sg0 Fm 3 [(0, .v (.c (.own 0))), (1, .v (.c (.clo 115 [50, 51]))), (7, vi ((List.length x1895 : Nat) : Int)), (8, vi (0 : Int))] [(0, AO x1895), (50, .box false [.ap 960]), (51, .box false [ci x1897]), (960, AP x1896)] (by kernel_rfl) ?_
    refine AW.block ?_
    refine Kn.r Fm [(0, .v (.c (.own 0))), (1, .v (.c (.clo 115 [50, 51]))), (7, vi ((List.length x1895 : Nat) : Int)), (8, vi (0 : Int))] [(0, AO x1895), (50, .box false [.ap 960]), (51, .box false [ci x1897]), (960, AP x1896)] (by kernel_rfl) ?_
    have h : loopN (fun again (z : Int × (List Rect)) => slices_IndexFunc_Rect_J_b0 F x1895 x1897 again z.1 z.2) F ((0 : Int), x1896) = some r := h
    refine AW.loopF (E' := fun z => [(0, .v (.c (.own 0))), (1, .v (.c (.clo 115 [50, 51]))), (7, vi ((List.length x1895 : Nat) : Int)), (8, vi z.1)]) (S' := fun z => [(0, AO x1895), (50, .box false [.ap 960]), (51, .box false [ci x1897]), (960, AP z.2)]) (fun ag_slices_IndexFunc_Rect_J_b0 z J1907 hJ1907 h => ?_) h
    obtain ⟨v1905, v1906⟩ := z
    have h : slices_IndexFunc_Rect_J_b0 F x1895 x1897 ag_slices_IndexFunc_Rect_J_b0 v1905 v1906 = some r := h
    refine AW.sg0 Fm 1 [(0, .v (.c (.own 0))), (1, .v (.c (.clo 115 [50, 51]))), (7, vi ((List.length x1895 : Nat) : Int)), (8, vi v1905), (9, vb (decide (v1905 < ((List.length x1895 : Nat) : Int))))] [(0, AO x1895), (50, .box false [.ap 960]), (51, .box false [ci x1897]), (960, AP v1906)] (by kernel_rfl) ?_
    refine AW.seq ?_
    refine AW.cond (b := (decide (v1905 < ((List.length x1895 : Nat) : Int)))) (by kernel_rfl) (fun hb1908 => ?_) (fun hb1908 => ?_)
    · have h := br_t h hb1908
      refine AW.skip ?_
      refine AW.seq ?_
      refine AW.block ?_
      refine AW.sg0 Fm 2 [(0, .v (.c (.own 0))), (1, .v (.c (.clo 115 [50, 51]))), (5, vi v1905), (7, vi ((List.length x1895 : Nat) : Int)), (8, vi v1905)] [(0, AO x1895), (50, .box false [.ap 960]), (51, .box false [ci x1897]), (960, AP v1906)] (by kernel_rfl) ?_
      refine AW.seq ?_
      obtain ⟨hg1909, h⟩ := gd_some h
      obtain ⟨z1910, hz1911, h⟩ := bd_some h
      refine AW.g Fm [.s, .s, .s, .s, .s, .k (cE [(0, 50), (60, 960), (70, 1016), (1, 51)] [] (vb z1910.2) [(0, .box false [.ap 60]), (1, .box false [ci x1897]), (60, AP v1906)] [(0, .box false [.ap 70]), (1, .box false [ci x1897]), (70, AP z1910.1)])] (fun K => (0 ≤ v1905 ∧ v1905 < ((List.length x1895 : Nat) : Int)) ∧ (v1905.toNat < List.length x1895) ∧ K 5 ∧ True) [(0, .v (.c (.own 0))), (1, .v (.c (.clo 115 [50, 51]))), (5, vi v1905), (7, vi ((List.length x1895 : Nat) : Int)), (8, vi v1905), (16, vb z1910.2)] [(0, AO x1895), (50, .box false [.ap 1016]), (51, .box false [ci x1897]), (1016, AP z1910.1)] ⟨hg1909, (toNat_lt hg1909), KAt.clC (args := [.v (.g [ci ((gl x1895 v1905.toNat).left_), ci ((gl x1895 v1905.toNat).low_), ci ((gl x1895 v1905.toNat).right_), ci ((gl x1895 v1905.toNat).high_)])]) (caps := [0, 1]) (shape_Joined_1_spec hz1911) Tryz.call115 [(0, 50), (60, 960), (70, 1016), (1, 51)] rfl (by kernel_rfl), True.intro⟩ (by kernel_rfl) ?_
      refine AW.cond (b := z1910.2) (by kernel_rfl) (fun hb1912 => ?_) (fun hb1912 => ?_)
      · have h := br_t h hb1912
        refine AW.sg0 Fm 2 [(4, vi v1905)] [(0, AO x1895), (50, .box false [.ap 1016]), (51, .box false [ci x1897]), (1016, AP z1910.1)] (by kernel_rfl) ?_
        refine AW.ret ?_
        obtain rfl := Option.some.inj h
        exact Kn.re Fm [(70, 1016)] [(4, vi v1905)] [(0, AO x1895), (50, .box false [.ap 70]), (51, .box false [ci x1897]), (70, AP z1910.1)] (by kernel_rfl) (by kernel_rfl) (by kernel_rfl) (by kernel_rfl) (Kn.dn Fm (by kernel_rfl))
      · have h := br_f h hb1912
        refine AW.skip ?_
        obtain ⟨hg1913, h⟩ := gd_some h
        refine AW.g Fm [.s, .s] (fun K => (I64 (v1905 + (1 : Int)) ∧ True) ∧ True) [(0, .v (.c (.own 0))), (1, .v (.c (.clo 115 [50, 51]))), (7, vi ((List.length x1895 : Nat) : Int)), (8, vi (v1905 + (1 : Int)))] [(0, AO x1895), (50, .box false [.ap 1016]), (51, .box false [ci x1897]), (1016, AP z1910.1)] ⟨⟨hg1913, True.intro⟩, True.intro⟩ (by kernel_rfl) ?_
        exact Kn.re Fm [(960, 1016)] [(0, .v (.c (.own 0))), (1, .v (.c (.clo 115 [50, 51]))), (7, vi ((List.length x1895 : Nat) : Int)), (8, vi (v1905 + (1 : Int)))] [(0, AO x1895), (50, .box false [.ap 960]), (51, .box false [ci x1897]), (960, AP z1910.1)] (by kernel_rfl) (by kernel_rfl) (by kernel_rfl) (by kernel_rfl) (hJ1907 ((v1905 + (1 : Int)), z1910.1) h)
    · have h := br_f h hb1908
      refine AW.exit ?_
      exact Kn.r Fm [] [(0, AO x1895), (50, .box false [.ap 960]), (51, .box false [ci x1897]), (960, AP v1906)] (by kernel_rfl) (hJ1915 v1906 h)
theorem slices_DeleteFunc_Rect_J_spec {F : Nat} {x1916 : (List Rect)} {x1917 : (List Rect)} {x1918 : Int} {r : (List Rect) × (List Rect)} (h : slices_DeleteFunc_Rect_J F x1916 x1917 x1918 = some r) :
    FSpec Tryz.prog 114 [.v (.c (.own 0)), .v (.c (.clo 115 [50, 51]))] [(0, AO x1916), (50, .box false [.ap 60]), (51, .box false [ci x1918]), (60, AP x1917)] (.v (.c (.own 100))) [(50, .box false [.ap 70]), (51, .box false [ci x1918]), (70, AP (α := Rect) r.1), (100, AO (α := Rect) r.2)] := by
  refine FSpec.intro prog_mixed prog_lay Tryz.func114 rfl (by kernel_rfl) fun C Fm => ?_
  unfold slices_DeleteFunc_Rect_J at h
  refine Kn.re Fm [(960, 60)] [(0, .v (.c (.own 0))), (1, .v (.c (.clo 115 [50, 51])))] [(0, AO x1916), (50, .box false [.ap 960]), (51, .box false [ci x1918]), (960, AP x1917)] (by kernel_rfl) (by kernel_rfl) (by kernel_rfl) (by kernel_rfl) ?_
  refine AW.sg Fm [.m] (fun K => True) [(0, .v (.c (.own 0))), (1, .v (.c (.clo 115 [50, 51])))] [(0, AO x1916), (50, .box false [.ap 960]), (51, .box false [ci x1918]), (960, AP x1917)] True.intro (by kernel_rfl) ?_
  refine AW.seq ?_
  obtain ⟨z1919, hz1920, h⟩ := bd_some h
  refine AW.g Fm [.s, .s, .k (cE [(0, 0), (50, 50), (60, 960), (70, 1010), (51, 51)] [] (vi z1919.2.2) [(0, AO x1916), (50, .box false [.ap 60]), (51, .box false [ci x1918]), (60, AP x1917)] [(0, AO z1919.1), (50, .box false [.ap 70]), (51, .box false [ci x1918]), (70, AP z1919.2.1)]), .s] (fun K => K 2 ∧ True) [(0, .v (.c (.own 0))), (1, .v (.c (.clo 115 [50, 51]))), (5, vi z1919.2.2)] [(0, AO z1919.1), (50, .box false [.ap 1010]), (51, .box false [ci x1918]), (1010, AP z1919.2.1)] ⟨KAt.cl (args := [.v (.c (.own 0)), .v (.c (.clo 115 [50, 51]))]) (slices_IndexFunc_Rect_J_spec hz1920) Tryz.call155 [(0, 0), (50, 50), (60, 960), (70, 1010), (51, 51)] rfl (by kernel_rfl), True.intro⟩ (by kernel_rfl) ?_
  refine AW.seq ?_
  refine AW.sg0 Fm 2 [(0, .v (.c (.own 0))), (1, .v (.c (.clo 115 [50, 51]))), (5, vi z1919.2.2), (12, vb (z1919.2.2 == (-1 : Int)))] [(0, AO z1919.1), (50, .box false [.ap 1010]), (51, .box false [ci x1918]), (1010, AP z1919.2.1)] (by kernel_rfl) ?_
  refine AW.cond (b := (z1919.2.2 == (-1 : Int))) (by kernel_rfl) (fun hb1921 => ?_) (fun hb1921 => ?_)
  · have h := br_t h hb1921
    refine AW.sg0 Fm 2 [(4, .v (.c (.own 0)))] [(0, AO z1919.1), (50, .box false [.ap 1010]), (51, .box false [ci x1918]), (1010, AP z1919.2.1)] (by kernel_rfl) ?_
    refine AW.ret ?_
    obtain rfl := Option.some.inj h
    exact Kn.re Fm [(70, 1010), (100, 0)] [(4, .v (.c (.own 100)))] [(50, .box false [.ap 70]), (51, .box false [ci x1918]), (70, AP z1919.2.1), (100, AO z1919.1)] (by kernel_rfl) (by kernel_rfl) (by kernel_rfl) (by kernel_rfl) (Kn.dn Fm (by kernel_rfl))
  · have h := br_f h hb1921
    refine AW.skip ?_
    refine AW.join (r := r) (fun z : Int × (List Rect) × (List Rect) => slices_DeleteFunc_Rect_J_k2 F z.1 z.2.1 z.2.2) (fun z => [(0, .v (.c (.own 0))), (5, vi z.1)]) (fun z => [(0, AO z.2.1), (50, .box false [.ap 1010]), (51, .box false [ci x1918]), (1010, AP z.2.2)]) (fun z h => ?_) (fun J1956 hJ1956 => ?_)
    · obtain ⟨v1953, v1954, v1955⟩ := z
      have h : slices_DeleteFunc_Rect_J_k2 F v1953 v1954 v1955 = some r := h
      obtain ⟨hg1957, h⟩ := gd_some h
      refine AW.sg Fm [.s, .s, .k (rE { v := .v (.c (.sub 0 4 (0 + (v1953).toNat) ((List.length (α := Rect) v1954) - (v1953).toNat))) }), .k (rE { v := .any, upd := some (0, .arr 4 (List.length (α := Rect) v1954) (fun i => if (0 + (v1953).toNat) ≤ i ∧ i < (0 + (v1953).toNat) + ((List.length (α := Rect) v1954) - (v1953).toNat) then (fun _ => [.int .i64 0, .int .i64 0, .int .i64 0, .int .i64 0]) (i - (0 + (v1953).toNat)) else (LF (α := Rect) v1954) i)) })] (fun K => K 2 ∧ K 3 ∧ True) [(0, .v (.c (.own 0))), (5, vi v1953)] [(0, .arr 4 (List.length (α := Rect) v1954) (fun i => if (0 + (v1953).toNat) ≤ i ∧ i < (0 + (v1953).toNat) + ((List.length (α := Rect) v1954) - (v1953).toNat) then (fun _ => [.int .i64 0, .int .i64 0, .int .i64 0, .int .i64 0]) (i - (0 + (v1953).toNat)) else (LF (α := Rect) v1954) i)), (50, .box false [.ap 1010]), (51, .box false [ci x1918]), (1010, AP v1955)] ⟨KAt.vslice (l := (some v1953)) (u := none) (id := 0) (lo0 := 0) (n := (List.length (α := Rect) v1954)) (N := List.length (α := Rect) v1954) (f := LF (α := Rect) v1954) prog_lay slT23 rfl rfl (by kernel_rfl) (by kernel_rfl) (by kernel_rfl) (by kernel_rfl) (by kernel_rfl) hg1957 (by kernel_rfl), KAt.vclear (id := 0) (lo0 := (0 + (v1953).toNat)) (n := ((List.length (α := Rect) v1954) - (v1953).toNat)) (N := List.length (α := Rect) v1954) (f := (LF (α := Rect) v1954)) prog_lay slT23 [.int .i64 0, .int .i64 0, .int .i64 0, .int .i64 0] [.int .i64 0, .int .i64 0, .int .i64 0, .int .i64 0] ⟨DLe.refl _, DLe.refl _, DLe.refl _, DLe.refl _, True.intro⟩ rfl rfl (by kernel_rfl) (Nat.succ_pos _) (by kernel_rfl) (by kernel_rfl) (by kernel_rfl) (by kernel_rfl) rfl, True.intro⟩ (by kernel_rfl) ?_
      refine Kn.wk [(0, .v (.c (.own 0))), (5, vi v1953)] [(0, AO (α := Rect) (clr v1954 (0 + (v1953).toNat) ((List.length (α := Rect) v1954) - (v1953).toNat))), (50, .box false [.ap 1010]), (51, .box false [ci x1918]), (1010, AP v1955)] (FE.refl _) (⟨rfl, OLe.is (Is.clr (l := v1954) (0 + (v1953).toNat) ((List.length (α := Rect) v1954) - (v1953).toNat) (zd := [.int .i64 0, .int .i64 0, .int .i64 0, .int .i64 0]) (by kernel_rfl)), ⟨rfl, OLe.refl _, ⟨rfl, OLe.refl _, ⟨rfl, OLe.refl _, True.intro⟩⟩⟩⟩) ?_
      obtain ⟨hg1958, h⟩ := gd_some h
      refine AW.sg Fm [.s, .s, .m, .s] (fun K => (0 ≤ v1953 ∧ v1953 ≤ ((List.length (clr v1954 (0 + (v1953).toNat) ((List.length (α := Rect) v1954) - (v1953).toNat)) : Nat) : Int)) ∧ True) [(4, .v (.c (.own 41)))] [(41, .arr 4 ((v1953).toNat) (LF (α := Rect) (clr v1954 (0 + (v1953).toNat) ((List.length (α := Rect) v1954) - (v1953).toNat)))), (50, .box false [.ap 1010]), (51, .box false [ci x1918]), (1010, AP v1955)] ⟨hg1958, True.intro⟩ (by kernel_rfl) ?_
      refine Kn.wk [(4, .v (.c (.own 41)))] [(41, AO (α := Rect) ((clr v1954 (0 + (v1953).toNat) ((List.length (α := Rect) v1954) - (v1953).toNat)).take (v1953).toNat)), (50, .box false [.ap 1010]), (51, .box false [ci x1918]), (1010, AP v1955)] (FE.refl _) (⟨rfl, OLe.is (Is.take (Is.refl (clr v1954 (0 + (v1953).toNat) ((List.length (α := Rect) v1954) - (v1953).toNat))) hg1958.2), ⟨rfl, OLe.refl _, ⟨rfl, OLe.refl _, ⟨rfl, OLe.refl _, True.intro⟩⟩⟩⟩) ?_
      refine AW.ret ?_
      obtain rfl := Option.some.inj h
      exact Kn.re Fm [(70, 1010), (100, 41)] [(4, .v (.c (.own 100)))] [(50, .box false [.ap 70]), (51, .box false [ci x1918]), (70, AP v1955), (100, AO (α := Rect) ((clr v1954 (0 + (v1953).toNat) ((List.length (α := Rect) v1954) - (v1953).toNat)).take (v1953).toNat))] (by kernel_rfl) (by kernel_rfl) (by kernel_rfl) (by kernel_rfl) (Kn.dn Fm (by kernel_rfl))
    · obtain ⟨hg1922, h⟩ := gd_some h
      refine AW.sg Fm [.s, .s, .s] (fun K => (I64 (z1919.2.2 + (1 : Int)) ∧ True) ∧ True) [(0, .v (.c (.own 0))), (1, .v (.c (.clo 115 [50, 51]))), (5, vi z1919.2.2), (6, vi (z1919.2.2 + (1 : Int)))] [(0, AO z1919.1), (50, .box false [.ap 1010]), (51, .box false [ci x1918]), (1010, AP z1919.2.1)] ⟨⟨hg1922, True.intro⟩, True.intro⟩ (by kernel_rfl) ?_
      refine AW.block ?_
      refine Kn.r Fm [(0, .v (.c (.own 0))), (1, .v (.c (.clo 115 [50, 51]))), (5, vi z1919.2.2), (6, vi (z1919.2.2 + (1 : Int)))] [(0, AO z1919.1), (50, .box false [.ap 1010]), (51, .box false [ci x1918]), (1010, AP z1919.2.1)] (by kernel_rfl) ?_
      have h : loopN (fun again (z : Int × Int × (List Rect) × (List Rect)) => slices_DeleteFunc_Rect_J_b0 F x1918 again z.1 z.2.1 z.2.2.1 z.2.2.2) F (z1919.2.2, (z1919.2.2 + (1 : Int)), z1919.1, z1919.2.1) = some r := h
      refine AW.loopF (E' := fun z => [(0, .v (.c (.own 0))), (1, .v (.c (.clo 115 [50, 51]))), (5, vi z.1), (6, vi z.2.1)]) (S' := fun z => [(0, AO z.2.2.1), (50, .box false [.ap 1010]), (51, .box false [ci x1918]), (1010, AP z.2.2.2)]) (fun ag_slices_DeleteFunc_Rect_J_b0 z J1940 hJ1940 h => ?_) h
      obtain ⟨v1936, v1937, v1938, v1939⟩ := z
      have h : slices_DeleteFunc_Rect_J_b0 F x1918 ag_slices_DeleteFunc_Rect_J_b0 v1936 v1937 v1938 v1939 = some r := h
      refine AW.seq ?_
      refine AW.sg0 Fm 4 [(0, .v (.c (.own 0))), (1, .v (.c (.clo 115 [50, 51]))), (5, vi v1936), (6, vi v1937), (19, vb (decide (v1937 < ((List.length v1938 : Nat) : Int))))] [(0, AO v1938), (50, .box false [.ap 1010]), (51, .box false [ci x1918]), (1010, AP v1939)] (by kernel_rfl) ?_
      refine AW.cond (b := (decide (v1937 < ((List.length v1938 : Nat) : Int)))) (by kernel_rfl) (fun hb1941 => ?_) (fun hb1941 => ?_)
      · have h := br_t h hb1941
        refine AW.skip ?_
        refine AW.join (r := r) (fun z : Int × (List Rect) × (List Rect) => slices_DeleteFunc_Rect_J_k1 F v1937 ag_slices_DeleteFunc_Rect_J_b0 z.1 z.2.1 z.2.2) (fun z => [(0, .v (.c (.own 0))), (1, .v (.c (.clo 115 [50, 51]))), (5, vi z.1), (6, vi v1937)]) (fun z => [(0, AO z.2.1), (50, .box false [.ap 1028]), (51, .box false [ci x1918]), (1028, AP z.2.2)]) (fun z h => ?_) (fun J1951 hJ1951 => ?_)
        · obtain ⟨v1948, v1949, v1950⟩ := z
          have h : slices_DeleteFunc_Rect_J_k1 F v1937 ag_slices_DeleteFunc_Rect_J_b0 v1948 v1949 v1950 = some r := h
          obtain ⟨hg1952, h⟩ := gd_some h
          refine AW.g Fm [.s, .s, .s] (fun K => (I64 (v1937 + (1 : Int)) ∧ True) ∧ True) [(0, .v (.c (.own 0))), (1, .v (.c (.clo 115 [50, 51]))), (5, vi v1948), (6, vi (v1937 + (1 : Int)))] [(0, AO v1949), (50, .box false [.ap 1028]), (51, .box false [ci x1918]), (1028, AP v1950)] ⟨⟨hg1952, True.intro⟩, True.intro⟩ (by kernel_rfl) ?_
          exact Kn.re Fm [(1010, 1028)] [(0, .v (.c (.own 0))), (1, .v (.c (.clo 115 [50, 51]))), (5, vi v1948), (6, vi (v1937 + (1 : Int)))] [(0, AO v1949), (50, .box false [.ap 1010]), (51, .box false [ci x1918]), (1010, AP v1950)] (by kernel_rfl) (by kernel_rfl) (by kernel_rfl) (by kernel_rfl) (hJ1940 (v1948, (v1937 + (1 : Int)), v1949, v1950) h)
        · refine AW.block ?_
          obtain ⟨hg1942, h⟩ := gd_some h
          refine AW.sg Fm [.s, .s, .s, .s, .s, .s] (fun K => (0 ≤ v1937 ∧ v1937 < ((List.length v1938 : Nat) : Int)) ∧ (v1937.toNat < List.length v1938) ∧ True) [(0, .v (.c (.own 0))), (1, .v (.c (.clo 115 [50, 51]))), (5, vi v1936), (6, vi v1937), (7, .v (.c (.ptr 7 0)))] [(0, AO v1938), (7, .box false [ci ((gl v1938 v1937.toNat).left_), ci ((gl v1938 v1937.toNat).low_), ci ((gl v1938 v1937.toNat).right_), ci ((gl v1938 v1937.toNat).high_)]), (50, .box false [.ap 1010]), (51, .box false [ci x1918]), (1010, AP v1939)] ⟨hg1942, (toNat_lt hg1942), True.intro⟩ (by kernel_rfl) ?_
          refine AW.seq ?_
          obtain ⟨z1943, hz1944, h⟩ := bd_some h
          refine AW.g Fm [.s, .s, .k (cE [(0, 50), (60, 1010), (70, 1028), (1, 51)] [] (vb z1943.2) [(0, .box false [.ap 60]), (1, .box false [ci x1918]), (60, AP v1939)] [(0, .box false [.ap 70]), (1, .box false [ci x1918]), (70, AP z1943.1)]), .s] (fun K => K 2 ∧ True) [(0, .v (.c (.own 0))), (1, .v (.c (.clo 115 [50, 51]))), (5, vi v1936), (6, vi v1937), (7, .v (.c (.ptr 7 0))), (29, vb (!z1943.2))] [(0, AO v1938), (7, .box false [ci ((gl v1938 v1937.toNat).left_), ci ((gl v1938 v1937.toNat).low_), ci ((gl v1938 v1937.toNat).right_), ci ((gl v1938 v1937.toNat).high_)]), (50, .box false [.ap 1028]), (51, .box false [ci x1918]), (1028, AP z1943.1)] ⟨KAt.clC (args := [.v (.g [ci ((gl v1938 v1937.toNat).left_), ci ((gl v1938 v1937.toNat).low_), ci ((gl v1938 v1937.toNat).right_), ci ((gl v1938 v1937.toNat).high_)])]) (caps := [0, 1]) (shape_Joined_1_spec hz1944) Tryz.call115 [(0, 50), (60, 1010), (70, 1028), (1, 51)] rfl (by kernel_rfl), True.intro⟩ (by kernel_rfl) ?_
          refine AW.cond (b := (!z1943.2)) (by kernel_rfl) (fun hb1945 => ?_) (fun hb1945 => ?_)
          · have h := br_t h hb1945
            obtain ⟨hg1946, h⟩ := gd_some h
            refine AW.sg Fm [.s, .s, .s, .s, .s] (fun K => (0 ≤ v1936 ∧ v1936 < ((List.length v1938 : Nat) : Int)) ∧ (v1936.toNat < List.length v1938) ∧ True) [(0, .v (.c (.own 0))), (1, .v (.c (.clo 115 [50, 51]))), (5, vi v1936), (6, vi v1937)] [(0, .arr 4 (List.length (α := Rect) v1938) (fun j => if j = v1936.toNat then splice ((LF (α := Rect) v1938) v1936.toNat) 0 [.int .i64 (gl v1938 v1937.toNat).left_, .int .i64 (gl v1938 v1937.toNat).low_, .int .i64 (gl v1938 v1937.toNat).right_, .int .i64 (gl v1938 v1937.toNat).high_] else (LF (α := Rect) v1938) j)), (50, .box false [.ap 1028]), (51, .box false [ci x1918]), (1028, AP z1943.1)] ⟨hg1946, (toNat_lt hg1946), True.intro⟩ (by kernel_rfl) ?_
            refine Kn.wk [(0, .v (.c (.own 0))), (1, .v (.c (.clo 115 [50, 51]))), (5, vi v1936), (6, vi v1937)] [(0, AO (α := Rect) (List.set v1938 v1936.toNat (gl v1938 v1937.toNat))), (50, .box false [.ap 1028]), (51, .box false [ci x1918]), (1028, AP z1943.1)] (FE.refl _) (⟨rfl, OLe.is (Is.set (Is.refl v1938) (toNat_lt hg1946) (gl v1938 v1937.toNat) (by kernel_rfl)), ⟨rfl, OLe.refl _, ⟨rfl, OLe.refl _, ⟨rfl, OLe.refl _, True.intro⟩⟩⟩⟩) ?_
            obtain ⟨hg1947, h⟩ := gd_some h
            refine AW.g Fm [.s, .s, .s] (fun K => (I64 (v1936 + (1 : Int)) ∧ True) ∧ True) [(0, .v (.c (.own 0))), (1, .v (.c (.clo 115 [50, 51]))), (5, vi (v1936 + (1 : Int))), (6, vi v1937)] [(0, AO (α := Rect) (List.set v1938 v1936.toNat (gl v1938 v1937.toNat))), (50, .box false [.ap 1028]), (51, .box false [ci x1918]), (1028, AP z1943.1)] ⟨⟨hg1947, True.intro⟩, True.intro⟩ (by kernel_rfl) ?_
            exact Kn.r Fm [(0, .v (.c (.own 0))), (1, .v (.c (.clo 115 [50, 51]))), (5, vi (v1936 + (1 : Int))), (6, vi v1937)] [(0, AO (List.set v1938 v1936.toNat (gl v1938 v1937.toNat))), (50, .box false [.ap 1028]), (51, .box false [ci x1918]), (1028, AP z1943.1)] (by kernel_rfl) (hJ1951 ((v1936 + (1 : Int)), (List.set v1938 v1936.toNat (gl v1938 v1937.toNat)), z1943.1) h)
          · have h := br_f h hb1945
            refine AW.skip ?_
            exact Kn.r Fm [(0, .v (.c (.own 0))), (1, .v (.c (.clo 115 [50, 51]))), (5, vi v1936), (6, vi v1937)] [(0, AO v1938), (50, .box false [.ap 1028]), (51, .box false [ci x1918]), (1028, AP z1943.1)] (by kernel_rfl) (hJ1951 (v1936, v1938, z1943.1) h)
      · have h := br_f h hb1941
        refine AW.exit ?_
        exact Kn.r Fm [(0, .v (.c (.own 0))), (5, vi v1936)] [(0, AO v1938), (50, .box false [.ap 1010]), (51, .box false [ci x1918]), (1010, AP v1939)] (by kernel_rfl) (hJ1956 (v1936, v1938, v1939) h)
theorem shape_Joined_spec {F : Nat} {x1959 : (List Rect)} {r : (List Rect) × (List Rect)} (h : shape_Joined F x1959 = some r) :
    FSpec Tryz.prog 56 [AL x1959] [] (.t [.c (.d (DL (α := Rect) r.1)), .c (.d (DL (α := Rect) r.2))]) [] := by
  refine FSpec.intro prog_mixed prog_lay Tryz.func56 rfl (by kernel_rfl) fun C Fm => ?_
  unfold shape_Joined at h
  refine AW.sg0 Fm 2 [(0, AL x1959)] [] (by kernel_rfl) ?_
  refine AW.seq ?_
  obtain ⟨hg1960, h⟩ := gd_some h
  obtain ⟨hg1961, h⟩ := gd_some h
  obtain ⟨z1962, hz1963, h⟩ := bd_some h
  refine AW.g Fm [.s, .w (.v (.c (.fl (List.length (α := Rect) (x1959.take ((1 : Int)).toNat)) (LF (α := Rect) (x1959.take ((1 : Int)).toNat))))), .s, .w (AL (α := Rect) (x1959.drop (1 : Int).toNat)), .k (cE [(100, 11)] [] (.v (.c (.own 100))) [] [(100, AO z1962)]), .s, .s, .s] (fun K => (((1 : Int) ≤ ((List.length x1959 : Nat) : Int) ∧ ∀ j, j < List.length x1959 → (LF x1959 j).length = 4)) ∧ (ALe (.v (.c (.fl ((1 : Int)).toNat (LF x1959)))) (.v (.c (.fl (List.length (α := Rect) (x1959.take ((1 : Int)).toNat)) (LF (α := Rect) (x1959.take ((1 : Int)).toNat)))))) ∧ (((sl (List.length x1959) (LF x1959) (some (1 : Int)) none).2 ∧ ∀ j, j < List.length x1959 → (LF x1959 j).length = 4)) ∧ (ALe (.v (.c (.d (.lst (sl (List.length x1959) (LF x1959) (some (1 : Int)) none).1.1 (sl (List.length x1959) (LF x1959) (some (1 : Int)) none).1.2)))) (AL (α := Rect) (x1959.drop (1 : Int).toNat))) ∧ K 4 ∧ True) [(4, .v (.c (.ptr 4 0))), (5, .v (.c (.own 11)))] [(4, .box false [.fl (List.length (α := Rect) (x1959.take ((1 : Int)).toNat)) (LF (α := Rect) (x1959.take ((1 : Int)).toNat))]), (11, AO z1962)] ⟨⟨hg1960, (Is.refl x1959).len⟩, ALe.c (CLe.fls (Is.take (Is.refl x1959) hg1960)), ⟨hg1961, (Is.refl x1959).len⟩, ALe.lst (sl_is x1959 (some (1 : Int)) none hg1961), KAt.cl (args := [AL (α := Rect) (x1959.drop (1 : Int).toNat)]) (slices_Clone_Rect_O_spec hz1963) Tryz.call113 [(100, 11)] rfl (by kernel_rfl), True.intro⟩ (by kernel_rfl) ?_
  refine AW.join (r := r) (fun z : (List Rect) × (List Rect) => shape_Joined_k2 F z.1 z.2) (fun z => [(4, .v (.c (.ptr 4 0))), (5, .v (.c (.own 11)))]) (fun z => [(4, .box false [.ap 900]), (11, AO z.1), (900, AP z.2)]) (fun z h => ?_) (fun J1981 hJ1981 => ?_)
  · obtain ⟨v1979, v1980⟩ := z
    have h : shape_Joined_k2 F v1979 v1980 = some r := h
    refine AW.sg0 Fm 4 [(2, .v (.c (.ap 900))), (3, .v (.c (.own 11)))] [(11, AO v1979), (900, AP v1980)] (by kernel_rfl) ?_
    refine AW.ret ?_
    refine Kn.r Fm [(2, .v (.c (.ap 900))), (3, .v (.c (.own 11)))] [(900, AP v1980), (11, AO v1979)] (by kernel_rfl) ?_
    refine Kn.ap_split (by kernel_rfl) ?_ ?_
    · refine Kn.r Fm [(2, .v (.c (.own 900))), (3, .v (.c (.own 11)))] [(11, AO v1979), (900, AO v1980)] (by kernel_rfl) ?_
      obtain rfl := Option.some.inj h
      refine Kn.r Fm [(2, .v (.c (.own 900))), (3, .v (.c (.own 11)))] [(900, AO v1980), (11, AO v1979)] (by kernel_rfl) ?_
      refine Kn.frz [(2, AL v1980), (3, .v (.c (.own 11)))] [(11, AO v1979)] (by kernel_rfl) (by kernel_rfl) (by kernel_rfl) ?_
      refine Kn.r Fm [(2, AL v1980), (3, .v (.c (.own 11)))] [(11, AO v1979)] (by kernel_rfl) ?_
      refine Kn.frz [(2, AL v1980), (3, AL v1979)] [] (by kernel_rfl) (by kernel_rfl) (by kernel_rfl) ?_
      exact Kn.r Fm [(2, AL v1980), (3, AL v1979)] [] (by kernel_rfl) (Kn.dn Fm (by kernel_rfl))
    · refine Kn.r Fm [(2, .v (.c (.fl (List.length (α := Rect) v1980) (LF (α := Rect) v1980)))), (3, .v (.c (.own 11)))] [(11, AO v1979)] (by kernel_rfl) ?_
      obtain rfl := Option.some.inj h
      refine Kn.r Fm [(2, .v (.c (.fl (List.length (α := Rect) v1980) (LF (α := Rect) v1980)))), (3, .v (.c (.own 11)))] [(11, AO v1979)] (by kernel_rfl) ?_
      refine Kn.frz [(2, .v (.c (.fl (List.length (α := Rect) v1980) (LF (α := Rect) v1980)))), (3, AL v1979)] [] (by kernel_rfl) (by kernel_rfl) (by kernel_rfl) ?_
      refine Kn.r Fm [(2, .v (.c (.fl (List.length (α := Rect) v1980) (LF (α := Rect) v1980)))), (3, AL v1979)] [] (by kernel_rfl) ?_
      refine Kn.wk [(2, AL v1980), (3, AL v1979)] [] ⟨rfl, ALe.c (CLe.fl (.refl _)), ⟨rfl, ALe.c (CLe.refl _), True.intro⟩⟩ True.intro ?_
      exact Kn.r Fm [(2, AL v1980), (3, AL v1979)] [] (by kernel_rfl) (Kn.dn Fm (by kernel_rfl))
  · refine AW.sg0 Fm 2 [(4, .v (.c (.ptr 4 0))), (5, .v (.c (.own 11))), (6, .v (.c (.ptr 6 0)))] [(4, .box false [.fl (List.length (α := Rect) (x1959.take ((1 : Int)).toNat)) (LF (α := Rect) (x1959.take ((1 : Int)).toNat))]), (6, .box false [ci (0 : Int)]), (11, AO z1962)] (by kernel_rfl) ?_
    refine AW.block ?_
    refine Kn.r Fm [(4, .v (.c (.ptr 4 0))), (5, .v (.c (.own 11))), (6, .v (.c (.ptr 6 0)))] [(4, .box false [.fl (List.length (α := Rect) (x1959.take ((1 : Int)).toNat)) (LF (α := Rect) (x1959.take ((1 : Int)).toNat))]), (6, .box false [ci (0 : Int)]), (11, AO z1962)] (by kernel_rfl) ?_
    refine Kn.ap0 Fm (k := 900) (es := 4) (j := 0) (by kernel_rfl) (by kernel_rfl) (by simp) rfl ?_
    refine Kn.r Fm [(4, .v (.c (.ptr 4 0))), (5, .v (.c (.own 11))), (6, .v (.c (.ptr 6 0)))] [(4, .box false [.ap 900]), (6, .box false [ci (0 : Int)]), (11, AO z1962), (900, AP (α := Rect) (x1959.take ((1 : Int)).toNat))] (by kernel_rfl) ?_
    refine Kn.r Fm [(4, .v (.c (.ptr 4 0))), (5, .v (.c (.own 11))), (6, .v (.c (.ptr 6 0)))] [(4, .box false [.ap 900]), (6, .box false [ci (0 : Int)]), (11, AO z1962), (900, AP (x1959.take ((1 : Int)).toNat))] (by kernel_rfl) ?_
    have h : loopN (fun again (z : (List Rect) × Int × (List Rect)) => shape_Joined_b0 F again z.1 z.2.1 z.2.2) F (z1962, (0 : Int), (x1959.take ((1 : Int)).toNat)) = some r := h
    refine AW.loopF (E' := fun z => [(4, .v (.c (.ptr 4 0))), (5, .v (.c (.own 11))), (6, .v (.c (.ptr 6 0)))]) (S' := fun z => [(4, .box false [.ap 900]), (6, .box false [ci z.2.1]), (11, AO z.1), (900, AP z.2.2)]) (fun ag_shape_Joined_b0 z J1973 hJ1973 h => ?_) h
    obtain ⟨v1970, v1971, v1972⟩ := z
    have h : shape_Joined_b0 F ag_shape_Joined_b0 v1970 v1971 v1972 = some r := h
    refine AW.seq ?_
    refine AW.join (r := r) (fun z : Unit => shape_Joined_k1 F v1970 v1971 v1972 ag_shape_Joined_b0) (fun z => [(4, .v (.c (.ptr 4 0))), (5, .v (.c (.own 11))), (6, .v (.c (.ptr 6 0))), (15, vb (decide (v1971 < ((List.length v1972 : Nat) : Int))))]) (fun z => [(4, .box false [.ap 900]), (6, .box false [ci v1971]), (11, AO v1970), (900, AP v1972)]) (fun z h => ?_) (fun J1974 hJ1974 => ?_)
    · have h : shape_Joined_k1 F v1970 v1971 v1972 ag_shape_Joined_b0 = some r := h
      refine AW.cond (b := (decide (v1971 < ((List.length v1972 : Nat) : Int)))) (by kernel_rfl) (fun hb1975 => ?_) (fun hb1975 => ?_)
      · have h := br_t h hb1975
        refine AW.skip ?_
        refine AW.seq ?_
        refine AW.block ?_
        obtain ⟨z1976, hz1977, h⟩ := bd_some h
        refine AW.g Fm [.s, .s, .k (cE [(0, 11), (50, 4), (60, 900), (70, 1020), (51, 6), (100, 20)] [] (.v (.c (.own 100))) [(0, AO v1970), (50, .box false [.ap 60]), (51, .box false [ci v1971]), (60, AP v1972)] [(50, .box false [.ap 70]), (51, .box false [ci v1971]), (70, AP z1976.1), (100, AO z1976.2)]), .s] (fun K => K 2 ∧ True) [(4, .v (.c (.ptr 4 0))), (5, .v (.c (.own 20))), (6, .v (.c (.ptr 6 0)))] [(4, .box false [.ap 1020]), (6, .box false [ci v1971]), (20, AO z1976.2), (1020, AP z1976.1)] ⟨KAt.cl (args := [.v (.c (.own 0)), .v (.c (.clo 115 [50, 51]))]) (slices_DeleteFunc_Rect_J_spec hz1977) Tryz.call114 [(0, 11), (50, 4), (60, 900), (70, 1020), (51, 6), (100, 20)] rfl (by kernel_rfl), True.intro⟩ (by kernel_rfl) ?_
        refine AW.seq ?_
        refine AW.sg0 Fm 1 [(4, .v (.c (.ptr 4 0))), (5, .v (.c (.own 20))), (21, vi v1971)] [(4, .box false [.ap 1020]), (20, AO z1976.2), (1020, AP z1976.1)] (by kernel_rfl) ?_
        refine AW.g0 Fm 2 [(4, .v (.c (.ptr 4 0))), (5, .v (.c (.own 20))), (6, .v (.c (.ptr 6 0)))] [(4, .box false [.ap 1020]), (6, .box false [ci v1971]), (20, AO z1976.2), (1020, AP z1976.1)] (by kernel_rfl) ?_
        obtain ⟨hg1978, h⟩ := gd_some h
        refine AW.g Fm [.s, .s, .s] (fun K => (I64 (v1971 + (1 : Int)) ∧ True) ∧ True) [(4, .v (.c (.ptr 4 0))), (5, .v (.c (.own 20))), (6, .v (.c (.ptr 6 0)))] [(4, .box false [.ap 1020]), (6, .box false [ci (v1971 + (1 : Int))]), (20, AO z1976.2), (1020, AP z1976.1)] ⟨⟨hg1978, True.intro⟩, True.intro⟩ (by kernel_rfl) ?_
        exact Kn.re Fm [(11, 20), (900, 1020)] [(4, .v (.c (.ptr 4 0))), (5, .v (.c (.own 11))), (6, .v (.c (.ptr 6 0)))] [(4, .box false [.ap 900]), (6, .box false [ci (v1971 + (1 : Int))]), (11, AO z1976.2), (900, AP z1976.1)] (by kernel_rfl) (by kernel_rfl) (by kernel_rfl) (by kernel_rfl) (hJ1973 (z1976.2, (v1971 + (1 : Int)), z1976.1) h)
      · have h := br_f h hb1975
        refine AW.exit ?_
        exact Kn.r Fm [(4, .v (.c (.ptr 4 0))), (5, .v (.c (.own 11)))] [(4, .box false [.ap 900]), (11, AO v1970), (900, AP v1972)] (by kernel_rfl) (hJ1981 (v1970, v1972) h)
    · refine Kn.r Fm [(4, .v (.c (.ptr 4 0))), (5, .v (.c (.own 11))), (6, .v (.c (.ptr 6 0)))] [(900, AP v1972), (4, .box false [.ap 900]), (6, .box false [ci v1971]), (11, AO v1970)] (by kernel_rfl) ?_
      refine Kn.ap_split (by kernel_rfl) ?_ ?_
      · refine Kn.r Fm [(4, .v (.c (.ptr 4 0))), (5, .v (.c (.own 11))), (6, .v (.c (.ptr 6 0)))] [(4, .box false [.own 900]), (6, .box false [ci v1971]), (11, AO v1970), (900, AO v1972)] (by kernel_rfl) ?_
        refine AW.g0 Fm 4 [(4, .v (.c (.ptr 4 0))), (5, .v (.c (.own 11))), (6, .v (.c (.ptr 6 0))), (15, vb (decide (v1971 < ((List.length v1972 : Nat) : Int))))] [(4, .box false [.own 900]), (6, .box false [ci v1971]), (11, AO v1970), (900, AO v1972)] (by kernel_rfl) ?_
        refine Kn.r Fm [(4, .v (.c (.ptr 4 0))), (5, .v (.c (.own 11))), (6, .v (.c (.ptr 6 0))), (15, vb (decide (v1971 < ((List.length v1972 : Nat) : Int))))] [(4, .box false [.own 900]), (6, .box false [ci v1971]), (11, AO v1970), (900, AO v1972)] (by kernel_rfl) ?_
        refine Kn.wk [(4, .v (.c (.ptr 4 0))), (5, .v (.c (.own 11))), (6, .v (.c (.ptr 6 0))), (15, vb (decide (v1971 < ((List.length v1972 : Nat) : Int))))] [(4, .box false [.ap 900]), (6, .box false [ci v1971]), (11, AO v1970), (900, AP v1972)] ⟨rfl, ALe.refl _, ⟨rfl, ALe.refl _, ⟨rfl, ALe.refl _, ⟨rfl, ALe.refl _, True.intro⟩⟩⟩⟩ ⟨rfl, OLe.box ⟨CLe.ap 900, True.intro⟩, ⟨rfl, OLe.refl _, ⟨rfl, OLe.refl _, ⟨rfl, OLe.ap _ _ _, True.intro⟩⟩⟩⟩ ?_
        exact Kn.r Fm [(4, .v (.c (.ptr 4 0))), (5, .v (.c (.own 11))), (6, .v (.c (.ptr 6 0))), (15, vb (decide (v1971 < ((List.length v1972 : Nat) : Int))))] [(4, .box false [.ap 900]), (6, .box false [ci v1971]), (11, AO v1970), (900, AP v1972)] (by kernel_rfl) (hJ1974 () h)
      · refine Kn.r Fm [(4, .v (.c (.ptr 4 0))), (5, .v (.c (.own 11))), (6, .v (.c (.ptr 6 0)))] [(4, .box false [.fl (List.length (α := Rect) v1972) (LF (α := Rect) v1972)]), (6, .box false [ci v1971]), (11, AO v1970)] (by kernel_rfl) ?_
        refine AW.g0 Fm 4 [(4, .v (.c (.ptr 4 0))), (5, .v (.c (.own 11))), (6, .v (.c (.ptr 6 0))), (15, vb (decide (v1971 < ((List.length v1972 : Nat) : Int))))] [(4, .box false [.fl (List.length (α := Rect) v1972) (LF (α := Rect) v1972)]), (6, .box false [ci v1971]), (11, AO v1970)] (by kernel_rfl) ?_
        refine Kn.r Fm [(4, .v (.c (.ptr 4 0))), (5, .v (.c (.own 11))), (6, .v (.c (.ptr 6 0))), (15, vb (decide (v1971 < ((List.length v1972 : Nat) : Int))))] [(4, .box false [.fl (List.length (α := Rect) v1972) (LF (α := Rect) v1972)]), (6, .box false [ci v1971]), (11, AO v1970)] (by kernel_rfl) ?_
        refine Kn.ap0 Fm (k := 900) (es := 4) (j := 0) (by kernel_rfl) (by kernel_rfl) (by simp) rfl ?_
        refine Kn.r Fm [(4, .v (.c (.ptr 4 0))), (5, .v (.c (.own 11))), (6, .v (.c (.ptr 6 0))), (15, vb (decide (v1971 < ((List.length v1972 : Nat) : Int))))] [(4, .box false [.ap 900]), (6, .box false [ci v1971]), (11, AO v1970), (900, AP v1972)] (by kernel_rfl) ?_
        exact Kn.r Fm [(4, .v (.c (.ptr 4 0))), (5, .v (.c (.own 11))), (6, .v (.c (.ptr 6 0))), (15, vb (decide (v1971 < ((List.length v1972 : Nat) : Int))))] [(4, .box false [.ap 900]), (6, .box false [ci v1971]), (11, AO v1970), (900, AP v1972)] (by kernel_rfl) (hJ1974 () h)
theorem region_Of_1_spec {F : Nat} {x1982 : Rect} {r : Bool} (h : region_Of_1 F x1982 = some r) :
    FSpec Tryz.prog 116 [gE x1982] [] (vb r) [] := by
  refine FSpec.intro prog_mixed prog_lay Tryz.func116 rfl (by kernel_rfl) fun C Fm => ?_
  unfold region_Of_1 at h
  refine AW.sg0 Fm 2 [(1, .v (.c (.ptr 1 0)))] [(1, .box false (gC x1982))] (by kernel_rfl) ?_
  refine AW.seq ?_
  obtain ⟨z1983, hz1984, h⟩ := bd_some h
  refine AW.g Fm [.s, .k (cE [] [] (vb z1983) [] []), .s, .s] (fun K => K 1 ∧ True) [(2, vb (!z1983))] [] ⟨KAt.cl (args := [gE x1982]) (region_proper_spec hz1984) Tryz.call110 [] rfl (by kernel_rfl), True.intro⟩ (by kernel_rfl) ?_
  refine AW.ret ?_
  obtain rfl := Option.some.inj h
  exact Kn.r Fm [(2, vb (!z1983))] [] (by kernel_rfl) (Kn.dn Fm (by kernel_rfl))
theorem region_Of_spec {F : Nat} {x1985 : (List Rect)} {r : Region × Int} (h : region_Of F x1985 = some r) :
    FSpec Tryz.prog 57 [AL x1985] [] (.t [.g [.d (DL (α := Rect) r.1.rects_)], .c (ci r.2)]) [] := by
  refine FSpec.intro prog_mixed prog_lay Tryz.func57 rfl (by kernel_rfl) fun C Fm => ?_
  unfold region_Of at h
  refine AW.sg0 Fm 2 [(0, AL x1985), (2, .v (.c (.ptr 2 0)))] [(2, .box false [.fl 0 fun _ => []])] (by kernel_rfl) ?_
  refine AW.seq ?_
  refine AW.sg0 Fm 3 [(0, AL x1985), (2, .v (.c (.ptr 2 0))), (6, vb (decide ((120 : Int) < ((List.length x1985 : Nat) : Int))))] [(2, .box false [.fl 0 fun _ => []])] (by kernel_rfl) ?_
  refine AW.cond (b := (decide ((120 : Int) < ((List.length x1985 : Nat) : Int)))) (by kernel_rfl) (fun hb1986 => ?_) (fun hb1986 => ?_)
  · have h := br_t h hb1986
    refine AW.sg Fm [.w (.v (.g [.d (DL (α := Rect) [])])), .s, .s] (fun K => (ALe (.v (.g [.fl 0 fun _ => []])) (.v (.g [.d (DL (α := Rect) [])]))) ∧ True) [(2, .v (.c (.ptr 2 0))), (3, vi (1 : Int))] [(2, .box false [.d (DL (α := Rect) [])])] ⟨ALe.g ⟨CLe.fl .nil, True.intro⟩, True.intro⟩ (by kernel_rfl) ?_
    refine AW.ret ?_
    obtain rfl := Option.some.inj h
    exact Kn.r Fm [(2, .v (.c (.ptr 2 0))), (3, vi (1 : Int))] [(2, .box false [.d (DL (α := Rect) [])])] (by kernel_rfl) (Kn.dn Fm (by kernel_rfl))
  · have h := br_f h hb1986
    refine AW.skip ?_
    refine AW.seq ?_
    refine AW.seq ?_
    obtain ⟨z1987, hz1988, h⟩ := bd_some h
    refine AW.g Fm [.s, .k (cE [] [] (vb z1987) [] [])] (fun K => K 1 ∧ True) [(0, AL x1985), (2, .v (.c (.ptr 2 0))), (9, vb z1987)] [(2, .box false [.fl 0 fun _ => []])] ⟨KAt.callX (args := [AL x1985, .v (.c (.sem (CloOK Tryz.prog (FR_Rect_Bool (fun y0 => region_Of_1 F y0)))))]) (slices_ContainsFunc_Rect_spec hz1988) Tryz.call108 [] [] [.tmp 8, .func 116] rfl (by kernel_rfl) (by kernel_rfl) (by kernel_rfl) ⟨ArgT.plain (by kernel_rfl) (ALe.of_eq (by kernel_rfl)) (by kernel_rfl), ArgT.cloX Tryz.call116 [] (fun args r hq => by obtain ⟨y0, y, hq, rfl, rfl⟩ := hq; exact Eq.mp (by kernel_rfl) (region_Of_1_spec hq)) (fun args r hq => by obtain ⟨y0, y, hq, rfl, rfl⟩ := hq; rfl) (by kernel_rfl) [] (by kernel_rfl) (by kernel_rfl) (True.intro) (by kernel_rfl), True.intro⟩, True.intro⟩ (by kernel_rfl) ?_
    refine AW.cond (b := z1987) (by kernel_rfl) (fun hb1989 => ?_) (fun hb1989 => ?_)
    · have h := br_t h hb1989
      refine AW.sg Fm [.w (.v (.g [.d (DL (α := Rect) [])])), .s, .s] (fun K => (ALe (.v (.g [.fl 0 fun _ => []])) (.v (.g [.d (DL (α := Rect) [])]))) ∧ True) [(2, .v (.c (.ptr 2 0))), (3, vi (2 : Int))] [(2, .box false [.d (DL (α := Rect) [])])] ⟨ALe.g ⟨CLe.fl .nil, True.intro⟩, True.intro⟩ (by kernel_rfl) ?_
      refine AW.ret ?_
      obtain rfl := Option.some.inj h
      exact Kn.r Fm [(2, .v (.c (.ptr 2 0))), (3, vi (2 : Int))] [(2, .box false [.d (DL (α := Rect) [])])] (by kernel_rfl) (Kn.dn Fm (by kernel_rfl))
    · have h := br_f h hb1989
      refine AW.skip ?_
      refine AW.seq ?_
      obtain ⟨z1990, hz1991, h⟩ := bd_some h
      obtain ⟨z1992, hz1993, h⟩ := bd_some h
      refine AW.g Fm [.s, .k (cE [] [] (AL z1990) [] []), .k (cE [] [] (.t [.g [.d (DL z1992.1.rects_)], .c (ci z1992.2)]) [] []), .s, .s, .s, .s] (fun K => K 1 ∧ K 2 ∧ True) [(2, .v (.c (.ptr 2 0))), (3, vi z1992.2)] [(2, .box false [.d (DL z1992.1.rects_)])] ⟨KAt.cl (args := [AL x1985]) (region_canonical_spec hz1991) Tryz.call112 [] rfl (by kernel_rfl), KAt.cl (args := [AL z1990]) (region_Limited_spec hz1993) Tryz.call98 [] rfl (by kernel_rfl), True.intro⟩ (by kernel_rfl) ?_
      refine AW.ret ?_
      obtain rfl := Option.some.inj h
      exact Kn.r Fm [(2, .v (.c (.ptr 2 0))), (3, vi z1992.2)] [(2, .box false [.d (DL z1992.1.rects_)])] (by kernel_rfl) (Kn.dn Fm (by kernel_rfl))
theorem cmp_Or_int_spec {F : Nat} {x1994 : (List Int)} {r : Int} (h : cmp_Or_int F x1994 = some r) :
    FSpec Tryz.prog 60 [AL x1994] [] (vi r) [] := by
  refine FSpec.intro prog_mixed prog_lay Tryz.func60 rfl (by kernel_rfl) fun C Fm => ?_
  unfold cmp_Or_int at h
  refine AW.sg0 Fm 1 [(0, AL x1994)] [] (by kernel_rfl) ?_
  refine AW.sg0 Fm 1 [(0, AL x1994), (3, vi (0 : Int))] [] (by kernel_rfl) ?_
  refine AW.join (r := r) (fun z : Unit => cmp_Or_int_k1 F) (fun z => [(3, vi (0 : Int))]) (fun z => []) (fun z h => ?_) (fun J2006 hJ2006 => ?_)
  · have h : cmp_Or_int_k1 F = some r := h
    refine AW.sg0 Fm 2 [(2, vi (0 : Int))] [] (by kernel_rfl) ?_
    refine AW.ret ?_
    obtain rfl := Option.some.inj h
    exact Kn.r Fm [(2, vi (0 : Int))] [] (by kernel_rfl) (Kn.dn Fm (by kernel_rfl))
  · refine AW.sg0 Fm 3 [(3, vi (0 : Int)), (6, AL x1994), (7, vi ((List.length x1994 : Nat) : Int)), (8, vi (0 : Int))] [] (by kernel_rfl) ?_
    refine AW.block ?_
    refine Kn.r Fm [(3, vi (0 : Int)), (6, AL x1994), (7, vi ((List.length x1994 : Nat) : Int)), (8, vi (0 : Int))] [] (by kernel_rfl) ?_
    have h : loopN (fun again (z : Int) => cmp_Or_int_b0 F x1994 again z) F (0 : Int) = some r := h
    refine AW.loopF (E' := fun z => [(3, vi (0 : Int)), (6, AL x1994), (7, vi ((List.length x1994 : Nat) : Int)), (8, vi z)]) (S' := fun z => []) (fun ag_cmp_Or_int_b0 v2000 J2001 hJ2001 h => ?_) h
    have h : cmp_Or_int_b0 F x1994 ag_cmp_Or_int_b0 v2000 = some r := h
    refine AW.sg0 Fm 1 [(3, vi (0 : Int)), (6, AL x1994), (7, vi ((List.length x1994 : Nat) : Int)), (8, vi v2000), (9, vb (decide (v2000 < ((List.length x1994 : Nat) : Int))))] [] (by kernel_rfl) ?_
    refine AW.seq ?_
    refine AW.cond (b := (decide (v2000 < ((List.length x1994 : Nat) : Int)))) (by kernel_rfl) (fun hb2002 => ?_) (fun hb2002 => ?_)
    · have h := br_t h hb2002
      refine AW.skip ?_
      refine AW.seq ?_
      refine AW.block ?_
      obtain ⟨hg2003, h⟩ := gd_some h
      refine AW.sg Fm [.s, .s, .s] (fun K => (0 ≤ v2000 ∧ v2000 < ((List.length x1994 : Nat) : Int)) ∧ True) [(3, vi (0 : Int)), (5, vi (gl x1994 v2000.toNat)), (6, AL x1994), (7, vi ((List.length x1994 : Nat) : Int)), (8, vi v2000)] [] ⟨hg2003, True.intro⟩ (by kernel_rfl) ?_
      refine AW.sg0 Fm 3 [(3, vi (0 : Int)), (5, vi (gl x1994 v2000.toNat)), (6, AL x1994), (7, vi ((List.length x1994 : Nat) : Int)), (8, vi v2000), (14, vb ((gl x1994 v2000.toNat) != (0 : Int)))] [] (by kernel_rfl) ?_
      refine AW.cond (b := ((gl x1994 v2000.toNat) != (0 : Int))) (by kernel_rfl) (fun hb2004 => ?_) (fun hb2004 => ?_)
      · have h := br_t h hb2004
        refine AW.sg0 Fm 2 [(2, vi (gl x1994 v2000.toNat))] [] (by kernel_rfl) ?_
        refine AW.ret ?_
        obtain rfl := Option.some.inj h
        exact Kn.r Fm [(2, vi (gl x1994 v2000.toNat))] [] (by kernel_rfl) (Kn.dn Fm (by kernel_rfl))
      · have h := br_f h hb2004
        refine AW.skip ?_
        obtain ⟨hg2005, h⟩ := gd_some h
        refine AW.g Fm [.s, .s] (fun K => (I64 (v2000 + (1 : Int)) ∧ True) ∧ True) [(3, vi (0 : Int)), (6, AL x1994), (7, vi ((List.length x1994 : Nat) : Int)), (8, vi (v2000 + (1 : Int)))] [] ⟨⟨hg2005, True.intro⟩, True.intro⟩ (by kernel_rfl) ?_
        exact Kn.r Fm [(3, vi (0 : Int)), (6, AL x1994), (7, vi ((List.length x1994 : Nat) : Int)), (8, vi (v2000 + (1 : Int)))] [] (by kernel_rfl) (hJ2001 (v2000 + (1 : Int)) h)
    · have h := br_f h hb2002
      refine AW.exit ?_
      exact Kn.r Fm [(3, vi (0 : Int))] [] (by kernel_rfl) (hJ2006 () h)
theorem shape_Parts_1_spec {F : Nat} {x2007 : Region} {x2008 : Region} {r : Int} (h : shape_Parts_1 F x2007 x2008 = some r) :
    FSpec Tryz.prog 59 [.v (.g [.d (DL x2007.rects_)]), .v (.g [.d (DL x2008.rects_)])] [] (vi r) [] := by
  refine FSpec.intro prog_mixed prog_lay Tryz.func59 rfl (by kernel_rfl) fun C Fm => ?_
  unfold shape_Parts_1 at h
  refine AW.sg0 Fm 3 [(2, .v (.c (.ptr 2 0))), (3, .v (.c (.ptr 3 0)))] [(2, .box false [.d (DL x2007.rects_)]), (3, .box false [.d (DL x2008.rects_)])] (by kernel_rfl) ?_
  refine AW.seq ?_
  obtain ⟨hg2009, h⟩ := gd_some h
  obtain ⟨hg2010, h⟩ := gd_some h
  obtain ⟨z2011, hz2012, h⟩ := bd_some h
  obtain ⟨hg2013, h⟩ := gd_some h
  obtain ⟨hg2014, h⟩ := gd_some h
  obtain ⟨z2015, hz2016, h⟩ := bd_some h
  obtain ⟨z2017, hz2018, h⟩ := bd_some h
  refine AW.g Fm [.s, .s, .s, .s, .s, .s, .s, .s, .s, .s, .k (cE [] [] (vi z2011) [] []), .s, .s, .s, .s, .s, .s, .s, .s, .s, .s, .k (cE [] [] (vi z2015) [] []), .w (AL (α := Int) ([z2011, z2015] : List Int)), .k (cE [] [] (vi z2017) [] []), .s] (fun K => (0 ≤ (0 : Int) ∧ (0 : Int) < ((List.length x2007.rects_ : Nat) : Int)) ∧ (0 ≤ (0 : Int) ∧ (0 : Int) < ((List.length x2008.rects_ : Nat) : Int)) ∧ K 10 ∧ (0 ≤ (0 : Int) ∧ (0 : Int) < ((List.length x2007.rects_ : Nat) : Int)) ∧ (0 ≤ (0 : Int) ∧ (0 : Int) < ((List.length x2008.rects_ : Nat) : Int)) ∧ K 21 ∧ (ALe (.v (.c (.d (.lst 2 (litF 1 [.int .i64 z2011, .int .i64 z2015]))))) (AL (α := Int) ([z2011, z2015] : List Int))) ∧ K 23 ∧ True) [(4, vi z2017)] [] ⟨hg2009, hg2010, KAt.cl (args := [vi (gl x2007.rects_ (0 : Int).toNat).low_, vi (gl x2008.rects_ (0 : Int).toNat).low_]) (cmp_Compare_int_spec hz2012) Tryz.call61 [] rfl (by kernel_rfl), hg2013, hg2014, KAt.cl (args := [vi (gl x2007.rects_ (0 : Int).toNat).left_, vi (gl x2008.rects_ (0 : Int).toNat).left_]) (cmp_Compare_int_spec hz2016) Tryz.call61 [] rfl (by kernel_rfl), ALe.lst (.lit ([z2011, z2015] : List Int) (by kernel_rfl)), KAt.cl (args := [AL (α := Int) ([z2011, z2015] : List Int)]) (cmp_Or_int_spec hz2018) Tryz.call60 [] rfl (by kernel_rfl), True.intro⟩ (by kernel_rfl) ?_
  refine AW.ret ?_
  obtain rfl := Option.some.inj h
  exact Kn.r Fm [(4, vi z2017)] [] (by kernel_rfl) (Kn.dn Fm (by kernel_rfl))
theorem shape_Parts_spec {F : Nat} {x2019 : Region} {r : (List Region) × Int} (h : shape_Parts F x2019 = some r) :
    FSpec Tryz.prog 14 [.v (.g [.d (DL x2019.rects_)])] [] (.t [.c (.d (DL (α := Region) r.1)), .c (ci r.2)]) [] := by
  refine FSpec.intro prog_mixed prog_lay Tryz.func14 rfl (by kernel_rfl) fun C Fm => ?_
  unfold shape_Parts at h
  refine AW.sg0 Fm 3 [(1, .v (.c (.ptr 1 0)))] [(1, .box false [.d (DL x2019.rects_)])] (by kernel_rfl) ?_
  refine AW.seq ?_
  refine AW.seq ?_
  obtain ⟨z2020, hz2021, h⟩ := bd_some h
  refine AW.g Fm [.s, .k (cE [] [] (vb z2020) [] []), .s] (fun K => K 1 ∧ True) [(1, .v (.c (.ptr 1 0))), (11, vb (!z2020))] [(1, .box false [.d (DL x2019.rects_)])] ⟨KAt.cl (args := [.v (.g [.d (DL x2019.rects_)])]) (region_Valid_spec hz2021) Tryz.call55 [] rfl (by kernel_rfl), True.intro⟩ (by kernel_rfl) ?_
  refine AW.cond (b := (!z2020)) (by kernel_rfl) (fun hb2022 => ?_) (fun hb2022 => ?_)
  · have h := br_t h hb2022
    refine AW.sg0 Fm 2 [(2, .v (.c (.fl 0 fun _ => []))), (3, vi (7 : Int))] [] (by kernel_rfl) ?_
    refine AW.ret ?_
    obtain rfl := Option.some.inj h
    refine Kn.r Fm [(2, .v (.c (.fl 0 fun _ => []))), (3, vi (7 : Int))] [] (by kernel_rfl) ?_
    refine Kn.wk [(2, AL (α := Region) []), (3, vi (7 : Int))] [] ⟨rfl, ALe.c (CLe.fl .nil), ⟨rfl, ALe.c (CLe.refl _), True.intro⟩⟩ True.intro ?_
    exact Kn.r Fm [(2, AL (α := Region) []), (3, vi (7 : Int))] [] (by kernel_rfl) (Kn.dn Fm (by kernel_rfl))
  · have h := br_f h hb2022
    refine AW.skip ?_
    refine AW.sg Fm [.m] (fun K => True) [(1, .v (.c (.ptr 1 0))), (4, .v (.c (.own 4)))] [(1, .box false [.d (DL x2019.rects_)]), (4, .arr 1 (0) (fun _ => []))] True.intro (by kernel_rfl) ?_
    refine Kn.wk [(1, .v (.c (.ptr 1 0))), (4, .v (.c (.own 4)))] [(1, .box false [.d (DL x2019.rects_)]), (4, AO (α := Region) ([] : List Region))] (FE.refl _) (⟨rfl, OLe.refl _, ⟨rfl, OLe.is ((Is.nil (α := Region))), True.intro⟩⟩) ?_
    refine AW.join (r := r) (fun z : (List Region) => shape_Parts_k1 F z) (fun z => [(4, .v (.c (.own 4)))]) (fun z => [(4, AO z)]) (fun v2041 h => ?_) (fun J2042 hJ2042 => ?_)
    · have h : shape_Parts_k1 F v2041 = some r := h
      refine AW.seq ?_
      obtain ⟨z2043, hz2044, h⟩ := bd_some h
      refine AW.g Fm [.s, .k (cE [(0, 4)] [] (.any) [(0, AO v2041)] [(0, AO z2043)])] (fun K => K 1 ∧ True) [(4, .v (.c (.own 4)))] [(4, AO z2043)] ⟨KAt.callX (args := [.v (.c (.own 0)), .v (.c (.sem (CloOK Tryz.prog (FR_Region_Region_Int (fun y0 y1 => shape_Parts_1 F y0 y1)))))]) (sortG_Region_spec hz2044) Tryz.call58 [(0, 4)] [] [.tmp 34, .func 59] rfl (by kernel_rfl) (by kernel_rfl) (by kernel_rfl) ⟨ArgT.plain (by kernel_rfl) (ALe.of_eq (by kernel_rfl)) (by kernel_rfl), ArgT.cloX Tryz.call59 [] (fun args r hq => by obtain ⟨y0, y1, y, hq, rfl, rfl⟩ := hq; exact Eq.mp (by kernel_rfl) (shape_Parts_1_spec hq)) (fun args r hq => by obtain ⟨y0, y1, y, hq, rfl, rfl⟩ := hq; rfl) (by kernel_rfl) [] (by kernel_rfl) (by kernel_rfl) (True.intro) (by kernel_rfl), True.intro⟩, True.intro⟩ (by kernel_rfl) ?_
      refine AW.sg0 Fm 3 [(2, .v (.c (.own 4))), (3, vi (0 : Int))] [(4, AO z2043)] (by kernel_rfl) ?_
      refine AW.ret ?_
      obtain rfl := Option.some.inj h
      refine Kn.r Fm [(2, .v (.c (.own 4))), (3, vi (0 : Int))] [(4, AO z2043)] (by kernel_rfl) ?_
      refine Kn.frz [(2, AL z2043), (3, vi (0 : Int))] [] (by kernel_rfl) (by kernel_rfl) (by kernel_rfl) ?_
      exact Kn.r Fm [(2, AL z2043), (3, vi (0 : Int))] [] (by kernel_rfl) (Kn.dn Fm (by kernel_rfl))
    · refine AW.sg0 Fm 3 [(4, .v (.c (.own 4))), (5, AL x2019.rects_)] [(4, AO (α := Region) ([] : List Region))] (by kernel_rfl) ?_
      refine AW.block ?_
      refine Kn.r Fm [(4, .v (.c (.own 4))), (5, AL x2019.rects_)] [(4, AO ([] : List Region))] (by kernel_rfl) ?_
      have h : loopN (fun again (z : (List Rect) × (List Region)) => shape_Parts_b0 F again z.1 z.2) F (x2019.rects_, ([] : List Region)) = some r := h
      refine AW.loopF (E' := fun z => [(4, .v (.c (.own 4))), (5, AL z.1)]) (S' := fun z => [(4, AO z.2)]) (fun ag_shape_Parts_b0 z J2033 hJ2033 h => ?_) h
      obtain ⟨v2031, v2032⟩ := z
      have h : shape_Parts_b0 F ag_shape_Parts_b0 v2031 v2032 = some r := h
      refine AW.seq ?_
      refine AW.sg0 Fm 3 [(4, .v (.c (.own 4))), (5, AL v2031), (16, vb (decide ((0 : Int) < ((List.length v2031 : Nat) : Int))))] [(4, AO v2032)] (by kernel_rfl) ?_
      refine AW.cond (b := (decide ((0 : Int) < ((List.length v2031 : Nat) : Int)))) (by kernel_rfl) (fun hb2034 => ?_) (fun hb2034 => ?_)
      · have h := br_t h hb2034
        refine AW.skip ?_
        refine AW.block ?_
        refine AW.sg Fm [.m] (fun K => True) [(4, .v (.c (.own 4))), (5, AL v2031)] [(4, AO v2032)] True.intro (by kernel_rfl) ?_
        refine AW.seq ?_
        obtain ⟨z2035, hz2036, h⟩ := bd_some h
        refine AW.g Fm [.s, .k (cE [] [] (.t [.c (.d (DL z2035.1)), .c (.d (DL z2035.2))]) [] []), .s, .s, .s, .s, .s] (fun K => K 1 ∧ True) [(4, .v (.c (.own 4))), (5, AL z2035.2), (6, AL z2035.1)] [(4, AO v2032)] ⟨KAt.cl (args := [AL v2031]) (shape_Joined_spec hz2036) Tryz.call56 [] rfl (by kernel_rfl), True.intro⟩ (by kernel_rfl) ?_
        refine AW.seq ?_
        obtain ⟨z2037, hz2038, h⟩ := bd_some h
        refine AW.g Fm [.s, .k (cE [] [] (.t [.g [.d (DL z2037.1.rects_)], .c (ci z2037.2)]) [] []), .s, .s, .s, .s, .s, .s] (fun K => K 1 ∧ True) [(4, .v (.c (.own 4))), (5, AL z2035.2), (7, .v (.c (.ptr 7 0))), (8, vi z2037.2)] [(4, AO v2032), (7, .box false [.d (DL z2037.1.rects_)])] ⟨KAt.cl (args := [AL z2035.1]) (region_Of_spec hz2038) Tryz.call57 [] rfl (by kernel_rfl), True.intro⟩ (by kernel_rfl) ?_
        refine AW.seq ?_
        refine AW.sg0 Fm 2 [(4, .v (.c (.own 4))), (5, AL z2035.2), (7, .v (.c (.ptr 7 0))), (8, vi z2037.2), (28, vb (z2037.2 != (0 : Int)))] [(4, AO v2032), (7, .box false [.d (DL z2037.1.rects_)])] (by kernel_rfl) ?_
        refine AW.cond (b := (z2037.2 != (0 : Int))) (by kernel_rfl) (fun hb2039 => ?_) (fun hb2039 => ?_)
        · have h := br_t h hb2039
          refine AW.sg0 Fm 3 [(2, .v (.c (.fl 0 fun _ => []))), (3, vi z2037.2)] [] (by kernel_rfl) ?_
          refine AW.ret ?_
          obtain rfl := Option.some.inj h
          refine Kn.r Fm [(2, .v (.c (.fl 0 fun _ => []))), (3, vi z2037.2)] [] (by kernel_rfl) ?_
          refine Kn.wk [(2, AL (α := Region) []), (3, vi z2037.2)] [] ⟨rfl, ALe.c (CLe.fl .nil), ⟨rfl, ALe.c (CLe.refl _), True.intro⟩⟩ True.intro ?_
          exact Kn.r Fm [(2, AL (α := Region) []), (3, vi z2037.2)] [] (by kernel_rfl) (Kn.dn Fm (by kernel_rfl))
        · have h := br_f h hb2039
          refine AW.skip ?_
          obtain ⟨hg2040, h⟩ := gd_some h
          refine AW.g Fm [.s, .s, .w (AL (α := Region) ([z2037.1] : List Region)), .s, .s] (fun K => (ALe (.v (.c (.d (.lst 1 (litF 1 [DL z2037.1.rects_]))))) (AL (α := Region) ([z2037.1] : List Region))) ∧ ((List.length (α := Region) v2032) + (List.length (α := Region) ([z2037.1] : List Region)) ≤ LIM ∧ (∀ j, j < List.length (α := Region) ([z2037.1] : List Region) → ((LF (α := Region) ([z2037.1] : List Region)) j).length = 1) ∧ (True)) ∧ True) [(4, .v (.c (.own 33))), (5, AL z2035.2)] [(33, .arr 1 ((List.length (α := Region) v2032) + (List.length (α := Region) ([z2037.1] : List Region))) (appF (List.length (α := Region) v2032) (LF (α := Region) v2032) (LF (α := Region) ([z2037.1] : List Region))))] ⟨ALe.lst (.lit ([z2037.1] : List Region) (by kernel_rfl)), ⟨hg2040, (Is.refl ([z2037.1] : List Region) : Is (List.length (α := Region) ([z2037.1] : List Region)) (LF (α := Region) ([z2037.1] : List Region)) ([z2037.1] : List Region)).len, True.intro⟩, True.intro⟩ (by kernel_rfl) ?_
          refine Kn.wk [(4, .v (.c (.own 33))), (5, AL z2035.2)] [(33, AO (α := Region) (v2032 ++ ([z2037.1] : List Region)))] (FE.refl _) (⟨rfl, OLe.is (Is.app (Is.refl v2032) (Is.refl ([z2037.1] : List Region))), True.intro⟩) ?_
          exact Kn.re Fm [(4, 33)] [(4, .v (.c (.own 4))), (5, AL z2035.2)] [(4, AO (v2032 ++ ([z2037.1] : List Region)))] (by kernel_rfl) (by kernel_rfl) (by kernel_rfl) (by kernel_rfl) (hJ2033 (z2035.2, (v2032 ++ ([z2037.1] : List Region))) h)
      · have h := br_f h hb2034
        refine AW.exit ?_
        exact Kn.r Fm [(4, .v (.c (.own 4)))] [(4, AO v2032)] (by kernel_rfl) (hJ2042 v2032 h)
theorem ref04_Same_spec {F : Nat} {x2045 : Region} {x2046 : Region} {r : Bool} (h : ref04_Same F x2045 x2046 = some r) :
    FSpec Tryz.prog 16 [.v (.g [.d (DL x2045.rects_)]), .v (.g [.d (DL x2046.rects_)])] [] (vb r) [] := by
  refine FSpec.intro prog_mixed prog_lay Tryz.func16 rfl (by kernel_rfl) fun C Fm => ?_
  unfold ref04_Same at h
  refine AW.sg0 Fm 3 [(2, .v (.c (.ptr 2 0))), (3, .v (.c (.ptr 3 0)))] [(2, .box false [.d (DL x2045.rects_)]), (3, .box false [.d (DL x2046.rects_)])] (by kernel_rfl) ?_
  refine AW.seq ?_
  obtain ⟨z2047, hz2048, h⟩ := bd_some h
  refine AW.g Fm [.s, .s, .s, .s, .k (cE [] [] (vb z2047) [] []), .s] (fun K => K 4 ∧ True) [(4, vb z2047)] [] ⟨KAt.cl (args := [AL x2045.rects_, AL x2046.rects_]) (ref04_Rects_spec hz2048) Tryz.call63 [] rfl (by kernel_rfl), True.intro⟩ (by kernel_rfl) ?_
  refine AW.ret ?_
  obtain rfl := Option.some.inj h
  exact Kn.r Fm [(4, vb z2047)] [] (by kernel_rfl) (Kn.dn Fm (by kernel_rfl))
theorem shape_check_spec {F : Nat} {x2110 : Region} {x2111 : Int} {r : Int} (h : shape_check F x2110 x2111 = some r) :
    FSpec Tryz.prog 95 [.v (.g [.d (DL x2110.rects_)]), vi x2111] [] (vi r) [] := by
  refine FSpec.intro prog_mixed prog_lay Tryz.func95 rfl (by kernel_rfl) fun C Fm => ?_
  unfold shape_check at h
  refine AW.sg0 Fm 2 [(1, vi x2111), (2, .v (.c (.ptr 2 0)))] [(2, .box false [.d (DL x2110.rects_)])] (by kernel_rfl) ?_
  refine AW.seq ?_
  refine AW.block ?_
  refine AW.seq ?_
  obtain ⟨z2112, hz2113, h⟩ := bd_some h
  refine AW.g Fm [.s, .k (cE [] [] (vb z2112) [] []), .s, .s] (fun K => K 1 ∧ True) [(1, vi x2111), (5, vb (!z2112))] [] ⟨KAt.cl (args := [.v (.g [.d (DL x2110.rects_)])]) (region_Valid_spec hz2113) Tryz.call55 [] rfl (by kernel_rfl), True.intro⟩ (by kernel_rfl) ?_
  refine AW.cond (b := (!z2112)) (by kernel_rfl) (fun hb2114 => ?_) (fun hb2114 => ?_)
  · have h := br_t h hb2114
    refine AW.sg0 Fm 1 [(4, vi (7 : Int))] [] (by kernel_rfl) ?_
    refine AW.ret ?_
    obtain rfl := Option.some.inj h
    exact Kn.r Fm [(4, vi (7 : Int))] [] (by kernel_rfl) (Kn.dn Fm (by kernel_rfl))
  · have h := br_f h hb2114
    refine AW.join (r := r) (fun z : Bool => shape_check_k0 F z) (fun z => [(9, vb z)]) (fun z => []) (fun v2116 h => ?_) (fun J2117 hJ2117 => ?_)
    · have h : shape_check_k0 F v2116 = some r := h
      refine AW.cond (b := v2116) (by kernel_rfl) (fun hb2118 => ?_) (fun hb2118 => ?_)
      · have h := br_t h hb2118
        refine AW.sg0 Fm 1 [(4, vi (2 : Int))] [] (by kernel_rfl) ?_
        refine AW.ret ?_
        obtain rfl := Option.some.inj h
        exact Kn.r Fm [(4, vi (2 : Int))] [] (by kernel_rfl) (Kn.dn Fm (by kernel_rfl))
      · have h := br_f h hb2118
        refine AW.skip ?_
        refine AW.sg0 Fm 1 [(4, vi (0 : Int))] [] (by kernel_rfl) ?_
        refine AW.ret ?_
        obtain rfl := Option.some.inj h
        exact Kn.r Fm [(4, vi (0 : Int))] [] (by kernel_rfl) (Kn.dn Fm (by kernel_rfl))
    · rcases Bool.eq_false_or_eq_true (decide (x2111 < (0 : Int))) with hb2115 | hb2115
      · have h := br_t h hb2115
        refine AW.g Fm [.s, .s, .w (vb true), .s, .s, .s, .s] (fun K => (ALe (vb (decide (x2111 < (0 : Int)))) (vb true)) ∧ True) [(9, vb true)] [] ⟨ALe.bool hb2115, True.intro⟩ (by kernel_rfl) ?_
        exact Kn.r Fm [(9, vb true)] [] (by kernel_rfl) (hJ2117 true h)
      · have h := br_f h hb2115
        refine AW.g Fm [.s, .s, .w (vb false), .s, .s, .s, .s] (fun K => (ALe (vb (decide (x2111 < (0 : Int)))) (vb false)) ∧ True) [(9, vb (decide ((64 : Int) < x2111)))] [] ⟨ALe.bool hb2115, True.intro⟩ (by kernel_rfl) ?_
        exact Kn.r Fm [(9, vb (decide ((64 : Int) < x2111)))] [] (by kernel_rfl) (hJ2117 (decide ((64 : Int) < x2111)) h)
theorem shape_wider_spec {F : Nat} {x2119 : (List Rect)} {x2120 : Int} {r : (List Rect)} (h : shape_wider F x2119 x2120 = some r) :
    FSpec Tryz.prog 96 [AL x2119, vi x2120] [] (.v (.c (.own 100))) [(100, AO (α := Rect) r)] := by
  refine FSpec.intro prog_mixed prog_lay Tryz.func96 rfl (by kernel_rfl) fun C Fm => ?_
  unfold shape_wider at h
  refine AW.sg Fm [.m] (fun K => True) [(0, AL x2119), (1, vi x2120)] [] True.intro (by kernel_rfl) ?_
  refine AW.sg Fm [.m] (fun K => True) [(0, AL x2119), (1, vi x2120), (5, .v (.c (.own 5)))] [(5, .arr 4 (0) (fun _ => []))] True.intro (by kernel_rfl) ?_
  refine Kn.wk [(0, AL x2119), (1, vi x2120), (5, .v (.c (.own 5)))] [(5, AO (α := Rect) ([] : List Rect))] (FE.refl _) (⟨rfl, OLe.is ((Is.nil (α := Rect))), True.intro⟩) ?_
  refine AW.join (r := r) (fun z : (List Rect) => shape_wider_k1 F z) (fun z => [(5, .v (.c (.own 5)))]) (fun z => [(5, AO z)]) (fun v2141 h => ?_) (fun J2142 hJ2142 => ?_)
  · have h : shape_wider_k1 F v2141 = some r := h
    refine AW.sg0 Fm 2 [(4, .v (.c (.own 5)))] [(5, AO v2141)] (by kernel_rfl) ?_
    refine AW.ret ?_
    obtain rfl := Option.some.inj h
    exact Kn.re Fm [(100, 5)] [(4, .v (.c (.own 100)))] [(100, AO v2141)] (by kernel_rfl) (by kernel_rfl) (by kernel_rfl) (by kernel_rfl) (Kn.dn Fm (by kernel_rfl))
  · refine AW.sg0 Fm 3 [(1, vi x2120), (5, .v (.c (.own 5))), (8, AL x2119), (9, vi ((List.length x2119 : Nat) : Int)), (10, vi (0 : Int))] [(5, AO (α := Rect) ([] : List Rect))] (by kernel_rfl) ?_
    refine AW.block ?_
    refine Kn.r Fm [(1, vi x2120), (5, .v (.c (.own 5))), (8, AL x2119), (9, vi ((List.length x2119 : Nat) : Int)), (10, vi (0 : Int))] [(5, AO ([] : List Rect))] (by kernel_rfl) ?_
    have h : loopN (fun again (z : Int × (List Rect)) => shape_wider_b0 F x2119 x2120 again z.1 z.2) F ((0 : Int), ([] : List Rect)) = some r := h
    refine AW.loopF (E' := fun z => [(1, vi x2120), (5, .v (.c (.own 5))), (8, AL x2119), (9, vi ((List.length x2119 : Nat) : Int)), (10, vi z.1)]) (S' := fun z => [(5, AO z.2)]) (fun ag_shape_wider_b0 z J2132 hJ2132 h => ?_) h
    obtain ⟨v2130, v2131⟩ := z
    have h : shape_wider_b0 F x2119 x2120 ag_shape_wider_b0 v2130 v2131 = some r := h
    refine AW.sg0 Fm 1 [(1, vi x2120), (5, .v (.c (.own 5))), (8, AL x2119), (9, vi ((List.length x2119 : Nat) : Int)), (10, vi v2130), (11, vb (decide (v2130 < ((List.length x2119 : Nat) : Int))))] [(5, AO v2131)] (by kernel_rfl) ?_
    refine AW.seq ?_
    refine AW.cond (b := (decide (v2130 < ((List.length x2119 : Nat) : Int)))) (by kernel_rfl) (fun hb2133 => ?_) (fun hb2133 => ?_)
    · have h := br_t h hb2133
      refine AW.skip ?_
      refine AW.seq ?_
      refine AW.block ?_
      obtain ⟨hg2134, h⟩ := gd_some h
      refine AW.sg Fm [.s, .s, .s, .s] (fun K => (0 ≤ v2130 ∧ v2130 < ((List.length x2119 : Nat) : Int)) ∧ True) [(1, vi x2120), (5, .v (.c (.own 5))), (7, .v (.c (.ptr 7 0))), (8, AL x2119), (9, vi ((List.length x2119 : Nat) : Int)), (10, vi v2130)] [(5, AO v2131), (7, .box false [ci ((gl x2119 v2130.toNat).left_), ci ((gl x2119 v2130.toNat).low_), ci ((gl x2119 v2130.toNat).right_), ci ((gl x2119 v2130.toNat).high_)])] ⟨hg2134, True.intro⟩ (by kernel_rfl) ?_
      obtain ⟨hg2135, h⟩ := gd_some h
      obtain ⟨hg2136, h⟩ := gd_some h
      obtain ⟨hg2137, h⟩ := gd_some h
      obtain ⟨hg2138, h⟩ := gd_some h
      obtain ⟨hg2139, h⟩ := gd_some h
      refine AW.g Fm [.s, .s, .s, .s, .s, .s, .s, .s, .s, .s, .s, .s, .s, .s, .s, .s, .s, .s, .w (AL (α := Rect) ([(⟨(((gl x2119 v2130.toNat).left_) - x2120), (((gl x2119 v2130.toNat).low_) - x2120), (((gl x2119 v2130.toNat).right_) + x2120), (((gl x2119 v2130.toNat).high_) + x2120)⟩ : Rect)] : List Rect)), .s, .s] (fun K => (I64 (((gl x2119 v2130.toNat).left_) - x2120) ∧ True) ∧ (I64 (((gl x2119 v2130.toNat).low_) - x2120) ∧ True) ∧ (I64 (((gl x2119 v2130.toNat).right_) + x2120) ∧ True) ∧ (I64 (((gl x2119 v2130.toNat).high_) + x2120) ∧ True) ∧ (ALe (.v (.c (.d (.lst 1 (litF 4 [.int .i64 (((gl x2119 v2130.toNat).left_) - x2120), .int .i64 (((gl x2119 v2130.toNat).low_) - x2120), .int .i64 (((gl x2119 v2130.toNat).right_) + x2120), .int .i64 (((gl x2119 v2130.toNat).high_) + x2120)]))))) (AL (α := Rect) ([(⟨(((gl x2119 v2130.toNat).left_) - x2120), (((gl x2119 v2130.toNat).low_) - x2120), (((gl x2119 v2130.toNat).right_) + x2120), (((gl x2119 v2130.toNat).high_) + x2120)⟩ : Rect)] : List Rect))) ∧ ((List.length (α := Rect) v2131) + (List.length (α := Rect) ([(⟨(((gl x2119 v2130.toNat).left_) - x2120), (((gl x2119 v2130.toNat).low_) - x2120), (((gl x2119 v2130.toNat).right_) + x2120), (((gl x2119 v2130.toNat).high_) + x2120)⟩ : Rect)] : List Rect)) ≤ LIM ∧ (∀ j, j < List.length (α := Rect) ([(⟨(((gl x2119 v2130.toNat).left_) - x2120), (((gl x2119 v2130.toNat).low_) - x2120), (((gl x2119 v2130.toNat).right_) + x2120), (((gl x2119 v2130.toNat).high_) + x2120)⟩ : Rect)] : List Rect) → ((LF (α := Rect) ([(⟨(((gl x2119 v2130.toNat).left_) - x2120), (((gl x2119 v2130.toNat).low_) - x2120), (((gl x2119 v2130.toNat).right_) + x2120), (((gl x2119 v2130.toNat).high_) + x2120)⟩ : Rect)] : List Rect)) j).length = 4) ∧ (True)) ∧ True) [(1, vi x2120), (5, .v (.c (.own 33))), (8, AL x2119), (9, vi ((List.length x2119 : Nat) : Int)), (10, vi v2130)] [(33, .arr 4 ((List.length (α := Rect) v2131) + (List.length (α := Rect) ([(⟨(((gl x2119 v2130.toNat).left_) - x2120), (((gl x2119 v2130.toNat).low_) - x2120), (((gl x2119 v2130.toNat).right_) + x2120), (((gl x2119 v2130.toNat).high_) + x2120)⟩ : Rect)] : List Rect))) (appF (List.length (α := Rect) v2131) (LF (α := Rect) v2131) (LF (α := Rect) ([(⟨(((gl x2119 v2130.toNat).left_) - x2120), (((gl x2119 v2130.toNat).low_) - x2120), (((gl x2119 v2130.toNat).right_) + x2120), (((gl x2119 v2130.toNat).high_) + x2120)⟩ : Rect)] : List Rect))))] ⟨⟨hg2135, True.intro⟩, ⟨hg2136, True.intro⟩, ⟨hg2137, True.intro⟩, ⟨hg2138, True.intro⟩, ALe.lst (.lit ([(⟨(((gl x2119 v2130.toNat).left_) - x2120), (((gl x2119 v2130.toNat).low_) - x2120), (((gl x2119 v2130.toNat).right_) + x2120), (((gl x2119 v2130.toNat).high_) + x2120)⟩ : Rect)] : List Rect) (by kernel_rfl)), ⟨hg2139, (Is.refl ([(⟨(((gl x2119 v2130.toNat).left_) - x2120), (((gl x2119 v2130.toNat).low_) - x2120), (((gl x2119 v2130.toNat).right_) + x2120), (((gl x2119 v2130.toNat).high_) + x2120)⟩ : Rect)] : List Rect) : Is (List.length (α := Rect) ([(⟨(((gl x2119 v2130.toNat).left_) - x2120), (((gl x2119 v2130.toNat).low_) - x2120), (((gl x2119 v2130.toNat).right_) + x2120), (((gl x2119 v2130.toNat).high_) + x2120)⟩ : Rect)] : List Rect)) (LF (α := Rect) ([(⟨(((gl x2119 v2130.toNat).left_) - x2120), (((gl x2119 v2130.toNat).low_) - x2120), (((gl x2119 v2130.toNat).right_) + x2120), (((gl x2119 v2130.toNat).high_) + x2120)⟩ : Rect)] : List Rect)) ([(⟨(((gl x2119 v2130.toNat).left_) - x2120), (((gl x2119 v2130.toNat).low_) - x2120), (((gl x2119 v2130.toNat).right_) + x2120), (((gl x2119 v2130.toNat).high_) + x2120)⟩ : Rect)] : List Rect)).len, True.intro⟩, True.intro⟩ (by kernel_rfl) ?_
      refine Kn.wk [(1, vi x2120), (5, .v (.c (.own 33))), (8, AL x2119), (9, vi ((List.length x2119 : Nat) : Int)), (10, vi v2130)] [(33, AO (α := Rect) (v2131 ++ ([(⟨(((gl x2119 v2130.toNat).left_) - x2120), (((gl x2119 v2130.toNat).low_) - x2120), (((gl x2119 v2130.toNat).right_) + x2120), (((gl x2119 v2130.toNat).high_) + x2120)⟩ : Rect)] : List Rect)))] (FE.refl _) (⟨rfl, OLe.is (Is.app (Is.refl v2131) (Is.refl ([(⟨(((gl x2119 v2130.toNat).left_) - x2120), (((gl x2119 v2130.toNat).low_) - x2120), (((gl x2119 v2130.toNat).right_) + x2120), (((gl x2119 v2130.toNat).high_) + x2120)⟩ : Rect)] : List Rect))), True.intro⟩) ?_
      obtain ⟨hg2140, h⟩ := gd_some h
      refine AW.g Fm [.s, .s] (fun K => (I64 (v2130 + (1 : Int)) ∧ True) ∧ True) [(1, vi x2120), (5, .v (.c (.own 33))), (8, AL x2119), (9, vi ((List.length x2119 : Nat) : Int)), (10, vi (v2130 + (1 : Int)))] [(33, AO (α := Rect) (v2131 ++ ([(⟨(((gl x2119 v2130.toNat).left_) - x2120), (((gl x2119 v2130.toNat).low_) - x2120), (((gl x2119 v2130.toNat).right_) + x2120), (((gl x2119 v2130.toNat).high_) + x2120)⟩ : Rect)] : List Rect)))] ⟨⟨hg2140, True.intro⟩, True.intro⟩ (by kernel_rfl) ?_
      exact Kn.re Fm [(5, 33)] [(1, vi x2120), (5, .v (.c (.own 5))), (8, AL x2119), (9, vi ((List.length x2119 : Nat) : Int)), (10, vi (v2130 + (1 : Int)))] [(5, AO (v2131 ++ ([(⟨(((gl x2119 v2130.toNat).left_) - x2120), (((gl x2119 v2130.toNat).low_) - x2120), (((gl x2119 v2130.toNat).right_) + x2120), (((gl x2119 v2130.toNat).high_) + x2120)⟩ : Rect)] : List Rect)))] (by kernel_rfl) (by kernel_rfl) (by kernel_rfl) (by kernel_rfl) (hJ2132 ((v2130 + (1 : Int)), (v2131 ++ ([(⟨(((gl x2119 v2130.toNat).left_) - x2120), (((gl x2119 v2130.toNat).low_) - x2120), (((gl x2119 v2130.toNat).right_) + x2120), (((gl x2119 v2130.toNat).high_) + x2120)⟩ : Rect)] : List Rect))) h)
    · have h := br_f h hb2133
      refine AW.exit ?_
      exact Kn.r Fm [(5, .v (.c (.own 5)))] [(5, AO v2131)] (by kernel_rfl) (hJ2142 v2131 h)
theorem shape_Grow_spec {F : Nat} {x2143 : Region} {x2144 : Int} {r : Region × Int} (h : shape_Grow F x2143 x2144 = some r) :
    FSpec Tryz.prog 35 [.v (.g [.d (DL x2143.rects_)]), vi x2144] [] (.t [.g [.d (DL (α := Rect) r.1.rects_)], .c (ci r.2)]) [] := by
  refine FSpec.intro prog_mixed prog_lay Tryz.func35 rfl (by kernel_rfl) fun C Fm => ?_
  unfold shape_Grow at h
  refine AW.sg0 Fm 3 [(1, vi x2144), (2, .v (.c (.ptr 2 0))), (4, .v (.c (.ptr 4 0)))] [(2, .box false [.d (DL x2143.rects_)]), (4, .box false [.fl 0 fun _ => []])] (by kernel_rfl) ?_
  refine AW.seq ?_
  refine AW.seq ?_
  obtain ⟨z2145, hz2146, h⟩ := bd_some h
  refine AW.g Fm [.s, .s, .k (cE [] [] (vi z2145) [] []), .s] (fun K => K 2 ∧ True) [(1, vi x2144), (2, .v (.c (.ptr 2 0))), (4, .v (.c (.ptr 4 0))), (6, vi z2145)] [(2, .box false [.d (DL x2143.rects_)]), (4, .box false [.fl 0 fun _ => []])] ⟨KAt.cl (args := [.v (.g [.d (DL x2143.rects_)]), vi x2144]) (shape_check_spec hz2146) Tryz.call95 [] rfl (by kernel_rfl), True.intro⟩ (by kernel_rfl) ?_
  refine AW.sg0 Fm 2 [(1, vi x2144), (2, .v (.c (.ptr 2 0))), (4, .v (.c (.ptr 4 0))), (6, vi z2145), (14, vb (z2145 != (0 : Int)))] [(2, .box false [.d (DL x2143.rects_)]), (4, .box false [.fl 0 fun _ => []])] (by kernel_rfl) ?_
  refine AW.cond (b := (z2145 != (0 : Int))) (by kernel_rfl) (fun hb2147 => ?_) (fun hb2147 => ?_)
  · have h := br_t h hb2147
    refine AW.sg Fm [.w (.v (.g [.d (DL (α := Rect) [])])), .s, .s, .s] (fun K => (ALe (.v (.g [.fl 0 fun _ => []])) (.v (.g [.d (DL (α := Rect) [])]))) ∧ True) [(4, .v (.c (.ptr 4 0))), (5, vi z2145)] [(4, .box false [.d (DL (α := Rect) [])])] ⟨ALe.g ⟨CLe.fl .nil, True.intro⟩, True.intro⟩ (by kernel_rfl) ?_
    refine AW.ret ?_
    obtain rfl := Option.some.inj h
    exact Kn.r Fm [(4, .v (.c (.ptr 4 0))), (5, vi z2145)] [(4, .box false [.d (DL (α := Rect) [])])] (by kernel_rfl) (Kn.dn Fm (by kernel_rfl))
  · have h := br_f h hb2147
    refine AW.skip ?_
    refine AW.seq ?_
    obtain ⟨z2148, hz2149, h⟩ := bd_some h
    refine AW.g Fm [.s, .s, .s, .k (cE [(100, 20)] [] (.v (.c (.own 100))) [] [(100, AO z2148)]), .s] (fun K => K 3 ∧ True) [(4, .v (.c (.ptr 4 0))), (7, .v (.c (.own 20)))] [(4, .box false [.fl 0 fun _ => []]), (20, AO z2148)] ⟨KAt.cl (args := [AL x2143.rects_, vi x2144]) (shape_wider_spec hz2149) Tryz.call96 [(100, 20)] rfl (by kernel_rfl), True.intro⟩ (by kernel_rfl) ?_
    refine AW.join (r := r) (fun z : (List Rect) => shape_Grow_k1 F z) (fun z => [(4, .v (.c (.ptr 4 0))), (7, .v (.c (.own 20)))]) (fun z => [(4, .box false [.fl 0 fun _ => []]), (20, AO z)]) (fun v2162 h => ?_) (fun J2163 hJ2163 => ?_)
    · have h : shape_Grow_k1 F v2162 = some r := h
      refine AW.seq ?_
      refine Kn.r Fm [(4, .v (.c (.ptr 4 0))), (7, .v (.c (.own 20)))] [(20, AO v2162), (4, .box false [.fl 0 fun _ => []])] (by kernel_rfl) ?_
      refine Kn.frz [(4, .v (.c (.ptr 4 0))), (7, AL v2162)] [(4, .box false [.fl 0 fun _ => []])] (by kernel_rfl) (by kernel_rfl) (by kernel_rfl) ?_
      obtain ⟨z2164, hz2165, h⟩ := bd_some h
      refine AW.g Fm [.s, .k (cE [] [] (.t [.g [.d (DL z2164.1.rects_)], .c (ci z2164.2)]) [] []), .s, .s, .s, .s] (fun K => K 1 ∧ True) [(4, .v (.c (.ptr 4 0))), (5, vi z2164.2)] [(4, .box false [.d (DL z2164.1.rects_)])] ⟨KAt.cl (args := [AL v2162]) (region_Of_spec hz2165) Tryz.call57 [] rfl (by kernel_rfl), True.intro⟩ (by kernel_rfl) ?_
      refine AW.ret ?_
      obtain rfl := Option.some.inj h
      exact Kn.r Fm [(4, .v (.c (.ptr 4 0))), (5, vi z2164.2)] [(4, .box false [.d (DL z2164.1.rects_)])] (by kernel_rfl) (Kn.dn Fm (by kernel_rfl))
    · refine AW.sg0 Fm 3 [(4, .v (.c (.ptr 4 0))), (7, .v (.c (.own 20))), (21, .v (.c (.own 20))), (22, vi ((List.length z2148 : Nat) : Int)), (23, vi (0 : Int))] [(4, .box false [.fl 0 fun _ => []]), (20, AO z2148)] (by kernel_rfl) ?_
      refine AW.block ?_
      refine Kn.r Fm [(4, .v (.c (.ptr 4 0))), (7, .v (.c (.own 20))), (21, .v (.c (.own 20))), (22, vi ((List.length z2148 : Nat) : Int)), (23, vi (0 : Int))] [(4, .box false [.fl 0 fun _ => []]), (20, AO z2148)] (by kernel_rfl) ?_
      have h : loopN (fun again (z : Int × (List Rect)) => shape_Grow_b0 F z2148 again z.1 z.2) F ((0 : Int), z2148) = some r := h
      refine AW.loopF (E' := fun z => [(4, .v (.c (.ptr 4 0))), (7, .v (.c (.own 20))), (21, .v (.c (.own 20))), (22, vi ((List.length z2148 : Nat) : Int)), (23, vi z.1)]) (S' := fun z => [(4, .box false [.fl 0 fun _ => []]), (20, AO z.2)]) (fun ag_shape_Grow_b0 z J2157 hJ2157 h => ?_) h
      obtain ⟨v2155, v2156⟩ := z
      have h : shape_Grow_b0 F z2148 ag_shape_Grow_b0 v2155 v2156 = some r := h
      refine AW.sg0 Fm 1 [(4, .v (.c (.ptr 4 0))), (7, .v (.c (.own 20))), (21, .v (.c (.own 20))), (22, vi ((List.length z2148 : Nat) : Int)), (23, vi v2155), (24, vb (decide (v2155 < ((List.length z2148 : Nat) : Int))))] [(4, .box false [.fl 0 fun _ => []]), (20, AO v2156)] (by kernel_rfl) ?_
      refine AW.seq ?_
      refine AW.cond (b := (decide (v2155 < ((List.length z2148 : Nat) : Int)))) (by kernel_rfl) (fun hb2158 => ?_) (fun hb2158 => ?_)
      · have h := br_t h hb2158
        refine AW.skip ?_
        refine AW.seq ?_
        refine AW.block ?_
        obtain ⟨hg2159, h⟩ := gd_some h
        refine AW.sg Fm [.s, .s, .s, .s, .s, .s] (fun K => (0 ≤ v2155 ∧ v2155 < ((List.length v2156 : Nat) : Int)) ∧ (v2155.toNat < List.length v2156) ∧ True) [(4, .v (.c (.ptr 4 0))), (7, .v (.c (.own 20))), (8, vi v2155), (9, .v (.c (.ptr 9 0))), (21, .v (.c (.own 20))), (22, vi ((List.length z2148 : Nat) : Int)), (23, vi v2155)] [(4, .box false [.fl 0 fun _ => []]), (9, .box false [ci ((gl v2156 v2155.toNat).left_), ci ((gl v2156 v2155.toNat).low_), ci ((gl v2156 v2155.toNat).right_), ci ((gl v2156 v2155.toNat).high_)]), (20, AO v2156)] ⟨hg2159, (toNat_lt hg2159), True.intro⟩ (by kernel_rfl) ?_
        obtain ⟨hg2160, h⟩ := gd_some h
        refine AW.g Fm [.s, .s, .s, .s, .s, .s, .s, .s, .s, .s, .s, .s, .s, .s, .s, .s, .s] (fun K => (0 ≤ v2155 ∧ v2155 < ((List.length v2156 : Nat) : Int)) ∧ (v2155.toNat < List.length v2156) ∧ True) [(4, .v (.c (.ptr 4 0))), (7, .v (.c (.own 20))), (21, .v (.c (.own 20))), (22, vi ((List.length z2148 : Nat) : Int)), (23, vi v2155)] [(4, .box false [.fl 0 fun _ => []]), (20, .arr 4 (List.length (α := Rect) v2156) (fun j => if j = v2155.toNat then splice ((LF (α := Rect) v2156) v2155.toNat) 0 [.int .i64 (gmax (0 : Int) ((gl v2156 v2155.toNat).left_)), .int .i64 (gmax (0 : Int) ((gl v2156 v2155.toNat).low_)), .int .i64 (gmin (16384 : Int) ((gl v2156 v2155.toNat).right_)), .int .i64 (gmin (16384 : Int) ((gl v2156 v2155.toNat).high_))] else (LF (α := Rect) v2156) j))] ⟨hg2160, (toNat_lt hg2160), True.intro⟩ (by kernel_rfl) ?_
        refine Kn.wk [(4, .v (.c (.ptr 4 0))), (7, .v (.c (.own 20))), (21, .v (.c (.own 20))), (22, vi ((List.length z2148 : Nat) : Int)), (23, vi v2155)] [(4, .box false [.fl 0 fun _ => []]), (20, AO (α := Rect) (List.set v2156 v2155.toNat (⟨(gmax (0 : Int) ((gl v2156 v2155.toNat).left_)), (gmax (0 : Int) ((gl v2156 v2155.toNat).low_)), (gmin (16384 : Int) ((gl v2156 v2155.toNat).right_)), (gmin (16384 : Int) ((gl v2156 v2155.toNat).high_))⟩ : Rect)))] (FE.refl _) (⟨rfl, OLe.refl _, ⟨rfl, OLe.is (Is.set (Is.refl v2156) (toNat_lt hg2160) (⟨(gmax (0 : Int) ((gl v2156 v2155.toNat).left_)), (gmax (0 : Int) ((gl v2156 v2155.toNat).low_)), (gmin (16384 : Int) ((gl v2156 v2155.toNat).right_)), (gmin (16384 : Int) ((gl v2156 v2155.toNat).high_))⟩ : Rect) (by kernel_rfl)), True.intro⟩⟩) ?_
        obtain ⟨hg2161, h⟩ := gd_some h
        refine AW.g Fm [.s, .s] (fun K => (I64 (v2155 + (1 : Int)) ∧ True) ∧ True) [(4, .v (.c (.ptr 4 0))), (7, .v (.c (.own 20))), (21, .v (.c (.own 20))), (22, vi ((List.length z2148 : Nat) : Int)), (23, vi (v2155 + (1 : Int)))] [(4, .box false [.fl 0 fun _ => []]), (20, AO (α := Rect) (List.set v2156 v2155.toNat (⟨(gmax (0 : Int) ((gl v2156 v2155.toNat).left_)), (gmax (0 : Int) ((gl v2156 v2155.toNat).low_)), (gmin (16384 : Int) ((gl v2156 v2155.toNat).right_)), (gmin (16384 : Int) ((gl v2156 v2155.toNat).high_))⟩ : Rect)))] ⟨⟨hg2161, True.intro⟩, True.intro⟩ (by kernel_rfl) ?_
        exact Kn.r Fm [(4, .v (.c (.ptr 4 0))), (7, .v (.c (.own 20))), (21, .v (.c (.own 20))), (22, vi ((List.length z2148 : Nat) : Int)), (23, vi (v2155 + (1 : Int)))] [(4, .box false [.fl 0 fun _ => []]), (20, AO (List.set v2156 v2155.toNat (⟨(gmax (0 : Int) ((gl v2156 v2155.toNat).left_)), (gmax (0 : Int) ((gl v2156 v2155.toNat).low_)), (gmin (16384 : Int) ((gl v2156 v2155.toNat).right_)), (gmin (16384 : Int) ((gl v2156 v2155.toNat).high_))⟩ : Rect)))] (by kernel_rfl) (hJ2157 ((v2155 + (1 : Int)), (List.set v2156 v2155.toNat (⟨(gmax (0 : Int) ((gl v2156 v2155.toNat).left_)), (gmax (0 : Int) ((gl v2156 v2155.toNat).low_)), (gmin (16384 : Int) ((gl v2156 v2155.toNat).right_)), (gmin (16384 : Int) ((gl v2156 v2155.toNat).high_))⟩ : Rect))) h)
      · have h := br_f h hb2158
        refine AW.exit ?_
        exact Kn.r Fm [(4, .v (.c (.ptr 4 0))), (7, .v (.c (.own 20)))] [(4, .box false [.fl 0 fun _ => []]), (20, AO v2156)] (by kernel_rfl) (hJ2163 v2156 h)
theorem law06_awake_spec {F : Nat} {r : Bool} (h : law06_awake F = some r) :
    FSpec Tryz.prog 19 [] [] (vb r) [] := by
  refine FSpec.intro prog_mixed prog_lay Tryz.func19 rfl (by kernel_rfl) fun C Fm => ?_
  unfold law06_awake at h
  refine AW.sg0 Fm 1 [] [] (by kernel_rfl) ?_
  refine AW.seq ?_
  obtain ⟨z2166, hz2167, h⟩ := bd_some h
  refine AW.g Fm [.s, .s, .w (AL (α := Rect) ([(⟨0, 0, (1 : Int), (1 : Int)⟩ : Rect), (⟨(1 : Int), (1 : Int), (2 : Int), (2 : Int)⟩ : Rect)] : List Rect)), .s, .k (cE [] [] (.t [.c (.d (DL z2166.1)), .c (ci z2166.2)]) [] []), .s, .s, .s, .s, .s] (fun K => (ALe (.v (.c (.d (.lst 2 (litF 4 [.int .i64 0, .int .i64 0, .int .i64 (1 : Int), .int .i64 (1 : Int), .int .i64 (1 : Int), .int .i64 (1 : Int), .int .i64 (2 : Int), .int .i64 (2 : Int)]))))) (AL (α := Rect) ([(⟨0, 0, (1 : Int), (1 : Int)⟩ : Rect), (⟨(1 : Int), (1 : Int), (2 : Int), (2 : Int)⟩ : Rect)] : List Rect))) ∧ K 4 ∧ True) [(1, AL z2166.1), (2, vi z2166.2)] [] ⟨ALe.lst (.lit ([(⟨0, 0, (1 : Int), (1 : Int)⟩ : Rect), (⟨(1 : Int), (1 : Int), (2 : Int), (2 : Int)⟩ : Rect)] : List Rect) (by kernel_rfl)), KAt.cl (args := [.v (.g [.d (DL (α := Rect) (⟨([(⟨0, 0, (1 : Int), (1 : Int)⟩ : Rect), (⟨(1 : Int), (1 : Int), (2 : Int), (2 : Int)⟩ : Rect)] : List Rect)⟩ : Region).rects_)])]) (shape_Parts_spec hz2167) Tryz.call14 [] rfl (by kernel_rfl), True.intro⟩ (by kernel_rfl) ?_
  refine AW.seq ?_
  obtain ⟨z2168, hz2169, h⟩ := bd_some h
  refine AW.g Fm [.s, .w (AL (α := Rect) ([(⟨(5 : Int), (5 : Int), (6 : Int), (6 : Int)⟩ : Rect)] : List Rect)), .s, .k (cE [] [] (.t [.g [.d (DL z2168.1.rects_)], .c (ci z2168.2)]) [] []), .s, .s, .s, .s, .s, .s] (fun K => (ALe (.v (.c (.d (.lst 1 (litF 4 [.int .i64 (5 : Int), .int .i64 (5 : Int), .int .i64 (6 : Int), .int .i64 (6 : Int)]))))) (AL (α := Rect) ([(⟨(5 : Int), (5 : Int), (6 : Int), (6 : Int)⟩ : Rect)] : List Rect))) ∧ K 3 ∧ True) [(1, AL z2166.1), (2, vi z2166.2), (3, .v (.c (.ptr 3 0))), (4, vi z2168.2)] [(3, .box false [.d (DL z2168.1.rects_)])] ⟨ALe.lst (.lit ([(⟨(5 : Int), (5 : Int), (6 : Int), (6 : Int)⟩ : Rect)] : List Rect) (by kernel_rfl)), KAt.cl (args := [.v (.g [.d (DL (α := Rect) (⟨([(⟨(5 : Int), (5 : Int), (6 : Int), (6 : Int)⟩ : Rect)] : List Rect)⟩ : Region).rects_)]), vi (1 : Int)]) (shape_Grow_spec hz2169) Tryz.call35 [] rfl (by kernel_rfl), True.intro⟩ (by kernel_rfl) ?_
  refine AW.join (r := r) (fun z : Bool => law06_awake_k0 F z) (fun z => [(0, vb z)]) (fun z => []) (fun v2175 h => ?_) (fun J2176 hJ2176 => ?_)
  · have h : law06_awake_k0 F v2175 = some r := h
    refine AW.ret ?_
    obtain rfl := Option.some.inj h
    exact Kn.r Fm [(0, vb v2175)] [] (by kernel_rfl) (Kn.dn Fm (by kernel_rfl))
  · rcases Bool.eq_false_or_eq_true (z2166.2 == (0 : Int)) with hb2170 | hb2170
    · have h := br_t h hb2170
      rcases Bool.eq_false_or_eq_true (((List.length z2166.1 : Nat) : Int) == (2 : Int)) with hb2171 | hb2171
      · have h := br_t h hb2171
        rcases Bool.eq_false_or_eq_true (z2168.2 == (0 : Int)) with hb2172 | hb2172
        · have h := br_t h hb2172
          obtain ⟨z2173, hz2174, h⟩ := bd_some h
          refine AW.g Fm [.s, .s, .w (vb true), .s, .s, .s, .s, .w (vb true), .s, .s, .s, .w (vb true), .s, .s, .s, .w (AL (α := Rect) ([(⟨(4 : Int), (4 : Int), (7 : Int), (7 : Int)⟩ : Rect)] : List Rect)), .k (cE [] [] (vb z2173) [] []), .s, .s] (fun K => (ALe (vb (z2166.2 == (0 : Int))) (vb true)) ∧ (ALe (vb (((List.length z2166.1 : Nat) : Int) == (2 : Int))) (vb true)) ∧ (ALe (vb (z2168.2 == (0 : Int))) (vb true)) ∧ (ALe (.v (.c (.d (.lst 1 (litF 4 [.int .i64 (4 : Int), .int .i64 (4 : Int), .int .i64 (7 : Int), .int .i64 (7 : Int)]))))) (AL (α := Rect) ([(⟨(4 : Int), (4 : Int), (7 : Int), (7 : Int)⟩ : Rect)] : List Rect))) ∧ K 16 ∧ True) [(0, vb z2173)] [] ⟨ALe.bool hb2170, ALe.bool hb2171, ALe.bool hb2172, ALe.lst (.lit ([(⟨(4 : Int), (4 : Int), (7 : Int), (7 : Int)⟩ : Rect)] : List Rect) (by kernel_rfl)), KAt.cl (args := [AL z2168.1.rects_, AL (α := Rect) ([(⟨(4 : Int), (4 : Int), (7 : Int), (7 : Int)⟩ : Rect)] : List Rect)]) (ref04_Rects_spec hz2174) Tryz.call63 [] rfl (by kernel_rfl), True.intro⟩ (by kernel_rfl) ?_
          exact Kn.r Fm [(0, vb z2173)] [] (by kernel_rfl) (hJ2176 z2173 h)
        · have h := br_f h hb2172
          refine AW.g Fm [.s, .s, .w (vb true), .s, .s, .s, .s, .w (vb true), .s, .s, .s, .w (vb false), .s, .s, .s, .s, .s, .s, .s] (fun K => (ALe (vb (z2166.2 == (0 : Int))) (vb true)) ∧ (ALe (vb (((List.length z2166.1 : Nat) : Int) == (2 : Int))) (vb true)) ∧ (ALe (vb (z2168.2 == (0 : Int))) (vb false)) ∧ True) [(0, vb false)] [] ⟨ALe.bool hb2170, ALe.bool hb2171, ALe.bool hb2172, True.intro⟩ (by kernel_rfl) ?_
          exact Kn.r Fm [(0, vb false)] [] (by kernel_rfl) (hJ2176 false h)
      · have h := br_f h hb2171
        refine AW.g Fm [.s, .s, .w (vb true), .s, .s, .s, .s, .w (vb false), .s, .s, .s, .s, .s, .s, .s, .s, .s, .s, .s] (fun K => (ALe (vb (z2166.2 == (0 : Int))) (vb true)) ∧ (ALe (vb (((List.length z2166.1 : Nat) : Int) == (2 : Int))) (vb false)) ∧ True) [(0, vb false)] [] ⟨ALe.bool hb2170, ALe.bool hb2171, True.intro⟩ (by kernel_rfl) ?_
        exact Kn.r Fm [(0, vb false)] [] (by kernel_rfl) (hJ2176 false h)
    · have h := br_f h hb2170
      refine AW.g Fm [.s, .s, .w (vb false), .s, .s, .s, .s, .s, .s, .s, .s, .s, .s, .s, .s, .s, .s, .s, .s] (fun K => (ALe (vb (z2166.2 == (0 : Int))) (vb false)) ∧ True) [(0, vb false)] [] ⟨ALe.bool hb2170, True.intro⟩ (by kernel_rfl) ?_
      exact Kn.r Fm [(0, vb false)] [] (by kernel_rfl) (hJ2176 false h)
theorem shape_Bounds_spec {F : Nat} {x2306 : Region} {r : Rect × Bool} (h : shape_Bounds F x2306 = some r) :
    FSpec Tryz.prog 48 [.v (.g [.d (DL x2306.rects_)])] [] (.t [.g (gC r.1), .c (.d (.bool r.2))]) [] := by
  refine FSpec.intro prog_mixed prog_lay Tryz.func48 rfl (by kernel_rfl) fun C Fm => ?_
  unfold shape_Bounds at h
  refine AW.sg0 Fm 3 [(1, .v (.c (.ptr 1 0))), (2, .v (.c (.ptr 2 0)))] [(1, .box false [.d (DL x2306.rects_)]), (2, .box false [ci 0, ci 0, ci 0, ci 0])] (by kernel_rfl) ?_
  refine AW.seq ?_
  refine AW.join (r := r) (fun z : Bool => shape_Bounds_k0 F x2306 z) (fun z => [(1, .v (.c (.ptr 1 0))), (2, .v (.c (.ptr 2 0))), (15, vb z)]) (fun z => [(1, .box false [.d (DL x2306.rects_)]), (2, .box false [ci 0, ci 0, ci 0, ci 0])]) (fun v2310 h => ?_) (fun J2311 hJ2311 => ?_)
  · have h : shape_Bounds_k0 F x2306 v2310 = some r := h
    refine AW.cond (b := v2310) (by kernel_rfl) (fun hb2312 => ?_) (fun hb2312 => ?_)
    · have h := br_t h hb2312
      refine AW.sg0 Fm 3 [(2, .v (.c (.ptr 2 0))), (3, vb false)] [(2, .box false [ci 0, ci 0, ci 0, ci 0])] (by kernel_rfl) ?_
      refine AW.ret ?_
      obtain rfl := Option.some.inj h
      exact Kn.r Fm [(2, .v (.c (.ptr 2 0))), (3, vb false)] [(2, .box false [ci 0, ci 0, ci 0, ci 0])] (by kernel_rfl) (Kn.dn Fm (by kernel_rfl))
    · have h := br_f h hb2312
      refine AW.skip ?_
      obtain ⟨hg2313, h⟩ := gd_some h
      refine AW.sg Fm [.s, .s, .s, .s, .s, .s] (fun K => (0 ≤ (0 : Int) ∧ (0 : Int) < ((List.length x2306.rects_ : Nat) : Int)) ∧ True) [(1, .v (.c (.ptr 1 0))), (2, .v (.c (.ptr 2 0))), (4, .v (.c (.ptr 4 0)))] [(1, .box false [.d (DL x2306.rects_)]), (2, .box false [ci 0, ci 0, ci 0, ci 0]), (4, .box false [ci ((gl x2306.rects_ (0 : Int).toNat).left_), ci ((gl x2306.rects_ (0 : Int).toNat).low_), ci ((gl x2306.rects_ (0 : Int).toNat).right_), ci ((gl x2306.rects_ (0 : Int).toNat).high_)])] ⟨hg2313, True.intro⟩ (by kernel_rfl) ?_
      refine AW.join (r := r) (fun z : Int × Int × Int × Int => shape_Bounds_k2 F z.1 z.2.1 z.2.2.1 z.2.2.2) (fun z => [(2, .v (.c (.ptr 2 0))), (4, .v (.c (.ptr 4 0)))]) (fun z => [(2, .box false [ci 0, ci 0, ci 0, ci 0]), (4, .box false [ci z.1, ci z.2.1, ci z.2.2.1, ci z.2.2.2])]) (fun z h => ?_) (fun J2331 hJ2331 => ?_)
      · obtain ⟨v2327, v2328, v2329, v2330⟩ := z
        have h : shape_Bounds_k2 F v2327 v2328 v2329 v2330 = some r := h
        refine AW.sg0 Fm 3 [(2, .v (.c (.ptr 2 0))), (3, vb true)] [(2, .box false [ci v2327, ci v2328, ci v2329, ci v2330])] (by kernel_rfl) ?_
        refine AW.ret ?_
        obtain rfl := Option.some.inj h
        exact Kn.r Fm [(2, .v (.c (.ptr 2 0))), (3, vb true)] [(2, .box false [ci v2327, ci v2328, ci v2329, ci v2330])] (by kernel_rfl) (Kn.dn Fm (by kernel_rfl))
      · refine AW.sg0 Fm 4 [(2, .v (.c (.ptr 2 0))), (4, .v (.c (.ptr 4 0))), (22, AL x2306.rects_), (23, vi ((List.length x2306.rects_ : Nat) : Int)), (24, vi (0 : Int))] [(2, .box false [ci 0, ci 0, ci 0, ci 0]), (4, .box false [ci ((gl x2306.rects_ (0 : Int).toNat).left_), ci ((gl x2306.rects_ (0 : Int).toNat).low_), ci ((gl x2306.rects_ (0 : Int).toNat).right_), ci ((gl x2306.rects_ (0 : Int).toNat).high_)])] (by kernel_rfl) ?_
        refine AW.block ?_
        refine Kn.r Fm [(2, .v (.c (.ptr 2 0))), (4, .v (.c (.ptr 4 0))), (22, AL x2306.rects_), (23, vi ((List.length x2306.rects_ : Nat) : Int)), (24, vi (0 : Int))] [(2, .box false [ci 0, ci 0, ci 0, ci 0]), (4, .box false [ci ((gl x2306.rects_ (0 : Int).toNat).left_), ci ((gl x2306.rects_ (0 : Int).toNat).low_), ci ((gl x2306.rects_ (0 : Int).toNat).right_), ci ((gl x2306.rects_ (0 : Int).toNat).high_)])] (by kernel_rfl) ?_
        have h : loopN (fun again (z : Int × Int × Int × Int × Int) => shape_Bounds_b1 F x2306 again z.1 z.2.1 z.2.2.1 z.2.2.2.1 z.2.2.2.2) F ((0 : Int), (gl x2306.rects_ (0 : Int).toNat).left_, (gl x2306.rects_ (0 : Int).toNat).low_, (gl x2306.rects_ (0 : Int).toNat).right_, (gl x2306.rects_ (0 : Int).toNat).high_) = some r := h
        refine AW.loopF (E' := fun z => [(2, .v (.c (.ptr 2 0))), (4, .v (.c (.ptr 4 0))), (22, AL x2306.rects_), (23, vi ((List.length x2306.rects_ : Nat) : Int)), (24, vi z.1)]) (S' := fun z => [(2, .box false [ci 0, ci 0, ci 0, ci 0]), (4, .box false [ci z.2.1, ci z.2.2.1, ci z.2.2.2.1, ci z.2.2.2.2])]) (fun ag_shape_Bounds_b1 z J2323 hJ2323 h => ?_) h
        obtain ⟨v2318, v2319, v2320, v2321, v2322⟩ := z
        have h : shape_Bounds_b1 F x2306 ag_shape_Bounds_b1 v2318 v2319 v2320 v2321 v2322 = some r := h
        refine AW.sg0 Fm 1 [(2, .v (.c (.ptr 2 0))), (4, .v (.c (.ptr 4 0))), (22, AL x2306.rects_), (23, vi ((List.length x2306.rects_ : Nat) : Int)), (24, vi v2318), (25, vb (decide (v2318 < ((List.length x2306.rects_ : Nat) : Int))))] [(2, .box false [ci 0, ci 0, ci 0, ci 0]), (4, .box false [ci v2319, ci v2320, ci v2321, ci v2322])] (by kernel_rfl) ?_
        refine AW.seq ?_
        refine AW.cond (b := (decide (v2318 < ((List.length x2306.rects_ : Nat) : Int)))) (by kernel_rfl) (fun hb2324 => ?_) (fun hb2324 => ?_)
        · have h := br_t h hb2324
          refine AW.skip ?_
          refine AW.seq ?_
          refine AW.block ?_
          obtain ⟨hg2325, h⟩ := gd_some h
          refine AW.sg Fm [.s, .s, .s, .s] (fun K => (0 ≤ v2318 ∧ v2318 < ((List.length x2306.rects_ : Nat) : Int)) ∧ True) [(2, .v (.c (.ptr 2 0))), (4, .v (.c (.ptr 4 0))), (6, .v (.c (.ptr 6 0))), (22, AL x2306.rects_), (23, vi ((List.length x2306.rects_ : Nat) : Int)), (24, vi v2318)] [(2, .box false [ci 0, ci 0, ci 0, ci 0]), (4, .box false [ci v2319, ci v2320, ci v2321, ci v2322]), (6, .box false [ci ((gl x2306.rects_ v2318.toNat).left_), ci ((gl x2306.rects_ v2318.toNat).low_), ci ((gl x2306.rects_ v2318.toNat).right_), ci ((gl x2306.rects_ v2318.toNat).high_)])] ⟨hg2325, True.intro⟩ (by kernel_rfl) ?_
          refine AW.g0 Fm 22 [(2, .v (.c (.ptr 2 0))), (4, .v (.c (.ptr 4 0))), (22, AL x2306.rects_), (23, vi ((List.length x2306.rects_ : Nat) : Int)), (24, vi v2318)] [(2, .box false [ci 0, ci 0, ci 0, ci 0]), (4, .box false [ci (gmin v2319 ((gl x2306.rects_ v2318.toNat).left_)), ci (gmin v2320 ((gl x2306.rects_ v2318.toNat).low_)), ci (gmax v2321 ((gl x2306.rects_ v2318.toNat).right_)), ci (gmax v2322 ((gl x2306.rects_ v2318.toNat).high_))])] (by kernel_rfl) ?_
          obtain ⟨hg2326, h⟩ := gd_some h
          refine AW.g Fm [.s, .s] (fun K => (I64 (v2318 + (1 : Int)) ∧ True) ∧ True) [(2, .v (.c (.ptr 2 0))), (4, .v (.c (.ptr 4 0))), (22, AL x2306.rects_), (23, vi ((List.length x2306.rects_ : Nat) : Int)), (24, vi (v2318 + (1 : Int)))] [(2, .box false [ci 0, ci 0, ci 0, ci 0]), (4, .box false [ci (gmin v2319 ((gl x2306.rects_ v2318.toNat).left_)), ci (gmin v2320 ((gl x2306.rects_ v2318.toNat).low_)), ci (gmax v2321 ((gl x2306.rects_ v2318.toNat).right_)), ci (gmax v2322 ((gl x2306.rects_ v2318.toNat).high_))])] ⟨⟨hg2326, True.intro⟩, True.intro⟩ (by kernel_rfl) ?_
          exact Kn.r Fm [(2, .v (.c (.ptr 2 0))), (4, .v (.c (.ptr 4 0))), (22, AL x2306.rects_), (23, vi ((List.length x2306.rects_ : Nat) : Int)), (24, vi (v2318 + (1 : Int)))] [(2, .box false [ci 0, ci 0, ci 0, ci 0]), (4, .box false [ci (gmin v2319 ((gl x2306.rects_ v2318.toNat).left_)), ci (gmin v2320 ((gl x2306.rects_ v2318.toNat).low_)), ci (gmax v2321 ((gl x2306.rects_ v2318.toNat).right_)), ci (gmax v2322 ((gl x2306.rects_ v2318.toNat).high_))])] (by kernel_rfl) (hJ2323 ((v2318 + (1 : Int)), (gmin v2319 ((gl x2306.rects_ v2318.toNat).left_)), (gmin v2320 ((gl x2306.rects_ v2318.toNat).low_)), (gmax v2321 ((gl x2306.rects_ v2318.toNat).right_)), (gmax v2322 ((gl x2306.rects_ v2318.toNat).high_))) h)
        · have h := br_f h hb2324
          refine AW.exit ?_
          exact Kn.r Fm [(2, .v (.c (.ptr 2 0))), (4, .v (.c (.ptr 4 0)))] [(2, .box false [ci 0, ci 0, ci 0, ci 0]), (4, .box false [ci v2319, ci v2320, ci v2321, ci v2322])] (by kernel_rfl) (hJ2331 (v2319, v2320, v2321, v2322) h)
  · obtain ⟨z2307, hz2308, h⟩ := bd_some h
    rcases Bool.eq_false_or_eq_true (!z2307) with hb2309 | hb2309
    · have h := br_t h hb2309
      refine AW.g Fm [.s, .k (cE [] [] (vb z2307) [] []), .s, .w (vb true), .s, .s, .s, .s, .s] (fun K => K 1 ∧ (ALe (vb (!z2307)) (vb true)) ∧ True) [(1, .v (.c (.ptr 1 0))), (2, .v (.c (.ptr 2 0))), (15, vb true)] [(1, .box false [.d (DL x2306.rects_)]), (2, .box false [ci 0, ci 0, ci 0, ci 0])] ⟨KAt.cl (args := [.v (.g [.d (DL x2306.rects_)])]) (region_Valid_spec hz2308) Tryz.call55 [] rfl (by kernel_rfl), ALe.bool hb2309, True.intro⟩ (by kernel_rfl) ?_
      exact Kn.r Fm [(1, .v (.c (.ptr 1 0))), (2, .v (.c (.ptr 2 0))), (15, vb true)] [(1, .box false [.d (DL x2306.rects_)]), (2, .box false [ci 0, ci 0, ci 0, ci 0])] (by kernel_rfl) (hJ2311 true h)
    · have h := br_f h hb2309
      refine AW.g Fm [.s, .k (cE [] [] (vb z2307) [] []), .s, .w (vb false), .s, .s, .s, .s, .s] (fun K => K 1 ∧ (ALe (vb (!z2307)) (vb false)) ∧ True) [(1, .v (.c (.ptr 1 0))), (2, .v (.c (.ptr 2 0))), (15, vb (((List.length x2306.rects_ : Nat) : Int) == (0 : Int)))] [(1, .box false [.d (DL x2306.rects_)]), (2, .box false [ci 0, ci 0, ci 0, ci 0])] ⟨KAt.cl (args := [.v (.g [.d (DL x2306.rects_)])]) (region_Valid_spec hz2308) Tryz.call55 [] rfl (by kernel_rfl), ALe.bool hb2309, True.intro⟩ (by kernel_rfl) ?_
      exact Kn.r Fm [(1, .v (.c (.ptr 1 0))), (2, .v (.c (.ptr 2 0))), (15, vb (((List.length x2306.rects_ : Nat) : Int) == (0 : Int)))] [(1, .box false [.d (DL x2306.rects_)]), (2, .box false [ci 0, ci 0, ci 0, ci 0])] (by kernel_rfl) (hJ2311 (((List.length x2306.rects_ : Nat) : Int) == (0 : Int)) h)
theorem shape_Shrink_1_spec {F : Nat} {x2462 : Bool} {x2463 : Bool} {r : Bool} (h : shape_Shrink_1 F x2462 x2463 = some r) :
    FSpec Tryz.prog 97 [vb x2462, vb x2463] [] (vb r) [] := by
  refine FSpec.intro prog_mixed prog_lay Tryz.func97 rfl (by kernel_rfl) fun C Fm => ?_
  unfold shape_Shrink_1 at h
  refine AW.sg0 Fm 1 [(0, vb x2462), (1, vb x2463)] [] (by kernel_rfl) ?_
  refine AW.join (r := r) (fun z : Bool => shape_Shrink_1_k0 F z) (fun z => [(4, vb z)]) (fun z => []) (fun v2465 h => ?_) (fun J2466 hJ2466 => ?_)
  · have h : shape_Shrink_1_k0 F v2465 = some r := h
    refine AW.ret ?_
    obtain rfl := Option.some.inj h
    exact Kn.r Fm [(4, vb v2465)] [] (by kernel_rfl) (Kn.dn Fm (by kernel_rfl))
  · rcases Bool.eq_false_or_eq_true x2462 with hb2464 | hb2464
    · have h := br_t h hb2464
      refine AW.g Fm [.s, .w (vb true), .s, .s, .s, .s] (fun K => (ALe (vb x2462) (vb true)) ∧ True) [(4, vb (!x2463))] [] ⟨ALe.bool hb2464, True.intro⟩ (by kernel_rfl) ?_
      exact Kn.r Fm [(4, vb (!x2463))] [] (by kernel_rfl) (hJ2466 (!x2463) h)
    · have h := br_f h hb2464
      refine AW.g Fm [.s, .w (vb false), .s, .s, .s, .s] (fun K => (ALe (vb x2462) (vb false)) ∧ True) [(4, vb false)] [] ⟨ALe.bool hb2464, True.intro⟩ (by kernel_rfl) ?_
      exact Kn.r Fm [(4, vb false)] [] (by kernel_rfl) (hJ2466 false h)
theorem slices_Concat_Span_spec {F : Nat} {x2467 : (List (List Span))} {r : (List Span)} (h : slices_Concat_Span F x2467 = some r) :
    FSpec Tryz.prog 173 [AL x2467] [] (.v (.c (.own 100))) [(100, AO (α := Span) r)] := by
  refine FSpec.intro prog_mixed prog_lay Tryz.func173 rfl (by kernel_rfl) fun C Fm => ?_
  unfold slices_Concat_Span at h
  refine AW.sg Fm [.m] (fun K => True) [(0, AL x2467)] [] True.intro (by kernel_rfl) ?_
  refine AW.sg0 Fm 1 [(0, AL x2467), (3, vi (0 : Int))] [] (by kernel_rfl) ?_
  refine AW.join (r := r) (fun z : Int => slices_Concat_Span_k1 F x2467 z) (fun z => [(0, AL x2467), (3, vi z)]) (fun z => []) (fun v2482 h => ?_) (fun J2483 hJ2483 => ?_)
  · have h : slices_Concat_Span_k1 F x2467 v2482 = some r := h
    refine AW.seq ?_
    obtain ⟨z2484, hz2485, h⟩ := bd_some h
    refine AW.g Fm [.s, .k (cE [(100, 24)] [] (.v (.c (.own 100))) [] [(100, AO z2484)]), .s] (fun K => K 1 ∧ True) [(0, AL x2467), (6, .v (.c (.own 24)))] [(24, AO z2484)] ⟨KAt.cl (args := [.v (.c (.fl 0 fun _ => [])), vi v2482]) (growN_spec hz2485) Tryz.call198 [(100, 24)] rfl (by kernel_rfl), True.intro⟩ (by kernel_rfl) ?_
    refine AW.join (r := r) (fun z : (List Span) => slices_Concat_Span_k3 F z) (fun z => [(6, .v (.c (.own 24)))]) (fun z => [(24, AO z)]) (fun v2498 h => ?_) (fun J2499 hJ2499 => ?_)
    · have h : slices_Concat_Span_k3 F v2498 = some r := h
      refine AW.sg0 Fm 2 [(2, .v (.c (.own 24)))] [(24, AO v2498)] (by kernel_rfl) ?_
      refine AW.ret ?_
      obtain rfl := Option.some.inj h
      exact Kn.re Fm [(100, 24)] [(2, .v (.c (.own 100)))] [(100, AO v2498)] (by kernel_rfl) (by kernel_rfl) (by kernel_rfl) (by kernel_rfl) (Kn.dn Fm (by kernel_rfl))
    · refine AW.sg0 Fm 3 [(6, .v (.c (.own 24))), (25, AL x2467), (26, vi ((List.length x2467 : Nat) : Int)), (27, vi (0 : Int))] [(24, AO z2484)] (by kernel_rfl) ?_
      refine AW.block ?_
      refine Kn.r Fm [(6, .v (.c (.own 24))), (25, AL x2467), (26, vi ((List.length x2467 : Nat) : Int)), (27, vi (0 : Int))] [(24, AO z2484)] (by kernel_rfl) ?_
      have h : loopN (fun again (z : Int × (List Span)) => slices_Concat_Span_b2 F x2467 again z.1 z.2) F ((0 : Int), z2484) = some r := h
      refine AW.loopF (E' := fun z => [(6, .v (.c (.own 24))), (25, AL x2467), (26, vi ((List.length x2467 : Nat) : Int)), (27, vi z.1)]) (S' := fun z => [(24, AO z.2)]) (fun ag_slices_Concat_Span_b2 z J2493 hJ2493 h => ?_) h
      obtain ⟨v2491, v2492⟩ := z
      have h : slices_Concat_Span_b2 F x2467 ag_slices_Concat_Span_b2 v2491 v2492 = some r := h
      refine AW.sg0 Fm 1 [(6, .v (.c (.own 24))), (25, AL x2467), (26, vi ((List.length x2467 : Nat) : Int)), (27, vi v2491), (28, vb (decide (v2491 < ((List.length x2467 : Nat) : Int))))] [(24, AO v2492)] (by kernel_rfl) ?_
      refine AW.seq ?_
      refine AW.cond (b := (decide (v2491 < ((List.length x2467 : Nat) : Int)))) (by kernel_rfl) (fun hb2494 => ?_) (fun hb2494 => ?_)
      · have h := br_t h hb2494
        refine AW.skip ?_
        refine AW.seq ?_
        refine AW.block ?_
        obtain ⟨hg2495, h⟩ := gd_some h
        refine AW.sg Fm [.s, .s, .s] (fun K => (0 ≤ v2491 ∧ v2491 < ((List.length x2467 : Nat) : Int)) ∧ True) [(6, .v (.c (.own 24))), (8, AL (α := Span) (gl x2467 v2491.toNat)), (25, AL x2467), (26, vi ((List.length x2467 : Nat) : Int)), (27, vi v2491)] [(24, AO v2492)] ⟨hg2495, True.intro⟩ (by kernel_rfl) ?_
        obtain ⟨hg2496, h⟩ := gd_some h
        refine AW.g Fm [.s, .s, .s, .s] (fun K => ((List.length (α := Span) v2492) + (List.length (α := Span) (gl x2467 v2491.toNat)) ≤ LIM ∧ (∀ j, j < List.length (α := Span) (gl x2467 v2491.toNat) → ((LF (α := Span) (gl x2467 v2491.toNat)) j).length = 2) ∧ (True)) ∧ True) [(6, .v (.c (.own 33))), (25, AL x2467), (26, vi ((List.length x2467 : Nat) : Int)), (27, vi v2491)] [(33, .arr 2 ((List.length (α := Span) v2492) + (List.length (α := Span) (gl x2467 v2491.toNat))) (appF (List.length (α := Span) v2492) (LF (α := Span) v2492) (LF (α := Span) (gl x2467 v2491.toNat))))] ⟨⟨hg2496, (Is.refl (gl x2467 v2491.toNat) : Is (List.length (α := Span) (gl x2467 v2491.toNat)) (LF (α := Span) (gl x2467 v2491.toNat)) (gl x2467 v2491.toNat)).len, True.intro⟩, True.intro⟩ (by kernel_rfl) ?_
        refine Kn.wk [(6, .v (.c (.own 33))), (25, AL x2467), (26, vi ((List.length x2467 : Nat) : Int)), (27, vi v2491)] [(33, AO (α := Span) (v2492 ++ (gl x2467 v2491.toNat)))] (FE.refl _) (⟨rfl, OLe.is (Is.app (Is.refl v2492) (Is.refl (gl x2467 v2491.toNat))), True.intro⟩) ?_
        obtain ⟨hg2497, h⟩ := gd_some h
        refine AW.g Fm [.s, .s] (fun K => (I64 (v2491 + (1 : Int)) ∧ True) ∧ True) [(6, .v (.c (.own 33))), (25, AL x2467), (26, vi ((List.length x2467 : Nat) : Int)), (27, vi (v2491 + (1 : Int)))] [(33, AO (α := Span) (v2492 ++ (gl x2467 v2491.toNat)))] ⟨⟨hg2497, True.intro⟩, True.intro⟩ (by kernel_rfl) ?_
        exact Kn.re Fm [(24, 33)] [(6, .v (.c (.own 24))), (25, AL x2467), (26, vi ((List.length x2467 : Nat) : Int)), (27, vi (v2491 + (1 : Int)))] [(24, AO (v2492 ++ (gl x2467 v2491.toNat)))] (by kernel_rfl) (by kernel_rfl) (by kernel_rfl) (by kernel_rfl) (hJ2493 ((v2491 + (1 : Int)), (v2492 ++ (gl x2467 v2491.toNat))) h)
      · have h := br_f h hb2494
        refine AW.exit ?_
        exact Kn.r Fm [(6, .v (.c (.own 24)))] [(24, AO v2492)] (by kernel_rfl) (hJ2499 v2492 h)
  · refine AW.sg0 Fm 3 [(0, AL x2467), (3, vi (0 : Int)), (9, AL x2467), (10, vi ((List.length x2467 : Nat) : Int)), (11, vi (0 : Int))] [] (by kernel_rfl) ?_
    refine AW.block ?_
    refine Kn.r Fm [(0, AL x2467), (3, vi (0 : Int)), (9, AL x2467), (10, vi ((List.length x2467 : Nat) : Int)), (11, vi (0 : Int))] [] (by kernel_rfl) ?_
    have h : loopN (fun again (z : Int × Int) => slices_Concat_Span_b0 F x2467 again z.1 z.2) F ((0 : Int), (0 : Int)) = some r := h
    refine AW.loopF (E' := fun z => [(0, AL x2467), (3, vi z.1), (9, AL x2467), (10, vi ((List.length x2467 : Nat) : Int)), (11, vi z.2)]) (S' := fun z => []) (fun ag_slices_Concat_Span_b0 z J2476 hJ2476 h => ?_) h
    obtain ⟨v2474, v2475⟩ := z
    have h : slices_Concat_Span_b0 F x2467 ag_slices_Concat_Span_b0 v2474 v2475 = some r := h
    refine AW.sg0 Fm 1 [(0, AL x2467), (3, vi v2474), (9, AL x2467), (10, vi ((List.length x2467 : Nat) : Int)), (11, vi v2475), (12, vb (decide (v2475 < ((List.length x2467 : Nat) : Int))))] [] (by kernel_rfl) ?_
    refine AW.seq ?_
    refine AW.cond (b := (decide (v2475 < ((List.length x2467 : Nat) : Int)))) (by kernel_rfl) (fun hb2477 => ?_) (fun hb2477 => ?_)
    · have h := br_t h hb2477
      refine AW.skip ?_
      refine AW.seq ?_
      refine AW.block ?_
      obtain ⟨hg2478, h⟩ := gd_some h
      refine AW.sg Fm [.s, .s, .s] (fun K => (0 ≤ v2475 ∧ v2475 < ((List.length x2467 : Nat) : Int)) ∧ True) [(0, AL x2467), (3, vi v2474), (5, AL (α := Span) (gl x2467 v2475.toNat)), (9, AL x2467), (10, vi ((List.length x2467 : Nat) : Int)), (11, vi v2475)] [] ⟨hg2478, True.intro⟩ (by kernel_rfl) ?_
      obtain ⟨hg2479, h⟩ := gd_some h
      refine AW.sg Fm [.s, .s, .s, .s, .s] (fun K => (I64 (v2474 + ((List.length (gl x2467 v2475.toNat) : Nat) : Int)) ∧ True) ∧ True) [(0, AL x2467), (3, vi (v2474 + ((List.length (gl x2467 v2475.toNat) : Nat) : Int))), (9, AL x2467), (10, vi ((List.length x2467 : Nat) : Int)), (11, vi v2475)] [] ⟨⟨hg2479, True.intro⟩, True.intro⟩ (by kernel_rfl) ?_
      refine AW.sg0 Fm 2 [(0, AL x2467), (3, vi (v2474 + ((List.length (gl x2467 v2475.toNat) : Nat) : Int))), (9, AL x2467), (10, vi ((List.length x2467 : Nat) : Int)), (11, vi v2475), (20, vb (decide ((v2474 + ((List.length (gl x2467 v2475.toNat) : Nat) : Int)) < (0 : Int))))] [] (by kernel_rfl) ?_
      refine AW.cond (b := (decide ((v2474 + ((List.length (gl x2467 v2475.toNat) : Nat) : Int)) < (0 : Int)))) (by kernel_rfl) (fun hb2480 => ?_) (fun hb2480 => ?_)
      · have h := br_t h hb2480
        cases h
      · have h := br_f h hb2480
        refine AW.skip ?_
        obtain ⟨hg2481, h⟩ := gd_some h
        refine AW.g Fm [.s, .s] (fun K => (I64 (v2475 + (1 : Int)) ∧ True) ∧ True) [(0, AL x2467), (3, vi (v2474 + ((List.length (gl x2467 v2475.toNat) : Nat) : Int))), (9, AL x2467), (10, vi ((List.length x2467 : Nat) : Int)), (11, vi (v2475 + (1 : Int)))] [] ⟨⟨hg2481, True.intro⟩, True.intro⟩ (by kernel_rfl) ?_
        exact Kn.r Fm [(0, AL x2467), (3, vi (v2474 + ((List.length (gl x2467 v2475.toNat) : Nat) : Int))), (9, AL x2467), (10, vi ((List.length x2467 : Nat) : Int)), (11, vi (v2475 + (1 : Int)))] [] (by kernel_rfl) (hJ2476 ((v2474 + ((List.length (gl x2467 v2475.toNat) : Nat) : Int)), (v2475 + (1 : Int))) h)
    · have h := br_f h hb2477
      refine AW.exit ?_
      exact Kn.r Fm [(0, AL x2467), (3, vi v2474)] [] (by kernel_rfl) (hJ2483 v2474 h)
theorem region_inside_1_spec {F : Nat} {x2500 : Span} {x2501 : Int} {r : Bool} (h : region_inside_1 F x2500 x2501 = some r) :
    FSpec Tryz.prog 200 [gE x2500, .v (.c (.ptr 0 0))] [(0, .box true [ci x2501])] (vb r) [(0, .box true [ci x2501])] := by
  refine FSpec.intro prog_mixed prog_lay Tryz.func200 rfl (by kernel_rfl) fun C Fm => ?_
  unfold region_inside_1 at h
  refine AW.sg0 Fm 2 [(1, .v (.c (.ptr 0 0))), (2, .v (.c (.ptr 2 0)))] [(0, .box true [ci x2501]), (2, .box false (gC x2500))] (by kernel_rfl) ?_
  refine AW.join (r := r) (fun z : Bool => region_inside_1_k0 F z) (fun z => [(3, vb z)]) (fun z => [(0, .box true [ci x2501])]) (fun v2503 h => ?_) (fun J2504 hJ2504 => ?_)
  · have h : region_inside_1_k0 F v2503 = some r := h
    refine AW.ret ?_
    obtain rfl := Option.some.inj h
    exact Kn.r Fm [(3, vb v2503)] [(0, .box true [ci x2501])] (by kernel_rfl) (Kn.dn Fm (by kernel_rfl))
  · rcases Bool.eq_false_or_eq_true (decide (x2500.left_ ≤ x2501)) with hb2502 | hb2502
    · have h := br_t h hb2502
      refine AW.g Fm [.s, .s, .s, .s, .w (vb true), .s, .s, .s, .s, .s, .s] (fun K => (ALe (vb (decide (x2500.left_ ≤ x2501))) (vb true)) ∧ True) [(3, vb (decide (x2501 < x2500.right_)))] [(0, .box true [ci x2501])] ⟨ALe.bool hb2502, True.intro⟩ (by kernel_rfl) ?_
      exact Kn.r Fm [(3, vb (decide (x2501 < x2500.right_)))] [(0, .box true [ci x2501])] (by kernel_rfl) (hJ2504 (decide (x2501 < x2500.right_)) h)
    · have h := br_f h hb2502
      refine AW.g Fm [.s, .s, .s, .s, .w (vb false), .s, .s, .s, .s, .s, .s] (fun K => (ALe (vb (decide (x2500.left_ ≤ x2501))) (vb false)) ∧ True) [(3, vb false)] [(0, .box true [ci x2501])] ⟨ALe.bool hb2502, True.intro⟩ (by kernel_rfl) ?_
      exact Kn.r Fm [(3, vb false)] [(0, .box true [ci x2501])] (by kernel_rfl) (hJ2504 false h)
theorem slices_IndexFunc_Span_spec {F : Nat} {x2505 : (List Span)} {x2506 : Span → Option Bool} {r : Int} (h : slices_IndexFunc_Span F x2505 x2506 = some r) :
    FSpec Tryz.prog 216 [AL x2505, .v (.c (.sem (CloOK Tryz.prog (FR_Span_Bool x2506))))] [] (vi r) [] := by
  refine FSpec.intro prog_mixed prog_lay Tryz.func216 rfl (by kernel_rfl) fun C Fm => ?_
  unfold slices_IndexFunc_Span at h
  refine AW.sg0 Fm 1 [(0, AL x2505), (1, .v (.c (.sem (CloOK Tryz.prog (FR_Span_Bool x2506)))))] [] (by kernel_rfl) ?_
  refine AW.join (r := r) (fun z : Unit => slices_IndexFunc_Span_k1 F) (fun z => []) (fun z => []) (fun z h => ?_) (fun J2522 hJ2522 => ?_)
  · have h : slices_IndexFunc_Span_k1 F = some r := h
    refine AW.sg0 Fm 1 [(4, vi (-1 : Int))] [] (by kernel_rfl) ?_
    refine AW.ret ?_
    obtain rfl := Option.some.inj h
    exact Kn.r Fm [(4, vi (-1 : Int))] [] (by kernel_rfl) (Kn.dn Fm (by kernel_rfl))
  · refine AW.sg0 Fm 3 [(0, AL x2505), (1, .v (.c (.sem (CloOK Tryz.prog (FR_Span_Bool x2506))))), (7, vi ((List.length x2505 : Nat) : Int)), (8, vi (0 : Int))] [] (by kernel_rfl) ?_
    refine AW.block ?_
    refine Kn.r Fm [(0, AL x2505), (1, .v (.c (.sem (CloOK Tryz.prog (FR_Span_Bool x2506))))), (7, vi ((List.length x2505 : Nat) : Int)), (8, vi (0 : Int))] [] (by kernel_rfl) ?_
    have h : loopN (fun again (z : Int) => slices_IndexFunc_Span_b0 F x2505 x2506 again z) F (0 : Int) = some r := h
    refine AW.loopF (E' := fun z => [(0, AL x2505), (1, .v (.c (.sem (CloOK Tryz.prog (FR_Span_Bool x2506))))), (7, vi ((List.length x2505 : Nat) : Int)), (8, vi z)]) (S' := fun z => []) (fun ag_slices_IndexFunc_Span_b0 v2514 J2515 hJ2515 h => ?_) h
    have h : slices_IndexFunc_Span_b0 F x2505 x2506 ag_slices_IndexFunc_Span_b0 v2514 = some r := h
    refine AW.sg0 Fm 1 [(0, AL x2505), (1, .v (.c (.sem (CloOK Tryz.prog (FR_Span_Bool x2506))))), (7, vi ((List.length x2505 : Nat) : Int)), (8, vi v2514), (9, vb (decide (v2514 < ((List.length x2505 : Nat) : Int))))] [] (by kernel_rfl) ?_
    refine AW.seq ?_
    refine AW.cond (b := (decide (v2514 < ((List.length x2505 : Nat) : Int)))) (by kernel_rfl) (fun hb2516 => ?_) (fun hb2516 => ?_)
    · have h := br_t h hb2516
      refine AW.skip ?_
      refine AW.seq ?_
      refine AW.block ?_
      refine AW.sg0 Fm 2 [(0, AL x2505), (1, .v (.c (.sem (CloOK Tryz.prog (FR_Span_Bool x2506))))), (5, vi v2514), (7, vi ((List.length x2505 : Nat) : Int)), (8, vi v2514)] [] (by kernel_rfl) ?_
      refine AW.seq ?_
      obtain ⟨hg2517, h⟩ := gd_some h
      obtain ⟨z2518, hz2519, h⟩ := bd_some h
      refine AW.g Fm [.s, .s, .s, .s, .s, .k (sE (vb z2518))] (fun K => (0 ≤ v2514 ∧ v2514 < ((List.length x2505 : Nat) : Int)) ∧ K 5 ∧ True) [(0, AL x2505), (1, .v (.c (.sem (CloOK Tryz.prog (FR_Span_Bool x2506))))), (5, vi v2514), (7, vi ((List.length x2505 : Nat) : Int)), (8, vi v2514), (16, vb z2518)] [] ⟨hg2517, KAt.sem (F := (FR_Span_Bool x2506)) (args := [.v (.g [ci ((gl x2505 v2514.toNat).left_), ci ((gl x2505 v2514.toNat).right_)])]) ⟨(gl x2505 v2514.toNat), z2518, hz2519, rfl, rfl⟩ rfl (by kernel_rfl) (by kernel_rfl) (by kernel_rfl), True.intro⟩ (by kernel_rfl) ?_
      refine AW.cond (b := z2518) (by kernel_rfl) (fun hb2520 => ?_) (fun hb2520 => ?_)
      · have h := br_t h hb2520
        refine AW.sg0 Fm 2 [(4, vi v2514)] [] (by kernel_rfl) ?_
        refine AW.ret ?_
        obtain rfl := Option.some.inj h
        exact Kn.r Fm [(4, vi v2514)] [] (by kernel_rfl) (Kn.dn Fm (by kernel_rfl))
      · have h := br_f h hb2520
        refine AW.skip ?_
        obtain ⟨hg2521, h⟩ := gd_some h
        refine AW.g Fm [.s, .s] (fun K => (I64 (v2514 + (1 : Int)) ∧ True) ∧ True) [(0, AL x2505), (1, .v (.c (.sem (CloOK Tryz.prog (FR_Span_Bool x2506))))), (7, vi ((List.length x2505 : Nat) : Int)), (8, vi (v2514 + (1 : Int)))] [] ⟨⟨hg2521, True.intro⟩, True.intro⟩ (by kernel_rfl) ?_
        exact Kn.r Fm [(0, AL x2505), (1, .v (.c (.sem (CloOK Tryz.prog (FR_Span_Bool x2506))))), (7, vi ((List.length x2505 : Nat) : Int)), (8, vi (v2514 + (1 : Int)))] [] (by kernel_rfl) (hJ2515 (v2514 + (1 : Int)) h)
    · have h := br_f h hb2516
      refine AW.exit ?_
      exact Kn.r Fm [] [] (by kernel_rfl) (hJ2522 () h)
theorem slices_ContainsFunc_Span_spec {F : Nat} {x2523 : (List Span)} {x2524 : Span → Option Bool} {r : Bool} (h : slices_ContainsFunc_Span F x2523 x2524 = some r) :
    FSpec Tryz.prog 199 [AL x2523, .v (.c (.sem (CloOK Tryz.prog (FR_Span_Bool x2524))))] [] (vb r) [] := by
  refine FSpec.intro prog_mixed prog_lay Tryz.func199 rfl (by kernel_rfl) fun C Fm => ?_
  unfold slices_ContainsFunc_Span at h
  refine AW.sg0 Fm 1 [(0, AL x2523), (1, .v (.c (.sem (CloOK Tryz.prog (FR_Span_Bool x2524)))))] [] (by kernel_rfl) ?_
  refine AW.seq ?_
  obtain ⟨z2525, hz2526, h⟩ := bd_some h
  refine AW.g Fm [.s, .s, .k (cE [] [] (vi z2525) [] []), .s, .s] (fun K => K 2 ∧ True) [(4, vb (decide ((0 : Int) ≤ z2525)))] [] ⟨KAt.callX (args := [AL x2523, .v (.c (.sem (CloOK Tryz.prog (FR_Span_Bool x2524))))]) (slices_IndexFunc_Span_spec hz2526) Tryz.call216 [] [] [.tmp 5, .tmp 6] rfl (by kernel_rfl) (by kernel_rfl) (by kernel_rfl) ⟨ArgT.plain (by kernel_rfl) (ALe.of_eq (by kernel_rfl)) (by kernel_rfl), ArgT.semX (by kernel_rfl) (by kernel_rfl) (by kernel_rfl), True.intro⟩, True.intro⟩ (by kernel_rfl) ?_
  refine AW.ret ?_
  obtain rfl := Option.some.inj h
  exact Kn.r Fm [(4, vb (decide ((0 : Int) ≤ z2525)))] [] (by kernel_rfl) (Kn.dn Fm (by kernel_rfl))
theorem region_inside_spec {F : Nat} {x2527 : (List Span)} {x2528 : Int} {r : Bool} (h : region_inside F x2527 x2528 = some r) :
    FSpec Tryz.prog 174 [AL x2527, vi x2528] [] (vb r) [] := by
  refine FSpec.intro prog_mixed prog_lay Tryz.func174 rfl (by kernel_rfl) fun C Fm => ?_
  unfold region_inside at h
  refine AW.sg0 Fm 2 [(0, AL x2527), (3, .v (.c (.ptr 3 0)))] [(3, .box false [ci x2528])] (by kernel_rfl) ?_
  refine AW.seq ?_
  obtain ⟨z2529, hz2530, h⟩ := bd_some h
  refine AW.g Fm [.s, .s, .k (cE [] [3] (vb z2529) [] []), .s] (fun K => K 2 ∧ True) [(4, vb z2529)] [] ⟨KAt.callX (args := [AL x2527, .v (.c (.sem (CloOK Tryz.prog (FR_Span_Bool (fun y0 => region_inside_1 F y0 x2528)))))]) (slices_ContainsFunc_Span_spec hz2530) Tryz.call199 [] [3] [.tmp 5, .tmp 6] rfl (by kernel_rfl) (by kernel_rfl) (by kernel_rfl) ⟨ArgT.plain (by kernel_rfl) (ALe.of_eq (by kernel_rfl)) (by kernel_rfl), ArgT.cloX Tryz.call200 [[ci x2528]] (fun args r hq => by obtain ⟨y0, y, hq, rfl, rfl⟩ := hq; exact Eq.mp (by kernel_rfl) (region_inside_1_spec hq)) (fun args r hq => by obtain ⟨y0, y, hq, rfl, rfl⟩ := hq; rfl) (by kernel_rfl) [3] (by kernel_rfl) (by kernel_rfl) (⟨⟨false, (by kernel_rfl)⟩, True.intro⟩) (by kernel_rfl), True.intro⟩, True.intro⟩ (by kernel_rfl) ?_
  refine AW.ret ?_
  obtain rfl := Option.some.inj h
  exact Kn.r Fm [(4, vb z2529)] [] (by kernel_rfl) (Kn.dn Fm (by kernel_rfl))
theorem region_merge_spec {F : Nat} {x2531 : (List Span)} {x2532 : (List Span)} {x2533 : Bool → Bool → Option Bool} {r : (List Span)} (h : region_merge F x2531 x2532 x2533 = some r) :
    FSpec Tryz.prog 140 [AL x2531, AL x2532, .v (.c (.sem (CloOK Tryz.prog (FR_Bool_Bool_Bool x2533))))] [] (AL (α := Span) r) [] := by
  refine FSpec.intro prog_mixed prog_lay Tryz.func140 rfl (by kernel_rfl) fun C Fm => ?_
  unfold region_merge at h
  refine AW.sg0 Fm 1 [(0, AL x2531), (1, AL x2532), (2, .v (.c (.sem (CloOK Tryz.prog (FR_Bool_Bool_Bool x2533)))))] [] (by kernel_rfl) ?_
  refine AW.sg Fm [.m] (fun K => True) [(0, AL x2531), (1, AL x2532), (2, .v (.c (.sem (CloOK Tryz.prog (FR_Bool_Bool_Bool x2533))))), (7, .v (.c (.own 7)))] [(7, .arr 1 (0) (fun _ => []))] True.intro (by kernel_rfl) ?_
  refine Kn.wk [(0, AL x2531), (1, AL x2532), (2, .v (.c (.sem (CloOK Tryz.prog (FR_Bool_Bool_Bool x2533))))), (7, .v (.c (.own 7)))] [(7, AO (α := Int) ([] : List Int))] (FE.refl _) (⟨rfl, OLe.is ((Is.nil (α := Int))), True.intro⟩) ?_
  refine AW.join (r := r) (fun z : (List Int) => region_merge_k1 F x2531 x2532 x2533 z) (fun z => [(0, AL x2531), (1, AL x2532), (2, .v (.c (.sem (CloOK Tryz.prog (FR_Bool_Bool_Bool x2533))))), (7, .v (.c (.own 7)))]) (fun z => [(7, AO z)]) (fun v2548 h => ?_) (fun J2549 hJ2549 => ?_)
  · have h : region_merge_k1 F x2531 x2532 x2533 v2548 = some r := h
    refine AW.seq ?_
    obtain ⟨z2550, hz2551, h⟩ := bd_some h
    refine AW.g Fm [.s, .k (cE [(0, 7)] [] (.any) [(0, AO v2548)] [(0, AO z2550)])] (fun K => K 1 ∧ True) [(0, AL x2531), (1, AL x2532), (2, .v (.c (.sem (CloOK Tryz.prog (FR_Bool_Bool_Bool x2533))))), (7, .v (.c (.own 7)))] [(7, AO z2550)] ⟨KAt.cl (args := [.v (.c (.own 0))]) (sortI_spec hz2551) Tryz.call171 [(0, 7)] rfl (by kernel_rfl), True.intro⟩ (by kernel_rfl) ?_
    refine AW.seq ?_
    obtain ⟨z2552, hz2553, h⟩ := bd_some h
    refine AW.g Fm [.s, .k (cE [(0, 7), (100, 34)] [] (.v (.c (.own 100))) [(0, AO z2550)] [(100, AO z2552)]), .s] (fun K => K 1 ∧ True) [(0, AL x2531), (1, AL x2532), (2, .v (.c (.sem (CloOK Tryz.prog (FR_Bool_Bool_Bool x2533))))), (7, .v (.c (.own 34)))] [(34, AO z2552)] ⟨KAt.cl (args := [.v (.c (.own 0))]) (slices_Compact_int_spec hz2553) Tryz.call172 [(0, 7), (100, 34)] rfl (by kernel_rfl), True.intro⟩ (by kernel_rfl) ?_
    refine AW.sg Fm [.m] (fun K => True) [(0, AL x2531), (1, AL x2532), (2, .v (.c (.sem (CloOK Tryz.prog (FR_Bool_Bool_Bool x2533))))), (7, .v (.c (.own 34))), (10, .v (.c (.own 10)))] [(10, .arr 2 (0) (fun _ => [])), (34, AO z2552)] True.intro (by kernel_rfl) ?_
    refine Kn.wk [(0, AL x2531), (1, AL x2532), (2, .v (.c (.sem (CloOK Tryz.prog (FR_Bool_Bool_Bool x2533))))), (7, .v (.c (.own 34))), (10, .v (.c (.own 10)))] [(10, AO (α := Span) ([] : List Span)), (34, AO z2552)] (FE.refl _) (⟨rfl, OLe.is ((Is.nil (α := Span))), ⟨rfl, OLe.refl _, True.intro⟩⟩) ?_
    refine AW.join (r := r) (fun z : (List Span) => region_merge_k5 F z) (fun z => [(10, .v (.c (.own 10)))]) (fun z => [(10, AO z)]) (fun v2606 h => ?_) (fun J2607 hJ2607 => ?_)
    · have h : region_merge_k5 F v2606 = some r := h
      refine AW.sg0 Fm 2 [(6, .v (.c (.own 10)))] [(10, AO v2606)] (by kernel_rfl) ?_
      refine AW.ret ?_
      obtain rfl := Option.some.inj h
      refine Kn.r Fm [(6, .v (.c (.own 10)))] [(10, AO v2606)] (by kernel_rfl) ?_
      refine Kn.frz [(6, AL v2606)] [] (by kernel_rfl) (by kernel_rfl) (by kernel_rfl) ?_
      exact Kn.r Fm [(6, AL v2606)] [] (by kernel_rfl) (Kn.dn Fm (by kernel_rfl))
    · refine AW.sg0 Fm 1 [(0, AL x2531), (1, AL x2532), (2, .v (.c (.sem (CloOK Tryz.prog (FR_Bool_Bool_Bool x2533))))), (7, .v (.c (.own 34))), (10, .v (.c (.own 10))), (11, vi (1 : Int))] [(10, AO (α := Span) ([] : List Span)), (34, AO z2552)] (by kernel_rfl) ?_
      refine AW.block ?_
      refine Kn.r Fm [(0, AL x2531), (1, AL x2532), (2, .v (.c (.sem (CloOK Tryz.prog (FR_Bool_Bool_Bool x2533))))), (7, .v (.c (.own 34))), (10, .v (.c (.own 10))), (11, vi (1 : Int))] [(10, AO ([] : List Span)), (34, AO z2552)] (by kernel_rfl) ?_
      have h : loopN (fun again (z : Int × (List Span)) => region_merge_b2 F x2531 x2532 x2533 z2552 again z.1 z.2) F ((1 : Int), ([] : List Span)) = some r := h
      refine AW.loopF (E' := fun z => [(0, AL x2531), (1, AL x2532), (2, .v (.c (.sem (CloOK Tryz.prog (FR_Bool_Bool_Bool x2533))))), (7, .v (.c (.own 34))), (10, .v (.c (.own 10))), (11, vi z.1)]) (S' := fun z => [(10, AO z.2), (34, AO z2552)]) (fun ag_region_merge_b2 z J2581 hJ2581 h => ?_) h
      obtain ⟨v2579, v2580⟩ := z
      have h : region_merge_b2 F x2531 x2532 x2533 z2552 ag_region_merge_b2 v2579 v2580 = some r := h
      refine AW.seq ?_
      refine AW.sg0 Fm 4 [(0, AL x2531), (1, AL x2532), (2, .v (.c (.sem (CloOK Tryz.prog (FR_Bool_Bool_Bool x2533))))), (7, .v (.c (.own 34))), (10, .v (.c (.own 10))), (11, vi v2579), (38, vb (decide (v2579 < ((List.length z2552 : Nat) : Int))))] [(10, AO v2580), (34, AO z2552)] (by kernel_rfl) ?_
      refine AW.cond (b := (decide (v2579 < ((List.length z2552 : Nat) : Int)))) (by kernel_rfl) (fun hb2582 => ?_) (fun hb2582 => ?_)
      · have h := br_t h hb2582
        refine AW.skip ?_
        refine AW.join (r := r) (fun z : (List Span) => region_merge_k4 F v2579 ag_region_merge_b2 z) (fun z => [(0, AL x2531), (1, AL x2532), (2, .v (.c (.sem (CloOK Tryz.prog (FR_Bool_Bool_Bool x2533))))), (7, .v (.c (.own 34))), (10, .v (.c (.own 10))), (11, vi v2579)]) (fun z => [(10, AO z), (34, AO z2552)]) (fun v2603 h => ?_) (fun J2604 hJ2604 => ?_)
        · have h : region_merge_k4 F v2579 ag_region_merge_b2 v2603 = some r := h
          obtain ⟨hg2605, h⟩ := gd_some h
          refine AW.g Fm [.s, .s, .s] (fun K => (I64 (v2579 + (1 : Int)) ∧ True) ∧ True) [(0, AL x2531), (1, AL x2532), (2, .v (.c (.sem (CloOK Tryz.prog (FR_Bool_Bool_Bool x2533))))), (7, .v (.c (.own 34))), (10, .v (.c (.own 10))), (11, vi (v2579 + (1 : Int)))] [(10, AO v2603), (34, AO z2552)] ⟨⟨hg2605, True.intro⟩, True.intro⟩ (by kernel_rfl) ?_
          exact Kn.r Fm [(0, AL x2531), (1, AL x2532), (2, .v (.c (.sem (CloOK Tryz.prog (FR_Bool_Bool_Bool x2533))))), (7, .v (.c (.own 34))), (10, .v (.c (.own 10))), (11, vi (v2579 + (1 : Int)))] [(10, AO v2603), (34, AO z2552)] (by kernel_rfl) (hJ2581 ((v2579 + (1 : Int)), v2603) h)
        · refine AW.block ?_
          obtain ⟨hg2583, h⟩ := gd_some h
          obtain ⟨hg2584, h⟩ := gd_some h
          refine AW.sg Fm [.s, .s, .s, .s, .s, .s] (fun K => (I64 (v2579 - (1 : Int)) ∧ True) ∧ (0 ≤ (v2579 - (1 : Int)) ∧ (v2579 - (1 : Int)) < ((List.length z2552 : Nat) : Int)) ∧ ((v2579 - (1 : Int)).toNat < List.length z2552) ∧ True) [(0, AL x2531), (1, AL x2532), (2, .v (.c (.sem (CloOK Tryz.prog (FR_Bool_Bool_Bool x2533))))), (7, .v (.c (.own 34))), (10, .v (.c (.own 10))), (11, vi v2579), (12, vi (gl z2552 (v2579 - (1 : Int)).toNat))] [(10, AO v2580), (34, AO z2552)] ⟨⟨hg2583, True.intro⟩, hg2584, (toNat_lt hg2584), True.intro⟩ (by kernel_rfl) ?_
          refine AW.seq ?_
          refine AW.seq ?_
          obtain ⟨z2585, hz2586, h⟩ := bd_some h
          obtain ⟨z2587, hz2588, h⟩ := bd_some h
          obtain ⟨z2589, hz2590, h⟩ := bd_some h
          refine AW.g Fm [.s, .s, .s, .k (cE [] [] (vb z2585) [] []), .s, .s, .k (cE [] [] (vb z2587) [] []), .k (sE (vb z2589)), .s] (fun K => K 3 ∧ K 6 ∧ K 7 ∧ True) [(0, AL x2531), (1, AL x2532), (2, .v (.c (.sem (CloOK Tryz.prog (FR_Bool_Bool_Bool x2533))))), (7, .v (.c (.own 34))), (10, .v (.c (.own 10))), (11, vi v2579), (12, vi (gl z2552 (v2579 - (1 : Int)).toNat)), (54, vb (!z2589))] [(10, AO v2580), (34, AO z2552)] ⟨KAt.cl (args := [AL x2531, vi (gl z2552 (v2579 - (1 : Int)).toNat)]) (region_inside_spec hz2586) Tryz.call174 [] rfl (by kernel_rfl), KAt.cl (args := [AL x2532, vi (gl z2552 (v2579 - (1 : Int)).toNat)]) (region_inside_spec hz2588) Tryz.call174 [] rfl (by kernel_rfl), KAt.sem (F := (FR_Bool_Bool_Bool x2533)) (args := [vb z2585, vb z2587]) ⟨z2585, z2587, z2589, hz2590, rfl, rfl⟩ rfl (by kernel_rfl) (by kernel_rfl) (by kernel_rfl), True.intro⟩ (by kernel_rfl) ?_
          refine AW.cond (b := (!z2589)) (by kernel_rfl) (fun hb2591 => ?_) (fun hb2591 => ?_)
          · have h := br_t h hb2591
            refine AW.exit ?_
            exact Kn.r Fm [(0, AL x2531), (1, AL x2532), (2, .v (.c (.sem (CloOK Tryz.prog (FR_Bool_Bool_Bool x2533))))), (7, .v (.c (.own 34))), (10, .v (.c (.own 10))), (11, vi v2579)] [(10, AO v2580), (34, AO z2552)] (by kernel_rfl) (hJ2604 v2580 h)
          · have h := br_f h hb2591
            refine AW.skip ?_
            refine AW.sg0 Fm 3 [(0, AL x2531), (1, AL x2532), (2, .v (.c (.sem (CloOK Tryz.prog (FR_Bool_Bool_Bool x2533))))), (7, .v (.c (.own 34))), (10, .v (.c (.own 10))), (11, vi v2579), (12, vi (gl z2552 (v2579 - (1 : Int)).toNat)), (13, vi ((List.length v2580 : Nat) : Int))] [(10, AO v2580), (34, AO z2552)] (by kernel_rfl) ?_
            refine AW.join (r := r) (fun z : Bool => region_merge_k3 F z2552 v2579 v2580 ag_region_merge_b2 z) (fun z => [(0, AL x2531), (1, AL x2532), (2, .v (.c (.sem (CloOK Tryz.prog (FR_Bool_Bool_Bool x2533))))), (7, .v (.c (.own 34))), (10, .v (.c (.own 10))), (11, vi v2579), (12, vi (gl z2552 (v2579 - (1 : Int)).toNat)), (13, vi ((List.length v2580 : Nat) : Int)), (68, vb z)]) (fun z => [(10, AO v2580), (34, AO z2552)]) (fun v2595 h => ?_) (fun J2596 hJ2596 => ?_)
            · have h : region_merge_k3 F z2552 v2579 v2580 ag_region_merge_b2 v2595 = some r := h
              refine AW.cond (b := v2595) (by kernel_rfl) (fun hb2597 => ?_) (fun hb2597 => ?_)
              · have h := br_t h hb2597
                obtain ⟨hg2598, h⟩ := gd_some h
                obtain ⟨hg2599, h⟩ := gd_some h
                obtain ⟨hg2600, h⟩ := gd_some h
                refine AW.g Fm [.s, .s, .s, .s, .s, .s, .s, .s, .s, .s] (fun K => (I64 (((List.length v2580 : Nat) : Int) - (1 : Int)) ∧ True) ∧ (0 ≤ v2579 ∧ v2579 < ((List.length z2552 : Nat) : Int)) ∧ (v2579.toNat < List.length z2552) ∧ (0 ≤ (((List.length v2580 : Nat) : Int) - (1 : Int)) ∧ (((List.length v2580 : Nat) : Int) - (1 : Int)) < ((List.length v2580 : Nat) : Int)) ∧ ((((List.length v2580 : Nat) : Int) - (1 : Int)).toNat < List.length v2580) ∧ True) [(0, AL x2531), (1, AL x2532), (2, .v (.c (.sem (CloOK Tryz.prog (FR_Bool_Bool_Bool x2533))))), (7, .v (.c (.own 34))), (10, .v (.c (.own 10))), (11, vi v2579)] [(10, .arr 2 (List.length (α := Span) v2580) (fun j => if j = (((List.length v2580 : Nat) : Int) - (1 : Int)).toNat then splice ((LF (α := Span) v2580) (((List.length v2580 : Nat) : Int) - (1 : Int)).toNat) 1 [.int .i64 (gl z2552 v2579.toNat)] else (LF (α := Span) v2580) j)), (34, AO z2552)] ⟨⟨hg2598, True.intro⟩, hg2599, (toNat_lt hg2599), hg2600, (toNat_lt hg2600), True.intro⟩ (by kernel_rfl) ?_
                refine Kn.wk [(0, AL x2531), (1, AL x2532), (2, .v (.c (.sem (CloOK Tryz.prog (FR_Bool_Bool_Bool x2533))))), (7, .v (.c (.own 34))), (10, .v (.c (.own 10))), (11, vi v2579)] [(10, AO (α := Span) (List.set v2580 (((List.length v2580 : Nat) : Int) - (1 : Int)).toNat (⟨(gl v2580 (((List.length v2580 : Nat) : Int) - (1 : Int)).toNat).left_, (gl z2552 v2579.toNat)⟩ : Span))), (34, AO z2552)] (FE.refl _) (⟨rfl, OLe.is (Is.set (Is.refl v2580) (toNat_lt hg2600) (⟨(gl v2580 (((List.length v2580 : Nat) : Int) - (1 : Int)).toNat).left_, (gl z2552 v2579.toNat)⟩ : Span) (by kernel_rfl)), ⟨rfl, OLe.refl _, True.intro⟩⟩) ?_
                exact Kn.r Fm [(0, AL x2531), (1, AL x2532), (2, .v (.c (.sem (CloOK Tryz.prog (FR_Bool_Bool_Bool x2533))))), (7, .v (.c (.own 34))), (10, .v (.c (.own 10))), (11, vi v2579)] [(10, AO (List.set v2580 (((List.length v2580 : Nat) : Int) - (1 : Int)).toNat (⟨(gl v2580 (((List.length v2580 : Nat) : Int) - (1 : Int)).toNat).left_, (gl z2552 v2579.toNat)⟩ : Span))), (34, AO z2552)] (by kernel_rfl) (hJ2604 (List.set v2580 (((List.length v2580 : Nat) : Int) - (1 : Int)).toNat (⟨(gl v2580 (((List.length v2580 : Nat) : Int) - (1 : Int)).toNat).left_, (gl z2552 v2579.toNat)⟩ : Span)) h)
              · have h := br_f h hb2597
                obtain ⟨hg2601, h⟩ := gd_some h
                obtain ⟨hg2602, h⟩ := gd_some h
                refine AW.g Fm [.s, .s, .s, .s, .s, .s, .s, .w (AL (α := Span) ([(⟨(gl z2552 (v2579 - (1 : Int)).toNat), (gl z2552 v2579.toNat)⟩ : Span)] : List Span)), .s, .s] (fun K => (0 ≤ v2579 ∧ v2579 < ((List.length z2552 : Nat) : Int)) ∧ (v2579.toNat < List.length z2552) ∧ (ALe (.v (.c (.d (.lst 1 (litF 2 [.int .i64 (gl z2552 (v2579 - (1 : Int)).toNat), .int .i64 (gl z2552 v2579.toNat)]))))) (AL (α := Span) ([(⟨(gl z2552 (v2579 - (1 : Int)).toNat), (gl z2552 v2579.toNat)⟩ : Span)] : List Span))) ∧ ((List.length (α := Span) v2580) + (List.length (α := Span) ([(⟨(gl z2552 (v2579 - (1 : Int)).toNat), (gl z2552 v2579.toNat)⟩ : Span)] : List Span)) ≤ LIM ∧ (∀ j, j < List.length (α := Span) ([(⟨(gl z2552 (v2579 - (1 : Int)).toNat), (gl z2552 v2579.toNat)⟩ : Span)] : List Span) → ((LF (α := Span) ([(⟨(gl z2552 (v2579 - (1 : Int)).toNat), (gl z2552 v2579.toNat)⟩ : Span)] : List Span)) j).length = 2) ∧ (True)) ∧ True) [(0, AL x2531), (1, AL x2532), (2, .v (.c (.sem (CloOK Tryz.prog (FR_Bool_Bool_Bool x2533))))), (7, .v (.c (.own 34))), (10, .v (.c (.own 86))), (11, vi v2579)] [(34, AO z2552), (86, .arr 2 ((List.length (α := Span) v2580) + (List.length (α := Span) ([(⟨(gl z2552 (v2579 - (1 : Int)).toNat), (gl z2552 v2579.toNat)⟩ : Span)] : List Span))) (appF (List.length (α := Span) v2580) (LF (α := Span) v2580) (LF (α := Span) ([(⟨(gl z2552 (v2579 - (1 : Int)).toNat), (gl z2552 v2579.toNat)⟩ : Span)] : List Span))))] ⟨hg2601, (toNat_lt hg2601), ALe.lst (.lit ([(⟨(gl z2552 (v2579 - (1 : Int)).toNat), (gl z2552 v2579.toNat)⟩ : Span)] : List Span) (by kernel_rfl)), ⟨hg2602, (Is.refl ([(⟨(gl z2552 (v2579 - (1 : Int)).toNat), (gl z2552 v2579.toNat)⟩ : Span)] : List Span) : Is (List.length (α := Span) ([(⟨(gl z2552 (v2579 - (1 : Int)).toNat), (gl z2552 v2579.toNat)⟩ : Span)] : List Span)) (LF (α := Span) ([(⟨(gl z2552 (v2579 - (1 : Int)).toNat), (gl z2552 v2579.toNat)⟩ : Span)] : List Span)) ([(⟨(gl z2552 (v2579 - (1 : Int)).toNat), (gl z2552 v2579.toNat)⟩ : Span)] : List Span)).len, True.intro⟩, True.intro⟩ (by kernel_rfl) ?_
                refine Kn.wk [(0, AL x2531), (1, AL x2532), (2, .v (.c (.sem (CloOK Tryz.prog (FR_Bool_Bool_Bool x2533))))), (7, .v (.c (.own 34))), (10, .v (.c (.own 86))), (11, vi v2579)] [(34, AO z2552), (86, AO (α := Span) (v2580 ++ ([(⟨(gl z2552 (v2579 - (1 : Int)).toNat), (gl z2552 v2579.toNat)⟩ : Span)] : List Span)))] (FE.refl _) (⟨rfl, OLe.refl _, ⟨rfl, OLe.is (Is.app (Is.refl v2580) (Is.refl ([(⟨(gl z2552 (v2579 - (1 : Int)).toNat), (gl z2552 v2579.toNat)⟩ : Span)] : List Span))), True.intro⟩⟩) ?_
                exact Kn.re Fm [(10, 86)] [(0, AL x2531), (1, AL x2532), (2, .v (.c (.sem (CloOK Tryz.prog (FR_Bool_Bool_Bool x2533))))), (7, .v (.c (.own 34))), (10, .v (.c (.own 10))), (11, vi v2579)] [(10, AO (v2580 ++ ([(⟨(gl z2552 (v2579 - (1 : Int)).toNat), (gl z2552 v2579.toNat)⟩ : Span)] : List Span))), (34, AO z2552)] (by kernel_rfl) (by kernel_rfl) (by kernel_rfl) (by kernel_rfl) (hJ2604 (v2580 ++ ([(⟨(gl z2552 (v2579 - (1 : Int)).toNat), (gl z2552 v2579.toNat)⟩ : Span)] : List Span)) h)
            · rcases Bool.eq_false_or_eq_true (decide ((0 : Int) < ((List.length v2580 : Nat) : Int))) with hb2592 | hb2592
              · have h := br_t h hb2592
                obtain ⟨hg2593, h⟩ := gd_some h
                obtain ⟨hg2594, h⟩ := gd_some h
                refine AW.g Fm [.s, .s, .w (vb true), .s, .s, .s, .s, .s, .s, .s, .s, .s] (fun K => (ALe (vb (decide ((0 : Int) < ((List.length v2580 : Nat) : Int)))) (vb true)) ∧ (I64 (((List.length v2580 : Nat) : Int) - (1 : Int)) ∧ True) ∧ (0 ≤ (((List.length v2580 : Nat) : Int) - (1 : Int)) ∧ (((List.length v2580 : Nat) : Int) - (1 : Int)) < ((List.length v2580 : Nat) : Int)) ∧ ((((List.length v2580 : Nat) : Int) - (1 : Int)).toNat < List.length v2580) ∧ True) [(0, AL x2531), (1, AL x2532), (2, .v (.c (.sem (CloOK Tryz.prog (FR_Bool_Bool_Bool x2533))))), (7, .v (.c (.own 34))), (10, .v (.c (.own 10))), (11, vi v2579), (12, vi (gl z2552 (v2579 - (1 : Int)).toNat)), (13, vi ((List.length v2580 : Nat) : Int)), (60, .v (.c (.own 10))), (61, vi ((List.length v2580 : Nat) : Int)), (62, vi (((List.length v2580 : Nat) : Int) - (1 : Int))), (63, .v (.c (.pte 10 2 ((((List.length v2580 : Nat) : Int) - (1 : Int)).toNat) 0))), (64, .v (.c (.pte 10 2 ((((List.length v2580 : Nat) : Int) - (1 : Int)).toNat) 1))), (65, vi (gl v2580 (((List.length v2580 : Nat) : Int) - (1 : Int)).toNat).right_), (66, vi (gl z2552 (v2579 - (1 : Int)).toNat)), (67, vb (((gl v2580 (((List.length v2580 : Nat) : Int) - (1 : Int)).toNat).right_) == (gl z2552 (v2579 - (1 : Int)).toNat))), (68, vb (((gl v2580 (((List.length v2580 : Nat) : Int) - (1 : Int)).toNat).right_) == (gl z2552 (v2579 - (1 : Int)).toNat)))] [(10, AO v2580), (34, AO z2552)] ⟨ALe.bool hb2592, ⟨hg2593, True.intro⟩, hg2594, (toNat_lt hg2594), True.intro⟩ (by kernel_rfl) ?_
                exact Kn.r Fm [(0, AL x2531), (1, AL x2532), (2, .v (.c (.sem (CloOK Tryz.prog (FR_Bool_Bool_Bool x2533))))), (7, .v (.c (.own 34))), (10, .v (.c (.own 10))), (11, vi v2579), (12, vi (gl z2552 (v2579 - (1 : Int)).toNat)), (13, vi ((List.length v2580 : Nat) : Int)), (68, vb (((gl v2580 (((List.length v2580 : Nat) : Int) - (1 : Int)).toNat).right_) == (gl z2552 (v2579 - (1 : Int)).toNat)))] [(10, AO v2580), (34, AO z2552)] (by kernel_rfl) (hJ2596 (((gl v2580 (((List.length v2580 : Nat) : Int) - (1 : Int)).toNat).right_) == (gl z2552 (v2579 - (1 : Int)).toNat)) h)
              · have h := br_f h hb2592
                refine AW.g Fm [.s, .s, .w (vb false), .s, .s, .s, .s, .s, .s, .s, .s, .s] (fun K => (ALe (vb (decide ((0 : Int) < ((List.length v2580 : Nat) : Int)))) (vb false)) ∧ True) [(0, AL x2531), (1, AL x2532), (2, .v (.c (.sem (CloOK Tryz.prog (FR_Bool_Bool_Bool x2533))))), (7, .v (.c (.own 34))), (10, .v (.c (.own 10))), (11, vi v2579), (12, vi (gl z2552 (v2579 - (1 : Int)).toNat)), (13, vi ((List.length v2580 : Nat) : Int)), (68, vb false)] [(10, AO v2580), (34, AO z2552)] ⟨ALe.bool hb2592, True.intro⟩ (by kernel_rfl) ?_
                exact Kn.r Fm [(0, AL x2531), (1, AL x2532), (2, .v (.c (.sem (CloOK Tryz.prog (FR_Bool_Bool_Bool x2533))))), (7, .v (.c (.own 34))), (10, .v (.c (.own 10))), (11, vi v2579), (12, vi (gl z2552 (v2579 - (1 : Int)).toNat)), (13, vi ((List.length v2580 : Nat) : Int)), (68, vb false)] [(10, AO v2580), (34, AO z2552)] (by kernel_rfl) (hJ2596 false h)
      · have h := br_f h hb2582
        refine AW.exit ?_
        exact Kn.r Fm [(10, .v (.c (.own 10)))] [(10, AO v2580)] (by kernel_rfl) (hJ2607 v2580 h)
  · refine AW.seq ?_
    obtain ⟨z2534, hz2535, h⟩ := bd_some h
    refine AW.g Fm [.s, .s, .w (AL (α := (List Span)) ([x2531, x2532] : List (List Span))), .k (cE [(100, 17)] [] (.v (.c (.own 100))) [] [(100, AO z2534)]), .s, .s] (fun K => (ALe (.v (.c (.d (.lst 2 (litF 1 [DL x2531, DL x2532]))))) (AL (α := (List Span)) ([x2531, x2532] : List (List Span)))) ∧ K 3 ∧ True) [(0, AL x2531), (1, AL x2532), (2, .v (.c (.sem (CloOK Tryz.prog (FR_Bool_Bool_Bool x2533))))), (7, .v (.c (.own 7))), (17, .v (.c (.own 17))), (18, vi ((List.length z2534 : Nat) : Int)), (19, vi (0 : Int))] [(7, AO (α := Int) ([] : List Int)), (17, AO z2534)] ⟨ALe.lst (.lit ([x2531, x2532] : List (List Span)) (by kernel_rfl)), KAt.cl (args := [AL (α := (List Span)) ([x2531, x2532] : List (List Span))]) (slices_Concat_Span_spec hz2535) Tryz.call173 [(100, 17)] rfl (by kernel_rfl), True.intro⟩ (by kernel_rfl) ?_
    refine AW.block ?_
    refine Kn.r Fm [(0, AL x2531), (1, AL x2532), (2, .v (.c (.sem (CloOK Tryz.prog (FR_Bool_Bool_Bool x2533))))), (7, .v (.c (.own 7))), (17, .v (.c (.own 17))), (18, vi ((List.length z2534 : Nat) : Int)), (19, vi (0 : Int))] [(7, AO ([] : List Int)), (17, AO z2534)] (by kernel_rfl) ?_
    have h : loopN (fun again (z : Int × (List Int)) => region_merge_b0 F x2531 x2532 x2533 z2534 again z.1 z.2) F ((0 : Int), ([] : List Int)) = some r := h
    refine AW.loopF (E' := fun z => [(0, AL x2531), (1, AL x2532), (2, .v (.c (.sem (CloOK Tryz.prog (FR_Bool_Bool_Bool x2533))))), (7, .v (.c (.own 7))), (17, .v (.c (.own 17))), (18, vi ((List.length z2534 : Nat) : Int)), (19, vi z.1)]) (S' := fun z => [(7, AO z.2), (17, AO z2534)]) (fun ag_region_merge_b0 z J2543 hJ2543 h => ?_) h
    obtain ⟨v2541, v2542⟩ := z
    have h : region_merge_b0 F x2531 x2532 x2533 z2534 ag_region_merge_b0 v2541 v2542 = some r := h
    refine AW.sg0 Fm 1 [(0, AL x2531), (1, AL x2532), (2, .v (.c (.sem (CloOK Tryz.prog (FR_Bool_Bool_Bool x2533))))), (7, .v (.c (.own 7))), (17, .v (.c (.own 17))), (18, vi ((List.length z2534 : Nat) : Int)), (19, vi v2541), (20, vb (decide (v2541 < ((List.length z2534 : Nat) : Int))))] [(7, AO v2542), (17, AO z2534)] (by kernel_rfl) ?_
    refine AW.seq ?_
    refine AW.cond (b := (decide (v2541 < ((List.length z2534 : Nat) : Int)))) (by kernel_rfl) (fun hb2544 => ?_) (fun hb2544 => ?_)
    · have h := br_t h hb2544
      refine AW.skip ?_
      refine AW.seq ?_
      refine AW.block ?_
      obtain ⟨hg2545, h⟩ := gd_some h
      refine AW.sg Fm [.s, .s, .s, .s] (fun K => (0 ≤ v2541 ∧ v2541 < ((List.length z2534 : Nat) : Int)) ∧ (v2541.toNat < List.length z2534) ∧ True) [(0, AL x2531), (1, AL x2532), (2, .v (.c (.sem (CloOK Tryz.prog (FR_Bool_Bool_Bool x2533))))), (7, .v (.c (.own 7))), (9, .v (.c (.ptr 9 0))), (17, .v (.c (.own 17))), (18, vi ((List.length z2534 : Nat) : Int)), (19, vi v2541)] [(7, AO v2542), (9, .box false [ci ((gl z2534 v2541.toNat).left_), ci ((gl z2534 v2541.toNat).right_)]), (17, AO z2534)] ⟨hg2545, (toNat_lt hg2545), True.intro⟩ (by kernel_rfl) ?_
      obtain ⟨hg2546, h⟩ := gd_some h
      refine AW.g Fm [.s, .s, .s, .s, .s, .w (AL (α := Int) ([(gl z2534 v2541.toNat).left_, (gl z2534 v2541.toNat).right_] : List Int)), .s, .s] (fun K => (ALe (.v (.c (.d (.lst 2 (litF 1 [.int .i64 (gl z2534 v2541.toNat).left_, .int .i64 (gl z2534 v2541.toNat).right_]))))) (AL (α := Int) ([(gl z2534 v2541.toNat).left_, (gl z2534 v2541.toNat).right_] : List Int))) ∧ ((List.length (α := Int) v2542) + (List.length (α := Int) ([(gl z2534 v2541.toNat).left_, (gl z2534 v2541.toNat).right_] : List Int)) ≤ LIM ∧ (∀ j, j < List.length (α := Int) ([(gl z2534 v2541.toNat).left_, (gl z2534 v2541.toNat).right_] : List Int) → ((LF (α := Int) ([(gl z2534 v2541.toNat).left_, (gl z2534 v2541.toNat).right_] : List Int)) j).length = 1) ∧ (True)) ∧ True) [(0, AL x2531), (1, AL x2532), (2, .v (.c (.sem (CloOK Tryz.prog (FR_Bool_Bool_Bool x2533))))), (7, .v (.c (.own 29))), (17, .v (.c (.own 17))), (18, vi ((List.length z2534 : Nat) : Int)), (19, vi v2541)] [(17, AO z2534), (29, .arr 1 ((List.length (α := Int) v2542) + (List.length (α := Int) ([(gl z2534 v2541.toNat).left_, (gl z2534 v2541.toNat).right_] : List Int))) (appF (List.length (α := Int) v2542) (LF (α := Int) v2542) (LF (α := Int) ([(gl z2534 v2541.toNat).left_, (gl z2534 v2541.toNat).right_] : List Int))))] ⟨ALe.lst (.lit ([(gl z2534 v2541.toNat).left_, (gl z2534 v2541.toNat).right_] : List Int) (by kernel_rfl)), ⟨hg2546, (Is.refl ([(gl z2534 v2541.toNat).left_, (gl z2534 v2541.toNat).right_] : List Int) : Is (List.length (α := Int) ([(gl z2534 v2541.toNat).left_, (gl z2534 v2541.toNat).right_] : List Int)) (LF (α := Int) ([(gl z2534 v2541.toNat).left_, (gl z2534 v2541.toNat).right_] : List Int)) ([(gl z2534 v2541.toNat).left_, (gl z2534 v2541.toNat).right_] : List Int)).len, True.intro⟩, True.intro⟩ (by kernel_rfl) ?_
      refine Kn.wk [(0, AL x2531), (1, AL x2532), (2, .v (.c (.sem (CloOK Tryz.prog (FR_Bool_Bool_Bool x2533))))), (7, .v (.c (.own 29))), (17, .v (.c (.own 17))), (18, vi ((List.length z2534 : Nat) : Int)), (19, vi v2541)] [(17, AO z2534), (29, AO (α := Int) (v2542 ++ ([(gl z2534 v2541.toNat).left_, (gl z2534 v2541.toNat).right_] : List Int)))] (FE.refl _) (⟨rfl, OLe.refl _, ⟨rfl, OLe.is (Is.app (Is.refl v2542) (Is.refl ([(gl z2534 v2541.toNat).left_, (gl z2534 v2541.toNat).right_] : List Int))), True.intro⟩⟩) ?_
      obtain ⟨hg2547, h⟩ := gd_some h
      refine AW.g Fm [.s, .s] (fun K => (I64 (v2541 + (1 : Int)) ∧ True) ∧ True) [(0, AL x2531), (1, AL x2532), (2, .v (.c (.sem (CloOK Tryz.prog (FR_Bool_Bool_Bool x2533))))), (7, .v (.c (.own 29))), (17, .v (.c (.own 17))), (18, vi ((List.length z2534 : Nat) : Int)), (19, vi (v2541 + (1 : Int)))] [(17, AO z2534), (29, AO (α := Int) (v2542 ++ ([(gl z2534 v2541.toNat).left_, (gl z2534 v2541.toNat).right_] : List Int)))] ⟨⟨hg2547, True.intro⟩, True.intro⟩ (by kernel_rfl) ?_
      exact Kn.re Fm [(7, 29)] [(0, AL x2531), (1, AL x2532), (2, .v (.c (.sem (CloOK Tryz.prog (FR_Bool_Bool_Bool x2533))))), (7, .v (.c (.own 7))), (17, .v (.c (.own 17))), (18, vi ((List.length z2534 : Nat) : Int)), (19, vi (v2541 + (1 : Int)))] [(7, AO (v2542 ++ ([(gl z2534 v2541.toNat).left_, (gl z2534 v2541.toNat).right_] : List Int))), (17, AO z2534)] (by kernel_rfl) (by kernel_rfl) (by kernel_rfl) (by kernel_rfl) (hJ2543 ((v2541 + (1 : Int)), (v2542 ++ ([(gl z2534 v2541.toNat).left_, (gl z2534 v2541.toNat).right_] : List Int))) h)
    · have h := br_f h hb2544
      refine AW.exit ?_
      exact Kn.r Fm [(0, AL x2531), (1, AL x2532), (2, .v (.c (.sem (CloOK Tryz.prog (FR_Bool_Bool_Bool x2533))))), (7, .v (.c (.own 7)))] [(7, AO v2542)] (by kernel_rfl) (hJ2549 v2542 h)
theorem region_Choose_1_spec {F : Nat} {x2608 : Int} {x2609 : (List Rect)} {x2610 : (List Rect)} {x2611 : Bool → Bool → Option Bool} {r : (List Span)} (h : region_Choose_1 F x2608 x2609 x2610 x2611 = some r) :
    FSpec Tryz.prog 139 [vi x2608, .v (.c (.ptr 0 0)), .v (.c (.ptr 1 0)), .v (.c (.ptr 2 0))] [(0, .box true [.d (DL x2609)]), (1, .box true [.d (DL x2610)]), (2, .box true [.sem (CloOK Tryz.prog (FR_Bool_Bool_Bool x2611))])] (AL (α := Span) r) [(0, .box true [.d (DL x2609)]), (1, .box true [.d (DL x2610)]), (2, .box true [.sem (CloOK Tryz.prog (FR_Bool_Bool_Bool x2611))])] := by
  refine FSpec.intro prog_mixed prog_lay Tryz.func139 rfl (by kernel_rfl) fun C Fm => ?_
  unfold region_Choose_1 at h
  refine AW.sg0 Fm 1 [(0, vi x2608), (1, .v (.c (.ptr 0 0))), (2, .v (.c (.ptr 1 0))), (3, .v (.c (.ptr 2 0)))] [(0, .box true [.d (DL x2609)]), (1, .box true [.d (DL x2610)]), (2, .box true [.sem (CloOK Tryz.prog (FR_Bool_Bool_Bool x2611))])] (by kernel_rfl) ?_
  refine AW.seq ?_
  obtain ⟨z2612, hz2613, h⟩ := bd_some h
  obtain ⟨z2614, hz2615, h⟩ := bd_some h
  obtain ⟨z2616, hz2617, h⟩ := bd_some h
  refine AW.g Fm [.s, .s, .k (cE [] [] (AL z2612) [] []), .s, .s, .k (cE [] [] (AL z2614) [] []), .s, .k (cE [] [] (AL z2616) [] []), .s] (fun K => K 2 ∧ K 5 ∧ K 7 ∧ True) [(5, AL z2616)] [(0, .box true [.d (DL x2609)]), (1, .box true [.d (DL x2610)]), (2, .box true [.sem (CloOK Tryz.prog (FR_Bool_Bool_Bool x2611))])] ⟨KAt.cl (args := [AL x2609, vi x2608]) (region_Row_spec hz2613) Tryz.call141 [] rfl (by kernel_rfl), KAt.cl (args := [AL x2610, vi x2608]) (region_Row_spec hz2615) Tryz.call141 [] rfl (by kernel_rfl), KAt.callX (args := [AL z2612, AL z2614, .v (.c (.sem (CloOK Tryz.prog (FR_Bool_Bool_Bool x2611))))]) (region_merge_spec hz2617) Tryz.call140 [] [] [.tmp 8, .tmp 11, .tmp 12] rfl (by kernel_rfl) (by kernel_rfl) (by kernel_rfl) ⟨ArgT.plain (by kernel_rfl) (ALe.of_eq (by kernel_rfl)) (by kernel_rfl), ArgT.plain (by kernel_rfl) (ALe.of_eq (by kernel_rfl)) (by kernel_rfl), ArgT.semX (by kernel_rfl) (by kernel_rfl) (by kernel_rfl), True.intro⟩, True.intro⟩ (by kernel_rfl) ?_
  refine AW.ret ?_
  obtain rfl := Option.some.inj h
  exact Kn.r Fm [(5, AL z2616)] [(0, .box true [.d (DL x2609)]), (1, .box true [.d (DL x2610)]), (2, .box true [.sem (CloOK Tryz.prog (FR_Bool_Bool_Bool x2611))])] (by kernel_rfl) (Kn.dn Fm (by kernel_rfl))
theorem region_Choose_spec {F : Nat} {x2618 : (List Rect)} {x2619 : (List Rect)} {x2620 : Bool → Bool → Option Bool} {r : (List Rect)} (h : region_Choose F x2618 x2619 x2620 = some r) :
    FSpec Tryz.prog 81 [AL x2618, AL x2619, .v (.c (.sem (CloOK Tryz.prog (FR_Bool_Bool_Bool x2620))))] [] (AL (α := Rect) r) [] := by
  refine FSpec.intro prog_mixed prog_lay Tryz.func81 rfl (by kernel_rfl) fun C Fm => ?_
  unfold region_Choose at h
  refine AW.sg0 Fm 4 [(3, .v (.c (.ptr 3 0))), (4, .v (.c (.ptr 4 0))), (5, .v (.c (.ptr 5 0)))] [(3, .box false [.d (DL x2618)]), (4, .box false [.d (DL x2619)]), (5, .box false [.sem (CloOK Tryz.prog (FR_Bool_Bool_Bool x2620))])] (by kernel_rfl) ?_
  refine AW.seq ?_
  obtain ⟨z2621, hz2622, h⟩ := bd_some h
  obtain ⟨z2623, hz2624, h⟩ := bd_some h
  refine AW.g Fm [.s, .s, .w (AL (α := (List Rect)) ([x2618, x2619] : List (List Rect))), .k (cE [] [] (AL z2621) [] []), .s, .k (cE [] [3, 4, 5] (AL z2623) [] []), .s] (fun K => (ALe (.v (.c (.d (.lst 2 (litF 1 [DL x2618, DL x2619]))))) (AL (α := (List Rect)) ([x2618, x2619] : List (List Rect)))) ∧ K 3 ∧ K 5 ∧ True) [(6, AL z2623)] [] ⟨ALe.lst (.lit ([x2618, x2619] : List (List Rect)) (by kernel_rfl)), KAt.cl (args := [AL (α := (List Rect)) ([x2618, x2619] : List (List Rect))]) (region_Cuts_spec hz2622) Tryz.call138 [] rfl (by kernel_rfl), KAt.callX (args := [AL z2621, .v (.c (.sem (CloOK Tryz.prog (FR_Int_ListSpan (fun y0 => region_Choose_1 F y0 x2618 x2619 x2620)))))]) (region_Build_spec hz2624) Tryz.call137 [] [3, 4, 5] [.tmp 10, .tmp 11] rfl (by kernel_rfl) (by kernel_rfl) (by kernel_rfl) ⟨ArgT.plain (by kernel_rfl) (ALe.of_eq (by kernel_rfl)) (by kernel_rfl), ArgT.cloXP Tryz.call139 [[.d (DL x2618)], [.d (DL x2619)], [.sem (CloOK Tryz.prog (FR_Bool_Bool_Bool x2620))]] (fun args r hq => by obtain ⟨y0, y, hq, rfl, rfl⟩ := hq; exact Eq.mp (by kernel_rfl) (region_Choose_1_spec hq)) (fun args r hq => by obtain ⟨y0, y, hq, rfl, rfl⟩ := hq; rfl) (by kernel_rfl) [3, 4, 5] (by kernel_rfl) (by kernel_rfl) ⟨⟨.inl (by kernel_rfl), True.intro⟩, ⟨.inl (by kernel_rfl), True.intro⟩, ⟨.inr ⟨_, rfl⟩, True.intro⟩, True.intro⟩ (⟨⟨false, (by kernel_rfl)⟩, ⟨⟨false, (by kernel_rfl)⟩, ⟨⟨false, (by kernel_rfl)⟩, True.intro⟩⟩⟩) (by kernel_rfl), True.intro⟩, True.intro⟩ (by kernel_rfl) ?_
  refine AW.ret ?_
  obtain rfl := Option.some.inj h
  exact Kn.r Fm [(6, AL z2623)] [] (by kernel_rfl) (Kn.dn Fm (by kernel_rfl))
theorem shape_Shrink_spec {F : Nat} {x2625 : Region} {x2626 : Int} {r : Region × Int} (h : shape_Shrink F x2625 x2626 = some r) :
    FSpec Tryz.prog 36 [.v (.g [.d (DL x2625.rects_)]), vi x2626] [] (.t [.g [.d (DL (α := Rect) r.1.rects_)], .c (ci r.2)]) [] := by
  refine FSpec.intro prog_mixed prog_lay Tryz.func36 rfl (by kernel_rfl) fun C Fm => ?_
  unfold shape_Shrink at h
  refine AW.sg0 Fm 3 [(1, vi x2626), (2, .v (.c (.ptr 2 0))), (4, .v (.c (.ptr 4 0)))] [(2, .box false [.d (DL x2625.rects_)]), (4, .box false [.fl 0 fun _ => []])] (by kernel_rfl) ?_
  refine AW.seq ?_
  refine AW.seq ?_
  obtain ⟨z2627, hz2628, h⟩ := bd_some h
  refine AW.g Fm [.s, .s, .k (cE [] [] (vi z2627) [] []), .s] (fun K => K 2 ∧ True) [(1, vi x2626), (2, .v (.c (.ptr 2 0))), (4, .v (.c (.ptr 4 0))), (6, vi z2627)] [(2, .box false [.d (DL x2625.rects_)]), (4, .box false [.fl 0 fun _ => []])] ⟨KAt.cl (args := [.v (.g [.d (DL x2625.rects_)]), vi x2626]) (shape_check_spec hz2628) Tryz.call95 [] rfl (by kernel_rfl), True.intro⟩ (by kernel_rfl) ?_
  refine AW.sg0 Fm 2 [(1, vi x2626), (2, .v (.c (.ptr 2 0))), (4, .v (.c (.ptr 4 0))), (6, vi z2627), (15, vb (z2627 != (0 : Int)))] [(2, .box false [.d (DL x2625.rects_)]), (4, .box false [.fl 0 fun _ => []])] (by kernel_rfl) ?_
  refine AW.cond (b := (z2627 != (0 : Int))) (by kernel_rfl) (fun hb2629 => ?_) (fun hb2629 => ?_)
  · have h := br_t h hb2629
    refine AW.sg Fm [.w (.v (.g [.d (DL (α := Rect) [])])), .s, .s, .s] (fun K => (ALe (.v (.g [.fl 0 fun _ => []])) (.v (.g [.d (DL (α := Rect) [])]))) ∧ True) [(4, .v (.c (.ptr 4 0))), (5, vi z2627)] [(4, .box false [.d (DL (α := Rect) [])])] ⟨ALe.g ⟨CLe.fl .nil, True.intro⟩, True.intro⟩ (by kernel_rfl) ?_
    refine AW.ret ?_
    obtain rfl := Option.some.inj h
    exact Kn.r Fm [(4, .v (.c (.ptr 4 0))), (5, vi z2627)] [(4, .box false [.d (DL (α := Rect) [])])] (by kernel_rfl) (Kn.dn Fm (by kernel_rfl))
  · have h := br_f h hb2629
    refine AW.skip ?_
    refine AW.seq ?_
    obtain ⟨z2630, hz2631, h⟩ := bd_some h
    refine AW.g Fm [.s, .k (cE [] [] (.t [.g (gC z2630.1), .c (.d (.bool z2630.2))]) [] []), .s, .s, .s, .s, .s, .s] (fun K => K 1 ∧ True) [(1, vi x2626), (2, .v (.c (.ptr 2 0))), (4, .v (.c (.ptr 4 0))), (7, .v (.c (.ptr 7 0))), (8, vb z2630.2)] [(2, .box false [.d (DL x2625.rects_)]), (4, .box false [.fl 0 fun _ => []]), (7, .box false (gC z2630.1))] ⟨KAt.cl (args := [.v (.g [.d (DL x2625.rects_)])]) (shape_Bounds_spec hz2631) Tryz.call48 [] rfl (by kernel_rfl), True.intro⟩ (by kernel_rfl) ?_
    refine AW.seq ?_
    refine AW.sg0 Fm 2 [(1, vi x2626), (2, .v (.c (.ptr 2 0))), (4, .v (.c (.ptr 4 0))), (7, .v (.c (.ptr 7 0))), (24, vb (!z2630.2))] [(2, .box false [.d (DL x2625.rects_)]), (4, .box false [.fl 0 fun _ => []]), (7, .box false (gC z2630.1))] (by kernel_rfl) ?_
    refine AW.cond (b := (!z2630.2)) (by kernel_rfl) (fun hb2632 => ?_) (fun hb2632 => ?_)
    · have h := br_t h hb2632
      refine AW.sg Fm [.w (.v (.g [.d (DL (α := Rect) [])])), .s, .s] (fun K => (ALe (.v (.g [.fl 0 fun _ => []])) (.v (.g [.d (DL (α := Rect) [])]))) ∧ True) [(4, .v (.c (.ptr 4 0))), (5, vi (0 : Int))] [(4, .box false [.d (DL (α := Rect) [])])] ⟨ALe.g ⟨CLe.fl .nil, True.intro⟩, True.intro⟩ (by kernel_rfl) ?_
      refine AW.ret ?_
      obtain rfl := Option.some.inj h
      exact Kn.r Fm [(4, .v (.c (.ptr 4 0))), (5, vi (0 : Int))] [(4, .box false [.d (DL (α := Rect) [])])] (by kernel_rfl) (Kn.dn Fm (by kernel_rfl))
    · have h := br_f h hb2632
      refine AW.skip ?_
      refine AW.sg0 Fm 1 [(1, vi x2626), (2, .v (.c (.ptr 2 0))), (4, .v (.c (.ptr 4 0))), (7, .v (.c (.ptr 7 0))), (9, .v (.c (.clo 97 [])))] [(2, .box false [.d (DL x2625.rects_)]), (4, .box false [.fl 0 fun _ => []]), (7, .box false (gC z2630.1))] (by kernel_rfl) ?_
      refine AW.seq ?_
      obtain ⟨z2633, hz2634, h⟩ := bd_some h
      obtain ⟨z2635, hz2636, h⟩ := bd_some h
      refine AW.g Fm [.s, .w (AL (α := Rect) ([z2630.1] : List Rect)), .s, .k (cE [] [] (AL z2633) [] []), .s, .s, .s, .k (cE [] [] (AL z2635) [] []), .s] (fun K => (ALe (.v (.c (.d (.lst 1 (litF 4 [.int .i64 z2630.1.left_, .int .i64 z2630.1.low_, .int .i64 z2630.1.right_, .int .i64 z2630.1.high_]))))) (AL (α := Rect) ([z2630.1] : List Rect))) ∧ K 3 ∧ K 7 ∧ True) [(1, vi x2626), (2, .v (.c (.ptr 2 0))), (4, .v (.c (.ptr 4 0))), (9, .v (.c (.clo 97 []))), (10, AL z2635)] [(2, .box false [.d (DL x2625.rects_)]), (4, .box false [.fl 0 fun _ => []])] ⟨ALe.lst (.lit ([z2630.1] : List Rect) (by kernel_rfl)), KAt.cl (args := [AL (α := Rect) ([z2630.1] : List Rect), vi x2626]) (FSpec.list (shape_wider_spec hz2634)) Tryz.call96 [] rfl (by kernel_rfl), KAt.callX (args := [AL z2633, AL x2625.rects_, .v (.c (.sem (CloOK Tryz.prog (FR_Bool_Bool_Bool (fun y0 y1 => shape_Shrink_1 F y0 y1)))))]) (region_Choose_spec hz2636) Tryz.call81 [] [] [.tmp 29, .tmp 31, .tmp 32] rfl (by kernel_rfl) (by kernel_rfl) (by kernel_rfl) ⟨ArgT.plain (by kernel_rfl) (ALe.of_eq (by kernel_rfl)) (by kernel_rfl), ArgT.plain (by kernel_rfl) (ALe.of_eq (by kernel_rfl)) (by kernel_rfl), ArgT.cloX Tryz.call97 [] (fun args r hq => by obtain ⟨y0, y1, y, hq, rfl, rfl⟩ := hq; exact Eq.mp (by kernel_rfl) (shape_Shrink_1_spec hq)) (fun args r hq => by obtain ⟨y0, y1, y, hq, rfl, rfl⟩ := hq; rfl) (by kernel_rfl) [] (by kernel_rfl) (by kernel_rfl) (True.intro) (by kernel_rfl), True.intro⟩, True.intro⟩ (by kernel_rfl) ?_
      refine AW.seq ?_
      obtain ⟨z2637, hz2638, h⟩ := bd_some h
      obtain ⟨z2639, hz2640, h⟩ := bd_some h
      obtain ⟨z2641, hz2642, h⟩ := bd_some h
      refine AW.g Fm [.s, .s, .s, .s, .k (cE [] [] (AL z2637) [] []), .s, .k (cE [] [] (AL z2639) [] []), .k (cE [] [] (.t [.g [.d (DL z2641.1.rects_)], .c (ci z2641.2)]) [] []), .s, .s, .s, .s] (fun K => K 4 ∧ K 6 ∧ K 7 ∧ True) [(4, .v (.c (.ptr 4 0))), (5, vi z2641.2)] [(4, .box false [.d (DL z2641.1.rects_)])] ⟨KAt.cl (args := [AL z2635, vi x2626]) (FSpec.list (shape_wider_spec hz2638)) Tryz.call96 [] rfl (by kernel_rfl), KAt.callX (args := [AL x2625.rects_, AL z2637, .v (.c (.sem (CloOK Tryz.prog (FR_Bool_Bool_Bool (fun y0 y1 => shape_Shrink_1 F y0 y1)))))]) (region_Choose_spec hz2640) Tryz.call81 [] [] [.tmp 35, .tmp 38, .tmp 39] rfl (by kernel_rfl) (by kernel_rfl) (by kernel_rfl) ⟨ArgT.plain (by kernel_rfl) (ALe.of_eq (by kernel_rfl)) (by kernel_rfl), ArgT.plain (by kernel_rfl) (ALe.of_eq (by kernel_rfl)) (by kernel_rfl), ArgT.cloX Tryz.call97 [] (fun args r hq => by obtain ⟨y0, y1, y, hq, rfl, rfl⟩ := hq; exact Eq.mp (by kernel_rfl) (shape_Shrink_1_spec hq)) (fun args r hq => by obtain ⟨y0, y1, y, hq, rfl, rfl⟩ := hq; rfl) (by kernel_rfl) [] (by kernel_rfl) (by kernel_rfl) (True.intro) (by kernel_rfl), True.intro⟩, KAt.cl (args := [AL z2639]) (region_Limited_spec hz2642) Tryz.call98 [] rfl (by kernel_rfl), True.intro⟩ (by kernel_rfl) ?_
      refine AW.ret ?_
      obtain rfl := Option.some.inj h
      exact Kn.r Fm [(4, .v (.c (.ptr 4 0))), (5, vi z2641.2)] [(4, .box false [.d (DL z2641.1.rects_)])] (by kernel_rfl) (Kn.dn Fm (by kernel_rfl))
theorem ref06_Move_spec {F : Nat} {x3005 : Region} {x3006 : Int} {x3007 : Int} {r : Region × Int} (h : ref06_Move F x3005 x3006 x3007 = some r) :
    FSpec Tryz.prog 37 [.v (.g [.d (DL x3005.rects_)]), vi x3006, vi x3007] [] (.t [.g [.d (DL (α := Rect) r.1.rects_)], .c (ci r.2)]) [] := by
  refine FSpec.intro prog_mixed prog_lay Tryz.func37 rfl (by kernel_rfl) fun C Fm => ?_
  unfold ref06_Move at h
  refine AW.sg0 Fm 3 [(1, vi x3006), (2, vi x3007), (3, .v (.c (.ptr 3 0))), (6, .v (.c (.ptr 6 0)))] [(3, .box false [.d (DL x3005.rects_)]), (6, .box false [.fl 0 fun _ => []])] (by kernel_rfl) ?_
  refine AW.seq ?_
  refine AW.seq ?_
  obtain ⟨z3008, hz3009, h⟩ := bd_some h
  refine AW.g Fm [.s, .k (cE [] [] (vb z3008) [] []), .s] (fun K => K 1 ∧ True) [(1, vi x3006), (2, vi x3007), (3, .v (.c (.ptr 3 0))), (6, .v (.c (.ptr 6 0))), (14, vb (!z3008))] [(3, .box false [.d (DL x3005.rects_)]), (6, .box false [.fl 0 fun _ => []])] ⟨KAt.cl (args := [.v (.g [.d (DL x3005.rects_)])]) (ref04_Valid_spec hz3009) Tryz.call15 [] rfl (by kernel_rfl), True.intro⟩ (by kernel_rfl) ?_
  refine AW.cond (b := (!z3008)) (by kernel_rfl) (fun hb3010 => ?_) (fun hb3010 => ?_)
  · have h := br_t h hb3010
    refine AW.sg Fm [.w (.v (.g [.d (DL (α := Rect) [])])), .s, .s] (fun K => (ALe (.v (.g [.fl 0 fun _ => []])) (.v (.g [.d (DL (α := Rect) [])]))) ∧ True) [(6, .v (.c (.ptr 6 0))), (7, vi (7 : Int))] [(6, .box false [.d (DL (α := Rect) [])])] ⟨ALe.g ⟨CLe.fl .nil, True.intro⟩, True.intro⟩ (by kernel_rfl) ?_
    refine AW.ret ?_
    obtain rfl := Option.some.inj h
    exact Kn.r Fm [(6, .v (.c (.ptr 6 0))), (7, vi (7 : Int))] [(6, .box false [.d (DL (α := Rect) [])])] (by kernel_rfl) (Kn.dn Fm (by kernel_rfl))
  · have h := br_f h hb3010
    refine AW.skip ?_
    refine AW.seq ?_
    refine AW.join (r := r) (fun z : Bool => ref06_Move_k0 F x3005 x3006 x3007 z) (fun z => [(1, vi x3006), (2, vi x3007), (3, .v (.c (.ptr 3 0))), (6, .v (.c (.ptr 6 0))), (29, vb z)]) (fun z => [(3, .box false [.d (DL x3005.rects_)]), (6, .box false [.fl 0 fun _ => []])]) (fun v3014 h => ?_) (fun J3015 hJ3015 => ?_)
    · have h : ref06_Move_k0 F x3005 x3006 x3007 v3014 = some r := h
      refine AW.cond (b := v3014) (by kernel_rfl) (fun hb3016 => ?_) (fun hb3016 => ?_)
      · have h := br_t h hb3016
        refine AW.sg Fm [.w (.v (.g [.d (DL (α := Rect) [])])), .s, .s] (fun K => (ALe (.v (.g [.fl 0 fun _ => []])) (.v (.g [.d (DL (α := Rect) [])]))) ∧ True) [(6, .v (.c (.ptr 6 0))), (7, vi (2 : Int))] [(6, .box false [.d (DL (α := Rect) [])])] ⟨ALe.g ⟨CLe.fl .nil, True.intro⟩, True.intro⟩ (by kernel_rfl) ?_
        refine AW.ret ?_
        obtain rfl := Option.some.inj h
        exact Kn.r Fm [(6, .v (.c (.ptr 6 0))), (7, vi (2 : Int))] [(6, .box false [.d (DL (α := Rect) [])])] (by kernel_rfl) (Kn.dn Fm (by kernel_rfl))
      · have h := br_f h hb3016
        refine AW.skip ?_
        refine AW.sg0 Fm 1 [(1, vi x3006), (2, vi x3007), (3, .v (.c (.ptr 3 0))), (6, .v (.c (.ptr 6 0))), (8, .v (.c (.ptr 8 0)))] [(3, .box false [.d (DL x3005.rects_)]), (6, .box false [.fl 0 fun _ => []]), (8, .box false [.fl 0 fun _ => []])] (by kernel_rfl) ?_
        refine AW.join (r := r) (fun z : (List Rect) => ref06_Move_k3 F z) (fun z => [(6, .v (.c (.ptr 6 0))), (8, .v (.c (.ptr 8 0)))]) (fun z => [(6, .box false [.own 900]), (8, .box false [.own 930]), (900, AO (α := Rect) ([] : List Rect)), (930, AO z)]) (fun v3049 h => ?_) (fun J3050 hJ3050 => ?_)
        · have h : ref06_Move_k3 F v3049 = some r := h
          refine AW.sg0 Fm 3 [(6, .v (.c (.ptr 6 0))), (7, vi (0 : Int))] [(6, .box false [.own 930]), (930, AO v3049)] (by kernel_rfl) ?_
          refine AW.ret ?_
          obtain rfl := Option.some.inj h
          refine Kn.r Fm [(6, .v (.c (.ptr 6 0))), (7, vi (0 : Int))] [(930, AO v3049), (6, .box false [.own 930])] (by kernel_rfl) ?_
          refine Kn.frz [(6, .v (.c (.ptr 6 0))), (7, vi (0 : Int))] [(6, .box false [.d (DL v3049)])] (by kernel_rfl) (by kernel_rfl) (by kernel_rfl) ?_
          exact Kn.r Fm [(6, .v (.c (.ptr 6 0))), (7, vi (0 : Int))] [(6, .box false [.d (DL v3049)])] (by kernel_rfl) (Kn.dn Fm (by kernel_rfl))
        · refine AW.sg0 Fm 4 [(1, vi x3006), (2, vi x3007), (6, .v (.c (.ptr 6 0))), (8, .v (.c (.ptr 8 0))), (32, AL x3005.rects_), (33, vi ((List.length x3005.rects_ : Nat) : Int)), (34, vi (0 : Int))] [(6, .box false [.fl 0 fun _ => []]), (8, .box false [.fl 0 fun _ => []])] (by kernel_rfl) ?_
          refine AW.block ?_
          refine Kn.r Fm [(1, vi x3006), (2, vi x3007), (6, .v (.c (.ptr 6 0))), (8, .v (.c (.ptr 8 0))), (32, AL x3005.rects_), (33, vi ((List.length x3005.rects_ : Nat) : Int)), (34, vi (0 : Int))] [(6, .box false [.fl 0 fun _ => []]), (8, .box false [.fl 0 fun _ => []])] (by kernel_rfl) ?_
          refine Kn.own0 Fm (i := 6) (k := 900) (es := 4) (j := 0) (f' := LF (α := Rect) []) (by kernel_rfl) (by kernel_rfl) (by decide) rfl ?_
          refine Kn.r Fm [(1, vi x3006), (2, vi x3007), (6, .v (.c (.ptr 6 0))), (8, .v (.c (.ptr 8 0))), (32, AL x3005.rects_), (33, vi ((List.length x3005.rects_ : Nat) : Int)), (34, vi (0 : Int))] [(6, .box false [.own 900]), (8, .box false [.fl 0 fun _ => []]), (900, AO (α := Rect) ([] : List Rect))] (by kernel_rfl) ?_
          refine Kn.r Fm [(1, vi x3006), (2, vi x3007), (6, .v (.c (.ptr 6 0))), (8, .v (.c (.ptr 8 0))), (32, AL x3005.rects_), (33, vi ((List.length x3005.rects_ : Nat) : Int)), (34, vi (0 : Int))] [(8, .box false [.fl 0 fun _ => []]), (6, .box false [.own 900]), (900, AO (α := Rect) ([] : List Rect))] (by kernel_rfl) ?_
          refine Kn.own0 Fm (i := 8) (k := 930) (es := 4) (j := 0) (f' := LF (α := Rect) []) (by kernel_rfl) (by kernel_rfl) (by decide) rfl ?_
          refine Kn.r Fm [(1, vi x3006), (2, vi x3007), (6, .v (.c (.ptr 6 0))), (8, .v (.c (.ptr 8 0))), (32, AL x3005.rects_), (33, vi ((List.length x3005.rects_ : Nat) : Int)), (34, vi (0 : Int))] [(6, .box false [.own 900]), (8, .box false [.own 930]), (900, AO (α := Rect) ([] : List Rect)), (930, AO (α := Rect) ([] : List Rect))] (by kernel_rfl) ?_
          refine Kn.r Fm [(1, vi x3006), (2, vi x3007), (6, .v (.c (.ptr 6 0))), (8, .v (.c (.ptr 8 0))), (32, AL x3005.rects_), (33, vi ((List.length x3005.rects_ : Nat) : Int)), (34, vi (0 : Int))] [(6, .box false [.own 900]), (8, .box false [.own 930]), (900, AO (α := Rect) ([] : List Rect)), (930, AO ([] : List Rect))] (by kernel_rfl) ?_
          have h : loopN (fun again (z : Int × (List Rect)) => ref06_Move_b1 F x3005 x3006 x3007 again z.1 z.2) F ((0 : Int), ([] : List Rect)) = some r := h
          refine AW.loopF (E' := fun z => [(1, vi x3006), (2, vi x3007), (6, .v (.c (.ptr 6 0))), (8, .v (.c (.ptr 8 0))), (32, AL x3005.rects_), (33, vi ((List.length x3005.rects_ : Nat) : Int)), (34, vi z.1)]) (S' := fun z => [(6, .box false [.own 900]), (8, .box false [.own 930]), (900, AO (α := Rect) ([] : List Rect)), (930, AO z.2)]) (fun ag_ref06_Move_b1 z J3034 hJ3034 h => ?_) h
          obtain ⟨v3032, v3033⟩ := z
          have h : ref06_Move_b1 F x3005 x3006 x3007 ag_ref06_Move_b1 v3032 v3033 = some r := h
          refine AW.sg0 Fm 1 [(1, vi x3006), (2, vi x3007), (6, .v (.c (.ptr 6 0))), (8, .v (.c (.ptr 8 0))), (32, AL x3005.rects_), (33, vi ((List.length x3005.rects_ : Nat) : Int)), (34, vi v3032), (35, vb (decide (v3032 < ((List.length x3005.rects_ : Nat) : Int))))] [(6, .box false [.own 900]), (8, .box false [.own 930]), (900, AO (α := Rect) ([] : List Rect)), (930, AO v3033)] (by kernel_rfl) ?_
          refine AW.seq ?_
          refine AW.cond (b := (decide (v3032 < ((List.length x3005.rects_ : Nat) : Int)))) (by kernel_rfl) (fun hb3035 => ?_) (fun hb3035 => ?_)
          · have h := br_t h hb3035
            refine AW.skip ?_
            refine AW.seq ?_
            refine AW.block ?_
            obtain ⟨hg3036, h⟩ := gd_some h
            refine AW.sg Fm [.s, .s, .s, .s] (fun K => (0 ≤ v3032 ∧ v3032 < ((List.length x3005.rects_ : Nat) : Int)) ∧ True) [(1, vi x3006), (2, vi x3007), (6, .v (.c (.ptr 6 0))), (8, .v (.c (.ptr 8 0))), (10, .v (.c (.ptr 10 0))), (32, AL x3005.rects_), (33, vi ((List.length x3005.rects_ : Nat) : Int)), (34, vi v3032)] [(6, .box false [.own 900]), (8, .box false [.own 930]), (10, .box false [ci ((gl x3005.rects_ v3032.toNat).left_), ci ((gl x3005.rects_ v3032.toNat).low_), ci ((gl x3005.rects_ v3032.toNat).right_), ci ((gl x3005.rects_ v3032.toNat).high_)]), (900, AO (α := Rect) ([] : List Rect)), (930, AO v3033)] ⟨hg3036, True.intro⟩ (by kernel_rfl) ?_
            obtain ⟨hg3037, h⟩ := gd_some h
            obtain ⟨hg3038, h⟩ := gd_some h
            obtain ⟨hg3039, h⟩ := gd_some h
            obtain ⟨hg3040, h⟩ := gd_some h
            refine AW.sg Fm [.s, .s, .s, .s, .s, .s, .s, .s, .s, .s, .s, .s, .s, .s, .s, .s, .s, .s, .s] (fun K => (I64 (((gl x3005.rects_ v3032.toNat).left_) + x3006) ∧ True) ∧ (I64 (((gl x3005.rects_ v3032.toNat).low_) + x3007) ∧ True) ∧ (I64 (((gl x3005.rects_ v3032.toNat).right_) + x3006) ∧ True) ∧ (I64 (((gl x3005.rects_ v3032.toNat).high_) + x3007) ∧ True) ∧ True) [(1, vi x3006), (2, vi x3007), (6, .v (.c (.ptr 6 0))), (8, .v (.c (.ptr 8 0))), (11, .v (.c (.ptr 11 0))), (32, AL x3005.rects_), (33, vi ((List.length x3005.rects_ : Nat) : Int)), (34, vi v3032)] [(6, .box false [.own 900]), (8, .box false [.own 930]), (11, .box false [ci (((gl x3005.rects_ v3032.toNat).left_) + x3006), ci (((gl x3005.rects_ v3032.toNat).low_) + x3007), ci (((gl x3005.rects_ v3032.toNat).right_) + x3006), ci (((gl x3005.rects_ v3032.toNat).high_) + x3007)]), (900, AO (α := Rect) ([] : List Rect)), (930, AO v3033)] ⟨⟨hg3037, True.intro⟩, ⟨hg3038, True.intro⟩, ⟨hg3039, True.intro⟩, ⟨hg3040, True.intro⟩, True.intro⟩ (by kernel_rfl) ?_
            refine AW.seq ?_
            refine AW.join (r := r) (fun z : Bool => ref06_Move_k2 F x3005 x3006 x3007 v3032 v3033 ag_ref06_Move_b1 z) (fun z => [(1, vi x3006), (2, vi x3007), (6, .v (.c (.ptr 6 0))), (8, .v (.c (.ptr 8 0))), (11, .v (.c (.ptr 11 0))), (32, AL x3005.rects_), (33, vi ((List.length x3005.rects_ : Nat) : Int)), (34, vi v3032), (72, vb z)]) (fun z => [(6, .box false [.own 900]), (8, .box false [.own 930]), (11, .box false [ci (((gl x3005.rects_ v3032.toNat).left_) + x3006), ci (((gl x3005.rects_ v3032.toNat).low_) + x3007), ci (((gl x3005.rects_ v3032.toNat).right_) + x3006), ci (((gl x3005.rects_ v3032.toNat).high_) + x3007)]), (900, AO (α := Rect) ([] : List Rect)), (930, AO v3033)]) (fun v3044 h => ?_) (fun J3045 hJ3045 => ?_)
            · have h : ref06_Move_k2 F x3005 x3006 x3007 v3032 v3033 ag_ref06_Move_b1 v3044 = some r := h
              refine AW.cond (b := v3044) (by kernel_rfl) (fun hb3046 => ?_) (fun hb3046 => ?_)
              · have h := br_t h hb3046
                refine AW.sg Fm [.w (.v (.g [.d (DL (α := Rect) [])])), .s, .s] (fun K => (ALe (.v (.g [.fl 0 fun _ => []])) (.v (.g [.d (DL (α := Rect) [])]))) ∧ True) [(6, .v (.c (.ptr 6 0))), (7, vi (2 : Int))] [(6, .box false [.d (DL (α := Rect) [])])] ⟨ALe.g ⟨CLe.fl .nil, True.intro⟩, True.intro⟩ (by kernel_rfl) ?_
                refine AW.ret ?_
                obtain rfl := Option.some.inj h
                exact Kn.r Fm [(6, .v (.c (.ptr 6 0))), (7, vi (2 : Int))] [(6, .box false [.d (DL (α := Rect) [])])] (by kernel_rfl) (Kn.dn Fm (by kernel_rfl))
              · have h := br_f h hb3046
                refine AW.skip ?_
                obtain ⟨hg3047, h⟩ := gd_some h
                refine AW.g Fm [.s, .s, .s, .w (AL (α := Rect) ([(⟨(((gl x3005.rects_ v3032.toNat).left_) + x3006), (((gl x3005.rects_ v3032.toNat).low_) + x3007), (((gl x3005.rects_ v3032.toNat).right_) + x3006), (((gl x3005.rects_ v3032.toNat).high_) + x3007)⟩ : Rect)] : List Rect)), .s, .s, .s] (fun K => (ALe (.v (.c (.d (.lst 1 (litF 4 [.int .i64 (((gl x3005.rects_ v3032.toNat).left_) + x3006), .int .i64 (((gl x3005.rects_ v3032.toNat).low_) + x3007), .int .i64 (((gl x3005.rects_ v3032.toNat).right_) + x3006), .int .i64 (((gl x3005.rects_ v3032.toNat).high_) + x3007)]))))) (AL (α := Rect) ([(⟨(((gl x3005.rects_ v3032.toNat).left_) + x3006), (((gl x3005.rects_ v3032.toNat).low_) + x3007), (((gl x3005.rects_ v3032.toNat).right_) + x3006), (((gl x3005.rects_ v3032.toNat).high_) + x3007)⟩ : Rect)] : List Rect))) ∧ ((List.length (α := Rect) v3033) + (List.length (α := Rect) ([(⟨(((gl x3005.rects_ v3032.toNat).left_) + x3006), (((gl x3005.rects_ v3032.toNat).low_) + x3007), (((gl x3005.rects_ v3032.toNat).right_) + x3006), (((gl x3005.rects_ v3032.toNat).high_) + x3007)⟩ : Rect)] : List Rect)) ≤ LIM ∧ (∀ j, j < List.length (α := Rect) ([(⟨(((gl x3005.rects_ v3032.toNat).left_) + x3006), (((gl x3005.rects_ v3032.toNat).low_) + x3007), (((gl x3005.rects_ v3032.toNat).right_) + x3006), (((gl x3005.rects_ v3032.toNat).high_) + x3007)⟩ : Rect)] : List Rect) → ((LF (α := Rect) ([(⟨(((gl x3005.rects_ v3032.toNat).left_) + x3006), (((gl x3005.rects_ v3032.toNat).low_) + x3007), (((gl x3005.rects_ v3032.toNat).right_) + x3006), (((gl x3005.rects_ v3032.toNat).high_) + x3007)⟩ : Rect)] : List Rect)) j).length = 4) ∧ (True)) ∧ True) [(1, vi x3006), (2, vi x3007), (6, .v (.c (.ptr 6 0))), (8, .v (.c (.ptr 8 0))), (32, AL x3005.rects_), (33, vi ((List.length x3005.rects_ : Nat) : Int)), (34, vi v3032)] [(6, .box false [.own 900]), (8, .box false [.own 78]), (78, .arr 4 ((List.length (α := Rect) v3033) + (List.length (α := Rect) ([(⟨(((gl x3005.rects_ v3032.toNat).left_) + x3006), (((gl x3005.rects_ v3032.toNat).low_) + x3007), (((gl x3005.rects_ v3032.toNat).right_) + x3006), (((gl x3005.rects_ v3032.toNat).high_) + x3007)⟩ : Rect)] : List Rect))) (appF (List.length (α := Rect) v3033) (LF (α := Rect) v3033) (LF (α := Rect) ([(⟨(((gl x3005.rects_ v3032.toNat).left_) + x3006), (((gl x3005.rects_ v3032.toNat).low_) + x3007), (((gl x3005.rects_ v3032.toNat).right_) + x3006), (((gl x3005.rects_ v3032.toNat).high_) + x3007)⟩ : Rect)] : List Rect)))), (900, AO (α := Rect) ([] : List Rect))] ⟨ALe.lst (.lit ([(⟨(((gl x3005.rects_ v3032.toNat).left_) + x3006), (((gl x3005.rects_ v3032.toNat).low_) + x3007), (((gl x3005.rects_ v3032.toNat).right_) + x3006), (((gl x3005.rects_ v3032.toNat).high_) + x3007)⟩ : Rect)] : List Rect) (by kernel_rfl)), ⟨hg3047, (Is.refl ([(⟨(((gl x3005.rects_ v3032.toNat).left_) + x3006), (((gl x3005.rects_ v3032.toNat).low_) + x3007), (((gl x3005.rects_ v3032.toNat).right_) + x3006), (((gl x3005.rects_ v3032.toNat).high_) + x3007)⟩ : Rect)] : List Rect) : Is (List.length (α := Rect) ([(⟨(((gl x3005.rects_ v3032.toNat).left_) + x3006), (((gl x3005.rects_ v3032.toNat).low_) + x3007), (((gl x3005.rects_ v3032.toNat).right_) + x3006), (((gl x3005.rects_ v3032.toNat).high_) + x3007)⟩ : Rect)] : List Rect)) (LF (α := Rect) ([(⟨(((gl x3005.rects_ v3032.toNat).left_) + x3006), (((gl x3005.rects_ v3032.toNat).low_) + x3007), (((gl x3005.rects_ v3032.toNat).right_) + x3006), (((gl x3005.rects_ v3032.toNat).high_) + x3007)⟩ : Rect)] : List Rect)) ([(⟨(((gl x3005.rects_ v3032.toNat).left_) + x3006), (((gl x3005.rects_ v3032.toNat).low_) + x3007), (((gl x3005.rects_ v3032.toNat).right_) + x3006), (((gl x3005.rects_ v3032.toNat).high_) + x3007)⟩ : Rect)] : List Rect)).len, True.intro⟩, True.intro⟩ (by kernel_rfl) ?_
                refine Kn.wk [(1, vi x3006), (2, vi x3007), (6, .v (.c (.ptr 6 0))), (8, .v (.c (.ptr 8 0))), (32, AL x3005.rects_), (33, vi ((List.length x3005.rects_ : Nat) : Int)), (34, vi v3032)] [(6, .box false [.own 900]), (8, .box false [.own 78]), (78, AO (α := Rect) (v3033 ++ ([(⟨(((gl x3005.rects_ v3032.toNat).left_) + x3006), (((gl x3005.rects_ v3032.toNat).low_) + x3007), (((gl x3005.rects_ v3032.toNat).right_) + x3006), (((gl x3005.rects_ v3032.toNat).high_) + x3007)⟩ : Rect)] : List Rect))), (900, AO (α := Rect) ([] : List Rect))] (FE.refl _) (⟨rfl, OLe.refl _, ⟨rfl, OLe.refl _, ⟨rfl, OLe.is (Is.app (Is.refl v3033) (Is.refl ([(⟨(((gl x3005.rects_ v3032.toNat).left_) + x3006), (((gl x3005.rects_ v3032.toNat).low_) + x3007), (((gl x3005.rects_ v3032.toNat).right_) + x3006), (((gl x3005.rects_ v3032.toNat).high_) + x3007)⟩ : Rect)] : List Rect))), ⟨rfl, OLe.refl _, True.intro⟩⟩⟩⟩) ?_
                obtain ⟨hg3048, h⟩ := gd_some h
                refine AW.g Fm [.s, .s] (fun K => (I64 (v3032 + (1 : Int)) ∧ True) ∧ True) [(1, vi x3006), (2, vi x3007), (6, .v (.c (.ptr 6 0))), (8, .v (.c (.ptr 8 0))), (32, AL x3005.rects_), (33, vi ((List.length x3005.rects_ : Nat) : Int)), (34, vi (v3032 + (1 : Int)))] [(6, .box false [.own 900]), (8, .box false [.own 78]), (78, AO (α := Rect) (v3033 ++ ([(⟨(((gl x3005.rects_ v3032.toNat).left_) + x3006), (((gl x3005.rects_ v3032.toNat).low_) + x3007), (((gl x3005.rects_ v3032.toNat).right_) + x3006), (((gl x3005.rects_ v3032.toNat).high_) + x3007)⟩ : Rect)] : List Rect))), (900, AO (α := Rect) ([] : List Rect))] ⟨⟨hg3048, True.intro⟩, True.intro⟩ (by kernel_rfl) ?_
                exact Kn.re Fm [(930, 78)] [(1, vi x3006), (2, vi x3007), (6, .v (.c (.ptr 6 0))), (8, .v (.c (.ptr 8 0))), (32, AL x3005.rects_), (33, vi ((List.length x3005.rects_ : Nat) : Int)), (34, vi (v3032 + (1 : Int)))] [(6, .box false [.own 900]), (8, .box false [.own 930]), (900, AO (α := Rect) ([] : List Rect)), (930, AO (v3033 ++ ([(⟨(((gl x3005.rects_ v3032.toNat).left_) + x3006), (((gl x3005.rects_ v3032.toNat).low_) + x3007), (((gl x3005.rects_ v3032.toNat).right_) + x3006), (((gl x3005.rects_ v3032.toNat).high_) + x3007)⟩ : Rect)] : List Rect)))] (by kernel_rfl) (by kernel_rfl) (by kernel_rfl) (by kernel_rfl) (hJ3034 ((v3032 + (1 : Int)), (v3033 ++ ([(⟨(((gl x3005.rects_ v3032.toNat).left_) + x3006), (((gl x3005.rects_ v3032.toNat).low_) + x3007), (((gl x3005.rects_ v3032.toNat).right_) + x3006), (((gl x3005.rects_ v3032.toNat).high_) + x3007)⟩ : Rect)] : List Rect))) h)
            · rcases Bool.eq_false_or_eq_true (decide ((((gl x3005.rects_ v3032.toNat).left_) + x3006) < (0 : Int))) with hb3041 | hb3041
              · have h := br_t h hb3041
                refine AW.g Fm [.s, .s, .s, .w (vb true), .s, .s, .s, .s, .s, .s, .s, .s, .s, .s, .s, .s, .s, .s] (fun K => (ALe (vb (decide ((((gl x3005.rects_ v3032.toNat).left_) + x3006) < (0 : Int)))) (vb true)) ∧ True) [(1, vi x3006), (2, vi x3007), (6, .v (.c (.ptr 6 0))), (8, .v (.c (.ptr 8 0))), (11, .v (.c (.ptr 11 0))), (32, AL x3005.rects_), (33, vi ((List.length x3005.rects_ : Nat) : Int)), (34, vi v3032), (72, vb true)] [(6, .box false [.own 900]), (8, .box false [.own 930]), (11, .box false [ci (((gl x3005.rects_ v3032.toNat).left_) + x3006), ci (((gl x3005.rects_ v3032.toNat).low_) + x3007), ci (((gl x3005.rects_ v3032.toNat).right_) + x3006), ci (((gl x3005.rects_ v3032.toNat).high_) + x3007)]), (900, AO (α := Rect) ([] : List Rect)), (930, AO v3033)] ⟨ALe.bool hb3041, True.intro⟩ (by kernel_rfl) ?_
                exact Kn.r Fm [(1, vi x3006), (2, vi x3007), (6, .v (.c (.ptr 6 0))), (8, .v (.c (.ptr 8 0))), (11, .v (.c (.ptr 11 0))), (32, AL x3005.rects_), (33, vi ((List.length x3005.rects_ : Nat) : Int)), (34, vi v3032), (72, vb true)] [(6, .box false [.own 900]), (8, .box false [.own 930]), (11, .box false [ci (((gl x3005.rects_ v3032.toNat).left_) + x3006), ci (((gl x3005.rects_ v3032.toNat).low_) + x3007), ci (((gl x3005.rects_ v3032.toNat).right_) + x3006), ci (((gl x3005.rects_ v3032.toNat).high_) + x3007)]), (900, AO (α := Rect) ([] : List Rect)), (930, AO v3033)] (by kernel_rfl) (hJ3045 true h)
              · have h := br_f h hb3041
                rcases Bool.eq_false_or_eq_true (decide ((((gl x3005.rects_ v3032.toNat).low_) + x3007) < (0 : Int))) with hb3042 | hb3042
                · have h := br_t h hb3042
                  refine AW.g Fm [.s, .s, .s, .w (vb false), .s, .s, .s, .s, .w (vb true), .s, .s, .s, .s, .s, .s, .s, .s, .s] (fun K => (ALe (vb (decide ((((gl x3005.rects_ v3032.toNat).left_) + x3006) < (0 : Int)))) (vb false)) ∧ (ALe (vb (decide ((((gl x3005.rects_ v3032.toNat).low_) + x3007) < (0 : Int)))) (vb true)) ∧ True) [(1, vi x3006), (2, vi x3007), (6, .v (.c (.ptr 6 0))), (8, .v (.c (.ptr 8 0))), (11, .v (.c (.ptr 11 0))), (32, AL x3005.rects_), (33, vi ((List.length x3005.rects_ : Nat) : Int)), (34, vi v3032), (59, .v (.c (.ptr 11 1))), (60, vi (((gl x3005.rects_ v3032.toNat).low_) + x3007)), (61, vb (decide ((((gl x3005.rects_ v3032.toNat).low_) + x3007) < (0 : Int)))), (72, vb true)] [(6, .box false [.own 900]), (8, .box false [.own 930]), (11, .box false [ci (((gl x3005.rects_ v3032.toNat).left_) + x3006), ci (((gl x3005.rects_ v3032.toNat).low_) + x3007), ci (((gl x3005.rects_ v3032.toNat).right_) + x3006), ci (((gl x3005.rects_ v3032.toNat).high_) + x3007)]), (900, AO (α := Rect) ([] : List Rect)), (930, AO v3033)] ⟨ALe.bool hb3041, ALe.bool hb3042, True.intro⟩ (by kernel_rfl) ?_
                  exact Kn.r Fm [(1, vi x3006), (2, vi x3007), (6, .v (.c (.ptr 6 0))), (8, .v (.c (.ptr 8 0))), (11, .v (.c (.ptr 11 0))), (32, AL x3005.rects_), (33, vi ((List.length x3005.rects_ : Nat) : Int)), (34, vi v3032), (72, vb true)] [(6, .box false [.own 900]), (8, .box false [.own 930]), (11, .box false [ci (((gl x3005.rects_ v3032.toNat).left_) + x3006), ci (((gl x3005.rects_ v3032.toNat).low_) + x3007), ci (((gl x3005.rects_ v3032.toNat).right_) + x3006), ci (((gl x3005.rects_ v3032.toNat).high_) + x3007)]), (900, AO (α := Rect) ([] : List Rect)), (930, AO v3033)] (by kernel_rfl) (hJ3045 true h)
                · have h := br_f h hb3042
                  rcases Bool.eq_false_or_eq_true (decide ((16384 : Int) < (((gl x3005.rects_ v3032.toNat).right_) + x3006))) with hb3043 | hb3043
                  · have h := br_t h hb3043
                    refine AW.g Fm [.s, .s, .s, .w (vb false), .s, .s, .s, .s, .w (vb false), .s, .s, .s, .s, .w (vb true), .s, .s, .s, .s] (fun K => (ALe (vb (decide ((((gl x3005.rects_ v3032.toNat).left_) + x3006) < (0 : Int)))) (vb false)) ∧ (ALe (vb (decide ((((gl x3005.rects_ v3032.toNat).low_) + x3007) < (0 : Int)))) (vb false)) ∧ (ALe (vb (decide ((16384 : Int) < (((gl x3005.rects_ v3032.toNat).right_) + x3006)))) (vb true)) ∧ True) [(1, vi x3006), (2, vi x3007), (6, .v (.c (.ptr 6 0))), (8, .v (.c (.ptr 8 0))), (11, .v (.c (.ptr 11 0))), (32, AL x3005.rects_), (33, vi ((List.length x3005.rects_ : Nat) : Int)), (34, vi v3032), (59, .v (.c (.ptr 11 1))), (60, vi (((gl x3005.rects_ v3032.toNat).low_) + x3007)), (61, vb (decide ((((gl x3005.rects_ v3032.toNat).low_) + x3007) < (0 : Int)))), (64, .v (.c (.ptr 11 2))), (65, vi (((gl x3005.rects_ v3032.toNat).right_) + x3006)), (66, vb (decide ((16384 : Int) < (((gl x3005.rects_ v3032.toNat).right_) + x3006)))), (72, vb true)] [(6, .box false [.own 900]), (8, .box false [.own 930]), (11, .box false [ci (((gl x3005.rects_ v3032.toNat).left_) + x3006), ci (((gl x3005.rects_ v3032.toNat).low_) + x3007), ci (((gl x3005.rects_ v3032.toNat).right_) + x3006), ci (((gl x3005.rects_ v3032.toNat).high_) + x3007)]), (900, AO (α := Rect) ([] : List Rect)), (930, AO v3033)] ⟨ALe.bool hb3041, ALe.bool hb3042, ALe.bool hb3043, True.intro⟩ (by kernel_rfl) ?_
                    exact Kn.r Fm [(1, vi x3006), (2, vi x3007), (6, .v (.c (.ptr 6 0))), (8, .v (.c (.ptr 8 0))), (11, .v (.c (.ptr 11 0))), (32, AL x3005.rects_), (33, vi ((List.length x3005.rects_ : Nat) : Int)), (34, vi v3032), (72, vb true)] [(6, .box false [.own 900]), (8, .box false [.own 930]), (11, .box false [ci (((gl x3005.rects_ v3032.toNat).left_) + x3006), ci (((gl x3005.rects_ v3032.toNat).low_) + x3007), ci (((gl x3005.rects_ v3032.toNat).right_) + x3006), ci (((gl x3005.rects_ v3032.toNat).high_) + x3007)]), (900, AO (α := Rect) ([] : List Rect)), (930, AO v3033)] (by kernel_rfl) (hJ3045 true h)
                  · have h := br_f h hb3043
                    refine AW.g Fm [.s, .s, .s, .w (vb false), .s, .s, .s, .s, .w (vb false), .s, .s, .s, .s, .w (vb false), .s, .s, .s, .s] (fun K => (ALe (vb (decide ((((gl x3005.rects_ v3032.toNat).left_) + x3006) < (0 : Int)))) (vb false)) ∧ (ALe (vb (decide ((((gl x3005.rects_ v3032.toNat).low_) + x3007) < (0 : Int)))) (vb false)) ∧ (ALe (vb (decide ((16384 : Int) < (((gl x3005.rects_ v3032.toNat).right_) + x3006)))) (vb false)) ∧ True) [(1, vi x3006), (2, vi x3007), (6, .v (.c (.ptr 6 0))), (8, .v (.c (.ptr 8 0))), (11, .v (.c (.ptr 11 0))), (32, AL x3005.rects_), (33, vi ((List.length x3005.rects_ : Nat) : Int)), (34, vi v3032), (59, .v (.c (.ptr 11 1))), (60, vi (((gl x3005.rects_ v3032.toNat).low_) + x3007)), (61, vb (decide ((((gl x3005.rects_ v3032.toNat).low_) + x3007) < (0 : Int)))), (64, .v (.c (.ptr 11 2))), (65, vi (((gl x3005.rects_ v3032.toNat).right_) + x3006)), (66, vb (decide ((16384 : Int) < (((gl x3005.rects_ v3032.toNat).right_) + x3006)))), (69, .v (.c (.ptr 11 3))), (70, vi (((gl x3005.rects_ v3032.toNat).high_) + x3007)), (71, vb (decide ((16384 : Int) < (((gl x3005.rects_ v3032.toNat).high_) + x3007)))), (72, vb (decide ((16384 : Int) < (((gl x3005.rects_ v3032.toNat).high_) + x3007))))] [(6, .box false [.own 900]), (8, .box false [.own 930]), (11, .box false [ci (((gl x3005.rects_ v3032.toNat).left_) + x3006), ci (((gl x3005.rects_ v3032.toNat).low_) + x3007), ci (((gl x3005.rects_ v3032.toNat).right_) + x3006), ci (((gl x3005.rects_ v3032.toNat).high_) + x3007)]), (900, AO (α := Rect) ([] : List Rect)), (930, AO v3033)] ⟨ALe.bool hb3041, ALe.bool hb3042, ALe.bool hb3043, True.intro⟩ (by kernel_rfl) ?_
                    exact Kn.r Fm [(1, vi x3006), (2, vi x3007), (6, .v (.c (.ptr 6 0))), (8, .v (.c (.ptr 8 0))), (11, .v (.c (.ptr 11 0))), (32, AL x3005.rects_), (33, vi ((List.length x3005.rects_ : Nat) : Int)), (34, vi v3032), (72, vb (decide ((16384 : Int) < (((gl x3005.rects_ v3032.toNat).high_) + x3007))))] [(6, .box false [.own 900]), (8, .box false [.own 930]), (11, .box false [ci (((gl x3005.rects_ v3032.toNat).left_) + x3006), ci (((gl x3005.rects_ v3032.toNat).low_) + x3007), ci (((gl x3005.rects_ v3032.toNat).right_) + x3006), ci (((gl x3005.rects_ v3032.toNat).high_) + x3007)]), (900, AO (α := Rect) ([] : List Rect)), (930, AO v3033)] (by kernel_rfl) (hJ3045 (decide ((16384 : Int) < (((gl x3005.rects_ v3032.toNat).high_) + x3007))) h)
          · have h := br_f h hb3035
            refine AW.exit ?_
            exact Kn.r Fm [(6, .v (.c (.ptr 6 0))), (8, .v (.c (.ptr 8 0)))] [(6, .box false [.own 900]), (8, .box false [.own 930]), (900, AO (α := Rect) ([] : List Rect)), (930, AO v3033)] (by kernel_rfl) (hJ3050 v3033 h)
    · rcases Bool.eq_false_or_eq_true (decide (x3006 < (-16384 : Int))) with hb3011 | hb3011
      · have h := br_t h hb3011
        refine AW.g Fm [.s, .s, .w (vb true), .s, .s, .s, .s, .s, .s, .s, .s, .s, .s, .s] (fun K => (ALe (vb (decide (x3006 < (-16384 : Int)))) (vb true)) ∧ True) [(1, vi x3006), (2, vi x3007), (3, .v (.c (.ptr 3 0))), (6, .v (.c (.ptr 6 0))), (29, vb true)] [(3, .box false [.d (DL x3005.rects_)]), (6, .box false [.fl 0 fun _ => []])] ⟨ALe.bool hb3011, True.intro⟩ (by kernel_rfl) ?_
        exact Kn.r Fm [(1, vi x3006), (2, vi x3007), (3, .v (.c (.ptr 3 0))), (6, .v (.c (.ptr 6 0))), (29, vb true)] [(3, .box false [.d (DL x3005.rects_)]), (6, .box false [.fl 0 fun _ => []])] (by kernel_rfl) (hJ3015 true h)
      · have h := br_f h hb3011
        rcases Bool.eq_false_or_eq_true (decide ((16384 : Int) < x3006)) with hb3012 | hb3012
        · have h := br_t h hb3012
          refine AW.g Fm [.s, .s, .w (vb false), .s, .s, .s, .w (vb true), .s, .s, .s, .s, .s, .s, .s] (fun K => (ALe (vb (decide (x3006 < (-16384 : Int)))) (vb false)) ∧ (ALe (vb (decide ((16384 : Int) < x3006))) (vb true)) ∧ True) [(1, vi x3006), (2, vi x3007), (3, .v (.c (.ptr 3 0))), (6, .v (.c (.ptr 6 0))), (29, vb true)] [(3, .box false [.d (DL x3005.rects_)]), (6, .box false [.fl 0 fun _ => []])] ⟨ALe.bool hb3011, ALe.bool hb3012, True.intro⟩ (by kernel_rfl) ?_
          exact Kn.r Fm [(1, vi x3006), (2, vi x3007), (3, .v (.c (.ptr 3 0))), (6, .v (.c (.ptr 6 0))), (29, vb true)] [(3, .box false [.d (DL x3005.rects_)]), (6, .box false [.fl 0 fun _ => []])] (by kernel_rfl) (hJ3015 true h)
        · have h := br_f h hb3012
          rcases Bool.eq_false_or_eq_true (decide (x3007 < (-16384 : Int))) with hb3013 | hb3013
          · have h := br_t h hb3013
            refine AW.g Fm [.s, .s, .w (vb false), .s, .s, .s, .w (vb false), .s, .s, .s, .w (vb true), .s, .s, .s] (fun K => (ALe (vb (decide (x3006 < (-16384 : Int)))) (vb false)) ∧ (ALe (vb (decide ((16384 : Int) < x3006))) (vb false)) ∧ (ALe (vb (decide (x3007 < (-16384 : Int)))) (vb true)) ∧ True) [(1, vi x3006), (2, vi x3007), (3, .v (.c (.ptr 3 0))), (6, .v (.c (.ptr 6 0))), (29, vb true)] [(3, .box false [.d (DL x3005.rects_)]), (6, .box false [.fl 0 fun _ => []])] ⟨ALe.bool hb3011, ALe.bool hb3012, ALe.bool hb3013, True.intro⟩ (by kernel_rfl) ?_
            exact Kn.r Fm [(1, vi x3006), (2, vi x3007), (3, .v (.c (.ptr 3 0))), (6, .v (.c (.ptr 6 0))), (29, vb true)] [(3, .box false [.d (DL x3005.rects_)]), (6, .box false [.fl 0 fun _ => []])] (by kernel_rfl) (hJ3015 true h)
          · have h := br_f h hb3013
            refine AW.g Fm [.s, .s, .w (vb false), .s, .s, .s, .w (vb false), .s, .s, .s, .w (vb false), .s, .s, .s] (fun K => (ALe (vb (decide (x3006 < (-16384 : Int)))) (vb false)) ∧ (ALe (vb (decide ((16384 : Int) < x3006))) (vb false)) ∧ (ALe (vb (decide (x3007 < (-16384 : Int)))) (vb false)) ∧ True) [(1, vi x3006), (2, vi x3007), (3, .v (.c (.ptr 3 0))), (6, .v (.c (.ptr 6 0))), (29, vb (decide ((16384 : Int) < x3007)))] [(3, .box false [.d (DL x3005.rects_)]), (6, .box false [.fl 0 fun _ => []])] ⟨ALe.bool hb3011, ALe.bool hb3012, ALe.bool hb3013, True.intro⟩ (by kernel_rfl) ?_
            exact Kn.r Fm [(1, vi x3006), (2, vi x3007), (3, .v (.c (.ptr 3 0))), (6, .v (.c (.ptr 6 0))), (29, vb (decide ((16384 : Int) < x3007)))] [(3, .box false [.d (DL x3005.rects_)]), (6, .box false [.fl 0 fun _ => []])] (by kernel_rfl) (hJ3015 (decide ((16384 : Int) < x3007)) h)
theorem ref04_Within_spec {F : Nat} {x3051 : Region} {x3052 : Region} {r : Bool} (h : ref04_Within F x3051 x3052 = some r) :
    FSpec Tryz.prog 38 [.v (.g [.d (DL x3051.rects_)]), .v (.g [.d (DL x3052.rects_)])] [] (vb r) [] := by
  refine FSpec.intro prog_mixed prog_lay Tryz.func38 rfl (by kernel_rfl) fun C Fm => ?_
  unfold ref04_Within at h
  refine AW.sg0 Fm 3 [(2, .v (.c (.ptr 2 0))), (3, .v (.c (.ptr 3 0)))] [(2, .box false [.d (DL x3051.rects_)]), (3, .box false [.d (DL x3052.rects_)])] (by kernel_rfl) ?_
  refine AW.join (r := r) (fun z : Bool => ref04_Within_k0 F z) (fun z => [(4, vb z)]) (fun z => []) (fun v3061 h => ?_) (fun J3062 hJ3062 => ?_)
  · have h : ref04_Within_k0 F v3061 = some r := h
    refine AW.ret ?_
    obtain rfl := Option.some.inj h
    exact Kn.r Fm [(4, vb v3061)] [] (by kernel_rfl) (Kn.dn Fm (by kernel_rfl))
  · obtain ⟨z3053, hz3054, h⟩ := bd_some h
    rcases Bool.eq_false_or_eq_true z3053 with hb3055 | hb3055
    · have h := br_t h hb3055
      obtain ⟨z3056, hz3057, h⟩ := bd_some h
      rcases Bool.eq_false_or_eq_true z3056 with hb3058 | hb3058
      · have h := br_t h hb3058
        obtain ⟨z3059, hz3060, h⟩ := bd_some h
        refine AW.g Fm [.s, .k (cE [] [] (vb z3053) [] []), .w (vb true), .s, .k (cE [] [] (vb z3056) [] []), .s, .w (vb true), .s, .s, .s, .s, .k (cE [] [] (AL z3059) [] []), .s, .s, .s, .s] (fun K => K 1 ∧ (ALe (vb z3053) (vb true)) ∧ K 4 ∧ (ALe (vb z3056) (vb true)) ∧ K 11 ∧ True) [(4, vb (((List.length z3059 : Nat) : Int) == (0 : Int)))] [] ⟨KAt.cl (args := [.v (.g [.d (DL x3051.rects_)])]) (ref04_Valid_spec hz3054) Tryz.call15 [] rfl (by kernel_rfl), ALe.bool hb3055, KAt.cl (args := [.v (.g [.d (DL x3052.rects_)])]) (ref04_Valid_spec hz3057) Tryz.call15 [] rfl (by kernel_rfl), ALe.bool hb3058, KAt.cl (args := [AL x3051.rects_, AL x3052.rects_, vi (3 : Int)]) (ref04_Combine_spec hz3060) Tryz.call64 [] rfl (by kernel_rfl), True.intro⟩ (by kernel_rfl) ?_
        exact Kn.r Fm [(4, vb (((List.length z3059 : Nat) : Int) == (0 : Int)))] [] (by kernel_rfl) (hJ3062 (((List.length z3059 : Nat) : Int) == (0 : Int)) h)
      · have h := br_f h hb3058
        refine AW.g Fm [.s, .k (cE [] [] (vb z3053) [] []), .w (vb true), .s, .k (cE [] [] (vb z3056) [] []), .s, .w (vb false), .s, .s, .s, .s, .s, .s, .s, .s, .s] (fun K => K 1 ∧ (ALe (vb z3053) (vb true)) ∧ K 4 ∧ (ALe (vb z3056) (vb false)) ∧ True) [(4, vb false)] [] ⟨KAt.cl (args := [.v (.g [.d (DL x3051.rects_)])]) (ref04_Valid_spec hz3054) Tryz.call15 [] rfl (by kernel_rfl), ALe.bool hb3055, KAt.cl (args := [.v (.g [.d (DL x3052.rects_)])]) (ref04_Valid_spec hz3057) Tryz.call15 [] rfl (by kernel_rfl), ALe.bool hb3058, True.intro⟩ (by kernel_rfl) ?_
        exact Kn.r Fm [(4, vb false)] [] (by kernel_rfl) (hJ3062 false h)
    · have h := br_f h hb3055
      refine AW.g Fm [.s, .k (cE [] [] (vb z3053) [] []), .w (vb false), .s, .s, .s, .s, .s, .s, .s, .s, .s, .s, .s, .s, .s] (fun K => K 1 ∧ (ALe (vb z3053) (vb false)) ∧ True) [(4, vb false)] [] ⟨KAt.cl (args := [.v (.g [.d (DL x3051.rects_)])]) (ref04_Valid_spec hz3054) Tryz.call15 [] rfl (by kernel_rfl), ALe.bool hb3055, True.intro⟩ (by kernel_rfl) ?_
      exact Kn.r Fm [(4, vb false)] [] (by kernel_rfl) (hJ3062 false h)
theorem law06_ShapeOpens_spec {F : Nat} {x3063 : (List Int)} {x3064 : Int} {x3065 : Int} {r : Bool} (h : law06_ShapeOpens F x3063 x3064 x3065 = some r) :
    FSpec Tryz.prog 8 [AL x3063, .v (.c (.d (.int .u8 x3064))), .v (.c (.d (.int .u8 x3065)))] [] (vb r) [] := by
  refine FSpec.intro prog_mixed prog_lay Tryz.func8 rfl (by kernel_rfl) fun C Fm => ?_
  unfold law06_ShapeOpens at h
  refine AW.sg0 Fm 1 [(0, AL x3063), (1, .v (.c (.d (.int .u8 x3064)))), (2, .v (.c (.d (.int .u8 x3065))))] [] (by kernel_rfl) ?_
  refine AW.seq ?_
  obtain ⟨z3066, hz3067, h⟩ := bd_some h
  obtain ⟨z3068, hz3069, h⟩ := bd_some h
  obtain ⟨z3070, hz3071, h⟩ := bd_some h
  refine AW.g Fm [.s, .k (cE [(100, 25)] [] (.v (.c (.ptr 100 0))) [] [(100, .box false (gC z3066))]), .k (cE [(0, 25)] [] (.v (.g [.d (DL z3068.2.rects_)])) [(0, .box false (gC z3066))] [(0, .box false (gC z3068.1))]), .k (cE [] [] (.t [.g [.d (DL z3070.1.rects_)], .c (ci z3070.2)]) [] []), .s, .s, .s, .s, .s, .s] (fun K => K 1 ∧ K 2 ∧ K 3 ∧ True) [(1, .v (.c (.d (.int .u8 x3064)))), (2, .v (.c (.d (.int .u8 x3065)))), (7, .v (.c (.ptr 7 0))), (8, vi z3070.2)] [(7, .box false [.d (DL z3070.1.rects_)])] ⟨KAt.cl (args := [AL x3063]) (keep_New_spec hz3067) Tryz.call12 [(100, 25)] rfl (by kernel_rfl), KAt.cl (args := [.v (.c (.ptr 0 0)), vi (7 : Int), vi (3 : Int)]) (keep_Tape_Region_spec hz3069) Tryz.call13 [(0, 25)] rfl (by kernel_rfl), KAt.cl (args := [.v (.g [.d (DL z3068.2.rects_)]), vi (20 : Int), vi (20 : Int)]) (ref06_Move_spec hz3071) Tryz.call37 [] rfl (by kernel_rfl), True.intro⟩ (by kernel_rfl) ?_
  obtain ⟨hg3072, h⟩ := gd_some h
  obtain ⟨hg3073, h⟩ := gd_some h
  obtain ⟨hg3074, h⟩ := gd_some h
  obtain ⟨hg3075, h⟩ := gd_some h
  refine AW.sg Fm [.s, .s, .s, .s, .s, .s, .s, .s] (fun K => (I64 x3064 ∧ True) ∧ ((4 : Int) ≠ 0) ∧ (I64 x3065 ∧ True) ∧ ((4 : Int) ≠ 0) ∧ True) [(7, .v (.c (.ptr 7 0))), (8, vi z3070.2), (9, vi (x3064.tmod (4 : Int))), (10, vi (x3065.tmod (4 : Int)))] [(7, .box false [.d (DL z3070.1.rects_)])] ⟨⟨hg3072, True.intro⟩, hg3073, ⟨hg3074, True.intro⟩, hg3075, True.intro⟩ (by kernel_rfl) ?_
  refine AW.seq ?_
  obtain ⟨z3076, hz3077, h⟩ := bd_some h
  refine AW.g Fm [.s, .s, .k (cE [] [] (.t [.g [.d (DL z3076.1.rects_)], .c (ci z3076.2)]) [] []), .s, .s, .s, .s, .s, .s] (fun K => K 2 ∧ True) [(7, .v (.c (.ptr 7 0))), (8, vi z3070.2), (9, vi (x3064.tmod (4 : Int))), (10, vi (x3065.tmod (4 : Int))), (11, .v (.c (.ptr 11 0))), (12, vi z3076.2)] [(7, .box false [.d (DL z3070.1.rects_)]), (11, .box false [.d (DL z3076.1.rects_)])] ⟨KAt.cl (args := [.v (.g [.d (DL z3070.1.rects_)]), vi (x3064.tmod (4 : Int))]) (shape_Grow_spec hz3077) Tryz.call35 [] rfl (by kernel_rfl), True.intro⟩ (by kernel_rfl) ?_
  refine AW.seq ?_
  obtain ⟨z3078, hz3079, h⟩ := bd_some h
  refine AW.g Fm [.s, .s, .k (cE [] [] (.t [.g [.d (DL z3078.1.rects_)], .c (ci z3078.2)]) [] []), .s, .s, .s, .s, .s, .s] (fun K => K 2 ∧ True) [(7, .v (.c (.ptr 7 0))), (8, vi z3070.2), (9, vi (x3064.tmod (4 : Int))), (10, vi (x3065.tmod (4 : Int))), (11, .v (.c (.ptr 11 0))), (12, vi z3076.2), (13, .v (.c (.ptr 13 0))), (14, vi z3078.2)] [(7, .box false [.d (DL z3070.1.rects_)]), (11, .box false [.d (DL z3076.1.rects_)]), (13, .box false [.d (DL z3078.1.rects_)])] ⟨KAt.cl (args := [.v (.g [.d (DL z3076.1.rects_)]), vi (x3064.tmod (4 : Int))]) (shape_Shrink_spec hz3079) Tryz.call36 [] rfl (by kernel_rfl), True.intro⟩ (by kernel_rfl) ?_
  refine AW.seq ?_
  obtain ⟨z3080, hz3081, h⟩ := bd_some h
  refine AW.g Fm [.s, .s, .k (cE [] [] (.t [.g [.d (DL z3080.1.rects_)], .c (ci z3080.2)]) [] []), .s, .s, .s, .s, .s, .s] (fun K => K 2 ∧ True) [(7, .v (.c (.ptr 7 0))), (8, vi z3070.2), (9, vi (x3064.tmod (4 : Int))), (10, vi (x3065.tmod (4 : Int))), (11, .v (.c (.ptr 11 0))), (12, vi z3076.2), (13, .v (.c (.ptr 13 0))), (14, vi z3078.2), (15, .v (.c (.ptr 15 0))), (16, vi z3080.2)] [(7, .box false [.d (DL z3070.1.rects_)]), (11, .box false [.d (DL z3076.1.rects_)]), (13, .box false [.d (DL z3078.1.rects_)]), (15, .box false [.d (DL z3080.1.rects_)])] ⟨KAt.cl (args := [.v (.g [.d (DL z3070.1.rects_)]), vi (x3064.tmod (4 : Int))]) (shape_Shrink_spec hz3081) Tryz.call36 [] rfl (by kernel_rfl), True.intro⟩ (by kernel_rfl) ?_
  refine AW.seq ?_
  obtain ⟨z3082, hz3083, h⟩ := bd_some h
  refine AW.g Fm [.s, .s, .k (cE [] [] (.t [.g [.d (DL z3082.1.rects_)], .c (ci z3082.2)]) [] []), .s, .s, .s, .s, .s, .s] (fun K => K 2 ∧ True) [(7, .v (.c (.ptr 7 0))), (8, vi z3070.2), (9, vi (x3064.tmod (4 : Int))), (10, vi (x3065.tmod (4 : Int))), (11, .v (.c (.ptr 11 0))), (12, vi z3076.2), (13, .v (.c (.ptr 13 0))), (14, vi z3078.2), (16, vi z3080.2), (17, .v (.c (.ptr 17 0))), (18, vi z3082.2)] [(7, .box false [.d (DL z3070.1.rects_)]), (11, .box false [.d (DL z3076.1.rects_)]), (13, .box false [.d (DL z3078.1.rects_)]), (17, .box false [.d (DL z3082.1.rects_)])] ⟨KAt.cl (args := [.v (.g [.d (DL z3080.1.rects_)]), vi (x3064.tmod (4 : Int))]) (shape_Grow_spec hz3083) Tryz.call35 [] rfl (by kernel_rfl), True.intro⟩ (by kernel_rfl) ?_
  refine AW.seq ?_
  obtain ⟨z3084, hz3085, h⟩ := bd_some h
  refine AW.g Fm [.s, .s, .k (cE [] [] (.t [.g [.d (DL z3084.1.rects_)], .c (ci z3084.2)]) [] []), .s, .s, .s, .s, .s, .s] (fun K => K 2 ∧ True) [(7, .v (.c (.ptr 7 0))), (8, vi z3070.2), (9, vi (x3064.tmod (4 : Int))), (10, vi (x3065.tmod (4 : Int))), (12, vi z3076.2), (13, .v (.c (.ptr 13 0))), (14, vi z3078.2), (16, vi z3080.2), (17, .v (.c (.ptr 17 0))), (18, vi z3082.2), (19, .v (.c (.ptr 19 0))), (20, vi z3084.2)] [(7, .box false [.d (DL z3070.1.rects_)]), (13, .box false [.d (DL z3078.1.rects_)]), (17, .box false [.d (DL z3082.1.rects_)]), (19, .box false [.d (DL z3084.1.rects_)])] ⟨KAt.cl (args := [.v (.g [.d (DL z3076.1.rects_)]), vi (x3065.tmod (4 : Int))]) (shape_Grow_spec hz3085) Tryz.call35 [] rfl (by kernel_rfl), True.intro⟩ (by kernel_rfl) ?_
  refine AW.seq ?_
  obtain ⟨hg3086, h⟩ := gd_some h
  obtain ⟨z3087, hz3088, h⟩ := bd_some h
  refine AW.g Fm [.s, .s, .s, .s, .k (cE [] [] (.t [.g [.d (DL z3087.1.rects_)], .c (ci z3087.2)]) [] []), .s, .s, .s, .s, .s, .s] (fun K => (I64 ((x3064.tmod (4 : Int)) + (x3065.tmod (4 : Int))) ∧ True) ∧ K 4 ∧ True) [(7, .v (.c (.ptr 7 0))), (8, vi z3070.2), (12, vi z3076.2), (13, .v (.c (.ptr 13 0))), (14, vi z3078.2), (16, vi z3080.2), (17, .v (.c (.ptr 17 0))), (18, vi z3082.2), (19, .v (.c (.ptr 19 0))), (20, vi z3084.2), (21, .v (.c (.ptr 21 0))), (22, vi z3087.2)] [(7, .box false [.d (DL z3070.1.rects_)]), (13, .box false [.d (DL z3078.1.rects_)]), (17, .box false [.d (DL z3082.1.rects_)]), (19, .box false [.d (DL z3084.1.rects_)]), (21, .box false [.d (DL z3087.1.rects_)])] ⟨⟨hg3086, True.intro⟩, KAt.cl (args := [.v (.g [.d (DL z3070.1.rects_)]), vi ((x3064.tmod (4 : Int)) + (x3065.tmod (4 : Int)))]) (shape_Grow_spec hz3088) Tryz.call35 [] rfl (by kernel_rfl), True.intro⟩ (by kernel_rfl) ?_
  refine AW.join (r := r) (fun z : Bool => law06_ShapeOpens_k0 F z) (fun z => [(6, vb z)]) (fun z => []) (fun v3107 h => ?_) (fun J3108 hJ3108 => ?_)
  · have h : law06_ShapeOpens_k0 F v3107 = some r := h
    refine AW.ret ?_
    obtain rfl := Option.some.inj h
    exact Kn.r Fm [(6, vb v3107)] [] (by kernel_rfl) (Kn.dn Fm (by kernel_rfl))
  · rcases Bool.eq_false_or_eq_true (z3070.2 == (0 : Int)) with hb3089 | hb3089
    · have h := br_t h hb3089
      rcases Bool.eq_false_or_eq_true (z3076.2 == (0 : Int)) with hb3090 | hb3090
      · have h := br_t h hb3090
        rcases Bool.eq_false_or_eq_true (z3078.2 == (0 : Int)) with hb3091 | hb3091
        · have h := br_t h hb3091
          rcases Bool.eq_false_or_eq_true (z3080.2 == (0 : Int)) with hb3092 | hb3092
          · have h := br_t h hb3092
            rcases Bool.eq_false_or_eq_true (z3082.2 == (0 : Int)) with hb3093 | hb3093
            · have h := br_t h hb3093
              rcases Bool.eq_false_or_eq_true (z3084.2 == (0 : Int)) with hb3094 | hb3094
              · have h := br_t h hb3094
                rcases Bool.eq_false_or_eq_true (z3087.2 == (0 : Int)) with hb3095 | hb3095
                · have h := br_t h hb3095
                  obtain ⟨z3096, hz3097, h⟩ := bd_some h
                  rcases Bool.eq_false_or_eq_true z3096 with hb3098 | hb3098
                  · have h := br_t h hb3098
                    obtain ⟨z3099, hz3100, h⟩ := bd_some h
                    rcases Bool.eq_false_or_eq_true z3099 with hb3101 | hb3101
                    · have h := br_t h hb3101
                      obtain ⟨z3102, hz3103, h⟩ := bd_some h
                      rcases Bool.eq_false_or_eq_true z3102 with hb3104 | hb3104
                      · have h := br_t h hb3104
                        obtain ⟨z3105, hz3106, h⟩ := bd_some h
                        refine AW.g Fm [.s, .s, .w (vb true), .s, .s, .s, .w (vb true), .s, .s, .s, .w (vb true), .s, .s, .s, .w (vb true), .s, .s, .s, .w (vb true), .s, .s, .s, .w (vb true), .s, .s, .s, .w (vb true), .s, .s, .k (cE [] [] (vb z3096) [] []), .s, .w (vb true), .s, .s, .k (cE [] [] (vb z3099) [] []), .s, .w (vb true), .s, .s, .k (cE [] [] (vb z3102) [] []), .s, .w (vb true), .k (cE [] [] (vb z3105) [] []), .s, .s] (fun K => (ALe (vb (z3070.2 == (0 : Int))) (vb true)) ∧ (ALe (vb (z3076.2 == (0 : Int))) (vb true)) ∧ (ALe (vb (z3078.2 == (0 : Int))) (vb true)) ∧ (ALe (vb (z3080.2 == (0 : Int))) (vb true)) ∧ (ALe (vb (z3082.2 == (0 : Int))) (vb true)) ∧ (ALe (vb (z3084.2 == (0 : Int))) (vb true)) ∧ (ALe (vb (z3087.2 == (0 : Int))) (vb true)) ∧ K 29 ∧ (ALe (vb z3096) (vb true)) ∧ K 34 ∧ (ALe (vb z3099) (vb true)) ∧ K 39 ∧ (ALe (vb z3102) (vb true)) ∧ K 42 ∧ True) [(6, vb z3105)] [] ⟨ALe.bool hb3089, ALe.bool hb3090, ALe.bool hb3091, ALe.bool hb3092, ALe.bool hb3093, ALe.bool hb3094, ALe.bool hb3095, KAt.cl (args := [.v (.g [.d (DL z3070.1.rects_)]), .v (.g [.d (DL z3078.1.rects_)])]) (ref04_Within_spec hz3097) Tryz.call38 [] rfl (by kernel_rfl), ALe.bool hb3098, KAt.cl (args := [.v (.g [.d (DL z3082.1.rects_)]), .v (.g [.d (DL z3070.1.rects_)])]) (ref04_Within_spec hz3100) Tryz.call38 [] rfl (by kernel_rfl), ALe.bool hb3101, KAt.cl (args := [.v (.g [.d (DL z3084.1.rects_)]), .v (.g [.d (DL z3087.1.rects_)])]) (ref04_Same_spec hz3103) Tryz.call16 [] rfl (by kernel_rfl), ALe.bool hb3104, KAt.cl (args := []) (law06_awake_spec hz3106) Tryz.call19 [] rfl (by kernel_rfl), True.intro⟩ (by kernel_rfl) ?_
                        exact Kn.r Fm [(6, vb z3105)] [] (by kernel_rfl) (hJ3108 z3105 h)
                      · have h := br_f h hb3104
                        refine AW.g Fm [.s, .s, .w (vb true), .s, .s, .s, .w (vb true), .s, .s, .s, .w (vb true), .s, .s, .s, .w (vb true), .s, .s, .s, .w (vb true), .s, .s, .s, .w (vb true), .s, .s, .s, .w (vb true), .s, .s, .k (cE [] [] (vb z3096) [] []), .s, .w (vb true), .s, .s, .k (cE [] [] (vb z3099) [] []), .s, .w (vb true), .s, .s, .k (cE [] [] (vb z3102) [] []), .s, .w (vb false), .s, .s, .s] (fun K => (ALe (vb (z3070.2 == (0 : Int))) (vb true)) ∧ (ALe (vb (z3076.2 == (0 : Int))) (vb true)) ∧ (ALe (vb (z3078.2 == (0 : Int))) (vb true)) ∧ (ALe (vb (z3080.2 == (0 : Int))) (vb true)) ∧ (ALe (vb (z3082.2 == (0 : Int))) (vb true)) ∧ (ALe (vb (z3084.2 == (0 : Int))) (vb true)) ∧ (ALe (vb (z3087.2 == (0 : Int))) (vb true)) ∧ K 29 ∧ (ALe (vb z3096) (vb true)) ∧ K 34 ∧ (ALe (vb z3099) (vb true)) ∧ K 39 ∧ (ALe (vb z3102) (vb false)) ∧ True) [(6, vb false)] [] ⟨ALe.bool hb3089, ALe.bool hb3090, ALe.bool hb3091, ALe.bool hb3092, ALe.bool hb3093, ALe.bool hb3094, ALe.bool hb3095, KAt.cl (args := [.v (.g [.d (DL z3070.1.rects_)]), .v (.g [.d (DL z3078.1.rects_)])]) (ref04_Within_spec hz3097) Tryz.call38 [] rfl (by kernel_rfl), ALe.bool hb3098, KAt.cl (args := [.v (.g [.d (DL z3082.1.rects_)]), .v (.g [.d (DL z3070.1.rects_)])]) (ref04_Within_spec hz3100) Tryz.call38 [] rfl (by kernel_rfl), ALe.bool hb3101, KAt.cl (args := [.v (.g [.d (DL z3084.1.rects_)]), .v (.g [.d (DL z3087.1.rects_)])]) (ref04_Same_spec hz3103) Tryz.call16 [] rfl (by kernel_rfl), ALe.bool hb3104, True.intro⟩ (by kernel_rfl) ?_
                        exact Kn.r Fm [(6, vb false)] [] (by kernel_rfl) (hJ3108 false h)
                    · have h := br_f h hb3101
                      refine AW.g Fm [.s, .s, .w (vb true), .s, .s, .s, .w (vb true), .s, .s, .s, .w (vb true), .s, .s, .s, .w (vb true), .s, .s, .s, .w (vb true), .s, .s, .s, .w (vb true), .s, .s, .s, .w (vb true), .s, .s, .k (cE [] [] (vb z3096) [] []), .s, .w (vb true), .s, .s, .k (cE [] [] (vb z3099) [] []), .s, .w (vb false), .s, .s, .s, .s, .s, .s, .s, .s] (fun K => (ALe (vb (z3070.2 == (0 : Int))) (vb true)) ∧ (ALe (vb (z3076.2 == (0 : Int))) (vb true)) ∧ (ALe (vb (z3078.2 == (0 : Int))) (vb true)) ∧ (ALe (vb (z3080.2 == (0 : Int))) (vb true)) ∧ (ALe (vb (z3082.2 == (0 : Int))) (vb true)) ∧ (ALe (vb (z3084.2 == (0 : Int))) (vb true)) ∧ (ALe (vb (z3087.2 == (0 : Int))) (vb true)) ∧ K 29 ∧ (ALe (vb z3096) (vb true)) ∧ K 34 ∧ (ALe (vb z3099) (vb false)) ∧ True) [(6, vb false)] [] ⟨ALe.bool hb3089, ALe.bool hb3090, ALe.bool hb3091, ALe.bool hb3092, ALe.bool hb3093, ALe.bool hb3094, ALe.bool hb3095, KAt.cl (args := [.v (.g [.d (DL z3070.1.rects_)]), .v (.g [.d (DL z3078.1.rects_)])]) (ref04_Within_spec hz3097) Tryz.call38 [] rfl (by kernel_rfl), ALe.bool hb3098, KAt.cl (args := [.v (.g [.d (DL z3082.1.rects_)]), .v (.g [.d (DL z3070.1.rects_)])]) (ref04_Within_spec hz3100) Tryz.call38 [] rfl (by kernel_rfl), ALe.bool hb3101, True.intro⟩ (by kernel_rfl) ?_
                      exact Kn.r Fm [(6, vb false)] [] (by kernel_rfl) (hJ3108 false h)
                  · have h := br_f h hb3098
                    refine AW.g Fm [.s, .s, .w (vb true), .s, .s, .s, .w (vb true), .s, .s, .s, .w (vb true), .s, .s, .s, .w (vb true), .s, .s, .s, .w (vb true), .s, .s, .s, .w (vb true), .s, .s, .s, .w (vb true), .s, .s, .k (cE [] [] (vb z3096) [] []), .s, .w (vb false), .s, .s, .s, .s, .s, .s, .s, .s, .s, .s, .s, .s, .s] (fun K => (ALe (vb (z3070.2 == (0 : Int))) (vb true)) ∧ (ALe (vb (z3076.2 == (0 : Int))) (vb true)) ∧ (ALe (vb (z3078.2 == (0 : Int))) (vb true)) ∧ (ALe (vb (z3080.2 == (0 : Int))) (vb true)) ∧ (ALe (vb (z3082.2 == (0 : Int))) (vb true)) ∧ (ALe (vb (z3084.2 == (0 : Int))) (vb true)) ∧ (ALe (vb (z3087.2 == (0 : Int))) (vb true)) ∧ K 29 ∧ (ALe (vb z3096) (vb false)) ∧ True) [(6, vb false)] [] ⟨ALe.bool hb3089, ALe.bool hb3090, ALe.bool hb3091, ALe.bool hb3092, ALe.bool hb3093, ALe.bool hb3094, ALe.bool hb3095, KAt.cl (args := [.v (.g [.d (DL z3070.1.rects_)]), .v (.g [.d (DL z3078.1.rects_)])]) (ref04_Within_spec hz3097) Tryz.call38 [] rfl (by kernel_rfl), ALe.bool hb3098, True.intro⟩ (by kernel_rfl) ?_
                    exact Kn.r Fm [(6, vb false)] [] (by kernel_rfl) (hJ3108 false h)
                · have h := br_f h hb3095
                  refine AW.g Fm [.s, .s, .w (vb true), .s, .s, .s, .w (vb true), .s, .s, .s, .w (vb true), .s, .s, .s, .w (vb true), .s, .s, .s, .w (vb true), .s, .s, .s, .w (vb true), .s, .s, .s, .w (vb false), .s, .s, .s, .s, .s, .s, .s, .s, .s, .s, .s, .s, .s, .s, .s, .s, .s, .s] (fun K => (ALe (vb (z3070.2 == (0 : Int))) (vb true)) ∧ (ALe (vb (z3076.2 == (0 : Int))) (vb true)) ∧ (ALe (vb (z3078.2 == (0 : Int))) (vb true)) ∧ (ALe (vb (z3080.2 == (0 : Int))) (vb true)) ∧ (ALe (vb (z3082.2 == (0 : Int))) (vb true)) ∧ (ALe (vb (z3084.2 == (0 : Int))) (vb true)) ∧ (ALe (vb (z3087.2 == (0 : Int))) (vb false)) ∧ True) [(6, vb false)] [] ⟨ALe.bool hb3089, ALe.bool hb3090, ALe.bool hb3091, ALe.bool hb3092, ALe.bool hb3093, ALe.bool hb3094, ALe.bool hb3095, True.intro⟩ (by kernel_rfl) ?_
                  exact Kn.r Fm [(6, vb false)] [] (by kernel_rfl) (hJ3108 false h)
              · have h := br_f h hb3094
                refine AW.g Fm [.s, .s, .w (vb true), .s, .s, .s, .w (vb true), .s, .s, .s, .w (vb true), .s, .s, .s, .w (vb true), .s, .s, .s, .w (vb true), .s, .s, .s, .w (vb false), .s, .s, .s, .s, .s, .s, .s, .s, .s, .s, .s, .s, .s, .s, .s, .s, .s, .s, .s, .s, .s, .s] (fun K => (ALe (vb (z3070.2 == (0 : Int))) (vb true)) ∧ (ALe (vb (z3076.2 == (0 : Int))) (vb true)) ∧ (ALe (vb (z3078.2 == (0 : Int))) (vb true)) ∧ (ALe (vb (z3080.2 == (0 : Int))) (vb true)) ∧ (ALe (vb (z3082.2 == (0 : Int))) (vb true)) ∧ (ALe (vb (z3084.2 == (0 : Int))) (vb false)) ∧ True) [(6, vb false)] [] ⟨ALe.bool hb3089, ALe.bool hb3090, ALe.bool hb3091, ALe.bool hb3092, ALe.bool hb3093, ALe.bool hb3094, True.intro⟩ (by kernel_rfl) ?_
                exact Kn.r Fm [(6, vb false)] [] (by kernel_rfl) (hJ3108 false h)
            · have h := br_f h hb3093
              refine AW.g Fm [.s, .s, .w (vb true), .s, .s, .s, .w (vb true), .s, .s, .s, .w (vb true), .s, .s, .s, .w (vb true), .s, .s, .s, .w (vb false), .s, .s, .s, .s, .s, .s, .s, .s, .s, .s, .s, .s, .s, .s, .s, .s, .s, .s, .s, .s, .s, .s, .s, .s, .s, .s] (fun K => (ALe (vb (z3070.2 == (0 : Int))) (vb true)) ∧ (ALe (vb (z3076.2 == (0 : Int))) (vb true)) ∧ (ALe (vb (z3078.2 == (0 : Int))) (vb true)) ∧ (ALe (vb (z3080.2 == (0 : Int))) (vb true)) ∧ (ALe (vb (z3082.2 == (0 : Int))) (vb false)) ∧ True) [(6, vb false)] [] ⟨ALe.bool hb3089, ALe.bool hb3090, ALe.bool hb3091, ALe.bool hb3092, ALe.bool hb3093, True.intro⟩ (by kernel_rfl) ?_
              exact Kn.r Fm [(6, vb false)] [] (by kernel_rfl) (hJ3108 false h)
          · have h := br_f h hb3092
            refine AW.g Fm [.s, .s, .w (vb true), .s, .s, .s, .w (vb true), .s, .s, .s, .w (vb true), .s, .s, .s, .w (vb false), .s, .s, .s, .s, .s, .s, .s, .s, .s, .s, .s, .s, .s, .s, .s, .s, .s, .s, .s, .s, .s, .s, .s, .s, .s, .s, .s, .s, .s, .s] (fun K => (ALe (vb (z3070.2 == (0 : Int))) (vb true)) ∧ (ALe (vb (z3076.2 == (0 : Int))) (vb true)) ∧ (ALe (vb (z3078.2 == (0 : Int))) (vb true)) ∧ (ALe (vb (z3080.2 == (0 : Int))) (vb false)) ∧ True) [(6, vb false)] [] ⟨ALe.bool hb3089, ALe.bool hb3090, ALe.bool hb3091, ALe.bool hb3092, True.intro⟩ (by kernel_rfl) ?_
            exact Kn.r Fm [(6, vb false)] [] (by kernel_rfl) (hJ3108 false h)
        · have h := br_f h hb3091
          refine AW.g Fm [.s, .s, .w (vb true), .s, .s, .s, .w (vb true), .s, .s, .s, .w (vb false), .s, .s, .s, .s, .s, .s, .s, .s, .s, .s, .s, .s, .s, .s, .s, .s, .s, .s, .s, .s, .s, .s, .s, .s, .s, .s, .s, .s, .s, .s, .s, .s, .s, .s] (fun K => (ALe (vb (z3070.2 == (0 : Int))) (vb true)) ∧ (ALe (vb (z3076.2 == (0 : Int))) (vb true)) ∧ (ALe (vb (z3078.2 == (0 : Int))) (vb false)) ∧ True) [(6, vb false)] [] ⟨ALe.bool hb3089, ALe.bool hb3090, ALe.bool hb3091, True.intro⟩ (by kernel_rfl) ?_
          exact Kn.r Fm [(6, vb false)] [] (by kernel_rfl) (hJ3108 false h)
      · have h := br_f h hb3090
        refine AW.g Fm [.s, .s, .w (vb true), .s, .s, .s, .w (vb false), .s, .s, .s, .s, .s, .s, .s, .s, .s, .s, .s, .s, .s, .s, .s, .s, .s, .s, .s, .s, .s, .s, .s, .s, .s, .s, .s, .s, .s, .s, .s, .s, .s, .s, .s, .s, .s, .s] (fun K => (ALe (vb (z3070.2 == (0 : Int))) (vb true)) ∧ (ALe (vb (z3076.2 == (0 : Int))) (vb false)) ∧ True) [(6, vb false)] [] ⟨ALe.bool hb3089, ALe.bool hb3090, True.intro⟩ (by kernel_rfl) ?_
        exact Kn.r Fm [(6, vb false)] [] (by kernel_rfl) (hJ3108 false h)
    · have h := br_f h hb3089
      refine AW.g Fm [.s, .s, .w (vb false), .s, .s, .s, .s, .s, .s, .s, .s, .s, .s, .s, .s, .s, .s, .s, .s, .s, .s, .s, .s, .s, .s, .s, .s, .s, .s, .s, .s, .s, .s, .s, .s, .s, .s, .s, .s, .s, .s, .s, .s, .s, .s] (fun K => (ALe (vb (z3070.2 == (0 : Int))) (vb false)) ∧ True) [(6, vb false)] [] ⟨ALe.bool hb3089, True.intro⟩ (by kernel_rfl) ?_
      exact Kn.r Fm [(6, vb false)] [] (by kernel_rfl) (hJ3108 false h)
end Go.Ab
end
