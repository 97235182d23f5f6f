/- The code follows the plain programs: whenever the plain program has a result. -/
import Derived.Test.YthifkkpkmdpoiaaGreatSpA
import Derived.Test.YthifkkpkmdpoiaaGreatBaA
set_option linter.unusedVariables false
set_option linter.unusedSimpArgs false
section
namespace Go.Ab
open Go.Proofs
set_option linter.unusedVariables false
set_option maxRecDepth 100000
theorem shape_common_spec {F : Nat} {x1824 : Rect} {x1825 : Rect} {r : Int} (h : shape_common F x1824 x1825 = some r) :
    FSpec Tryz.prog 66 [gE x1824, gE x1825] [] (vi r) [] := by
  refine FSpec.intro prog_mixed prog_lay Tryz.func66 rfl (by kernel_rfl) fun C Fm => ?_
  unfold shape_common at h
  refine AW.sg0 Fm 3 [(2, .v (.c (.ptr 2 0))), (3, .v (.c (.ptr 3 0)))] [(2, .box false (gC x1824)), (3, .box false (gC x1825))] (by kernel_rfl) ?_
  refine AW.sg0 Fm 1 [(2, .v (.c (.ptr 2 0))), (3, .v (.c (.ptr 3 0))), (5, vi (0 : Int))] [(2, .box false (gC x1824)), (3, .box false (gC x1825))] (by kernel_rfl) ?_
  refine AW.join (r := r) (fun z : Int => shape_common_k1 F x1824 x1825 z) (fun z => [(2, .v (.c (.ptr 2 0))), (3, .v (.c (.ptr 3 0))), (5, vi z)]) (fun z => [(2, .box false (gC x1824)), (3, .box false (gC x1825))]) (fun v1832 h => ?_) (fun J1833 hJ1833 => ?_)
  · have h : shape_common_k1 F x1824 x1825 v1832 = some r := h
    refine AW.join (r := r) (fun z : Int => shape_common_k3 F z) (fun z => [(5, vi z)]) (fun z => []) (fun v1840 h => ?_) (fun J1841 hJ1841 => ?_)
    · have h : shape_common_k3 F v1840 = some r := h
      refine AW.sg0 Fm 2 [(4, vi v1840)] [] (by kernel_rfl) ?_
      refine AW.ret ?_
      obtain rfl := Option.some.inj h
      exact Kn.r Fm [(4, vi v1840)] [] (by kernel_rfl) (Kn.dn Fm (by kernel_rfl))
    · refine AW.join (r := r) (fun z : Bool => shape_common_k2 F x1824 x1825 v1832 z) (fun z => [(2, .v (.c (.ptr 2 0))), (3, .v (.c (.ptr 3 0))), (5, vi v1832), (43, vb z)]) (fun z => [(2, .box false (gC x1824)), (3, .box false (gC x1825))]) (fun v1835 h => ?_) (fun J1836 hJ1836 => ?_)
      · have h : shape_common_k2 F x1824 x1825 v1832 v1835 = some r := h
        refine AW.cond (b := v1835) (by kernel_rfl) (fun hb1837 => ?_) (fun hb1837 => ?_)
        · have h := br_t h hb1837
          obtain ⟨hg1838, h⟩ := gd_some h
          obtain ⟨hg1839, h⟩ := gd_some h
          refine AW.g Fm [.s, .s, .s, .s, .s, .s, .s, .s, .s, .s, .s, .s, .s, .s, .s] (fun K => (I64 ((gmin x1824.right_ x1825.right_) - (gmax x1824.left_ x1825.left_)) ∧ True) ∧ (I64 (v1832 + (gmax (0 : Int) ((gmin x1824.right_ x1825.right_) - (gmax x1824.left_ x1825.left_)))) ∧ True) ∧ True) [(5, vi (v1832 + (gmax (0 : Int) ((gmin x1824.right_ x1825.right_) - (gmax x1824.left_ x1825.left_)))))] [] ⟨⟨hg1838, True.intro⟩, ⟨hg1839, True.intro⟩, True.intro⟩ (by kernel_rfl) ?_
          exact Kn.r Fm [(5, vi (v1832 + (gmax (0 : Int) ((gmin x1824.right_ x1825.right_) - (gmax x1824.left_ x1825.left_)))))] [] (by kernel_rfl) (hJ1841 (v1832 + (gmax (0 : Int) ((gmin x1824.right_ x1825.right_) - (gmax x1824.left_ x1825.left_)))) h)
        · have h := br_f h hb1837
          refine AW.skip ?_
          exact Kn.r Fm [(5, vi v1832)] [] (by kernel_rfl) (hJ1841 v1832 h)
      · rcases Bool.eq_false_or_eq_true (x1824.high_ == x1825.low_) with hb1834 | hb1834
        · have h := br_t h hb1834
          refine AW.g Fm [.s, .s, .s, .s, .s, .w (vb true), .s, .s, .s, .s, .s, .s] (fun K => (ALe (vb (x1824.high_ == x1825.low_)) (vb true)) ∧ True) [(2, .v (.c (.ptr 2 0))), (3, .v (.c (.ptr 3 0))), (5, vi v1832), (43, vb true)] [(2, .box false (gC x1824)), (3, .box false (gC x1825))] ⟨ALe.bool hb1834, True.intro⟩ (by kernel_rfl) ?_
          exact Kn.r Fm [(2, .v (.c (.ptr 2 0))), (3, .v (.c (.ptr 3 0))), (5, vi v1832), (43, vb true)] [(2, .box false (gC x1824)), (3, .box false (gC x1825))] (by kernel_rfl) (hJ1836 true h)
        · have h := br_f h hb1834
          refine AW.g Fm [.s, .s, .s, .s, .s, .w (vb false), .s, .s, .s, .s, .s, .s] (fun K => (ALe (vb (x1824.high_ == x1825.low_)) (vb false)) ∧ True) [(2, .v (.c (.ptr 2 0))), (3, .v (.c (.ptr 3 0))), (5, vi v1832), (43, vb (x1825.high_ == x1824.low_))] [(2, .box false (gC x1824)), (3, .box false (gC x1825))] ⟨ALe.bool hb1834, True.intro⟩ (by kernel_rfl) ?_
          exact Kn.r Fm [(2, .v (.c (.ptr 2 0))), (3, .v (.c (.ptr 3 0))), (5, vi v1832), (43, vb (x1825.high_ == x1824.low_))] [(2, .box false (gC x1824)), (3, .box false (gC x1825))] (by kernel_rfl) (hJ1836 (x1825.high_ == x1824.low_) h)
  · refine AW.join (r := r) (fun z : Bool => shape_common_k0 F x1824 x1825 z) (fun z => [(2, .v (.c (.ptr 2 0))), (3, .v (.c (.ptr 3 0))), (5, vi (0 : Int)), (17, vb z)]) (fun z => [(2, .box false (gC x1824)), (3, .box false (gC x1825))]) (fun v1827 h => ?_) (fun J1828 hJ1828 => ?_)
    · have h : shape_common_k0 F x1824 x1825 v1827 = some r := h
      refine AW.cond (b := v1827) (by kernel_rfl) (fun hb1829 => ?_) (fun hb1829 => ?_)
      · have h := br_t h hb1829
        obtain ⟨hg1830, h⟩ := gd_some h
        obtain ⟨hg1831, h⟩ := gd_some h
        refine AW.g Fm [.s, .s, .s, .s, .s, .s, .s, .s, .s, .s, .s, .s, .s, .s, .s] (fun K => (I64 ((gmin x1824.high_ x1825.high_) - (gmax x1824.low_ x1825.low_)) ∧ True) ∧ (I64 ((0 : Int) + (gmax (0 : Int) ((gmin x1824.high_ x1825.high_) - (gmax x1824.low_ x1825.low_)))) ∧ True) ∧ True) [(2, .v (.c (.ptr 2 0))), (3, .v (.c (.ptr 3 0))), (5, vi ((0 : Int) + (gmax (0 : Int) ((gmin x1824.high_ x1825.high_) - (gmax x1824.low_ x1825.low_)))))] [(2, .box false (gC x1824)), (3, .box false (gC x1825))] ⟨⟨hg1830, True.intro⟩, ⟨hg1831, True.intro⟩, True.intro⟩ (by kernel_rfl) ?_
        exact Kn.r Fm [(2, .v (.c (.ptr 2 0))), (3, .v (.c (.ptr 3 0))), (5, vi ((0 : Int) + (gmax (0 : Int) ((gmin x1824.high_ x1825.high_) - (gmax x1824.low_ x1825.low_)))))] [(2, .box false (gC x1824)), (3, .box false (gC x1825))] (by kernel_rfl) (hJ1833 ((0 : Int) + (gmax (0 : Int) ((gmin x1824.high_ x1825.high_) - (gmax x1824.low_ x1825.low_)))) h)
      · have h := br_f h hb1829
        refine AW.skip ?_
        exact Kn.r Fm [(2, .v (.c (.ptr 2 0))), (3, .v (.c (.ptr 3 0))), (5, vi (0 : Int))] [(2, .box false (gC x1824)), (3, .box false (gC x1825))] (by kernel_rfl) (hJ1833 (0 : Int) h)
    · rcases Bool.eq_false_or_eq_true (x1824.right_ == x1825.left_) with hb1826 | hb1826
      · have h := br_t h hb1826
        refine AW.g Fm [.s, .s, .s, .s, .s, .w (vb true), .s, .s, .s, .s, .s, .s] (fun K => (ALe (vb (x1824.right_ == x1825.left_)) (vb true)) ∧ True) [(2, .v (.c (.ptr 2 0))), (3, .v (.c (.ptr 3 0))), (5, vi (0 : Int)), (17, vb true)] [(2, .box false (gC x1824)), (3, .box false (gC x1825))] ⟨ALe.bool hb1826, True.intro⟩ (by kernel_rfl) ?_
        exact Kn.r Fm [(2, .v (.c (.ptr 2 0))), (3, .v (.c (.ptr 3 0))), (5, vi (0 : Int)), (17, vb true)] [(2, .box false (gC x1824)), (3, .box false (gC x1825))] (by kernel_rfl) (hJ1828 true h)
      · have h := br_f h hb1826
        refine AW.g Fm [.s, .s, .s, .s, .s, .w (vb false), .s, .s, .s, .s, .s, .s] (fun K => (ALe (vb (x1824.right_ == x1825.left_)) (vb false)) ∧ True) [(2, .v (.c (.ptr 2 0))), (3, .v (.c (.ptr 3 0))), (5, vi (0 : Int)), (17, vb (x1825.right_ == x1824.left_))] [(2, .box false (gC x1824)), (3, .box false (gC x1825))] ⟨ALe.bool hb1826, True.intro⟩ (by kernel_rfl) ?_
        exact Kn.r Fm [(2, .v (.c (.ptr 2 0))), (3, .v (.c (.ptr 3 0))), (5, vi (0 : Int)), (17, vb (x1825.right_ == x1824.left_))] [(2, .box false (gC x1824)), (3, .box false (gC x1825))] (by kernel_rfl) (hJ1828 (x1825.right_ == x1824.left_) h)
theorem shape_Joined_1_spec {F : Nat} {x1842 : Rect} {x1843 : (List Rect)} {x1844 : Int} {r : (List Rect) × Bool} (h : shape_Joined_1 F x1842 x1843 x1844 = some r) :
    FSpec Tryz.prog 115 [gE x1842, .v (.c (.ptr 0 0)), .v (.c (.ptr 1 0))] [(0, .box false [.ap 60]), (1, .box false [ci x1844]), (60, AP x1843)] (vb r.2) [(0, .box false [.ap 70]), (1, .box false [ci x1844]), (70, AP (α := Rect) r.1)] := by
  refine FSpec.intro prog_mixed prog_lay Tryz.func115 rfl (by kernel_rfl) fun C Fm => ?_
  unfold shape_Joined_1 at h
  refine Kn.re Fm [(960, 60)] [(0, gE x1842), (1, .v (.c (.ptr 0 0))), (2, .v (.c (.ptr 1 0)))] [(0, .box false [.ap 960]), (1, .box false [ci x1844]), (960, AP x1843)] (by kernel_rfl) (by kernel_rfl) (by kernel_rfl) (by kernel_rfl) ?_
  refine AW.sg0 Fm 2 [(1, .v (.c (.ptr 0 0))), (2, .v (.c (.ptr 1 0))), (3, .v (.c (.ptr 3 0)))] [(0, .box false [.ap 960]), (1, .box false [ci x1844]), (3, .box false (gC x1842)), (960, AP x1843)] (by kernel_rfl) ?_
  refine AW.join (r := r) (fun z : Bool => shape_Joined_1_k0 F x1842 x1843 z) (fun z => [(1, .v (.c (.ptr 0 0))), (3, .v (.c (.ptr 3 0))), (5, vb z)]) (fun z => [(0, .box false [.ap 960]), (1, .box false [ci x1844]), (3, .box false (gC x1842)), (960, AP x1843)]) (fun v1848 h => ?_) (fun J1849 hJ1849 => ?_)
  · have h : shape_Joined_1_k0 F x1842 x1843 v1848 = some r := h
    refine AW.join (r := r) (fun z : (List Rect) => shape_Joined_1_k1 F v1848 z) (fun z => [(5, vb v1848)]) (fun z => [(0, .box false [.ap 17]), (1, .box false [ci x1844]), (17, AP z)]) (fun v1852 h => ?_) (fun J1853 hJ1853 => ?_)
    · have h : shape_Joined_1_k1 F v1848 v1852 = some r := h
      refine AW.sg0 Fm 2 [(4, vb v1848)] [(0, .box false [.ap 17]), (1, .box false [ci x1844]), (17, AP v1852)] (by kernel_rfl) ?_
      refine AW.ret ?_
      obtain rfl := Option.some.inj h
      exact Kn.re Fm [(70, 17)] [(4, vb v1848)] [(0, .box false [.ap 70]), (1, .box false [ci x1844]), (70, AP v1852)] (by kernel_rfl) (by kernel_rfl) (by kernel_rfl) (by kernel_rfl) (Kn.dn Fm (by kernel_rfl))
    · refine AW.sg0 Fm 1 [(1, .v (.c (.ptr 0 0))), (3, .v (.c (.ptr 3 0))), (5, vb v1848), (13, vb v1848)] [(0, .box false [.ap 960]), (1, .box false [ci x1844]), (3, .box false (gC x1842)), (960, AP x1843)] (by kernel_rfl) ?_
      refine AW.cond (b := v1848) (by kernel_rfl) (fun hb1850 => ?_) (fun hb1850 => ?_)
      · have h := br_t h hb1850
        refine Kn.r Fm [(1, .v (.c (.ptr 0 0))), (3, .v (.c (.ptr 3 0))), (5, vb v1848), (13, vb v1848)] [(960, AP x1843), (0, .box false [.ap 960]), (1, .box false [ci x1844]), (3, .box false (gC x1842))] (by kernel_rfl) ?_
        refine Kn.ap_split (by kernel_rfl) ?_ ?_
        · refine Kn.r Fm [(1, .v (.c (.ptr 0 0))), (3, .v (.c (.ptr 3 0))), (5, vb v1848), (13, vb v1848)] [(0, .box false [.own 960]), (1, .box false [ci x1844]), (3, .box false (gC x1842)), (960, AO x1843)] (by kernel_rfl) ?_
          obtain ⟨hg1851, h⟩ := gd_some h
          refine AW.g Fm [.s, .s, .w (AL (α := Rect) ([x1842] : List Rect)), .s, .s] (fun K => (ALe (.v (.c (.d (.lst 1 (litF 4 [.int .i64 x1842.left_, .int .i64 x1842.low_, .int .i64 x1842.right_, .int .i64 x1842.high_]))))) (AL (α := Rect) ([x1842] : List Rect))) ∧ ((List.length (α := Rect) x1843) + (List.length (α := Rect) ([x1842] : List Rect)) ≤ LIM ∧ (∀ j, j < List.length (α := Rect) ([x1842] : List Rect) → ((LF (α := Rect) ([x1842] : List Rect)) j).length = 4) ∧ (True)) ∧ True) [(5, vb v1848)] [(0, .box false [.own 17]), (1, .box false [ci x1844]), (17, .arr 4 ((List.length (α := Rect) x1843) + (List.length (α := Rect) ([x1842] : List Rect))) (appF (List.length (α := Rect) x1843) (LF (α := Rect) x1843) (LF (α := Rect) ([x1842] : List Rect))))] ⟨ALe.lst (.lit ([x1842] : List Rect) (by kernel_rfl)), ⟨hg1851, (Is.refl ([x1842] : List Rect) : Is (List.length (α := Rect) ([x1842] : List Rect)) (LF (α := Rect) ([x1842] : List Rect)) ([x1842] : List Rect)).len, True.intro⟩, True.intro⟩ (by kernel_rfl) ?_
          refine Kn.wk [(5, vb v1848)] [(0, .box false [.own 17]), (1, .box false [ci x1844]), (17, AO (α := Rect) (x1843 ++ ([x1842] : List Rect)))] (FE.refl _) (⟨rfl, OLe.refl _, ⟨rfl, OLe.refl _, ⟨rfl, OLe.is (Is.app (Is.refl x1843) (Is.refl ([x1842] : List Rect))), True.intro⟩⟩⟩) ?_
          refine Kn.r Fm [(5, vb v1848)] [(0, .box false [.own 17]), (1, .box false [ci x1844]), (17, AO (α := Rect) (x1843 ++ ([x1842] : List Rect)))] (by kernel_rfl) ?_
          refine Kn.wk [(5, vb v1848)] [(0, .box false [.ap 17]), (1, .box false [ci x1844]), (17, AP (α := Rect) (x1843 ++ ([x1842] : List Rect)))] ⟨rfl, ALe.refl _, True.intro⟩ ⟨rfl, OLe.box ⟨CLe.ap 17, True.intro⟩, ⟨rfl, OLe.refl _, ⟨rfl, OLe.ap _ _ _, True.intro⟩⟩⟩ ?_
          exact Kn.r Fm [(5, vb v1848)] [(0, .box false [.ap 17]), (1, .box false [ci x1844]), (17, AP (x1843 ++ ([x1842] : List Rect)))] (by kernel_rfl) (hJ1853 (x1843 ++ ([x1842] : List Rect)) h)
        · refine Kn.r Fm [(1, .v (.c (.ptr 0 0))), (3, .v (.c (.ptr 3 0))), (5, vb v1848), (13, vb v1848)] [(0, .box false [.fl (List.length (α := Rect) x1843) (LF (α := Rect) x1843)]), (1, .box false [ci x1844]), (3, .box false (gC x1842))] (by kernel_rfl) ?_
          obtain ⟨hg1851, h⟩ := gd_some h
          refine AW.g Fm [.s, .s, .w (AL (α := Rect) ([x1842] : List Rect)), .k (rE { v := .v (.c (.own 17)), new := some (.arr 4 ((List.length (α := Rect) x1843) + (List.length (α := Rect) ([x1842] : List Rect))) (appF (List.length (α := Rect) x1843) (LF (α := Rect) x1843) (LF (α := Rect) ([x1842] : List Rect)))) }), .s] (fun K => (ALe (.v (.c (.d (.lst 1 (litF 4 [.int .i64 x1842.left_, .int .i64 x1842.low_, .int .i64 x1842.right_, .int .i64 x1842.high_]))))) (AL (α := Rect) ([x1842] : List Rect))) ∧ K 3 ∧ True) [(5, vb v1848)] [(0, .box false [.own 17]), (1, .box false [ci x1844]), (17, .arr 4 ((List.length (α := Rect) x1843) + (List.length (α := Rect) ([x1842] : List Rect))) (appF (List.length (α := Rect) x1843) (LF (α := Rect) x1843) (LF (α := Rect) ([x1842] : List Rect))))] ⟨ALe.lst (.lit ([x1842] : List Rect) (by kernel_rfl)), KAt.fappend (n := List.length (α := Rect) x1843) (m := List.length (α := Rect) ([x1842] : List Rect)) (f := LF (α := Rect) x1843) (g := LF (α := Rect) ([x1842] : List Rect)) prog_lay slT23 rfl rfl (by kernel_rfl) (by kernel_rfl) (by kernel_rfl) (Nat.succ_pos _) hg1851 (Is.refl ([x1842] : List Rect) : Is (List.length (α := Rect) ([x1842] : List Rect)) (LF (α := Rect) ([x1842] : List Rect)) ([x1842] : List Rect)).len (Is.refl x1843 : Is (List.length (α := Rect) x1843) (LF (α := Rect) x1843) x1843).len, True.intro⟩ (by kernel_rfl) ?_
          refine Kn.wk [(5, vb v1848)] [(0, .box false [.own 17]), (1, .box false [ci x1844]), (17, AO (α := Rect) (x1843 ++ ([x1842] : List Rect)))] (FE.refl _) (⟨rfl, OLe.refl _, ⟨rfl, OLe.refl _, ⟨rfl, OLe.is (Is.app (Is.refl x1843) (Is.refl ([x1842] : List Rect))), True.intro⟩⟩⟩) ?_
          refine Kn.r Fm [(5, vb v1848)] [(0, .box false [.own 17]), (1, .box false [ci x1844]), (17, AO (α := Rect) (x1843 ++ ([x1842] : List Rect)))] (by kernel_rfl) ?_
          refine Kn.wk [(5, vb v1848)] [(0, .box false [.ap 17]), (1, .box false [ci x1844]), (17, AP (α := Rect) (x1843 ++ ([x1842] : List Rect)))] ⟨rfl, ALe.refl _, True.intro⟩ ⟨rfl, OLe.box ⟨CLe.ap 17, True.intro⟩, ⟨rfl, OLe.refl _, ⟨rfl, OLe.ap _ _ _, True.intro⟩⟩⟩ ?_
          exact Kn.r Fm [(5, vb v1848)] [(0, .box false [.ap 17]), (1, .box false [ci x1844]), (17, AP (x1843 ++ ([x1842] : List Rect)))] (by kernel_rfl) (hJ1853 (x1843 ++ ([x1842] : List Rect)) h)
      · have h := br_f h hb1850
        refine AW.skip ?_
        exact Kn.re Fm [(17, 960)] [(5, vb v1848)] [(0, .box false [.ap 17]), (1, .box false [ci x1844]), (17, AP x1843)] (by kernel_rfl) (by kernel_rfl) (by kernel_rfl) (by kernel_rfl) (hJ1853 x1843 h)
  · refine Kn.r Fm [(1, .v (.c (.ptr 0 0))), (2, .v (.c (.ptr 1 0))), (3, .v (.c (.ptr 3 0)))] [(960, AP x1843), (0, .box false [.ap 960]), (1, .box false [ci x1844]), (3, .box false (gC x1842))] (by kernel_rfl) ?_
    refine Kn.ap_split (by kernel_rfl) ?_ ?_
    · refine Kn.r Fm [(1, .v (.c (.ptr 0 0))), (2, .v (.c (.ptr 1 0))), (3, .v (.c (.ptr 3 0)))] [(0, .box false [.own 960]), (1, .box false [ci x1844]), (3, .box false (gC x1842)), (960, AO x1843)] (by kernel_rfl) ?_
      obtain ⟨hg1845, h⟩ := gd_some h
      obtain ⟨z1846, hz1847, h⟩ := bd_some h
      refine AW.g Fm [.s, .s, .s, .s, .s, .k (cE [] [] (vi z1846) [] []), .s, .s] (fun K => (0 ≤ x1844 ∧ x1844 < ((List.length x1843 : Nat) : Int)) ∧ (x1844.toNat < List.length x1843) ∧ K 5 ∧ True) [(1, .v (.c (.ptr 0 0))), (3, .v (.c (.ptr 3 0))), (5, vb (decide ((0 : Int) < z1846)))] [(0, .box false [.own 960]), (1, .box false [ci x1844]), (3, .box false (gC x1842)), (960, AO x1843)] ⟨hg1845, (toNat_lt hg1845), KAt.cl (args := [.v (.g [ci ((gl x1843 x1844.toNat).left_), ci ((gl x1843 x1844.toNat).low_), ci ((gl x1843 x1844.toNat).right_), ci ((gl x1843 x1844.toNat).high_)]), gE x1842]) (shape_common_spec hz1847) Tryz.call66 [] rfl (by kernel_rfl), True.intro⟩ (by kernel_rfl) ?_
      refine Kn.r Fm [(1, .v (.c (.ptr 0 0))), (3, .v (.c (.ptr 3 0))), (5, vb (decide ((0 : Int) < z1846)))] [(0, .box false [.own 960]), (1, .box false [ci x1844]), (3, .box false (gC x1842)), (960, AO x1843)] (by kernel_rfl) ?_
      refine Kn.wk [(1, .v (.c (.ptr 0 0))), (3, .v (.c (.ptr 3 0))), (5, vb (decide ((0 : Int) < z1846)))] [(0, .box false [.ap 960]), (1, .box false [ci x1844]), (3, .box false (gC x1842)), (960, AP x1843)] ⟨rfl, ALe.refl _, ⟨rfl, ALe.refl _, ⟨rfl, ALe.refl _, True.intro⟩⟩⟩ ⟨rfl, OLe.box ⟨CLe.ap 960, True.intro⟩, ⟨rfl, OLe.refl _, ⟨rfl, OLe.refl _, ⟨rfl, OLe.ap _ _ _, True.intro⟩⟩⟩⟩ ?_
      exact Kn.r Fm [(1, .v (.c (.ptr 0 0))), (3, .v (.c (.ptr 3 0))), (5, vb (decide ((0 : Int) < z1846)))] [(0, .box false [.ap 960]), (1, .box false [ci x1844]), (3, .box false (gC x1842)), (960, AP x1843)] (by kernel_rfl) (hJ1849 (decide ((0 : Int) < z1846)) h)
    · refine Kn.r Fm [(1, .v (.c (.ptr 0 0))), (2, .v (.c (.ptr 1 0))), (3, .v (.c (.ptr 3 0)))] [(0, .box false [.fl (List.length (α := Rect) x1843) (LF (α := Rect) x1843)]), (1, .box false [ci x1844]), (3, .box false (gC x1842))] (by kernel_rfl) ?_
      obtain ⟨hg1845, h⟩ := gd_some h
      obtain ⟨z1846, hz1847, h⟩ := bd_some h
      refine AW.g Fm [.s, .s, .s, .s, .s, .k (cE [] [] (vi z1846) [] []), .s, .s] (fun K => (0 ≤ x1844 ∧ x1844 < ((List.length x1843 : Nat) : Int)) ∧ K 5 ∧ True) [(1, .v (.c (.ptr 0 0))), (3, .v (.c (.ptr 3 0))), (5, vb (decide ((0 : Int) < z1846)))] [(0, .box false [.fl (List.length (α := Rect) x1843) (LF (α := Rect) x1843)]), (1, .box false [ci x1844]), (3, .box false (gC x1842))] ⟨hg1845, KAt.cl (args := [.v (.g [ci ((gl x1843 x1844.toNat).left_), ci ((gl x1843 x1844.toNat).low_), ci ((gl x1843 x1844.toNat).right_), ci ((gl x1843 x1844.toNat).high_)]), gE x1842]) (shape_common_spec hz1847) Tryz.call66 [] rfl (by kernel_rfl), True.intro⟩ (by kernel_rfl) ?_
      refine Kn.r Fm [(1, .v (.c (.ptr 0 0))), (3, .v (.c (.ptr 3 0))), (5, vb (decide ((0 : Int) < z1846)))] [(0, .box false [.fl (List.length (α := Rect) x1843) (LF (α := Rect) x1843)]), (1, .box false [ci x1844]), (3, .box false (gC x1842))] (by kernel_rfl) ?_
      refine Kn.ap0 Fm (k := 960) (es := 4) (j := 0) (by kernel_rfl) (by kernel_rfl) (by simp) rfl ?_
      refine Kn.r Fm [(1, .v (.c (.ptr 0 0))), (3, .v (.c (.ptr 3 0))), (5, vb (decide ((0 : Int) < z1846)))] [(0, .box false [.ap 960]), (1, .box false [ci x1844]), (3, .box false (gC x1842)), (960, AP x1843)] (by kernel_rfl) ?_
      exact Kn.r Fm [(1, .v (.c (.ptr 0 0))), (3, .v (.c (.ptr 3 0))), (5, vb (decide ((0 : Int) < z1846)))] [(0, .box false [.ap 960]), (1, .box false [ci x1844]), (3, .box false (gC x1842)), (960, AP x1843)] (by kernel_rfl) (hJ1849 (decide ((0 : Int) < z1846)) h)
theorem slices_Clone_Rect_O_spec {F : Nat} {x1892 : (List Rect)} {r : (List Rect)} (h : slices_Clone_Rect_O F x1892 = some r) :
    FSpec Tryz.prog 113 [AL x1892] [] (.v (.c (.own 100))) [(100, AO (α := Rect) r)] := by
  refine FSpec.intro prog_mixed prog_lay Tryz.func113 rfl (by kernel_rfl) fun C Fm => ?_
  unfold slices_Clone_Rect_O at h
  refine AW.sg Fm [.m] (fun K => True) [(0, AL x1892)] [] True.intro (by kernel_rfl) ?_
  refine AW.seq ?_
  refine AW.sg Fm [.s, .k (sE (nb (List.length x1892)))] (fun K => K 1 ∧ True) [(0, AL x1892), (4, .v (.c (.sem (nbP (List.length x1892)))))] [] ⟨KAt.nil (t := 23) (el := 73) (n := List.length x1892) (by kernel_rfl) rfl rfl (by kernel_rfl) (by kernel_rfl) (by kernel_rfl), True.intro⟩ (by kernel_rfl) ?_
  refine AW.condNil (n := List.length x1892) (by kernel_rfl) (fun hn1893 => ?_) ?_
  · have h := brN_t h hn1893
    refine AW.sg Fm [.m] (fun K => True) [(2, .v (.c (.own 2)))] [(2, .arr 4 (0) (fun _ => []))] True.intro (by kernel_rfl) ?_
    refine Kn.wk [(2, .v (.c (.own 2)))] [(2, AO (α := Rect) ([] : List Rect))] (FE.refl _) (⟨rfl, OLe.is ((Is.nil (α := Rect))), True.intro⟩) ?_
    refine AW.ret ?_
    obtain rfl := Option.some.inj h
    exact Kn.re Fm [(100, 2)] [(2, .v (.c (.own 100)))] [(100, AO (α := Rect) ([] : List Rect))] (by kernel_rfl) (by kernel_rfl) (by kernel_rfl) (by kernel_rfl) (Kn.dn Fm (by kernel_rfl))
  · have h := brN_f h
    refine AW.skip ?_
    obtain ⟨hg1894, h⟩ := gd_some h
    refine AW.sg Fm [.m, .s, .s, .s] (fun K => ((0) + (List.length (α := Rect) x1892) ≤ LIM ∧ (∀ j, j < List.length (α := Rect) x1892 → ((LF (α := Rect) x1892) j).length = 4) ∧ (True)) ∧ True) [(2, .v (.c (.own 7)))] [(7, .arr 4 ((0) + (List.length (α := Rect) x1892)) (appF (0) (litF 4 []) (LF (α := Rect) x1892)))] ⟨⟨hg1894, (Is.refl x1892 : Is (List.length (α := Rect) x1892) (LF (α := Rect) x1892) x1892).len, True.intro⟩, True.intro⟩ (by kernel_rfl) ?_
    refine Kn.wk [(2, .v (.c (.own 7)))] [(7, AO (α := Rect) (([] : List Rect) ++ x1892))] (FE.refl _) (⟨rfl, OLe.is (Is.app (Is.lit ([] : List Rect) (by kernel_rfl)) (Is.refl x1892)), True.intro⟩) ?_
    refine AW.ret ?_
    obtain rfl := Option.some.inj h
    exact Kn.re Fm [(100, 7)] [(2, .v (.c (.own 100)))] [(100, AO (α := Rect) (([] : List Rect) ++ x1892))] (by kernel_rfl) (by kernel_rfl) (by kernel_rfl) (by kernel_rfl) (Kn.dn Fm (by kernel_rfl))
theorem slices_IndexFunc_Rect_J_spec {F : Nat} {x1895 : (List Rect)} {x1896 : (List Rect)} {x1897 : Int} {r : (List Rect) × (List Rect) × Int} (h : slices_IndexFunc_Rect_J F x1895 x1896 x1897 = some r) :
    FSpec Tryz.prog 155 [.v (.c (.own 0)), .v (.c (.clo 115 [50, 51]))] [(0, AO x1895), (50, .box false [.ap 60]), (51, .box false [ci x1897]), (60, AP x1896)] (vi r.2.2) [(0, AO (α := Rect) r.1), (50, .box false [.ap 70]), (51, .box false [ci x1897]), (70, AP (α := Rect) r.2.1)] := by
  refine FSpec.intro prog_mixed prog_lay Tryz.func155 rfl (by kernel_rfl) fun C Fm => ?_
  unfold slices_IndexFunc_Rect_J at h
  refine Kn.re Fm [(960, 60)] [(0, .v (.c (.own 0))), (1, .v (.c (.clo 115 [50, 51])))] [(0, AO x1895), (50, .box false [.ap 960]), (51, .box false [ci x1897]), (960, AP x1896)] (by kernel_rfl) (by kernel_rfl) (by kernel_rfl) (by kernel_rfl) ?_
  refine AW.sg0 Fm 1 [(0, .v (.c (.own 0))), (1, .v (.c (.clo 115 [50, 51])))] [(0, AO x1895), (50, .box false [.ap 960]), (51, .box false [ci x1897]), (960, AP x1896)] (by kernel_rfl) ?_
  refine AW.join (r := r) (fun z : (List Rect) => slices_IndexFunc_Rect_J_k1 F x1895 z) (fun z => []) (fun z => [(0, AO x1895), (50, .box false [.ap 960]), (51, .box false [ci x1897]), (960, AP z)]) (fun v1914 h => ?_) (fun J1915 hJ1915 => ?_)
  · have h : slices_IndexFunc_Rect_J_k1 F x1895 v1914 = some r := h
    refine AW.sg0 Fm 1 [(4, vi (-1 : Int))] [(0, AO x1895), (50, .box false [.ap 960]), (51, .box false [ci x1897]), (960, AP v1914)] (by kernel_rfl) ?_
    refine AW.ret ?_
    obtain rfl := Option.some.inj h
    exact Kn.re Fm [(70, 960)] [(4, vi (-1 : Int))] [(0, AO x1895), (50, .box false [.ap 70]), (51, .box false [ci x1897]), (70, AP v1914)] (by kernel_rfl) (by kernel_rfl) (by kernel_rfl) (by kernel_rfl) (Kn.dn Fm (by kernel_rfl))
  · refine AW.sg0 Fm 3 [(0, .v (.c (.own 0))), (1, .v (.c (.clo 115 [50, 51]))), (7, vi ((List.length x1895 : Nat) : Int)), (8, vi (0 : Int))] [(0, AO x1895), (50, .box false [.ap 960]), (51, .box false [ci x1897]), (960, AP x1896)] (by kernel_rfl) ?_
    refine AW.block ?_
    refine Kn.r Fm [(0, .v (.c (.own 0))), (1, .v (.c (.clo 115 [50, 51]))), (7, vi ((List.length x1895 : Nat) : Int)), (8, vi (0 : Int))] [(0, AO x1895), (50, .box false [.ap 960]), (51, .box false [ci x1897]), (960, AP x1896)] (by kernel_rfl) ?_
    have h : loopN (fun again (z : Int × (List Rect)) => slices_IndexFunc_Rect_J_b0 F x1895 x1897 again z.1 z.2) F ((0 : Int), x1896) = some r := h
    refine AW.loopF (E' := fun z => [(0, .v (.c (.own 0))), (1, .v (.c (.clo 115 [50, 51]))), (7, vi ((List.length x1895 : Nat) : Int)), (8, vi z.1)]) (S' := fun z => [(0, AO x1895), (50, .box false [.ap 960]), (51, .box false [ci x1897]), (960, AP z.2)]) (fun ag_slices_IndexFunc_Rect_J_b0 z J1907 hJ1907 h => ?_) h
    obtain ⟨v1905, v1906⟩ := z
    have h : slices_IndexFunc_Rect_J_b0 F x1895 x1897 ag_slices_IndexFunc_Rect_J_b0 v1905 v1906 = some r := h
    refine AW.sg0 Fm 1 [(0, .v (.c (.own 0))), (1, .v (.c (.clo 115 [50, 51]))), (7, vi ((List.length x1895 : Nat) : Int)), (8, vi v1905), (9, vb (decide (v1905 < ((List.length x1895 : Nat) : Int))))] [(0, AO x1895), (50, .box false [.ap 960]), (51, .box false [ci x1897]), (960, AP v1906)] (by kernel_rfl) ?_
    refine AW.seq ?_
    refine AW.cond (b := (decide (v1905 < ((List.length x1895 : Nat) : Int)))) (by kernel_rfl) (fun hb1908 => ?_) (fun hb1908 => ?_)
    · have h := br_t h hb1908
      refine AW.skip ?_
      refine AW.seq ?_
      refine AW.block ?_
      refine AW.sg0 Fm 2 [(0, .v (.c (.own 0))), (1, .v (.c (.clo 115 [50, 51]))), (5, vi v1905), (7, vi ((List.length x1895 : Nat) : Int)), (8, vi v1905)] [(0, AO x1895), (50, .box false [.ap 960]), (51, .box false [ci x1897]), (960, AP v1906)] (by kernel_rfl) ?_
      refine AW.seq ?_
      obtain ⟨hg1909, h⟩ := gd_some h
      obtain ⟨z1910, hz1911, h⟩ := bd_some h
      refine AW.g Fm [.s, .s, .s, .s, .s, .k (cE [(0, 50), (60, 960), (70, 1016), (1, 51)] [] (vb z1910.2) [(0, .box false [.ap 60]), (1, .box false [ci x1897]), (60, AP v1906)] [(0, .box false [.ap 70]), (1, .box false [ci x1897]), (70, AP z1910.1)])] (fun K => (0 ≤ v1905 ∧ v1905 < ((List.length x1895 : Nat) : Int)) ∧ (v1905.toNat < List.length x1895) ∧ K 5 ∧ True) [(0, .v (.c (.own 0))), (1, .v (.c (.clo 115 [50, 51]))), (5, vi v1905), (7, vi ((List.length x1895 : Nat) : Int)), (8, vi v1905), (16, vb z1910.2)] [(0, AO x1895), (50, .box false [.ap 1016]), (51, .box false [ci x1897]), (1016, AP z1910.1)] ⟨hg1909, (toNat_lt hg1909), KAt.clC (args := [.v (.g [ci ((gl x1895 v1905.toNat).left_), ci ((gl x1895 v1905.toNat).low_), ci ((gl x1895 v1905.toNat).right_), ci ((gl x1895 v1905.toNat).high_)])]) (caps := [0, 1]) (shape_Joined_1_spec hz1911) Tryz.call115 [(0, 50), (60, 960), (70, 1016), (1, 51)] rfl (by kernel_rfl), True.intro⟩ (by kernel_rfl) ?_
      refine AW.cond (b := z1910.2) (by kernel_rfl) (fun hb1912 => ?_) (fun hb1912 => ?_)
      · have h := br_t h hb1912
        refine AW.sg0 Fm 2 [(4, vi v1905)] [(0, AO x1895), (50, .box false [.ap 1016]), (51, .box false [ci x1897]), (1016, AP z1910.1)] (by kernel_rfl) ?_
        refine AW.ret ?_
        obtain rfl := Option.some.inj h
        exact Kn.re Fm [(70, 1016)] [(4, vi v1905)] [(0, AO x1895), (50, .box false [.ap 70]), (51, .box false [ci x1897]), (70, AP z1910.1)] (by kernel_rfl) (by kernel_rfl) (by kernel_rfl) (by kernel_rfl) (Kn.dn Fm (by kernel_rfl))
      · have h := br_f h hb1912
        refine AW.skip ?_
        obtain ⟨hg1913, h⟩ := gd_some h
        refine AW.g Fm [.s, .s] (fun K => (I64 (v1905 + (1 : Int)) ∧ True) ∧ True) [(0, .v (.c (.own 0))), (1, .v (.c (.clo 115 [50, 51]))), (7, vi ((List.length x1895 : Nat) : Int)), (8, vi (v1905 + (1 : Int)))] [(0, AO x1895), (50, .box false [.ap 1016]), (51, .box false [ci x1897]), (1016, AP z1910.1)] ⟨⟨hg1913, True.intro⟩, True.intro⟩ (by kernel_rfl) ?_
        exact Kn.re Fm [(960, 1016)] [(0, .v (.c (.own 0))), (1, .v (.c (.clo 115 [50, 51]))), (7, vi ((List.length x1895 : Nat) : Int)), (8, vi (v1905 + (1 : Int)))] [(0, AO x1895), (50, .box false [.ap 960]), (51, .box false [ci x1897]), (960, AP z1910.1)] (by kernel_rfl) (by kernel_rfl) (by kernel_rfl) (by kernel_rfl) (hJ1907 ((v1905 + (1 : Int)), z1910.1) h)
    · have h := br_f h hb1908
      refine AW.exit ?_
      exact Kn.r Fm [] [(0, AO x1895), (50, .box false [.ap 960]), (51, .box false [ci x1897]), (960, AP v1906)] (by kernel_rfl) (hJ1915 v1906 h)
theorem slices_DeleteFunc_Rect_J_spec {F : Nat} {x1916 : (List Rect)} {x1917 : (List Rect)} {x1918 : Int} {r : (List Rect) × (List Rect)} (h : slices_DeleteFunc_Rect_J F x1916 x1917 x1918 = some r) :
    FSpec Tryz.prog 114 [.v (.c (.own 0)), .v (.c (.clo 115 [50, 51]))] [(0, AO x1916), (50, .box false [.ap 60]), (51, .box false [ci x1918]), (60, AP x1917)] (.v (.c (.own 100))) [(50, .box false [.ap 70]), (51, .box false [ci x1918]), (70, AP (α := Rect) r.1), (100, AO (α := Rect) r.2)] := by
  refine FSpec.intro prog_mixed prog_lay Tryz.func114 rfl (by kernel_rfl) fun C Fm => ?_
  unfold slices_DeleteFunc_Rect_J at h
  refine Kn.re Fm [(960, 60)] [(0, .v (.c (.own 0))), (1, .v (.c (.clo 115 [50, 51])))] [(0, AO x1916), (50, .box false [.ap 960]), (51, .box false [ci x1918]), (960, AP x1917)] (by kernel_rfl) (by kernel_rfl) (by kernel_rfl) (by kernel_rfl) ?_
  refine AW.sg Fm [.m] (fun K => True) [(0, .v (.c (.own 0))), (1, .v (.c (.clo 115 [50, 51])))] [(0, AO x1916), (50, .box false [.ap 960]), (51, .box false [ci x1918]), (960, AP x1917)] True.intro (by kernel_rfl) ?_
  refine AW.seq ?_
  obtain ⟨z1919, hz1920, h⟩ := bd_some h
  refine AW.g Fm [.s, .s, .k (cE [(0, 0), (50, 50), (60, 960), (70, 1010), (51, 51)] [] (vi z1919.2.2) [(0, AO x1916), (50, .box false [.ap 60]), (51, .box false [ci x1918]), (60, AP x1917)] [(0, AO z1919.1), (50, .box false [.ap 70]), (51, .box false [ci x1918]), (70, AP z1919.2.1)]), .s] (fun K => K 2 ∧ True) [(0, .v (.c (.own 0))), (1, .v (.c (.clo 115 [50, 51]))), (5, vi z1919.2.2)] [(0, AO z1919.1), (50, .box false [.ap 1010]), (51, .box false [ci x1918]), (1010, AP z1919.2.1)] ⟨KAt.cl (args := [.v (.c (.own 0)), .v (.c (.clo 115 [50, 51]))]) (slices_IndexFunc_Rect_J_spec hz1920) Tryz.call155 [(0, 0), (50, 50), (60, 960), (70, 1010), (51, 51)] rfl (by kernel_rfl), True.intro⟩ (by kernel_rfl) ?_
  refine AW.seq ?_
  refine AW.sg0 Fm 2 [(0, .v (.c (.own 0))), (1, .v (.c (.clo 115 [50, 51]))), (5, vi z1919.2.2), (12, vb (z1919.2.2 == (-1 : Int)))] [(0, AO z1919.1), (50, .box false [.ap 1010]), (51, .box false [ci x1918]), (1010, AP z1919.2.1)] (by kernel_rfl) ?_
  refine AW.cond (b := (z1919.2.2 == (-1 : Int))) (by kernel_rfl) (fun hb1921 => ?_) (fun hb1921 => ?_)
  · have h := br_t h hb1921
    refine AW.sg0 Fm 2 [(4, .v (.c (.own 0)))] [(0, AO z1919.1), (50, .box false [.ap 1010]), (51, .box false [ci x1918]), (1010, AP z1919.2.1)] (by kernel_rfl) ?_
    refine AW.ret ?_
    obtain rfl := Option.some.inj h
    exact Kn.re Fm [(70, 1010), (100, 0)] [(4, .v (.c (.own 100)))] [(50, .box false [.ap 70]), (51, .box false [ci x1918]), (70, AP z1919.2.1), (100, AO z1919.1)] (by kernel_rfl) (by kernel_rfl) (by kernel_rfl) (by kernel_rfl) (Kn.dn Fm (by kernel_rfl))
  · have h := br_f h hb1921
    refine AW.skip ?_
    refine AW.join (r := r) (fun z : Int × (List Rect) × (List Rect) => slices_DeleteFunc_Rect_J_k2 F z.1 z.2.1 z.2.2) (fun z => [(0, .v (.c (.own 0))), (5, vi z.1)]) (fun z => [(0, AO z.2.1), (50, .box false [.ap 1010]), (51, .box false [ci x1918]), (1010, AP z.2.2)]) (fun z h => ?_) (fun J1956 hJ1956 => ?_)
    · obtain ⟨v1953, v1954, v1955⟩ := z
      have h : slices_DeleteFunc_Rect_J_k2 F v1953 v1954 v1955 = some r := h
      obtain ⟨hg1957, h⟩ := gd_some h
      refine AW.sg Fm [.s, .s, .k (rE { v := .v (.c (.sub 0 4 (0 + (v1953).toNat) ((List.length (α := Rect) v1954) - (v1953).toNat))) }), .k (rE { v := .any, upd := some (0, .arr 4 (List.length (α := Rect) v1954) (fun i => if (0 + (v1953).toNat) ≤ i ∧ i < (0 + (v1953).toNat) + ((List.length (α := Rect) v1954) - (v1953).toNat) then (fun _ => [.int .i64 0, .int .i64 0, .int .i64 0, .int .i64 0]) (i - (0 + (v1953).toNat)) else (LF (α := Rect) v1954) i)) })] (fun K => K 2 ∧ K 3 ∧ True) [(0, .v (.c (.own 0))), (5, vi v1953)] [(0, .arr 4 (List.length (α := Rect) v1954) (fun i => if (0 + (v1953).toNat) ≤ i ∧ i < (0 + (v1953).toNat) + ((List.length (α := Rect) v1954) - (v1953).toNat) then (fun _ => [.int .i64 0, .int .i64 0, .int .i64 0, .int .i64 0]) (i - (0 + (v1953).toNat)) else (LF (α := Rect) v1954) i)), (50, .box false [.ap 1010]), (51, .box false [ci x1918]), (1010, AP v1955)] ⟨KAt.vslice (l := (some v1953)) (u := none) (id := 0) (lo0 := 0) (n := (List.length (α := Rect) v1954)) (N := List.length (α := Rect) v1954) (f := LF (α := Rect) v1954) prog_lay slT23 rfl rfl (by kernel_rfl) (by kernel_rfl) (by kernel_rfl) (by kernel_rfl) (by kernel_rfl) hg1957 (by kernel_rfl), KAt.vclear (id := 0) (lo0 := (0 + (v1953).toNat)) (n := ((List.length (α := Rect) v1954) - (v1953).toNat)) (N := List.length (α := Rect) v1954) (f := (LF (α := Rect) v1954)) prog_lay slT23 [.int .i64 0, .int .i64 0, .int .i64 0, .int .i64 0] [.int .i64 0, .int .i64 0, .int .i64 0, .int .i64 0] ⟨DLe.refl _, DLe.refl _, DLe.refl _, DLe.refl _, True.intro⟩ rfl rfl (by kernel_rfl) (Nat.succ_pos _) (by kernel_rfl) (by kernel_rfl) (by kernel_rfl) (by kernel_rfl) rfl, True.intro⟩ (by kernel_rfl) ?_
      refine Kn.wk [(0, .v (.c (.own 0))), (5, vi v1953)] [(0, AO (α := Rect) (clr v1954 (0 + (v1953).toNat) ((List.length (α := Rect) v1954) - (v1953).toNat))), (50, .box false [.ap 1010]), (51, .box false [ci x1918]), (1010, AP v1955)] (FE.refl _) (⟨rfl, OLe.is (Is.clr (l := v1954) (0 + (v1953).toNat) ((List.length (α := Rect) v1954) - (v1953).toNat) (zd := [.int .i64 0, .int .i64 0, .int .i64 0, .int .i64 0]) (by kernel_rfl)), ⟨rfl, OLe.refl _, ⟨rfl, OLe.refl _, ⟨rfl, OLe.refl _, True.intro⟩⟩⟩⟩) ?_
      obtain ⟨hg1958, h⟩ := gd_some h
      refine AW.sg Fm [.s, .s, .m, .s] (fun K => (0 ≤ v1953 ∧ v1953 ≤ ((List.length (clr v1954 (0 + (v1953).toNat) ((List.length (α := Rect) v1954) - (v1953).toNat)) : Nat) : Int)) ∧ True) [(4, .v (.c (.own 41)))] [(41, .arr 4 ((v1953).toNat) (LF (α := Rect) (clr v1954 (0 + (v1953).toNat) ((List.length (α := Rect) v1954) - (v1953).toNat)))), (50, .box false [.ap 1010]), (51, .box false [ci x1918]), (1010, AP v1955)] ⟨hg1958, True.intro⟩ (by kernel_rfl) ?_
      refine Kn.wk [(4, .v (.c (.own 41)))] [(41, AO (α := Rect) ((clr v1954 (0 + (v1953).toNat) ((List.length (α := Rect) v1954) - (v1953).toNat)).take (v1953).toNat)), (50, .box false [.ap 1010]), (51, .box false [ci x1918]), (1010, AP v1955)] (FE.refl _) (⟨rfl, OLe.is (Is.take (Is.refl (clr v1954 (0 + (v1953).toNat) ((List.length (α := Rect) v1954) - (v1953).toNat))) hg1958.2), ⟨rfl, OLe.refl _, ⟨rfl, OLe.refl _, ⟨rfl, OLe.refl _, True.intro⟩⟩⟩⟩) ?_
      refine AW.ret ?_
      obtain rfl := Option.some.inj h
      exact Kn.re Fm [(70, 1010), (100, 41)] [(4, .v (.c (.own 100)))] [(50, .box false [.ap 70]), (51, .box false [ci x1918]), (70, AP v1955), (100, AO (α := Rect) ((clr v1954 (0 + (v1953).toNat) ((List.length (α := Rect) v1954) - (v1953).toNat)).take (v1953).toNat))] (by kernel_rfl) (by kernel_rfl) (by kernel_rfl) (by kernel_rfl) (Kn.dn Fm (by kernel_rfl))
    · obtain ⟨hg1922, h⟩ := gd_some h
      refine AW.sg Fm [.s, .s, .s] (fun K => (I64 (z1919.2.2 + (1 : Int)) ∧ True) ∧ True) [(0, .v (.c (.own 0))), (1, .v (.c (.clo 115 [50, 51]))), (5, vi z1919.2.2), (6, vi (z1919.2.2 + (1 : Int)))] [(0, AO z1919.1), (50, .box false [.ap 1010]), (51, .box false [ci x1918]), (1010, AP z1919.2.1)] ⟨⟨hg1922, True.intro⟩, True.intro⟩ (by kernel_rfl) ?_
      refine AW.block ?_
      refine Kn.r Fm [(0, .v (.c (.own 0))), (1, .v (.c (.clo 115 [50, 51]))), (5, vi z1919.2.2), (6, vi (z1919.2.2 + (1 : Int)))] [(0, AO z1919.1), (50, .box false [.ap 1010]), (51, .box false [ci x1918]), (1010, AP z1919.2.1)] (by kernel_rfl) ?_
      have h : loopN (fun again (z : Int × Int × (List Rect) × (List Rect)) => slices_DeleteFunc_Rect_J_b0 F x1918 again z.1 z.2.1 z.2.2.1 z.2.2.2) F (z1919.2.2, (z1919.2.2 + (1 : Int)), z1919.1, z1919.2.1) = some r := h
      refine AW.loopF (E' := fun z => [(0, .v (.c (.own 0))), (1, .v (.c (.clo 115 [50, 51]))), (5, vi z.1), (6, vi z.2.1)]) (S' := fun z => [(0, AO z.2.2.1), (50, .box false [.ap 1010]), (51, .box false [ci x1918]), (1010, AP z.2.2.2)]) (fun ag_slices_DeleteFunc_Rect_J_b0 z J1940 hJ1940 h => ?_) h
      obtain ⟨v1936, v1937, v1938, v1939⟩ := z
      have h : slices_DeleteFunc_Rect_J_b0 F x1918 ag_slices_DeleteFunc_Rect_J_b0 v1936 v1937 v1938 v1939 = some r := h
      refine AW.seq ?_
      refine AW.sg0 Fm 4 [(0, .v (.c (.own 0))), (1, .v (.c (.clo 115 [50, 51]))), (5, vi v1936), (6, vi v1937), (19, vb (decide (v1937 < ((List.length v1938 : Nat) : Int))))] [(0, AO v1938), (50, .box false [.ap 1010]), (51, .box false [ci x1918]), (1010, AP v1939)] (by kernel_rfl) ?_
      refine AW.cond (b := (decide (v1937 < ((List.length v1938 : Nat) : Int)))) (by kernel_rfl) (fun hb1941 => ?_) (fun hb1941 => ?_)
      · have h := br_t h hb1941
        refine AW.skip ?_
        refine AW.join (r := r) (fun z : Int × (List Rect) × (List Rect) => slices_DeleteFunc_Rect_J_k1 F v1937 ag_slices_DeleteFunc_Rect_J_b0 z.1 z.2.1 z.2.2) (fun z => [(0, .v (.c (.own 0))), (1, .v (.c (.clo 115 [50, 51]))), (5, vi z.1), (6, vi v1937)]) (fun z => [(0, AO z.2.1), (50, .box false [.ap 1028]), (51, .box false [ci x1918]), (1028, AP z.2.2)]) (fun z h => ?_) (fun J1951 hJ1951 => ?_)
        · obtain ⟨v1948, v1949, v1950⟩ := z
          have h : slices_DeleteFunc_Rect_J_k1 F v1937 ag_slices_DeleteFunc_Rect_J_b0 v1948 v1949 v1950 = some r := h
          obtain ⟨hg1952, h⟩ := gd_some h
          refine AW.g Fm [.s, .s, .s] (fun K => (I64 (v1937 + (1 : Int)) ∧ True) ∧ True) [(0, .v (.c (.own 0))), (1, .v (.c (.clo 115 [50, 51]))), (5, vi v1948), (6, vi (v1937 + (1 : Int)))] [(0, AO v1949), (50, .box false [.ap 1028]), (51, .box false [ci x1918]), (1028, AP v1950)] ⟨⟨hg1952, True.intro⟩, True.intro⟩ (by kernel_rfl) ?_
          exact Kn.re Fm [(1010, 1028)] [(0, .v (.c (.own 0))), (1, .v (.c (.clo 115 [50, 51]))), (5, vi v1948), (6, vi (v1937 + (1 : Int)))] [(0, AO v1949), (50, .box false [.ap 1010]), (51, .box false [ci x1918]), (1010, AP v1950)] (by kernel_rfl) (by kernel_rfl) (by kernel_rfl) (by kernel_rfl) (hJ1940 (v1948, (v1937 + (1 : Int)), v1949, v1950) h)
        · refine AW.block ?_
          obtain ⟨hg1942, h⟩ := gd_some h
          refine AW.sg Fm [.s, .s, .s, .s, .s, .s] (fun K => (0 ≤ v1937 ∧ v1937 < ((List.length v1938 : Nat) : Int)) ∧ (v1937.toNat < List.length v1938) ∧ True) [(0, .v (.c (.own 0))), (1, .v (.c (.clo 115 [50, 51]))), (5, vi v1936), (6, vi v1937), (7, .v (.c (.ptr 7 0)))] [(0, AO v1938), (7, .box false [ci ((gl v1938 v1937.toNat).left_), ci ((gl v1938 v1937.toNat).low_), ci ((gl v1938 v1937.toNat).right_), ci ((gl v1938 v1937.toNat).high_)]), (50, .box false [.ap 1010]), (51, .box false [ci x1918]), (1010, AP v1939)] ⟨hg1942, (toNat_lt hg1942), True.intro⟩ (by kernel_rfl) ?_
          refine AW.seq ?_
          obtain ⟨z1943, hz1944, h⟩ := bd_some h
          refine AW.g Fm [.s, .s, .k (cE [(0, 50), (60, 1010), (70, 1028), (1, 51)] [] (vb z1943.2) [(0, .box false [.ap 60]), (1, .box false [ci x1918]), (60, AP v1939)] [(0, .box false [.ap 70]), (1, .box false [ci x1918]), (70, AP z1943.1)]), .s] (fun K => K 2 ∧ True) [(0, .v (.c (.own 0))), (1, .v (.c (.clo 115 [50, 51]))), (5, vi v1936), (6, vi v1937), (7, .v (.c (.ptr 7 0))), (29, vb (!z1943.2))] [(0, AO v1938), (7, .box false [ci ((gl v1938 v1937.toNat).left_), ci ((gl v1938 v1937.toNat).low_), ci ((gl v1938 v1937.toNat).right_), ci ((gl v1938 v1937.toNat).high_)]), (50, .box false [.ap 1028]), (51, .box false [ci x1918]), (1028, AP z1943.1)] ⟨KAt.clC (args := [.v (.g [ci ((gl v1938 v1937.toNat).left_), ci ((gl v1938 v1937.toNat).low_), ci ((gl v1938 v1937.toNat).right_), ci ((gl v1938 v1937.toNat).high_)])]) (caps := [0, 1]) (shape_Joined_1_spec hz1944) Tryz.call115 [(0, 50), (60, 1010), (70, 1028), (1, 51)] rfl (by kernel_rfl), True.intro⟩ (by kernel_rfl) ?_
          refine AW.cond (b := (!z1943.2)) (by kernel_rfl) (fun hb1945 => ?_) (fun hb1945 => ?_)
          · have h := br_t h hb1945
            obtain ⟨hg1946, h⟩ := gd_some h
            refine AW.sg Fm [.s, .s, .s, .s, .s] (fun K => (0 ≤ v1936 ∧ v1936 < ((List.length v1938 : Nat) : Int)) ∧ (v1936.toNat < List.length v1938) ∧ True) [(0, .v (.c (.own 0))), (1, .v (.c (.clo 115 [50, 51]))), (5, vi v1936), (6, vi v1937)] [(0, .arr 4 (List.length (α := Rect) v1938) (fun j => if j = v1936.toNat then splice ((LF (α := Rect) v1938) v1936.toNat) 0 [.int .i64 (gl v1938 v1937.toNat).left_, .int .i64 (gl v1938 v1937.toNat).low_, .int .i64 (gl v1938 v1937.toNat).right_, .int .i64 (gl v1938 v1937.toNat).high_] else (LF (α := Rect) v1938) j)), (50, .box false [.ap 1028]), (51, .box false [ci x1918]), (1028, AP z1943.1)] ⟨hg1946, (toNat_lt hg1946), True.intro⟩ (by kernel_rfl) ?_
            refine Kn.wk [(0, .v (.c (.own 0))), (1, .v (.c (.clo 115 [50, 51]))), (5, vi v1936), (6, vi v1937)] [(0, AO (α := Rect) (List.set v1938 v1936.toNat (gl v1938 v1937.toNat))), (50, .box false [.ap 1028]), (51, .box false [ci x1918]), (1028, AP z1943.1)] (FE.refl _) (⟨rfl, OLe.is (Is.set (Is.refl v1938) (toNat_lt hg1946) (gl v1938 v1937.toNat) (by kernel_rfl)), ⟨rfl, OLe.refl _, ⟨rfl, OLe.refl _, ⟨rfl, OLe.refl _, True.intro⟩⟩⟩⟩) ?_
            obtain ⟨hg1947, h⟩ := gd_some h
            refine AW.g Fm [.s, .s, .s] (fun K => (I64 (v1936 + (1 : Int)) ∧ True) ∧ True) [(0, .v (.c (.own 0))), (1, .v (.c (.clo 115 [50, 51]))), (5, vi (v1936 + (1 : Int))), (6, vi v1937)] [(0, AO (α := Rect) (List.set v1938 v1936.toNat (gl v1938 v1937.toNat))), (50, .box false [.ap 1028]), (51, .box false [ci x1918]), (1028, AP z1943.1)] ⟨⟨hg1947, True.intro⟩, True.intro⟩ (by kernel_rfl) ?_
            exact Kn.r Fm [(0, .v (.c (.own 0))), (1, .v (.c (.clo 115 [50, 51]))), (5, vi (v1936 + (1 : Int))), (6, vi v1937)] [(0, AO (List.set v1938 v1936.toNat (gl v1938 v1937.toNat))), (50, .box false [.ap 1028]), (51, .box false [ci x1918]), (1028, AP z1943.1)] (by kernel_rfl) (hJ1951 ((v1936 + (1 : Int)), (List.set v1938 v1936.toNat (gl v1938 v1937.toNat)), z1943.1) h)
          · have h := br_f h hb1945
            refine AW.skip ?_
            exact Kn.r Fm [(0, .v (.c (.own 0))), (1, .v (.c (.clo 115 [50, 51]))), (5, vi v1936), (6, vi v1937)] [(0, AO v1938), (50, .box false [.ap 1028]), (51, .box false [ci x1918]), (1028, AP z1943.1)] (by kernel_rfl) (hJ1951 (v1936, v1938, z1943.1) h)
      · have h := br_f h hb1941
        refine AW.exit ?_
        exact Kn.r Fm [(0, .v (.c (.own 0))), (5, vi v1936)] [(0, AO v1938), (50, .box false [.ap 1010]), (51, .box false [ci x1918]), (1010, AP v1939)] (by kernel_rfl) (hJ1956 (v1936, v1938, v1939) h)
theorem shape_Joined_spec {F : Nat} {x1959 : (List Rect)} {r : (List Rect) × (List Rect)} (h : shape_Joined F x1959 = some r) :
    FSpec Tryz.prog 56 [AL x1959] [] (.t [.c (.d (DL (α := Rect) r.1)), .c (.d (DL (α := Rect) r.2))]) [] := by
  refine FSpec.intro prog_mixed prog_lay Tryz.func56 rfl (by kernel_rfl) fun C Fm => ?_
  unfold shape_Joined at h
  refine AW.sg0 Fm 2 [(0, AL x1959)] [] (by kernel_rfl) ?_
  refine AW.seq ?_
  obtain ⟨hg1960, h⟩ := gd_some h
  obtain ⟨hg1961, h⟩ := gd_some h
  obtain ⟨z1962, hz1963, h⟩ := bd_some h
  refine AW.g Fm [.s, .w (.v (.c (.fl (List.length (α := Rect) (x1959.take ((1 : Int)).toNat)) (LF (α := Rect) (x1959.take ((1 : Int)).toNat))))), .s, .w (AL (α := Rect) (x1959.drop (1 : Int).toNat)), .k (cE [(100, 11)] [] (.v (.c (.own 100))) [] [(100, AO z1962)]), .s, .s, .s] (fun K => (((1 : Int) ≤ ((List.length x1959 : Nat) : Int) ∧ ∀ j, j < List.length x1959 → (LF x1959 j).length = 4)) ∧ (ALe (.v (.c (.fl ((1 : Int)).toNat (LF x1959)))) (.v (.c (.fl (List.length (α := Rect) (x1959.take ((1 : Int)).toNat)) (LF (α := Rect) (x1959.take ((1 : Int)).toNat)))))) ∧ (((sl (List.length x1959) (LF x1959) (some (1 : Int)) none).2 ∧ ∀ j, j < List.length x1959 → (LF x1959 j).length = 4)) ∧ (ALe (.v (.c (.d (.lst (sl (List.length x1959) (LF x1959) (some (1 : Int)) none).1.1 (sl (List.length x1959) (LF x1959) (some (1 : Int)) none).1.2)))) (AL (α := Rect) (x1959.drop (1 : Int).toNat))) ∧ K 4 ∧ True) [(4, .v (.c (.ptr 4 0))), (5, .v (.c (.own 11)))] [(4, .box false [.fl (List.length (α := Rect) (x1959.take ((1 : Int)).toNat)) (LF (α := Rect) (x1959.take ((1 : Int)).toNat))]), (11, AO z1962)] ⟨⟨hg1960, (Is.refl x1959).len⟩, ALe.c (CLe.fls (Is.take (Is.refl x1959) hg1960)), ⟨hg1961, (Is.refl x1959).len⟩, ALe.lst (sl_is x1959 (some (1 : Int)) none hg1961), KAt.cl (args := [AL (α := Rect) (x1959.drop (1 : Int).toNat)]) (slices_Clone_Rect_O_spec hz1963) Tryz.call113 [(100, 11)] rfl (by kernel_rfl), True.intro⟩ (by kernel_rfl) ?_
  refine AW.join (r := r) (fun z : (List Rect) × (List Rect) => shape_Joined_k2 F z.1 z.2) (fun z => [(4, .v (.c (.ptr 4 0))), (5, .v (.c (.own 11)))]) (fun z => [(4, .box false [.ap 900]), (11, AO z.1), (900, AP z.2)]) (fun z h => ?_) (fun J1981 hJ1981 => ?_)
  · obtain ⟨v1979, v1980⟩ := z
    have h : shape_Joined_k2 F v1979 v1980 = some r := h
    refine AW.sg0 Fm 4 [(2, .v (.c (.ap 900))), (3, .v (.c (.own 11)))] [(11, AO v1979), (900, AP v1980)] (by kernel_rfl) ?_
    refine AW.ret ?_
    refine Kn.r Fm [(2, .v (.c (.ap 900))), (3, .v (.c (.own 11)))] [(900, AP v1980), (11, AO v1979)] (by kernel_rfl) ?_
    refine Kn.ap_split (by kernel_rfl) ?_ ?_
    · refine Kn.r Fm [(2, .v (.c (.own 900))), (3, .v (.c (.own 11)))] [(11, AO v1979), (900, AO v1980)] (by kernel_rfl) ?_
      obtain rfl := Option.some.inj h
      refine Kn.r Fm [(2, .v (.c (.own 900))), (3, .v (.c (.own 11)))] [(900, AO v1980), (11, AO v1979)] (by kernel_rfl) ?_
      refine Kn.frz [(2, AL v1980), (3, .v (.c (.own 11)))] [(11, AO v1979)] (by kernel_rfl) (by kernel_rfl) (by kernel_rfl) ?_
      refine Kn.r Fm [(2, AL v1980), (3, .v (.c (.own 11)))] [(11, AO v1979)] (by kernel_rfl) ?_
      refine Kn.frz [(2, AL v1980), (3, AL v1979)] [] (by kernel_rfl) (by kernel_rfl) (by kernel_rfl) ?_
      exact Kn.r Fm [(2, AL v1980), (3, AL v1979)] [] (by kernel_rfl) (Kn.dn Fm (by kernel_rfl))
    · refine Kn.r Fm [(2, .v (.c (.fl (List.length (α := Rect) v1980) (LF (α := Rect) v1980)))), (3, .v (.c (.own 11)))] [(11, AO v1979)] (by kernel_rfl) ?_
      obtain rfl := Option.some.inj h
      refine Kn.r Fm [(2, .v (.c (.fl (List.length (α := Rect) v1980) (LF (α := Rect) v1980)))), (3, .v (.c (.own 11)))] [(11, AO v1979)] (by kernel_rfl) ?_
      refine Kn.frz [(2, .v (.c (.fl (List.length (α := Rect) v1980) (LF (α := Rect) v1980)))), (3, AL v1979)] [] (by kernel_rfl) (by kernel_rfl) (by kernel_rfl) ?_
      refine Kn.r Fm [(2, .v (.c (.fl (List.length (α := Rect) v1980) (LF (α := Rect) v1980)))), (3, AL v1979)] [] (by kernel_rfl) ?_
      refine Kn.wk [(2, AL v1980), (3, AL v1979)] [] ⟨rfl, ALe.c (CLe.fl (.refl _)), ⟨rfl, ALe.c (CLe.refl _), True.intro⟩⟩ True.intro ?_
      exact Kn.r Fm [(2, AL v1980), (3, AL v1979)] [] (by kernel_rfl) (Kn.dn Fm (by kernel_rfl))
  · refine AW.sg0 Fm 2 [(4, .v (.c (.ptr 4 0))), (5, .v (.c (.own 11))), (6, .v (.c (.ptr 6 0)))] [(4, .box false [.fl (List.length (α := Rect) (x1959.take ((1 : Int)).toNat)) (LF (α := Rect) (x1959.take ((1 : Int)).toNat))]), (6, .box false [ci (0 : Int)]), (11, AO z1962)] (by kernel_rfl) ?_
    refine AW.block ?_
    refine Kn.r Fm [(4, .v (.c (.ptr 4 0))), (5, .v (.c (.own 11))), (6, .v (.c (.ptr 6 0)))] [(4, .box false [.fl (List.length (α := Rect) (x1959.take ((1 : Int)).toNat)) (LF (α := Rect) (x1959.take ((1 : Int)).toNat))]), (6, .box false [ci (0 : Int)]), (11, AO z1962)] (by kernel_rfl) ?_
    refine Kn.ap0 Fm (k := 900) (es := 4) (j := 0) (by kernel_rfl) (by kernel_rfl) (by simp) rfl ?_
    refine Kn.r Fm [(4, .v (.c (.ptr 4 0))), (5, .v (.c (.own 11))), (6, .v (.c (.ptr 6 0)))] [(4, .box false [.ap 900]), (6, .box false [ci (0 : Int)]), (11, AO z1962), (900, AP (α := Rect) (x1959.take ((1 : Int)).toNat))] (by kernel_rfl) ?_
    refine Kn.r Fm [(4, .v (.c (.ptr 4 0))), (5, .v (.c (.own 11))), (6, .v (.c (.ptr 6 0)))] [(4, .box false [.ap 900]), (6, .box false [ci (0 : Int)]), (11, AO z1962), (900, AP (x1959.take ((1 : Int)).toNat))] (by kernel_rfl) ?_
    have h : loopN (fun again (z : (List Rect) × Int × (List Rect)) => shape_Joined_b0 F again z.1 z.2.1 z.2.2) F (z1962, (0 : Int), (x1959.take ((1 : Int)).toNat)) = some r := h
    refine AW.loopF (E' := fun z => [(4, .v (.c (.ptr 4 0))), (5, .v (.c (.own 11))), (6, .v (.c (.ptr 6 0)))]) (S' := fun z => [(4, .box false [.ap 900]), (6, .box false [ci z.2.1]), (11, AO z.1), (900, AP z.2.2)]) (fun ag_shape_Joined_b0 z J1973 hJ1973 h => ?_) h
    obtain ⟨v1970, v1971, v1972⟩ := z
    have h : shape_Joined_b0 F ag_shape_Joined_b0 v1970 v1971 v1972 = some r := h
    refine AW.seq ?_
    refine AW.join (r := r) (fun z : Unit => shape_Joined_k1 F v1970 v1971 v1972 ag_shape_Joined_b0) (fun z => [(4, .v (.c (.ptr 4 0))), (5, .v (.c (.own 11))), (6, .v (.c (.ptr 6 0))), (15, vb (decide (v1971 < ((List.length v1972 : Nat) : Int))))]) (fun z => [(4, .box false [.ap 900]), (6, .box false [ci v1971]), (11, AO v1970), (900, AP v1972)]) (fun z h => ?_) (fun J1974 hJ1974 => ?_)
    · have h : shape_Joined_k1 F v1970 v1971 v1972 ag_shape_Joined_b0 = some r := h
      refine AW.cond (b := (decide (v1971 < ((List.length v1972 : Nat) : Int)))) (by kernel_rfl) (fun hb1975 => ?_) (fun hb1975 => ?_)
      · have h := br_t h hb1975
        refine AW.skip ?_
        refine AW.seq ?_
        refine AW.block ?_
        obtain ⟨z1976, hz1977, h⟩ := bd_some h
        refine AW.g Fm [.s, .s, .k (cE [(0, 11), (50, 4), (60, 900), (70, 1020), (51, 6), (100, 20)] [] (.v (.c (.own 100))) [(0, AO v1970), (50, .box false [.ap 60]), (51, .box false [ci v1971]), (60, AP v1972)] [(50, .box false [.ap 70]), (51, .box false [ci v1971]), (70, AP z1976.1), (100, AO z1976.2)]), .s] (fun K => K 2 ∧ True) [(4, .v (.c (.ptr 4 0))), (5, .v (.c (.own 20))), (6, .v (.c (.ptr 6 0)))] [(4, .box false [.ap 1020]), (6, .box false [ci v1971]), (20, AO z1976.2), (1020, AP z1976.1)] ⟨KAt.cl (args := [.v (.c (.own 0)), .v (.c (.clo 115 [50, 51]))]) (slices_DeleteFunc_Rect_J_spec hz1977) Tryz.call114 [(0, 11), (50, 4), (60, 900), (70, 1020), (51, 6), (100, 20)] rfl (by kernel_rfl), True.intro⟩ (by kernel_rfl) ?_
        refine AW.seq ?_
        refine AW.sg0 Fm 1 [(4, .v (.c (.ptr 4 0))), (5, .v (.c (.own 20))), (21, vi v1971)] [(4, .box false [.ap 1020]), (20, AO z1976.2), (1020, AP z1976.1)] (by kernel_rfl) ?_
        refine AW.g0 Fm 2 [(4, .v (.c (.ptr 4 0))), (5, .v (.c (.own 20))), (6, .v (.c (.ptr 6 0)))] [(4, .box false [.ap 1020]), (6, .box false [ci v1971]), (20, AO z1976.2), (1020, AP z1976.1)] (by kernel_rfl) ?_
        obtain ⟨hg1978, h⟩ := gd_some h
        refine AW.g Fm [.s, .s, .s] (fun K => (I64 (v1971 + (1 : Int)) ∧ True) ∧ True) [(4, .v (.c (.ptr 4 0))), (5, .v (.c (.own 20))), (6, .v (.c (.ptr 6 0)))] [(4, .box false [.ap 1020]), (6, .box false [ci (v1971 + (1 : Int))]), (20, AO z1976.2), (1020, AP z1976.1)] ⟨⟨hg1978, True.intro⟩, True.intro⟩ (by kernel_rfl) ?_
        exact Kn.re Fm [(11, 20), (900, 1020)] [(4, .v (.c (.ptr 4 0))), (5, .v (.c (.own 11))), (6, .v (.c (.ptr 6 0)))] [(4, .box false [.ap 900]), (6, .box false [ci (v1971 + (1 : Int))]), (11, AO z1976.2), (900, AP z1976.1)] (by kernel_rfl) (by kernel_rfl) (by kernel_rfl) (by kernel_rfl) (hJ1973 (z1976.2, (v1971 + (1 : Int)), z1976.1) h)
      · have h := br_f h hb1975
        refine AW.exit ?_
        exact Kn.r Fm [(4, .v (.c (.ptr 4 0))), (5, .v (.c (.own 11)))] [(4, .box false [.ap 900]), (11, AO v1970), (900, AP v1972)] (by kernel_rfl) (hJ1981 (v1970, v1972) h)
    · refine Kn.r Fm [(4, .v (.c (.ptr 4 0))), (5, .v (.c (.own 11))), (6, .v (.c (.ptr 6 0)))] [(900, AP v1972), (4, .box false [.ap 900]), (6, .box false [ci v1971]), (11, AO v1970)] (by kernel_rfl) ?_
      refine Kn.ap_split (by kernel_rfl) ?_ ?_
      · refine Kn.r Fm [(4, .v (.c (.ptr 4 0))), (5, .v (.c (.own 11))), (6, .v (.c (.ptr 6 0)))] [(4, .box false [.own 900]), (6, .box false [ci v1971]), (11, AO v1970), (900, AO v1972)] (by kernel_rfl) ?_
        refine AW.g0 Fm 4 [(4, .v (.c (.ptr 4 0))), (5, .v (.c (.own 11))), (6, .v (.c (.ptr 6 0))), (15, vb (decide (v1971 < ((List.length v1972 : Nat) : Int))))] [(4, .box false [.own 900]), (6, .box false [ci v1971]), (11, AO v1970), (900, AO v1972)] (by kernel_rfl) ?_
        refine Kn.r Fm [(4, .v (.c (.ptr 4 0))), (5, .v (.c (.own 11))), (6, .v (.c (.ptr 6 0))), (15, vb (decide (v1971 < ((List.length v1972 : Nat) : Int))))] [(4, .box false [.own 900]), (6, .box false [ci v1971]), (11, AO v1970), (900, AO v1972)] (by kernel_rfl) ?_
        refine Kn.wk [(4, .v (.c (.ptr 4 0))), (5, .v (.c (.own 11))), (6, .v (.c (.ptr 6 0))), (15, vb (decide (v1971 < ((List.length v1972 : Nat) : Int))))] [(4, .box false [.ap 900]), (6, .box false [ci v1971]), (11, AO v1970), (900, AP v1972)] ⟨rfl, ALe.refl _, ⟨rfl, ALe.refl _, ⟨rfl, ALe.refl _, ⟨rfl, ALe.refl _, True.intro⟩⟩⟩⟩ ⟨rfl, OLe.box ⟨CLe.ap 900, True.intro⟩, ⟨rfl, OLe.refl _, ⟨rfl, OLe.refl _, ⟨rfl, OLe.ap _ _ _, True.intro⟩⟩⟩⟩ ?_
        exact Kn.r Fm [(4, .v (.c (.ptr 4 0))), (5, .v (.c (.own 11))), (6, .v (.c (.ptr 6 0))), (15, vb (decide (v1971 < ((List.length v1972 : Nat) : Int))))] [(4, .box false [.ap 900]), (6, .box false [ci v1971]), (11, AO v1970), (900, AP v1972)] (by kernel_rfl) (hJ1974 () h)
      · refine Kn.r Fm [(4, .v (.c (.ptr 4 0))), (5, .v (.c (.own 11))), (6, .v (.c (.ptr 6 0)))] [(4, .box false [.fl (List.length (α := Rect) v1972) (LF (α := Rect) v1972)]), (6, .box false [ci v1971]), (11, AO v1970)] (by kernel_rfl) ?_
        refine AW.g0 Fm 4 [(4, .v (.c (.ptr 4 0))), (5, .v (.c (.own 11))), (6, .v (.c (.ptr 6 0))), (15, vb (decide (v1971 < ((List.length v1972 : Nat) : Int))))] [(4, .box false [.fl (List.length (α := Rect) v1972) (LF (α := Rect) v1972)]), (6, .box false [ci v1971]), (11, AO v1970)] (by kernel_rfl) ?_
        refine Kn.r Fm [(4, .v (.c (.ptr 4 0))), (5, .v (.c (.own 11))), (6, .v (.c (.ptr 6 0))), (15, vb (decide (v1971 < ((List.length v1972 : Nat) : Int))))] [(4, .box false [.fl (List.length (α := Rect) v1972) (LF (α := Rect) v1972)]), (6, .box false [ci v1971]), (11, AO v1970)] (by kernel_rfl) ?_
        refine Kn.ap0 Fm (k := 900) (es := 4) (j := 0) (by kernel_rfl) (by kernel_rfl) (by simp) rfl ?_
        refine Kn.r Fm [(4, .v (.c (.ptr 4 0))), (5, .v (.c (.own 11))), (6, .v (.c (.ptr 6 0))), (15, vb (decide (v1971 < ((List.length v1972 : Nat) : Int))))] [(4, .box false [.ap 900]), (6, .box false [ci v1971]), (11, AO v1970), (900, AP v1972)] (by kernel_rfl) ?_
        exact Kn.r Fm [(4, .v (.c (.ptr 4 0))), (5, .v (.c (.own 11))), (6, .v (.c (.ptr 6 0))), (15, vb (decide (v1971 < ((List.length v1972 : Nat) : Int))))] [(4, .box false [.ap 900]), (6, .box false [ci v1971]), (11, AO v1970), (900, AP v1972)] (by kernel_rfl) (hJ1974 () h)
theorem region_Of_1_spec {F : Nat} {x1982 : Rect} {r : Bool} (h : region_Of_1 F x1982 = some r) :
    FSpec Tryz.prog 116 [gE x1982] [] (vb r) [] := by
  refine FSpec.intro prog_mixed prog_lay Tryz.func116 rfl (by kernel_rfl) fun C Fm => ?_
  unfold region_Of_1 at h
  refine AW.sg0 Fm 2 [(1, .v (.c (.ptr 1 0)))] [(1, .box false (gC x1982))] (by kernel_rfl) ?_
  refine AW.seq ?_
  obtain ⟨z1983, hz1984, h⟩ := bd_some h
  refine AW.g Fm [.s, .k (cE [] [] (vb z1983) [] []), .s, .s] (fun K => K 1 ∧ True) [(2, vb (!z1983))] [] ⟨KAt.cl (args := [gE x1982]) (region_proper_spec hz1984) Tryz.call110 [] rfl (by kernel_rfl), True.intro⟩ (by kernel_rfl) ?_
  refine AW.ret ?_
  obtain rfl := Option.some.inj h
  exact Kn.r Fm [(2, vb (!z1983))] [] (by kernel_rfl) (Kn.dn Fm (by kernel_rfl))
theorem region_Of_spec {F : Nat} {x1985 : (List Rect)} {r : Region × Int} (h : region_Of F x1985 = some r) :
    FSpec Tryz.prog 57 [AL x1985] [] (.t [.g [.d (DL (α := Rect) r.1.rects_)], .c (ci r.2)]) [] := by
  refine FSpec.intro prog_mixed prog_lay Tryz.func57 rfl (by kernel_rfl) fun C Fm => ?_
  unfold region_Of at h
  refine AW.sg0 Fm 2 [(0, AL x1985), (2, .v (.c (.ptr 2 0)))] [(2, .box false [.fl 0 fun _ => []])] (by kernel_rfl) ?_
  refine AW.seq ?_
  refine AW.sg0 Fm 3 [(0, AL x1985), (2, .v (.c (.ptr 2 0))), (6, vb (decide ((120 : Int) < ((List.length x1985 : Nat) : Int))))] [(2, .box false [.fl 0 fun _ => []])] (by kernel_rfl) ?_
  refine AW.cond (b := (decide ((120 : Int) < ((List.length x1985 : Nat) : Int)))) (by kernel_rfl) (fun hb1986 => ?_) (fun hb1986 => ?_)
  · have h := br_t h hb1986
    refine AW.sg Fm [.w (.v (.g [.d (DL (α := Rect) [])])), .s, .s] (fun K => (ALe (.v (.g [.fl 0 fun _ => []])) (.v (.g [.d (DL (α := Rect) [])]))) ∧ True) [(2, .v (.c (.ptr 2 0))), (3, vi (1 : Int))] [(2, .box false [.d (DL (α := Rect) [])])] ⟨ALe.g ⟨CLe.fl .nil, True.intro⟩, True.intro⟩ (by kernel_rfl) ?_
    refine AW.ret ?_
    obtain rfl := Option.some.inj h
    exact Kn.r Fm [(2, .v (.c (.ptr 2 0))), (3, vi (1 : Int))] [(2, .box false [.d (DL (α := Rect) [])])] (by kernel_rfl) (Kn.dn Fm (by kernel_rfl))
  · have h := br_f h hb1986
    refine AW.skip ?_
    refine AW.seq ?_
    refine AW.seq ?_
    obtain ⟨z1987, hz1988, h⟩ := bd_some h
    refine AW.g Fm [.s, .k (cE [] [] (vb z1987) [] [])] (fun K => K 1 ∧ True) [(0, AL x1985), (2, .v (.c (.ptr 2 0))), (9, vb z1987)] [(2, .box false [.fl 0 fun _ => []])] ⟨KAt.callX (args := [AL x1985, .v (.c (.sem (CloOK Tryz.prog (FR_Rect_Bool (fun y0 => region_Of_1 F y0)))))]) (slices_ContainsFunc_Rect_spec hz1988) Tryz.call108 [] [] [.tmp 8, .func 116] rfl (by kernel_rfl) (by kernel_rfl) (by kernel_rfl) ⟨ArgT.plain (by kernel_rfl) (ALe.of_eq (by kernel_rfl)) (by kernel_rfl), ArgT.cloX Tryz.call116 [] (fun args r hq => by obtain ⟨y0, y, hq, rfl, rfl⟩ := hq; exact Eq.mp (by kernel_rfl) (region_Of_1_spec hq)) (fun args r hq => by obtain ⟨y0, y, hq, rfl, rfl⟩ := hq; rfl) (by kernel_rfl) [] (by kernel_rfl) (by kernel_rfl) (True.intro) (by kernel_rfl), True.intro⟩, True.intro⟩ (by kernel_rfl) ?_
    refine AW.cond (b := z1987) (by kernel_rfl) (fun hb1989 => ?_) (fun hb1989 => ?_)
    · have h := br_t h hb1989
      refine AW.sg Fm [.w (.v (.g [.d (DL (α := Rect) [])])), .s, .s] (fun K => (ALe (.v (.g [.fl 0 fun _ => []])) (.v (.g [.d (DL (α := Rect) [])]))) ∧ True) [(2, .v (.c (.ptr 2 0))), (3, vi (2 : Int))] [(2, .box false [.d (DL (α := Rect) [])])] ⟨ALe.g ⟨CLe.fl .nil, True.intro⟩, True.intro⟩ (by kernel_rfl) ?_
      refine AW.ret ?_
      obtain rfl := Option.some.inj h
      exact Kn.r Fm [(2, .v (.c (.ptr 2 0))), (3, vi (2 : Int))] [(2, .box false [.d (DL (α := Rect) [])])] (by kernel_rfl) (Kn.dn Fm (by kernel_rfl))
    · have h := br_f h hb1989
      refine AW.skip ?_
      refine AW.seq ?_
      obtain ⟨z1990, hz1991, h⟩ := bd_some h
      obtain ⟨z1992, hz1993, h⟩ := bd_some h
      refine AW.g Fm [.s, .k (cE [] [] (AL z1990) [] []), .k (cE [] [] (.t [.g [.d (DL z1992.1.rects_)], .c (ci z1992.2)]) [] []), .s, .s, .s, .s] (fun K => K 1 ∧ K 2 ∧ True) [(2, .v (.c (.ptr 2 0))), (3, vi z1992.2)] [(2, .box false [.d (DL z1992.1.rects_)])] ⟨KAt.cl (args := [AL x1985]) (region_canonical_spec hz1991) Tryz.call112 [] rfl (by kernel_rfl), KAt.cl (args := [AL z1990]) (region_Limited_spec hz1993) Tryz.call98 [] rfl (by kernel_rfl), True.intro⟩ (by kernel_rfl) ?_
      refine AW.ret ?_
      obtain rfl := Option.some.inj h
      exact Kn.r Fm [(2, .v (.c (.ptr 2 0))), (3, vi z1992.2)] [(2, .box false [.d (DL z1992.1.rects_)])] (by kernel_rfl) (Kn.dn Fm (by kernel_rfl))
theorem cmp_Or_int_spec {F : Nat} {x1994 : (List Int)} {r : Int} (h : cmp_Or_int F x1994 = some r) :
    FSpec Tryz.prog 60 [AL x1994] [] (vi r) [] := by
  refine FSpec.intro prog_mixed prog_lay Tryz.func60 rfl (by kernel_rfl) fun C Fm => ?_
  unfold cmp_Or_int at h
  refine AW.sg0 Fm 1 [(0, AL x1994)] [] (by kernel_rfl) ?_
  refine AW.sg0 Fm 1 [(0, AL x1994), (3, vi (0 : Int))] [] (by kernel_rfl) ?_
  refine AW.join (r := r) (fun z : Unit => cmp_Or_int_k1 F) (fun z => [(3, vi (0 : Int))]) (fun z => []) (fun z h => ?_) (fun J2006 hJ2006 => ?_)
  · have h : cmp_Or_int_k1 F = some r := h
    refine AW.sg0 Fm 2 [(2, vi (0 : Int))] [] (by kernel_rfl) ?_
    refine AW.ret ?_
    obtain rfl := Option.some.inj h
    exact Kn.r Fm [(2, vi (0 : Int))] [] (by kernel_rfl) (Kn.dn Fm (by kernel_rfl))
  · refine AW.sg0 Fm 3 [(3, vi (0 : Int)), (6, AL x1994), (7, vi ((List.length x1994 : Nat) : Int)), (8, vi (0 : Int))] [] (by kernel_rfl) ?_
    refine AW.block ?_
    refine Kn.r Fm [(3, vi (0 : Int)), (6, AL x1994), (7, vi ((List.length x1994 : Nat) : Int)), (8, vi (0 : Int))] [] (by kernel_rfl) ?_
    have h : loopN (fun again (z : Int) => cmp_Or_int_b0 F x1994 again z) F (0 : Int) = some r := h
    refine AW.loopF (E' := fun z => [(3, vi (0 : Int)), (6, AL x1994), (7, vi ((List.length x1994 : Nat) : Int)), (8, vi z)]) (S' := fun z => []) (fun ag_cmp_Or_int_b0 v2000 J2001 hJ2001 h => ?_) h
    have h : cmp_Or_int_b0 F x1994 ag_cmp_Or_int_b0 v2000 = some r := h
    refine AW.sg0 Fm 1 [(3, vi (0 : Int)), (6, AL x1994), (7, vi ((List.length x1994 : Nat) : Int)), (8, vi v2000), (9, vb (decide (v2000 < ((List.length x1994 : Nat) : Int))))] [] (by kernel_rfl) ?_
    refine AW.seq ?_
    refine AW.cond (b := (decide (v2000 < ((List.length x1994 : Nat) : Int)))) (by kernel_rfl) (fun hb2002 => ?_) (fun hb2002 => ?_)
    · have h := br_t h hb2002
      refine AW.skip ?_
      refine AW.seq ?_
      refine AW.block ?_
      obtain ⟨hg2003, h⟩ := gd_some h
      refine AW.sg Fm [.s, .s, .s] (fun K => (0 ≤ v2000 ∧ v2000 < ((List.length x1994 : Nat) : Int)) ∧ True) [(3, vi (0 : Int)), (5, vi (gl x1994 v2000.toNat)), (6, AL x1994), (7, vi ((List.length x1994 : Nat) : Int)), (8, vi v2000)] [] ⟨hg2003, True.intro⟩ (by kernel_rfl) ?_
      refine AW.sg0 Fm 3 [(3, vi (0 : Int)), (5, vi (gl x1994 v2000.toNat)), (6, AL x1994), (7, vi ((List.length x1994 : Nat) : Int)), (8, vi v2000), (14, vb ((gl x1994 v2000.toNat) != (0 : Int)))] [] (by kernel_rfl) ?_
      refine AW.cond (b := ((gl x1994 v2000.toNat) != (0 : Int))) (by kernel_rfl) (fun hb2004 => ?_) (fun hb2004 => ?_)
      · have h := br_t h hb2004
        refine AW.sg0 Fm 2 [(2, vi (gl x1994 v2000.toNat))] [] (by kernel_rfl) ?_
        refine AW.ret ?_
        obtain rfl := Option.some.inj h
        exact Kn.r Fm [(2, vi (gl x1994 v2000.toNat))] [] (by kernel_rfl) (Kn.dn Fm (by kernel_rfl))
      · have h := br_f h hb2004
        refine AW.skip ?_
        obtain ⟨hg2005, h⟩ := gd_some h
        refine AW.g Fm [.s, .s] (fun K => (I64 (v2000 + (1 : Int)) ∧ True) ∧ True) [(3, vi (0 : Int)), (6, AL x1994), (7, vi ((List.length x1994 : Nat) : Int)), (8, vi (v2000 + (1 : Int)))] [] ⟨⟨hg2005, True.intro⟩, True.intro⟩ (by kernel_rfl) ?_
        exact Kn.r Fm [(3, vi (0 : Int)), (6, AL x1994), (7, vi ((List.length x1994 : Nat) : Int)), (8, vi (v2000 + (1 : Int)))] [] (by kernel_rfl) (hJ2001 (v2000 + (1 : Int)) h)
    · have h := br_f h hb2002
      refine AW.exit ?_
      exact Kn.r Fm [(3, vi (0 : Int))] [] (by kernel_rfl) (hJ2006 () h)
theorem shape_Parts_1_spec {F : Nat} {x2007 : Region} {x2008 : Region} {r : Int} (h : shape_Parts_1 F x2007 x2008 = some r) :
    FSpec Tryz.prog 59 [.v (.g [.d (DL x2007.rects_)]), .v (.g [.d (DL x2008.rects_)])] [] (vi r) [] := by
  refine FSpec.intro prog_mixed prog_lay Tryz.func59 rfl (by kernel_rfl) fun C Fm => ?_
  unfold shape_Parts_1 at h
  refine AW.sg0 Fm 3 [(2, .v (.c (.ptr 2 0))), (3, .v (.c (.ptr 3 0)))] [(2, .box false [.d (DL x2007.rects_)]), (3, .box false [.d (DL x2008.rects_)])] (by kernel_rfl) ?_
  refine AW.seq ?_
  obtain ⟨hg2009, h⟩ := gd_some h
  obtain ⟨hg2010, h⟩ := gd_some h
  obtain ⟨z2011, hz2012, h⟩ := bd_some h
  obtain ⟨hg2013, h⟩ := gd_some h
  obtain ⟨hg2014, h⟩ := gd_some h
  obtain ⟨z2015, hz2016, h⟩ := bd_some h
  obtain ⟨z2017, hz2018, h⟩ := bd_some h
  refine AW.g Fm [.s, .s, .s, .s, .s, .s, .s, .s, .s, .s, .k (cE [] [] (vi z2011) [] []), .s, .s, .s, .s, .s, .s, .s, .s, .s, .s, .k (cE [] [] (vi z2015) [] []), .w (AL (α := Int) ([z2011, z2015] : List Int)), .k (cE [] [] (vi z2017) [] []), .s] (fun K => (0 ≤ (0 : Int) ∧ (0 : Int) < ((List.length x2007.rects_ : Nat) : Int)) ∧ (0 ≤ (0 : Int) ∧ (0 : Int) < ((List.length x2008.rects_ : Nat) : Int)) ∧ K 10 ∧ (0 ≤ (0 : Int) ∧ (0 : Int) < ((List.length x2007.rects_ : Nat) : Int)) ∧ (0 ≤ (0 : Int) ∧ (0 : Int) < ((List.length x2008.rects_ : Nat) : Int)) ∧ K 21 ∧ (ALe (.v (.c (.d (.lst 2 (litF 1 [.int .i64 z2011, .int .i64 z2015]))))) (AL (α := Int) ([z2011, z2015] : List Int))) ∧ K 23 ∧ True) [(4, vi z2017)] [] ⟨hg2009, hg2010, KAt.cl (args := [vi (gl x2007.rects_ (0 : Int).toNat).low_, vi (gl x2008.rects_ (0 : Int).toNat).low_]) (cmp_Compare_int_spec hz2012) Tryz.call61 [] rfl (by kernel_rfl), hg2013, hg2014, KAt.cl (args := [vi (gl x2007.rects_ (0 : Int).toNat).left_, vi (gl x2008.rects_ (0 : Int).toNat).left_]) (cmp_Compare_int_spec hz2016) Tryz.call61 [] rfl (by kernel_rfl), ALe.lst (.lit ([z2011, z2015] : List Int) (by kernel_rfl)), KAt.cl (args := [AL (α := Int) ([z2011, z2015] : List Int)]) (cmp_Or_int_spec hz2018) Tryz.call60 [] rfl (by kernel_rfl), True.intro⟩ (by kernel_rfl) ?_
  refine AW.ret ?_
  obtain rfl := Option.some.inj h
  exact Kn.r Fm [(4, vi z2017)] [] (by kernel_rfl) (Kn.dn Fm (by kernel_rfl))
theorem shape_Parts_spec {F : Nat} {x2019 : Region} {r : (List Region) × Int} (h : shape_Parts F x2019 = some r) :
    FSpec Tryz.prog 14 [.v (.g [.d (DL x2019.rects_)])] [] (.t [.c (.d (DL (α := Region) r.1)), .c (ci r.2)]) [] := by
  refine FSpec.intro prog_mixed prog_lay Tryz.func14 rfl (by kernel_rfl) fun C Fm => ?_
  unfold shape_Parts at h
  refine AW.sg0 Fm 3 [(1, .v (.c (.ptr 1 0)))] [(1, .box false [.d (DL x2019.rects_)])] (by kernel_rfl) ?_
  refine AW.seq ?_
  refine AW.seq ?_
  obtain ⟨z2020, hz2021, h⟩ := bd_some h
  refine AW.g Fm [.s, .k (cE [] [] (vb z2020) [] []), .s] (fun K => K 1 ∧ True) [(1, .v (.c (.ptr 1 0))), (11, vb (!z2020))] [(1, .box false [.d (DL x2019.rects_)])] ⟨KAt.cl (args := [.v (.g [.d (DL x2019.rects_)])]) (region_Valid_spec hz2021) Tryz.call55 [] rfl (by kernel_rfl), True.intro⟩ (by kernel_rfl) ?_
  refine AW.cond (b := (!z2020)) (by kernel_rfl) (fun hb2022 => ?_) (fun hb2022 => ?_)
  · have h := br_t h hb2022
    refine AW.sg0 Fm 2 [(2, .v (.c (.fl 0 fun _ => []))), (3, vi (7 : Int))] [] (by kernel_rfl) ?_
    refine AW.ret ?_
    obtain rfl := Option.some.inj h
    refine Kn.r Fm [(2, .v (.c (.fl 0 fun _ => []))), (3, vi (7 : Int))] [] (by kernel_rfl) ?_
    refine Kn.wk [(2, AL (α := Region) []), (3, vi (7 : Int))] [] ⟨rfl, ALe.c (CLe.fl .nil), ⟨rfl, ALe.c (CLe.refl _), True.intro⟩⟩ True.intro ?_
    exact Kn.r Fm [(2, AL (α := Region) []), (3, vi (7 : Int))] [] (by kernel_rfl) (Kn.dn Fm (by kernel_rfl))
  · have h := br_f h hb2022
    refine AW.skip ?_
    refine AW.sg Fm [.m] (fun K => True) [(1, .v (.c (.ptr 1 0))), (4, .v (.c (.own 4)))] [(1, .box false [.d (DL x2019.rects_)]), (4, .arr 1 (0) (fun _ => []))] True.intro (by kernel_rfl) ?_
    refine Kn.wk [(1, .v (.c (.ptr 1 0))), (4, .v (.c (.own 4)))] [(1, .box false [.d (DL x2019.rects_)]), (4, AO (α := Region) ([] : List Region))] (FE.refl _) (⟨rfl, OLe.refl _, ⟨rfl, OLe.is ((Is.nil (α := Region))), True.intro⟩⟩) ?_
    refine AW.join (r := r) (fun z : (List Region) => shape_Parts_k1 F z) (fun z => [(4, .v (.c (.own 4)))]) (fun z => [(4, AO z)]) (fun v2041 h => ?_) (fun J2042 hJ2042 => ?_)
    · have h : shape_Parts_k1 F v2041 = some r := h
      refine AW.seq ?_
      obtain ⟨z2043, hz2044, h⟩ := bd_some h
      refine AW.g Fm [.s, .k (cE [(0, 4)] [] (.any) [(0, AO v2041)] [(0, AO z2043)])] (fun K => K 1 ∧ True) [(4, .v (.c (.own 4)))] [(4, AO z2043)] ⟨KAt.callX (args := [.v (.c (.own 0)), .v (.c (.sem (CloOK Tryz.prog (FR_Region_Region_Int (fun y0 y1 => shape_Parts_1 F y0 y1)))))]) (sortG_Region_spec hz2044) Tryz.call58 [(0, 4)] [] [.tmp 34, .func 59] rfl (by kernel_rfl) (by kernel_rfl) (by kernel_rfl) ⟨ArgT.plain (by kernel_rfl) (ALe.of_eq (by kernel_rfl)) (by kernel_rfl), ArgT.cloX Tryz.call59 [] (fun args r hq => by obtain ⟨y0, y1, y, hq, rfl, rfl⟩ := hq; exact Eq.mp (by kernel_rfl) (shape_Parts_1_spec hq)) (fun args r hq => by obtain ⟨y0, y1, y, hq, rfl, rfl⟩ := hq; rfl) (by kernel_rfl) [] (by kernel_rfl) (by kernel_rfl) (True.intro) (by kernel_rfl), True.intro⟩, True.intro⟩ (by kernel_rfl) ?_
      refine AW.sg0 Fm 3 [(2, .v (.c (.own 4))), (3, vi (0 : Int))] [(4, AO z2043)] (by kernel_rfl) ?_
      refine AW.ret ?_
      obtain rfl := Option.some.inj h
      refine Kn.r Fm [(2, .v (.c (.own 4))), (3, vi (0 : Int))] [(4, AO z2043)] (by kernel_rfl) ?_
      refine Kn.frz [(2, AL z2043), (3, vi (0 : Int))] [] (by kernel_rfl) (by kernel_rfl) (by kernel_rfl) ?_
      exact Kn.r Fm [(2, AL z2043), (3, vi (0 : Int))] [] (by kernel_rfl) (Kn.dn Fm (by kernel_rfl))
    · refine AW.sg0 Fm 3 [(4, .v (.c (.own 4))), (5, AL x2019.rects_)] [(4, AO (α := Region) ([] : List Region))] (by kernel_rfl) ?_
      refine AW.block ?_
      refine Kn.r Fm [(4, .v (.c (.own 4))), (5, AL x2019.rects_)] [(4, AO ([] : List Region))] (by kernel_rfl) ?_
      have h : loopN (fun again (z : (List Rect) × (List Region)) => shape_Parts_b0 F again z.1 z.2) F (x2019.rects_, ([] : List Region)) = some r := h
      refine AW.loopF (E' := fun z => [(4, .v (.c (.own 4))), (5, AL z.1)]) (S' := fun z => [(4, AO z.2)]) (fun ag_shape_Parts_b0 z J2033 hJ2033 h => ?_) h
      obtain ⟨v2031, v2032⟩ := z
      have h : shape_Parts_b0 F ag_shape_Parts_b0 v2031 v2032 = some r := h
      refine AW.seq ?_
      refine AW.sg0 Fm 3 [(4, .v (.c (.own 4))), (5, AL v2031), (16, vb (decide ((0 : Int) < ((List.length v2031 : Nat) : Int))))] [(4, AO v2032)] (by kernel_rfl) ?_
      refine AW.cond (b := (decide ((0 : Int) < ((List.length v2031 : Nat) : Int)))) (by kernel_rfl) (fun hb2034 => ?_) (fun hb2034 => ?_)
      · have h := br_t h hb2034
        refine AW.skip ?_
        refine AW.block ?_
        refine AW.sg Fm [.m] (fun K => True) [(4, .v (.c (.own 4))), (5, AL v2031)] [(4, AO v2032)] True.intro (by kernel_rfl) ?_
        refine AW.seq ?_
        obtain ⟨z2035, hz2036, h⟩ := bd_some h
        refine AW.g Fm [.s, .k (cE [] [] (.t [.c (.d (DL z2035.1)), .c (.d (DL z2035.2))]) [] []), .s, .s, .s, .s, .s] (fun K => K 1 ∧ True) [(4, .v (.c (.own 4))), (5, AL z2035.2), (6, AL z2035.1)] [(4, AO v2032)] ⟨KAt.cl (args := [AL v2031]) (shape_Joined_spec hz2036) Tryz.call56 [] rfl (by kernel_rfl), True.intro⟩ (by kernel_rfl) ?_
        refine AW.seq ?_
        obtain ⟨z2037, hz2038, h⟩ := bd_some h
        refine AW.g Fm [.s, .k (cE [] [] (.t [.g [.d (DL z2037.1.rects_)], .c (ci z2037.2)]) [] []), .s, .s, .s, .s, .s, .s] (fun K => K 1 ∧ True) [(4, .v (.c (.own 4))), (5, AL z2035.2), (7, .v (.c (.ptr 7 0))), (8, vi z2037.2)] [(4, AO v2032), (7, .box false [.d (DL z2037.1.rects_)])] ⟨KAt.cl (args := [AL z2035.1]) (region_Of_spec hz2038) Tryz.call57 [] rfl (by kernel_rfl), True.intro⟩ (by kernel_rfl) ?_
        refine AW.seq ?_
        refine AW.sg0 Fm 2 [(4, .v (.c (.own 4))), (5, AL z2035.2), (7, .v (.c (.ptr 7 0))), (8, vi z2037.2), (28, vb (z2037.2 != (0 : Int)))] [(4, AO v2032), (7, .box false [.d (DL z2037.1.rects_)])] (by kernel_rfl) ?_
        refine AW.cond (b := (z2037.2 != (0 : Int))) (by kernel_rfl) (fun hb2039 => ?_) (fun hb2039 => ?_)
        · have h := br_t h hb2039
          refine AW.sg0 Fm 3 [(2, .v (.c (.fl 0 fun _ => []))), (3, vi z2037.2)] [] (by kernel_rfl) ?_
          refine AW.ret ?_
          obtain rfl := Option.some.inj h
          refine Kn.r Fm [(2, .v (.c (.fl 0 fun _ => []))), (3, vi z2037.2)] [] (by kernel_rfl) ?_
          refine Kn.wk [(2, AL (α := Region) []), (3, vi z2037.2)] [] ⟨rfl, ALe.c (CLe.fl .nil), ⟨rfl, ALe.c (CLe.refl _), True.intro⟩⟩ True.intro ?_
          exact Kn.r Fm [(2, AL (α := Region) []), (3, vi z2037.2)] [] (by kernel_rfl) (Kn.dn Fm (by kernel_rfl))
        · have h := br_f h hb2039
          refine AW.skip ?_
          obtain ⟨hg2040, h⟩ := gd_some h
          refine AW.g Fm [.s, .s, .w (AL (α := Region) ([z2037.1] : List Region)), .s, .s] (fun K => (ALe (.v (.c (.d (.lst 1 (litF 1 [DL z2037.1.rects_]))))) (AL (α := Region) ([z2037.1] : List Region))) ∧ ((List.length (α := Region) v2032) + (List.length (α := Region) ([z2037.1] : List Region)) ≤ LIM ∧ (∀ j, j < List.length (α := Region) ([z2037.1] : List Region) → ((LF (α := Region) ([z2037.1] : List Region)) j).length = 1) ∧ (True)) ∧ True) [(4, .v (.c (.own 33))), (5, AL z2035.2)] [(33, .arr 1 ((List.length (α := Region) v2032) + (List.length (α := Region) ([z2037.1] : List Region))) (appF (List.length (α := Region) v2032) (LF (α := Region) v2032) (LF (α := Region) ([z2037.1] : List Region))))] ⟨ALe.lst (.lit ([z2037.1] : List Region) (by kernel_rfl)), ⟨hg2040, (Is.refl ([z2037.1] : List Region) : Is (List.length (α := Region) ([z2037.1] : List Region)) (LF (α := Region) ([z2037.1] : List Region)) ([z2037.1] : List Region)).len, True.intro⟩, True.intro⟩ (by kernel_rfl) ?_
          refine Kn.wk [(4, .v (.c (.own 33))), (5, AL z2035.2)] [(33, AO (α := Region) (v2032 ++ ([z2037.1] : List Region)))] (FE.refl _) (⟨rfl, OLe.is (Is.app (Is.refl v2032) (Is.refl ([z2037.1] : List Region))), True.intro⟩) ?_
          exact Kn.re Fm [(4, 33)] [(4, .v (.c (.own 4))), (5, AL z2035.2)] [(4, AO (v2032 ++ ([z2037.1] : List Region)))] (by kernel_rfl) (by kernel_rfl) (by kernel_rfl) (by kernel_rfl) (hJ2033 (z2035.2, (v2032 ++ ([z2037.1] : List Region))) h)
      · have h := br_f h hb2034
        refine AW.exit ?_
        exact Kn.r Fm [(4, .v (.c (.own 4)))] [(4, AO v2032)] (by kernel_rfl) (hJ2042 v2032 h)
theorem ref04_Same_spec {F : Nat} {x2045 : Region} {x2046 : Region} {r : Bool} (h : ref04_Same F x2045 x2046 = some r) :
    FSpec Tryz.prog 16 [.v (.g [.d (DL x2045.rects_)]), .v (.g [.d (DL x2046.rects_)])] [] (vb r) [] := by
  refine FSpec.intro prog_mixed prog_lay Tryz.func16 rfl (by kernel_rfl) fun C Fm => ?_
  unfold ref04_Same at h
  refine AW.sg0 Fm 3 [(2, .v (.c (.ptr 2 0))), (3, .v (.c (.ptr 3 0)))] [(2, .box false [.d (DL x2045.rects_)]), (3, .box false [.d (DL x2046.rects_)])] (by kernel_rfl) ?_
  refine AW.seq ?_
  obtain ⟨z2047, hz2048, h⟩ := bd_some h
  refine AW.g Fm [.s, .s, .s, .s, .k (cE [] [] (vb z2047) [] []), .s] (fun K => K 4 ∧ True) [(4, vb z2047)] [] ⟨KAt.cl (args := [AL x2045.rects_, AL x2046.rects_]) (ref04_Rects_spec hz2048) Tryz.call63 [] rfl (by kernel_rfl), True.intro⟩ (by kernel_rfl) ?_
  refine AW.ret ?_
  obtain rfl := Option.some.inj h
  exact Kn.r Fm [(4, vb z2047)] [] (by kernel_rfl) (Kn.dn Fm (by kernel_rfl))
theorem shape_Touch_spec {F : Nat} {x2049 : Region} {x2050 : Region} {r : Int × Int} (h : shape_Touch F x2049 x2050 = some r) :
    FSpec Tryz.prog 17 [.v (.g [.d (DL x2049.rects_)]), .v (.g [.d (DL x2050.rects_)])] [] (.t [.c (ci r.1), .c (ci r.2)]) [] := by
  refine FSpec.intro prog_mixed prog_lay Tryz.func17 rfl (by kernel_rfl) fun C Fm => ?_
  unfold shape_Touch at h
  refine AW.sg0 Fm 4 [(2, .v (.c (.ptr 2 0))), (3, .v (.c (.ptr 3 0)))] [(2, .box false [.d (DL x2049.rects_)]), (3, .box false [.d (DL x2050.rects_)])] (by kernel_rfl) ?_
  refine AW.seq ?_
  refine AW.block ?_
  refine AW.join (r := r) (fun z : Bool => shape_Touch_k0 F x2049 x2050 z) (fun z => [(2, .v (.c (.ptr 2 0))), (3, .v (.c (.ptr 3 0))), (11, vb z)]) (fun z => [(2, .box false [.d (DL x2049.rects_)]), (3, .box false [.d (DL x2050.rects_)])]) (fun v2056 h => ?_) (fun J2057 hJ2057 => ?_)
  · have h : shape_Touch_k0 F x2049 x2050 v2056 = some r := h
    refine AW.cond (b := v2056) (by kernel_rfl) (fun hb2058 => ?_) (fun hb2058 => ?_)
    · have h := br_t h hb2058
      refine AW.sg0 Fm 2 [(4, vi (0 : Int)), (5, vi (7 : Int))] [] (by kernel_rfl) ?_
      refine AW.ret ?_
      obtain rfl := Option.some.inj h
      exact Kn.r Fm [(4, vi (0 : Int)), (5, vi (7 : Int))] [] (by kernel_rfl) (Kn.dn Fm (by kernel_rfl))
    · have h := br_f h hb2058
      refine AW.seq ?_
      obtain ⟨z2059, hz2060, h⟩ := bd_some h
      refine AW.g Fm [.s, .s, .k (cE [] [] (vb z2059) [] []), .s] (fun K => K 2 ∧ True) [(2, .v (.c (.ptr 2 0))), (3, .v (.c (.ptr 3 0))), (20, vb z2059)] [(2, .box false [.d (DL x2049.rects_)]), (3, .box false [.d (DL x2050.rects_)])] ⟨KAt.cl (args := [.v (.g [.d (DL x2049.rects_)]), .v (.g [.d (DL x2050.rects_)])]) (region_Meets_spec hz2060) Tryz.call65 [] rfl (by kernel_rfl), True.intro⟩ (by kernel_rfl) ?_
      refine AW.cond (b := z2059) (by kernel_rfl) (fun hb2061 => ?_) (fun hb2061 => ?_)
      · have h := br_t h hb2061
        refine AW.sg0 Fm 2 [(4, vi (0 : Int)), (5, vi (11 : Int))] [] (by kernel_rfl) ?_
        refine AW.ret ?_
        obtain rfl := Option.some.inj h
        exact Kn.r Fm [(4, vi (0 : Int)), (5, vi (11 : Int))] [] (by kernel_rfl) (Kn.dn Fm (by kernel_rfl))
      · have h := br_f h hb2061
        refine AW.skip ?_
        refine AW.sg0 Fm 1 [(2, .v (.c (.ptr 2 0))), (3, .v (.c (.ptr 3 0))), (6, vi (0 : Int))] [(2, .box false [.d (DL x2049.rects_)]), (3, .box false [.d (DL x2050.rects_)])] (by kernel_rfl) ?_
        refine AW.join (r := r) (fun z : Int => shape_Touch_k4 F z) (fun z => [(6, vi z)]) (fun z => []) (fun v2108 h => ?_) (fun J2109 hJ2109 => ?_)
        · have h : shape_Touch_k4 F v2108 = some r := h
          refine AW.sg0 Fm 3 [(4, vi v2108), (5, vi (0 : Int))] [] (by kernel_rfl) ?_
          refine AW.ret ?_
          obtain rfl := Option.some.inj h
          exact Kn.r Fm [(4, vi v2108), (5, vi (0 : Int))] [] (by kernel_rfl) (Kn.dn Fm (by kernel_rfl))
        · refine AW.sg0 Fm 4 [(3, .v (.c (.ptr 3 0))), (6, vi (0 : Int)), (25, AL x2049.rects_), (26, vi ((List.length x2049.rects_ : Nat) : Int)), (27, vi (0 : Int))] [(3, .box false [.d (DL x2050.rects_)])] (by kernel_rfl) ?_
          refine AW.block ?_
          refine Kn.r Fm [(3, .v (.c (.ptr 3 0))), (6, vi (0 : Int)), (25, AL x2049.rects_), (26, vi ((List.length x2049.rects_ : Nat) : Int)), (27, vi (0 : Int))] [(3, .box false [.d (DL x2050.rects_)])] (by kernel_rfl) ?_
          have h : loopN (fun again (z : Int × Int) => shape_Touch_b1 F x2049 x2050 again z.1 z.2) F ((0 : Int), (0 : Int)) = some r := h
          refine AW.loopF (E' := fun z => [(3, .v (.c (.ptr 3 0))), (6, vi z.1), (25, AL x2049.rects_), (26, vi ((List.length x2049.rects_ : Nat) : Int)), (27, vi z.2)]) (S' := fun z => [(3, .box false [.d (DL x2050.rects_)])]) (fun ag_shape_Touch_b1 z J2086 hJ2086 h => ?_) h
          obtain ⟨v2084, v2085⟩ := z
          have h : shape_Touch_b1 F x2049 x2050 ag_shape_Touch_b1 v2084 v2085 = some r := h
          refine AW.sg0 Fm 1 [(3, .v (.c (.ptr 3 0))), (6, vi v2084), (25, AL x2049.rects_), (26, vi ((List.length x2049.rects_ : Nat) : Int)), (27, vi v2085), (28, vb (decide (v2085 < ((List.length x2049.rects_ : Nat) : Int))))] [(3, .box false [.d (DL x2050.rects_)])] (by kernel_rfl) ?_
          refine AW.seq ?_
          refine AW.cond (b := (decide (v2085 < ((List.length x2049.rects_ : Nat) : Int)))) (by kernel_rfl) (fun hb2087 => ?_) (fun hb2087 => ?_)
          · have h := br_t h hb2087
            refine AW.skip ?_
            refine AW.join (r := r) (fun z : Int => shape_Touch_k3 F v2085 ag_shape_Touch_b1 z) (fun z => [(3, .v (.c (.ptr 3 0))), (6, vi z), (25, AL x2049.rects_), (26, vi ((List.length x2049.rects_ : Nat) : Int)), (27, vi v2085)]) (fun z => [(3, .box false [.d (DL x2050.rects_)])]) (fun v2105 h => ?_) (fun J2106 hJ2106 => ?_)
            · have h : shape_Touch_k3 F v2085 ag_shape_Touch_b1 v2105 = some r := h
              obtain ⟨hg2107, h⟩ := gd_some h
              refine AW.g Fm [.s, .s] (fun K => (I64 (v2085 + (1 : Int)) ∧ True) ∧ True) [(3, .v (.c (.ptr 3 0))), (6, vi v2105), (25, AL x2049.rects_), (26, vi ((List.length x2049.rects_ : Nat) : Int)), (27, vi (v2085 + (1 : Int)))] [(3, .box false [.d (DL x2050.rects_)])] ⟨⟨hg2107, True.intro⟩, True.intro⟩ (by kernel_rfl) ?_
              exact Kn.r Fm [(3, .v (.c (.ptr 3 0))), (6, vi v2105), (25, AL x2049.rects_), (26, vi ((List.length x2049.rects_ : Nat) : Int)), (27, vi (v2085 + (1 : Int)))] [(3, .box false [.d (DL x2050.rects_)])] (by kernel_rfl) (hJ2086 (v2105, (v2085 + (1 : Int))) h)
            · refine AW.block ?_
              obtain ⟨hg2088, h⟩ := gd_some h
              refine AW.sg Fm [.s, .s, .s, .s] (fun K => (0 ≤ v2085 ∧ v2085 < ((List.length x2049.rects_ : Nat) : Int)) ∧ True) [(3, .v (.c (.ptr 3 0))), (6, vi v2084), (8, .v (.c (.ptr 8 0))), (25, AL x2049.rects_), (26, vi ((List.length x2049.rects_ : Nat) : Int)), (27, vi v2085)] [(3, .box false [.d (DL x2050.rects_)]), (8, .box false [ci ((gl x2049.rects_ v2085.toNat).left_), ci ((gl x2049.rects_ v2085.toNat).low_), ci ((gl x2049.rects_ v2085.toNat).right_), ci ((gl x2049.rects_ v2085.toNat).high_)])] ⟨hg2088, True.intro⟩ (by kernel_rfl) ?_
              refine AW.sg0 Fm 4 [(3, .v (.c (.ptr 3 0))), (6, vi v2084), (8, .v (.c (.ptr 8 0))), (25, AL x2049.rects_), (26, vi ((List.length x2049.rects_ : Nat) : Int)), (27, vi v2085), (32, AL x2050.rects_), (33, vi ((List.length x2050.rects_ : Nat) : Int)), (34, vi (0 : Int))] [(3, .box false [.d (DL x2050.rects_)]), (8, .box false [ci ((gl x2049.rects_ v2085.toNat).left_), ci ((gl x2049.rects_ v2085.toNat).low_), ci ((gl x2049.rects_ v2085.toNat).right_), ci ((gl x2049.rects_ v2085.toNat).high_)])] (by kernel_rfl) ?_
              refine AW.block ?_
              refine Kn.r Fm [(3, .v (.c (.ptr 3 0))), (6, vi v2084), (8, .v (.c (.ptr 8 0))), (25, AL x2049.rects_), (26, vi ((List.length x2049.rects_ : Nat) : Int)), (27, vi v2085), (32, AL x2050.rects_), (33, vi ((List.length x2050.rects_ : Nat) : Int)), (34, vi (0 : Int))] [(3, .box false [.d (DL x2050.rects_)]), (8, .box false [ci ((gl x2049.rects_ v2085.toNat).left_), ci ((gl x2049.rects_ v2085.toNat).low_), ci ((gl x2049.rects_ v2085.toNat).right_), ci ((gl x2049.rects_ v2085.toNat).high_)])] (by kernel_rfl) ?_
              have h : loopN (fun again (z : Int × Int) => shape_Touch_b2 F x2049 x2050 v2085 ag_shape_Touch_b1 again z.1 z.2) F (v2084, (0 : Int)) = some r := h
              refine AW.loopF (E' := fun z => [(3, .v (.c (.ptr 3 0))), (6, vi z.1), (8, .v (.c (.ptr 8 0))), (25, AL x2049.rects_), (26, vi ((List.length x2049.rects_ : Nat) : Int)), (27, vi v2085), (32, AL x2050.rects_), (33, vi ((List.length x2050.rects_ : Nat) : Int)), (34, vi z.2)]) (S' := fun z => [(3, .box false [.d (DL x2050.rects_)]), (8, .box false [ci ((gl x2049.rects_ v2085.toNat).left_), ci ((gl x2049.rects_ v2085.toNat).low_), ci ((gl x2049.rects_ v2085.toNat).right_), ci ((gl x2049.rects_ v2085.toNat).high_)])]) (fun ag_shape_Touch_b2 z J2098 hJ2098 h => ?_) h
              obtain ⟨v2096, v2097⟩ := z
              have h : shape_Touch_b2 F x2049 x2050 v2085 ag_shape_Touch_b1 ag_shape_Touch_b2 v2096 v2097 = some r := h
              refine AW.sg0 Fm 1 [(3, .v (.c (.ptr 3 0))), (6, vi v2096), (8, .v (.c (.ptr 8 0))), (25, AL x2049.rects_), (26, vi ((List.length x2049.rects_ : Nat) : Int)), (27, vi v2085), (32, AL x2050.rects_), (33, vi ((List.length x2050.rects_ : Nat) : Int)), (34, vi v2097), (35, vb (decide (v2097 < ((List.length x2050.rects_ : Nat) : Int))))] [(3, .box false [.d (DL x2050.rects_)]), (8, .box false [ci ((gl x2049.rects_ v2085.toNat).left_), ci ((gl x2049.rects_ v2085.toNat).low_), ci ((gl x2049.rects_ v2085.toNat).right_), ci ((gl x2049.rects_ v2085.toNat).high_)])] (by kernel_rfl) ?_
              refine AW.seq ?_
              refine AW.cond (b := (decide (v2097 < ((List.length x2050.rects_ : Nat) : Int)))) (by kernel_rfl) (fun hb2099 => ?_) (fun hb2099 => ?_)
              · have h := br_t h hb2099
                refine AW.skip ?_
                refine AW.seq ?_
                refine AW.block ?_
                obtain ⟨hg2100, h⟩ := gd_some h
                refine AW.sg Fm [.s, .s, .s, .s] (fun K => (0 ≤ v2097 ∧ v2097 < ((List.length x2050.rects_ : Nat) : Int)) ∧ True) [(3, .v (.c (.ptr 3 0))), (6, vi v2096), (8, .v (.c (.ptr 8 0))), (10, .v (.c (.ptr 10 0))), (25, AL x2049.rects_), (26, vi ((List.length x2049.rects_ : Nat) : Int)), (27, vi v2085), (32, AL x2050.rects_), (33, vi ((List.length x2050.rects_ : Nat) : Int)), (34, vi v2097)] [(3, .box false [.d (DL x2050.rects_)]), (8, .box false [ci ((gl x2049.rects_ v2085.toNat).left_), ci ((gl x2049.rects_ v2085.toNat).low_), ci ((gl x2049.rects_ v2085.toNat).right_), ci ((gl x2049.rects_ v2085.toNat).high_)]), (10, .box false [ci ((gl x2050.rects_ v2097.toNat).left_), ci ((gl x2050.rects_ v2097.toNat).low_), ci ((gl x2050.rects_ v2097.toNat).right_), ci ((gl x2050.rects_ v2097.toNat).high_)])] ⟨hg2100, True.intro⟩ (by kernel_rfl) ?_
                obtain ⟨z2101, hz2102, h⟩ := bd_some h
                obtain ⟨hg2103, h⟩ := gd_some h
                refine AW.g Fm [.s, .s, .s, .k (cE [] [] (vi z2101) [] []), .s, .s] (fun K => K 3 ∧ (I64 (v2096 + z2101) ∧ True) ∧ True) [(3, .v (.c (.ptr 3 0))), (6, vi (v2096 + z2101)), (8, .v (.c (.ptr 8 0))), (25, AL x2049.rects_), (26, vi ((List.length x2049.rects_ : Nat) : Int)), (27, vi v2085), (32, AL x2050.rects_), (33, vi ((List.length x2050.rects_ : Nat) : Int)), (34, vi v2097)] [(3, .box false [.d (DL x2050.rects_)]), (8, .box false [ci ((gl x2049.rects_ v2085.toNat).left_), ci ((gl x2049.rects_ v2085.toNat).low_), ci ((gl x2049.rects_ v2085.toNat).right_), ci ((gl x2049.rects_ v2085.toNat).high_)])] ⟨KAt.cl (args := [.v (.g [ci ((gl x2049.rects_ v2085.toNat).left_), ci ((gl x2049.rects_ v2085.toNat).low_), ci ((gl x2049.rects_ v2085.toNat).right_), ci ((gl x2049.rects_ v2085.toNat).high_)]), .v (.g [ci ((gl x2050.rects_ v2097.toNat).left_), ci ((gl x2050.rects_ v2097.toNat).low_), ci ((gl x2050.rects_ v2097.toNat).right_), ci ((gl x2050.rects_ v2097.toNat).high_)])]) (shape_common_spec hz2102) Tryz.call66 [] rfl (by kernel_rfl), ⟨hg2103, True.intro⟩, True.intro⟩ (by kernel_rfl) ?_
                obtain ⟨hg2104, h⟩ := gd_some h
                refine AW.g Fm [.s, .s] (fun K => (I64 (v2097 + (1 : Int)) ∧ True) ∧ True) [(3, .v (.c (.ptr 3 0))), (6, vi (v2096 + z2101)), (8, .v (.c (.ptr 8 0))), (25, AL x2049.rects_), (26, vi ((List.length x2049.rects_ : Nat) : Int)), (27, vi v2085), (32, AL x2050.rects_), (33, vi ((List.length x2050.rects_ : Nat) : Int)), (34, vi (v2097 + (1 : Int)))] [(3, .box false [.d (DL x2050.rects_)]), (8, .box false [ci ((gl x2049.rects_ v2085.toNat).left_), ci ((gl x2049.rects_ v2085.toNat).low_), ci ((gl x2049.rects_ v2085.toNat).right_), ci ((gl x2049.rects_ v2085.toNat).high_)])] ⟨⟨hg2104, True.intro⟩, True.intro⟩ (by kernel_rfl) ?_
                exact Kn.r Fm [(3, .v (.c (.ptr 3 0))), (6, vi (v2096 + z2101)), (8, .v (.c (.ptr 8 0))), (25, AL x2049.rects_), (26, vi ((List.length x2049.rects_ : Nat) : Int)), (27, vi v2085), (32, AL x2050.rects_), (33, vi ((List.length x2050.rects_ : Nat) : Int)), (34, vi (v2097 + (1 : Int)))] [(3, .box false [.d (DL x2050.rects_)]), (8, .box false [ci ((gl x2049.rects_ v2085.toNat).left_), ci ((gl x2049.rects_ v2085.toNat).low_), ci ((gl x2049.rects_ v2085.toNat).right_), ci ((gl x2049.rects_ v2085.toNat).high_)])] (by kernel_rfl) (hJ2098 ((v2096 + z2101), (v2097 + (1 : Int))) h)
              · have h := br_f h hb2099
                refine AW.exit ?_
                exact Kn.r Fm [(3, .v (.c (.ptr 3 0))), (6, vi v2096), (25, AL x2049.rects_), (26, vi ((List.length x2049.rects_ : Nat) : Int)), (27, vi v2085)] [(3, .box false [.d (DL x2050.rects_)])] (by kernel_rfl) (hJ2106 v2096 h)
          · have h := br_f h hb2087
            refine AW.exit ?_
            exact Kn.r Fm [(6, vi v2084)] [] (by kernel_rfl) (hJ2109 v2084 h)
  · obtain ⟨z2051, hz2052, h⟩ := bd_some h
    rcases Bool.eq_false_or_eq_true (!z2051) with hb2053 | hb2053
    · have h := br_t h hb2053
      refine AW.g Fm [.s, .k (cE [] [] (vb z2051) [] []), .s, .w (vb true), .s, .s, .s, .s, .s] (fun K => K 1 ∧ (ALe (vb (!z2051)) (vb true)) ∧ True) [(2, .v (.c (.ptr 2 0))), (3, .v (.c (.ptr 3 0))), (11, vb true)] [(2, .box false [.d (DL x2049.rects_)]), (3, .box false [.d (DL x2050.rects_)])] ⟨KAt.cl (args := [.v (.g [.d (DL x2049.rects_)])]) (region_Valid_spec hz2052) Tryz.call55 [] rfl (by kernel_rfl), ALe.bool hb2053, True.intro⟩ (by kernel_rfl) ?_
      exact Kn.r Fm [(2, .v (.c (.ptr 2 0))), (3, .v (.c (.ptr 3 0))), (11, vb true)] [(2, .box false [.d (DL x2049.rects_)]), (3, .box false [.d (DL x2050.rects_)])] (by kernel_rfl) (hJ2057 true h)
    · have h := br_f h hb2053
      obtain ⟨z2054, hz2055, h⟩ := bd_some h
      refine AW.g Fm [.s, .k (cE [] [] (vb z2051) [] []), .s, .w (vb false), .s, .k (cE [] [] (vb z2054) [] []), .s, .s, .s] (fun K => K 1 ∧ (ALe (vb (!z2051)) (vb false)) ∧ K 5 ∧ True) [(2, .v (.c (.ptr 2 0))), (3, .v (.c (.ptr 3 0))), (11, vb (!z2054))] [(2, .box false [.d (DL x2049.rects_)]), (3, .box false [.d (DL x2050.rects_)])] ⟨KAt.cl (args := [.v (.g [.d (DL x2049.rects_)])]) (region_Valid_spec hz2052) Tryz.call55 [] rfl (by kernel_rfl), ALe.bool hb2053, KAt.cl (args := [.v (.g [.d (DL x2050.rects_)])]) (region_Valid_spec hz2055) Tryz.call55 [] rfl (by kernel_rfl), True.intro⟩ (by kernel_rfl) ?_
      exact Kn.r Fm [(2, .v (.c (.ptr 2 0))), (3, .v (.c (.ptr 3 0))), (11, vb (!z2054))] [(2, .box false [.d (DL x2049.rects_)]), (3, .box false [.d (DL x2050.rects_)])] (by kernel_rfl) (hJ2057 (!z2054) h)
theorem shape_check_spec {F : Nat} {x2110 : Region} {x2111 : Int} {r : Int} (h : shape_check F x2110 x2111 = some r) :
    FSpec Tryz.prog 95 [.v (.g [.d (DL x2110.rects_)]), vi x2111] [] (vi r) [] := by
  refine FSpec.intro prog_mixed prog_lay Tryz.func95 rfl (by kernel_rfl) fun C Fm => ?_
  unfold shape_check at h
  refine AW.sg0 Fm 2 [(1, vi x2111), (2, .v (.c (.ptr 2 0)))] [(2, .box false [.d (DL x2110.rects_)])] (by kernel_rfl) ?_
  refine AW.seq ?_
  refine AW.block ?_
  refine AW.seq ?_
  obtain ⟨z2112, hz2113, h⟩ := bd_some h
  refine AW.g Fm [.s, .k (cE [] [] (vb z2112) [] []), .s, .s] (fun K => K 1 ∧ True) [(1, vi x2111), (5, vb (!z2112))] [] ⟨KAt.cl (args := [.v (.g [.d (DL x2110.rects_)])]) (region_Valid_spec hz2113) Tryz.call55 [] rfl (by kernel_rfl), True.intro⟩ (by kernel_rfl) ?_
  refine AW.cond (b := (!z2112)) (by kernel_rfl) (fun hb2114 => ?_) (fun hb2114 => ?_)
  · have h := br_t h hb2114
    refine AW.sg0 Fm 1 [(4, vi (7 : Int))] [] (by kernel_rfl) ?_
    refine AW.ret ?_
    obtain rfl := Option.some.inj h
    exact Kn.r Fm [(4, vi (7 : Int))] [] (by kernel_rfl) (Kn.dn Fm (by kernel_rfl))
  · have h := br_f h hb2114
    refine AW.join (r := r) (fun z : Bool => shape_check_k0 F z) (fun z => [(9, vb z)]) (fun z => []) (fun v2116 h => ?_) (fun J2117 hJ2117 => ?_)
    · have h : shape_check_k0 F v2116 = some r := h
      refine AW.cond (b := v2116) (by kernel_rfl) (fun hb2118 => ?_) (fun hb2118 => ?_)
      · have h := br_t h hb2118
        refine AW.sg0 Fm 1 [(4, vi (2 : Int))] [] (by kernel_rfl) ?_
        refine AW.ret ?_
        obtain rfl := Option.some.inj h
        exact Kn.r Fm [(4, vi (2 : Int))] [] (by kernel_rfl) (Kn.dn Fm (by kernel_rfl))
      · have h := br_f h hb2118
        refine AW.skip ?_
        refine AW.sg0 Fm 1 [(4, vi (0 : Int))] [] (by kernel_rfl) ?_
        refine AW.ret ?_
        obtain rfl := Option.some.inj h
        exact Kn.r Fm [(4, vi (0 : Int))] [] (by kernel_rfl) (Kn.dn Fm (by kernel_rfl))
    · rcases Bool.eq_false_or_eq_true (decide (x2111 < (0 : Int))) with hb2115 | hb2115
      · have h := br_t h hb2115
        refine AW.g Fm [.s, .s, .w (vb true), .s, .s, .s, .s] (fun K => (ALe (vb (decide (x2111 < (0 : Int)))) (vb true)) ∧ True) [(9, vb true)] [] ⟨ALe.bool hb2115, True.intro⟩ (by kernel_rfl) ?_
        exact Kn.r Fm [(9, vb true)] [] (by kernel_rfl) (hJ2117 true h)
      · have h := br_f h hb2115
        refine AW.g Fm [.s, .s, .w (vb false), .s, .s, .s, .s] (fun K => (ALe (vb (decide (x2111 < (0 : Int)))) (vb false)) ∧ True) [(9, vb (decide ((64 : Int) < x2111)))] [] ⟨ALe.bool hb2115, True.intro⟩ (by kernel_rfl) ?_
        exact Kn.r Fm [(9, vb (decide ((64 : Int) < x2111)))] [] (by kernel_rfl) (hJ2117 (decide ((64 : Int) < x2111)) h)
theorem shape_wider_spec {F : Nat} {x2119 : (List Rect)} {x2120 : Int} {r : (List Rect)} (h : shape_wider F x2119 x2120 = some r) :
    FSpec Tryz.prog 96 [AL x2119, vi x2120] [] (.v (.c (.own 100))) [(100, AO (α := Rect) r)] := by
  refine FSpec.intro prog_mixed prog_lay Tryz.func96 rfl (by kernel_rfl) fun C Fm => ?_
  unfold shape_wider at h
  refine AW.sg Fm [.m] (fun K => True) [(0, AL x2119), (1, vi x2120)] [] True.intro (by kernel_rfl) ?_
  refine AW.sg Fm [.m] (fun K => True) [(0, AL x2119), (1, vi x2120), (5, .v (.c (.own 5)))] [(5, .arr 4 (0) (fun _ => []))] True.intro (by kernel_rfl) ?_
  refine Kn.wk [(0, AL x2119), (1, vi x2120), (5, .v (.c (.own 5)))] [(5, AO (α := Rect) ([] : List Rect))] (FE.refl _) (⟨rfl, OLe.is ((Is.nil (α := Rect))), True.intro⟩) ?_
  refine AW.join (r := r) (fun z : (List Rect) => shape_wider_k1 F z) (fun z => [(5, .v (.c (.own 5)))]) (fun z => [(5, AO z)]) (fun v2141 h => ?_) (fun J2142 hJ2142 => ?_)
  · have h : shape_wider_k1 F v2141 = some r := h
    refine AW.sg0 Fm 2 [(4, .v (.c (.own 5)))] [(5, AO v2141)] (by kernel_rfl) ?_
    refine AW.ret ?_
    obtain rfl := Option.some.inj h
    exact Kn.re Fm [(100, 5)] [(4, .v (.c (.own 100)))] [(100, AO v2141)] (by kernel_rfl) (by kernel_rfl) (by kernel_rfl) (by kernel_rfl) (Kn.dn Fm (by kernel_rfl))
  · refine AW.sg0 Fm 3 [(1, vi x2120), (5, .v (.c (.own 5))), (8, AL x2119), (9, vi ((List.length x2119 : Nat) : Int)), (10, vi (0 : Int))] [(5, AO (α := Rect) ([] : List Rect))] (by kernel_rfl) ?_
    refine AW.block ?_
    refine Kn.r Fm [(1, vi x2120), (5, .v (.c (.own 5))), (8, AL x2119), (9, vi ((List.length x2119 : Nat) : Int)), (10, vi (0 : Int))] [(5, AO ([] : List Rect))] (by kernel_rfl) ?_
    have h : loopN (fun again (z : Int × (List Rect)) => shape_wider_b0 F x2119 x2120 again z.1 z.2) F ((0 : Int), ([] : List Rect)) = some r := h
    refine AW.loopF (E' := fun z => [(1, vi x2120), (5, .v (.c (.own 5))), (8, AL x2119), (9, vi ((List.length x2119 : Nat) : Int)), (10, vi z.1)]) (S' := fun z => [(5, AO z.2)]) (fun ag_shape_wider_b0 z J2132 hJ2132 h => ?_) h
    obtain ⟨v2130, v2131⟩ := z
    have h : shape_wider_b0 F x2119 x2120 ag_shape_wider_b0 v2130 v2131 = some r := h
    refine AW.sg0 Fm 1 [(1, vi x2120), (5, .v (.c (.own 5))), (8, AL x2119), (9, vi ((List.length x2119 : Nat) : Int)), (10, vi v2130), (11, vb (decide (v2130 < ((List.length x2119 : Nat) : Int))))] [(5, AO v2131)] (by kernel_rfl) ?_
    refine AW.seq ?_
    refine AW.cond (b := (decide (v2130 < ((List.length x2119 : Nat) : Int)))) (by kernel_rfl) (fun hb2133 => ?_) (fun hb2133 => ?_)
    · have h := br_t h hb2133
      refine AW.skip ?_
      refine AW.seq ?_
      refine AW.block ?_
      obtain ⟨hg2134, h⟩ := gd_some h
      refine AW.sg Fm [.s, .s, .s, .s] (fun K => (0 ≤ v2130 ∧ v2130 < ((List.length x2119 : Nat) : Int)) ∧ True) [(1, vi x2120), (5, .v (.c (.own 5))), (7, .v (.c (.ptr 7 0))), (8, AL x2119), (9, vi ((List.length x2119 : Nat) : Int)), (10, vi v2130)] [(5, AO v2131), (7, .box false [ci ((gl x2119 v2130.toNat).left_), ci ((gl x2119 v2130.toNat).low_), ci ((gl x2119 v2130.toNat).right_), ci ((gl x2119 v2130.toNat).high_)])] ⟨hg2134, True.intro⟩ (by kernel_rfl) ?_
      obtain ⟨hg2135, h⟩ := gd_some h
      obtain ⟨hg2136, h⟩ := gd_some h
      obtain ⟨hg2137, h⟩ := gd_some h
      obtain ⟨hg2138, h⟩ := gd_some h
      obtain ⟨hg2139, h⟩ := gd_some h
      refine AW.g Fm [.s, .s, .s, .s, .s, .s, .s, .s, .s, .s, .s, .s, .s, .s, .s, .s, .s, .s, .w (AL (α := Rect) ([(⟨(((gl x2119 v2130.toNat).left_) - x2120), (((gl x2119 v2130.toNat).low_) - x2120), (((gl x2119 v2130.toNat).right_) + x2120), (((gl x2119 v2130.toNat).high_) + x2120)⟩ : Rect)] : List Rect)), .s, .s] (fun K => (I64 (((gl x2119 v2130.toNat).left_) - x2120) ∧ True) ∧ (I64 (((gl x2119 v2130.toNat).low_) - x2120) ∧ True) ∧ (I64 (((gl x2119 v2130.toNat).right_) + x2120) ∧ True) ∧ (I64 (((gl x2119 v2130.toNat).high_) + x2120) ∧ True) ∧ (ALe (.v (.c (.d (.lst 1 (litF 4 [.int .i64 (((gl x2119 v2130.toNat).left_) - x2120), .int .i64 (((gl x2119 v2130.toNat).low_) - x2120), .int .i64 (((gl x2119 v2130.toNat).right_) + x2120), .int .i64 (((gl x2119 v2130.toNat).high_) + x2120)]))))) (AL (α := Rect) ([(⟨(((gl x2119 v2130.toNat).left_) - x2120), (((gl x2119 v2130.toNat).low_) - x2120), (((gl x2119 v2130.toNat).right_) + x2120), (((gl x2119 v2130.toNat).high_) + x2120)⟩ : Rect)] : List Rect))) ∧ ((List.length (α := Rect) v2131) + (List.length (α := Rect) ([(⟨(((gl x2119 v2130.toNat).left_) - x2120), (((gl x2119 v2130.toNat).low_) - x2120), (((gl x2119 v2130.toNat).right_) + x2120), (((gl x2119 v2130.toNat).high_) + x2120)⟩ : Rect)] : List Rect)) ≤ LIM ∧ (∀ j, j < List.length (α := Rect) ([(⟨(((gl x2119 v2130.toNat).left_) - x2120), (((gl x2119 v2130.toNat).low_) - x2120), (((gl x2119 v2130.toNat).right_) + x2120), (((gl x2119 v2130.toNat).high_) + x2120)⟩ : Rect)] : List Rect) → ((LF (α := Rect) ([(⟨(((gl x2119 v2130.toNat).left_) - x2120), (((gl x2119 v2130.toNat).low_) - x2120), (((gl x2119 v2130.toNat).right_) + x2120), (((gl x2119 v2130.toNat).high_) + x2120)⟩ : Rect)] : List Rect)) j).length = 4) ∧ (True)) ∧ True) [(1, vi x2120), (5, .v (.c (.own 33))), (8, AL x2119), (9, vi ((List.length x2119 : Nat) : Int)), (10, vi v2130)] [(33, .arr 4 ((List.length (α := Rect) v2131) + (List.length (α := Rect) ([(⟨(((gl x2119 v2130.toNat).left_) - x2120), (((gl x2119 v2130.toNat).low_) - x2120), (((gl x2119 v2130.toNat).right_) + x2120), (((gl x2119 v2130.toNat).high_) + x2120)⟩ : Rect)] : List Rect))) (appF (List.length (α := Rect) v2131) (LF (α := Rect) v2131) (LF (α := Rect) ([(⟨(((gl x2119 v2130.toNat).left_) - x2120), (((gl x2119 v2130.toNat).low_) - x2120), (((gl x2119 v2130.toNat).right_) + x2120), (((gl x2119 v2130.toNat).high_) + x2120)⟩ : Rect)] : List Rect))))] ⟨⟨hg2135, True.intro⟩, ⟨hg2136, True.intro⟩, ⟨hg2137, True.intro⟩, ⟨hg2138, True.intro⟩, ALe.lst (.lit ([(⟨(((gl x2119 v2130.toNat).left_) - x2120), (((gl x2119 v2130.toNat).low_) - x2120), (((gl x2119 v2130.toNat).right_) + x2120), (((gl x2119 v2130.toNat).high_) + x2120)⟩ : Rect)] : List Rect) (by kernel_rfl)), ⟨hg2139, (Is.refl ([(⟨(((gl x2119 v2130.toNat).left_) - x2120), (((gl x2119 v2130.toNat).low_) - x2120), (((gl x2119 v2130.toNat).right_) + x2120), (((gl x2119 v2130.toNat).high_) + x2120)⟩ : Rect)] : List Rect) : Is (List.length (α := Rect) ([(⟨(((gl x2119 v2130.toNat).left_) - x2120), (((gl x2119 v2130.toNat).low_) - x2120), (((gl x2119 v2130.toNat).right_) + x2120), (((gl x2119 v2130.toNat).high_) + x2120)⟩ : Rect)] : List Rect)) (LF (α := Rect) ([(⟨(((gl x2119 v2130.toNat).left_) - x2120), (((gl x2119 v2130.toNat).low_) - x2120), (((gl x2119 v2130.toNat).right_) + x2120), (((gl x2119 v2130.toNat).high_) + x2120)⟩ : Rect)] : List Rect)) ([(⟨(((gl x2119 v2130.toNat).left_) - x2120), (((gl x2119 v2130.toNat).low_) - x2120), (((gl x2119 v2130.toNat).right_) + x2120), (((gl x2119 v2130.toNat).high_) + x2120)⟩ : Rect)] : List Rect)).len, True.intro⟩, True.intro⟩ (by kernel_rfl) ?_
      refine Kn.wk [(1, vi x2120), (5, .v (.c (.own 33))), (8, AL x2119), (9, vi ((List.length x2119 : Nat) : Int)), (10, vi v2130)] [(33, AO (α := Rect) (v2131 ++ ([(⟨(((gl x2119 v2130.toNat).left_) - x2120), (((gl x2119 v2130.toNat).low_) - x2120), (((gl x2119 v2130.toNat).right_) + x2120), (((gl x2119 v2130.toNat).high_) + x2120)⟩ : Rect)] : List Rect)))] (FE.refl _) (⟨rfl, OLe.is (Is.app (Is.refl v2131) (Is.refl ([(⟨(((gl x2119 v2130.toNat).left_) - x2120), (((gl x2119 v2130.toNat).low_) - x2120), (((gl x2119 v2130.toNat).right_) + x2120), (((gl x2119 v2130.toNat).high_) + x2120)⟩ : Rect)] : List Rect))), True.intro⟩) ?_
      obtain ⟨hg2140, h⟩ := gd_some h
      refine AW.g Fm [.s, .s] (fun K => (I64 (v2130 + (1 : Int)) ∧ True) ∧ True) [(1, vi x2120), (5, .v (.c (.own 33))), (8, AL x2119), (9, vi ((List.length x2119 : Nat) : Int)), (10, vi (v2130 + (1 : Int)))] [(33, AO (α := Rect) (v2131 ++ ([(⟨(((gl x2119 v2130.toNat).left_) - x2120), (((gl x2119 v2130.toNat).low_) - x2120), (((gl x2119 v2130.toNat).right_) + x2120), (((gl x2119 v2130.toNat).high_) + x2120)⟩ : Rect)] : List Rect)))] ⟨⟨hg2140, True.intro⟩, True.intro⟩ (by kernel_rfl) ?_
      exact Kn.re Fm [(5, 33)] [(1, vi x2120), (5, .v (.c (.own 5))), (8, AL x2119), (9, vi ((List.length x2119 : Nat) : Int)), (10, vi (v2130 + (1 : Int)))] [(5, AO (v2131 ++ ([(⟨(((gl x2119 v2130.toNat).left_) - x2120), (((gl x2119 v2130.toNat).low_) - x2120), (((gl x2119 v2130.toNat).right_) + x2120), (((gl x2119 v2130.toNat).high_) + x2120)⟩ : Rect)] : List Rect)))] (by kernel_rfl) (by kernel_rfl) (by kernel_rfl) (by kernel_rfl) (hJ2132 ((v2130 + (1 : Int)), (v2131 ++ ([(⟨(((gl x2119 v2130.toNat).left_) - x2120), (((gl x2119 v2130.toNat).low_) - x2120), (((gl x2119 v2130.toNat).right_) + x2120), (((gl x2119 v2130.toNat).high_) + x2120)⟩ : Rect)] : List Rect))) h)
    · have h := br_f h hb2133
      refine AW.exit ?_
      exact Kn.r Fm [(5, .v (.c (.own 5)))] [(5, AO v2131)] (by kernel_rfl) (hJ2142 v2131 h)
theorem shape_Grow_spec {F : Nat} {x2143 : Region} {x2144 : Int} {r : Region × Int} (h : shape_Grow F x2143 x2144 = some r) :
    FSpec Tryz.prog 35 [.v (.g [.d (DL x2143.rects_)]), vi x2144] [] (.t [.g [.d (DL (α := Rect) r.1.rects_)], .c (ci r.2)]) [] := by
  refine FSpec.intro prog_mixed prog_lay Tryz.func35 rfl (by kernel_rfl) fun C Fm => ?_
  unfold shape_Grow at h
  refine AW.sg0 Fm 3 [(1, vi x2144), (2, .v (.c (.ptr 2 0))), (4, .v (.c (.ptr 4 0)))] [(2, .box false [.d (DL x2143.rects_)]), (4, .box false [.fl 0 fun _ => []])] (by kernel_rfl) ?_
  refine AW.seq ?_
  refine AW.seq ?_
  obtain ⟨z2145, hz2146, h⟩ := bd_some h
  refine AW.g Fm [.s, .s, .k (cE [] [] (vi z2145) [] []), .s] (fun K => K 2 ∧ True) [(1, vi x2144), (2, .v (.c (.ptr 2 0))), (4, .v (.c (.ptr 4 0))), (6, vi z2145)] [(2, .box false [.d (DL x2143.rects_)]), (4, .box false [.fl 0 fun _ => []])] ⟨KAt.cl (args := [.v (.g [.d (DL x2143.rects_)]), vi x2144]) (shape_check_spec hz2146) Tryz.call95 [] rfl (by kernel_rfl), True.intro⟩ (by kernel_rfl) ?_
  refine AW.sg0 Fm 2 [(1, vi x2144), (2, .v (.c (.ptr 2 0))), (4, .v (.c (.ptr 4 0))), (6, vi z2145), (14, vb (z2145 != (0 : Int)))] [(2, .box false [.d (DL x2143.rects_)]), (4, .box false [.fl 0 fun _ => []])] (by kernel_rfl) ?_
  refine AW.cond (b := (z2145 != (0 : Int))) (by kernel_rfl) (fun hb2147 => ?_) (fun hb2147 => ?_)
  · have h := br_t h hb2147
    refine AW.sg Fm [.w (.v (.g [.d (DL (α := Rect) [])])), .s, .s, .s] (fun K => (ALe (.v (.g [.fl 0 fun _ => []])) (.v (.g [.d (DL (α := Rect) [])]))) ∧ True) [(4, .v (.c (.ptr 4 0))), (5, vi z2145)] [(4, .box false [.d (DL (α := Rect) [])])] ⟨ALe.g ⟨CLe.fl .nil, True.intro⟩, True.intro⟩ (by kernel_rfl) ?_
    refine AW.ret ?_
    obtain rfl := Option.some.inj h
    exact Kn.r Fm [(4, .v (.c (.ptr 4 0))), (5, vi z2145)] [(4, .box false [.d (DL (α := Rect) [])])] (by kernel_rfl) (Kn.dn Fm (by kernel_rfl))
  · have h := br_f h hb2147
    refine AW.skip ?_
    refine AW.seq ?_
    obtain ⟨z2148, hz2149, h⟩ := bd_some h
    refine AW.g Fm [.s, .s, .s, .k (cE [(100, 20)] [] (.v (.c (.own 100))) [] [(100, AO z2148)]), .s] (fun K => K 3 ∧ True) [(4, .v (.c (.ptr 4 0))), (7, .v (.c (.own 20)))] [(4, .box false [.fl 0 fun _ => []]), (20, AO z2148)] ⟨KAt.cl (args := [AL x2143.rects_, vi x2144]) (shape_wider_spec hz2149) Tryz.call96 [(100, 20)] rfl (by kernel_rfl), True.intro⟩ (by kernel_rfl) ?_
    refine AW.join (r := r) (fun z : (List Rect) => shape_Grow_k1 F z) (fun z => [(4, .v (.c (.ptr 4 0))), (7, .v (.c (.own 20)))]) (fun z => [(4, .box false [.fl 0 fun _ => []]), (20, AO z)]) (fun v2162 h => ?_) (fun J2163 hJ2163 => ?_)
    · have h : shape_Grow_k1 F v2162 = some r := h
      refine AW.seq ?_
      refine Kn.r Fm [(4, .v (.c (.ptr 4 0))), (7, .v (.c (.own 20)))] [(20, AO v2162), (4, .box false [.fl 0 fun _ => []])] (by kernel_rfl) ?_
      refine Kn.frz [(4, .v (.c (.ptr 4 0))), (7, AL v2162)] [(4, .box false [.fl 0 fun _ => []])] (by kernel_rfl) (by kernel_rfl) (by kernel_rfl) ?_
      obtain ⟨z2164, hz2165, h⟩ := bd_some h
      refine AW.g Fm [.s, .k (cE [] [] (.t [.g [.d (DL z2164.1.rects_)], .c (ci z2164.2)]) [] []), .s, .s, .s, .s] (fun K => K 1 ∧ True) [(4, .v (.c (.ptr 4 0))), (5, vi z2164.2)] [(4, .box false [.d (DL z2164.1.rects_)])] ⟨KAt.cl (args := [AL v2162]) (region_Of_spec hz2165) Tryz.call57 [] rfl (by kernel_rfl), True.intro⟩ (by kernel_rfl) ?_
      refine AW.ret ?_
      obtain rfl := Option.some.inj h
      exact Kn.r Fm [(4, .v (.c (.ptr 4 0))), (5, vi z2164.2)] [(4, .box false [.d (DL z2164.1.rects_)])] (by kernel_rfl) (Kn.dn Fm (by kernel_rfl))
    · refine AW.sg0 Fm 3 [(4, .v (.c (.ptr 4 0))), (7, .v (.c (.own 20))), (21, .v (.c (.own 20))), (22, vi ((List.length z2148 : Nat) : Int)), (23, vi (0 : Int))] [(4, .box false [.fl 0 fun _ => []]), (20, AO z2148)] (by kernel_rfl) ?_
      refine AW.block ?_
      refine Kn.r Fm [(4, .v (.c (.ptr 4 0))), (7, .v (.c (.own 20))), (21, .v (.c (.own 20))), (22, vi ((List.length z2148 : Nat) : Int)), (23, vi (0 : Int))] [(4, .box false [.fl 0 fun _ => []]), (20, AO z2148)] (by kernel_rfl) ?_
      have h : loopN (fun again (z : Int × (List Rect)) => shape_Grow_b0 F z2148 again z.1 z.2) F ((0 : Int), z2148) = some r := h
      refine AW.loopF (E' := fun z => [(4, .v (.c (.ptr 4 0))), (7, .v (.c (.own 20))), (21, .v (.c (.own 20))), (22, vi ((List.length z2148 : Nat) : Int)), (23, vi z.1)]) (S' := fun z => [(4, .box false [.fl 0 fun _ => []]), (20, AO z.2)]) (fun ag_shape_Grow_b0 z J2157 hJ2157 h => ?_) h
      obtain ⟨v2155, v2156⟩ := z
      have h : shape_Grow_b0 F z2148 ag_shape_Grow_b0 v2155 v2156 = some r := h
      refine AW.sg0 Fm 1 [(4, .v (.c (.ptr 4 0))), (7, .v (.c (.own 20))), (21, .v (.c (.own 20))), (22, vi ((List.length z2148 : Nat) : Int)), (23, vi v2155), (24, vb (decide (v2155 < ((List.length z2148 : Nat) : Int))))] [(4, .box false [.fl 0 fun _ => []]), (20, AO v2156)] (by kernel_rfl) ?_
      refine AW.seq ?_
      refine AW.cond (b := (decide (v2155 < ((List.length z2148 : Nat) : Int)))) (by kernel_rfl) (fun hb2158 => ?_) (fun hb2158 => ?_)
      · have h := br_t h hb2158
        refine AW.skip ?_
        refine AW.seq ?_
        refine AW.block ?_
        obtain ⟨hg2159, h⟩ := gd_some h
        refine AW.sg Fm [.s, .s, .s, .s, .s, .s] (fun K => (0 ≤ v2155 ∧ v2155 < ((List.length v2156 : Nat) : Int)) ∧ (v2155.toNat < List.length v2156) ∧ True) [(4, .v (.c (.ptr 4 0))), (7, .v (.c (.own 20))), (8, vi v2155), (9, .v (.c (.ptr 9 0))), (21, .v (.c (.own 20))), (22, vi ((List.length z2148 : Nat) : Int)), (23, vi v2155)] [(4, .box false [.fl 0 fun _ => []]), (9, .box false [ci ((gl v2156 v2155.toNat).left_), ci ((gl v2156 v2155.toNat).low_), ci ((gl v2156 v2155.toNat).right_), ci ((gl v2156 v2155.toNat).high_)]), (20, AO v2156)] ⟨hg2159, (toNat_lt hg2159), True.intro⟩ (by kernel_rfl) ?_
        obtain ⟨hg2160, h⟩ := gd_some h
        refine AW.g Fm [.s, .s, .s, .s, .s, .s, .s, .s, .s, .s, .s, .s, .s, .s, .s, .s, .s] (fun K => (0 ≤ v2155 ∧ v2155 < ((List.length v2156 : Nat) : Int)) ∧ (v2155.toNat < List.length v2156) ∧ True) [(4, .v (.c (.ptr 4 0))), (7, .v (.c (.own 20))), (21, .v (.c (.own 20))), (22, vi ((List.length z2148 : Nat) : Int)), (23, vi v2155)] [(4, .box false [.fl 0 fun _ => []]), (20, .arr 4 (List.length (α := Rect) v2156) (fun j => if j = v2155.toNat then splice ((LF (α := Rect) v2156) v2155.toNat) 0 [.int .i64 (gmax (0 : Int) ((gl v2156 v2155.toNat).left_)), .int .i64 (gmax (0 : Int) ((gl v2156 v2155.toNat).low_)), .int .i64 (gmin (16384 : Int) ((gl v2156 v2155.toNat).right_)), .int .i64 (gmin (16384 : Int) ((gl v2156 v2155.toNat).high_))] else (LF (α := Rect) v2156) j))] ⟨hg2160, (toNat_lt hg2160), True.intro⟩ (by kernel_rfl) ?_
        refine Kn.wk [(4, .v (.c (.ptr 4 0))), (7, .v (.c (.own 20))), (21, .v (.c (.own 20))), (22, vi ((List.length z2148 : Nat) : Int)), (23, vi v2155)] [(4, .box false [.fl 0 fun _ => []]), (20, AO (α := Rect) (List.set v2156 v2155.toNat (⟨(gmax (0 : Int) ((gl v2156 v2155.toNat).left_)), (gmax (0 : Int) ((gl v2156 v2155.toNat).low_)), (gmin (16384 : Int) ((gl v2156 v2155.toNat).right_)), (gmin (16384 : Int) ((gl v2156 v2155.toNat).high_))⟩ : Rect)))] (FE.refl _) (⟨rfl, OLe.refl _, ⟨rfl, OLe.is (Is.set (Is.refl v2156) (toNat_lt hg2160) (⟨(gmax (0 : Int) ((gl v2156 v2155.toNat).left_)), (gmax (0 : Int) ((gl v2156 v2155.toNat).low_)), (gmin (16384 : Int) ((gl v2156 v2155.toNat).right_)), (gmin (16384 : Int) ((gl v2156 v2155.toNat).high_))⟩ : Rect) (by kernel_rfl)), True.intro⟩⟩) ?_
        obtain ⟨hg2161, h⟩ := gd_some h
        refine AW.g Fm [.s, .s] (fun K => (I64 (v2155 + (1 : Int)) ∧ True) ∧ True) [(4, .v (.c (.ptr 4 0))), (7, .v (.c (.own 20))), (21, .v (.c (.own 20))), (22, vi ((List.length z2148 : Nat) : Int)), (23, vi (v2155 + (1 : Int)))] [(4, .box false [.fl 0 fun _ => []]), (20, AO (α := Rect) (List.set v2156 v2155.toNat (⟨(gmax (0 : Int) ((gl v2156 v2155.toNat).left_)), (gmax (0 : Int) ((gl v2156 v2155.toNat).low_)), (gmin (16384 : Int) ((gl v2156 v2155.toNat).right_)), (gmin (16384 : Int) ((gl v2156 v2155.toNat).high_))⟩ : Rect)))] ⟨⟨hg2161, True.intro⟩, True.intro⟩ (by kernel_rfl) ?_
        exact Kn.r Fm [(4, .v (.c (.ptr 4 0))), (7, .v (.c (.own 20))), (21, .v (.c (.own 20))), (22, vi ((List.length z2148 : Nat) : Int)), (23, vi (v2155 + (1 : Int)))] [(4, .box false [.fl 0 fun _ => []]), (20, AO (List.set v2156 v2155.toNat (⟨(gmax (0 : Int) ((gl v2156 v2155.toNat).left_)), (gmax (0 : Int) ((gl v2156 v2155.toNat).low_)), (gmin (16384 : Int) ((gl v2156 v2155.toNat).right_)), (gmin (16384 : Int) ((gl v2156 v2155.toNat).high_))⟩ : Rect)))] (by kernel_rfl) (hJ2157 ((v2155 + (1 : Int)), (List.set v2156 v2155.toNat (⟨(gmax (0 : Int) ((gl v2156 v2155.toNat).left_)), (gmax (0 : Int) ((gl v2156 v2155.toNat).low_)), (gmin (16384 : Int) ((gl v2156 v2155.toNat).right_)), (gmin (16384 : Int) ((gl v2156 v2155.toNat).high_))⟩ : Rect))) h)
      · have h := br_f h hb2158
        refine AW.exit ?_
        exact Kn.r Fm [(4, .v (.c (.ptr 4 0))), (7, .v (.c (.own 20)))] [(4, .box false [.fl 0 fun _ => []]), (20, AO v2156)] (by kernel_rfl) (hJ2163 v2156 h)
theorem law06_awake_spec {F : Nat} {r : Bool} (h : law06_awake F = some r) :
    FSpec Tryz.prog 19 [] [] (vb r) [] := by
  refine FSpec.intro prog_mixed prog_lay Tryz.func19 rfl (by kernel_rfl) fun C Fm => ?_
  unfold law06_awake at h
  refine AW.sg0 Fm 1 [] [] (by kernel_rfl) ?_
  refine AW.seq ?_
  obtain ⟨z2166, hz2167, h⟩ := bd_some h
  refine AW.g Fm [.s, .s, .w (AL (α := Rect) ([(⟨0, 0, (1 : Int), (1 : Int)⟩ : Rect), (⟨(1 : Int), (1 : Int), (2 : Int), (2 : Int)⟩ : Rect)] : List Rect)), .s, .k (cE [] [] (.t [.c (.d (DL z2166.1)), .c (ci z2166.2)]) [] []), .s, .s, .s, .s, .s] (fun K => (ALe (.v (.c (.d (.lst 2 (litF 4 [.int .i64 0, .int .i64 0, .int .i64 (1 : Int), .int .i64 (1 : Int), .int .i64 (1 : Int), .int .i64 (1 : Int), .int .i64 (2 : Int), .int .i64 (2 : Int)]))))) (AL (α := Rect) ([(⟨0, 0, (1 : Int), (1 : Int)⟩ : Rect), (⟨(1 : Int), (1 : Int), (2 : Int), (2 : Int)⟩ : Rect)] : List Rect))) ∧ K 4 ∧ True) [(1, AL z2166.1), (2, vi z2166.2)] [] ⟨ALe.lst (.lit ([(⟨0, 0, (1 : Int), (1 : Int)⟩ : Rect), (⟨(1 : Int), (1 : Int), (2 : Int), (2 : Int)⟩ : Rect)] : List Rect) (by kernel_rfl)), KAt.cl (args := [.v (.g [.d (DL (α := Rect) (⟨([(⟨0, 0, (1 : Int), (1 : Int)⟩ : Rect), (⟨(1 : Int), (1 : Int), (2 : Int), (2 : Int)⟩ : Rect)] : List Rect)⟩ : Region).rects_)])]) (shape_Parts_spec hz2167) Tryz.call14 [] rfl (by kernel_rfl), True.intro⟩ (by kernel_rfl) ?_
  refine AW.seq ?_
  obtain ⟨z2168, hz2169, h⟩ := bd_some h
  refine AW.g Fm [.s, .w (AL (α := Rect) ([(⟨(5 : Int), (5 : Int), (6 : Int), (6 : Int)⟩ : Rect)] : List Rect)), .s, .k (cE [] [] (.t [.g [.d (DL z2168.1.rects_)], .c (ci z2168.2)]) [] []), .s, .s, .s, .s, .s, .s] (fun K => (ALe (.v (.c (.d (.lst 1 (litF 4 [.int .i64 (5 : Int), .int .i64 (5 : Int), .int .i64 (6 : Int), .int .i64 (6 : Int)]))))) (AL (α := Rect) ([(⟨(5 : Int), (5 : Int), (6 : Int), (6 : Int)⟩ : Rect)] : List Rect))) ∧ K 3 ∧ True) [(1, AL z2166.1), (2, vi z2166.2), (3, .v (.c (.ptr 3 0))), (4, vi z2168.2)] [(3, .box false [.d (DL z2168.1.rects_)])] ⟨ALe.lst (.lit ([(⟨(5 : Int), (5 : Int), (6 : Int), (6 : Int)⟩ : Rect)] : List Rect) (by kernel_rfl)), KAt.cl (args := [.v (.g [.d (DL (α := Rect) (⟨([(⟨(5 : Int), (5 : Int), (6 : Int), (6 : Int)⟩ : Rect)] : List Rect)⟩ : Region).rects_)]), vi (1 : Int)]) (shape_Grow_spec hz2169) Tryz.call35 [] rfl (by kernel_rfl), True.intro⟩ (by kernel_rfl) ?_
  refine AW.join (r := r) (fun z : Bool => law06_awake_k0 F z) (fun z => [(0, vb z)]) (fun z => []) (fun v2175 h => ?_) (fun J2176 hJ2176 => ?_)
  · have h : law06_awake_k0 F v2175 = some r := h
    refine AW.ret ?_
    obtain rfl := Option.some.inj h
    exact Kn.r Fm [(0, vb v2175)] [] (by kernel_rfl) (Kn.dn Fm (by kernel_rfl))
  · rcases Bool.eq_false_or_eq_true (z2166.2 == (0 : Int)) with hb2170 | hb2170
    · have h := br_t h hb2170
      rcases Bool.eq_false_or_eq_true (((List.length z2166.1 : Nat) : Int) == (2 : Int)) with hb2171 | hb2171
      · have h := br_t h hb2171
        rcases Bool.eq_false_or_eq_true (z2168.2 == (0 : Int)) with hb2172 | hb2172
        · have h := br_t h hb2172
          obtain ⟨z2173, hz2174, h⟩ := bd_some h
          refine AW.g Fm [.s, .s, .w (vb true), .s, .s, .s, .s, .w (vb true), .s, .s, .s, .w (vb true), .s, .s, .s, .w (AL (α := Rect) ([(⟨(4 : Int), (4 : Int), (7 : Int), (7 : Int)⟩ : Rect)] : List Rect)), .k (cE [] [] (vb z2173) [] []), .s, .s] (fun K => (ALe (vb (z2166.2 == (0 : Int))) (vb true)) ∧ (ALe (vb (((List.length z2166.1 : Nat) : Int) == (2 : Int))) (vb true)) ∧ (ALe (vb (z2168.2 == (0 : Int))) (vb true)) ∧ (ALe (.v (.c (.d (.lst 1 (litF 4 [.int .i64 (4 : Int), .int .i64 (4 : Int), .int .i64 (7 : Int), .int .i64 (7 : Int)]))))) (AL (α := Rect) ([(⟨(4 : Int), (4 : Int), (7 : Int), (7 : Int)⟩ : Rect)] : List Rect))) ∧ K 16 ∧ True) [(0, vb z2173)] [] ⟨ALe.bool hb2170, ALe.bool hb2171, ALe.bool hb2172, ALe.lst (.lit ([(⟨(4 : Int), (4 : Int), (7 : Int), (7 : Int)⟩ : Rect)] : List Rect) (by kernel_rfl)), KAt.cl (args := [AL z2168.1.rects_, AL (α := Rect) ([(⟨(4 : Int), (4 : Int), (7 : Int), (7 : Int)⟩ : Rect)] : List Rect)]) (ref04_Rects_spec hz2174) Tryz.call63 [] rfl (by kernel_rfl), True.intro⟩ (by kernel_rfl) ?_
          exact Kn.r Fm [(0, vb z2173)] [] (by kernel_rfl) (hJ2176 z2173 h)
        · have h := br_f h hb2172
          refine AW.g Fm [.s, .s, .w (vb true), .s, .s, .s, .s, .w (vb true), .s, .s, .s, .w (vb false), .s, .s, .s, .s, .s, .s, .s] (fun K => (ALe (vb (z2166.2 == (0 : Int))) (vb true)) ∧ (ALe (vb (((List.length z2166.1 : Nat) : Int) == (2 : Int))) (vb true)) ∧ (ALe (vb (z2168.2 == (0 : Int))) (vb false)) ∧ True) [(0, vb false)] [] ⟨ALe.bool hb2170, ALe.bool hb2171, ALe.bool hb2172, True.intro⟩ (by kernel_rfl) ?_
          exact Kn.r Fm [(0, vb false)] [] (by kernel_rfl) (hJ2176 false h)
      · have h := br_f h hb2171
        refine AW.g Fm [.s, .s, .w (vb true), .s, .s, .s, .s, .w (vb false), .s, .s, .s, .s, .s, .s, .s, .s, .s, .s, .s] (fun K => (ALe (vb (z2166.2 == (0 : Int))) (vb true)) ∧ (ALe (vb (((List.length z2166.1 : Nat) : Int) == (2 : Int))) (vb false)) ∧ True) [(0, vb false)] [] ⟨ALe.bool hb2170, ALe.bool hb2171, True.intro⟩ (by kernel_rfl) ?_
        exact Kn.r Fm [(0, vb false)] [] (by kernel_rfl) (hJ2176 false h)
    · have h := br_f h hb2170
      refine AW.g Fm [.s, .s, .w (vb false), .s, .s, .s, .s, .s, .s, .s, .s, .s, .s, .s, .s, .s, .s, .s, .s] (fun K => (ALe (vb (z2166.2 == (0 : Int))) (vb false)) ∧ True) [(0, vb false)] [] ⟨ALe.bool hb2170, True.intro⟩ (by kernel_rfl) ?_
      exact Kn.r Fm [(0, vb false)] [] (by kernel_rfl) (hJ2176 false h)
theorem law06_ShapeParts_spec {F : Nat} {x2177 : (List Int)} {r : Bool} (h : law06_ShapeParts F x2177 = some r) :
    FSpec Tryz.prog 3 [AL x2177] [] (vb r) [] := by
  refine FSpec.intro prog_mixed prog_lay Tryz.func3 rfl (by kernel_rfl) fun C Fm => ?_
  unfold law06_ShapeParts at h
  refine AW.sg0 Fm 1 [(0, AL x2177)] [] (by kernel_rfl) ?_
  refine AW.seq ?_
  obtain ⟨z2178, hz2179, h⟩ := bd_some h
  obtain ⟨z2180, hz2181, h⟩ := bd_some h
  refine AW.g Fm [.s, .k (cE [(100, 18)] [] (.v (.c (.ptr 100 0))) [] [(100, .box false (gC z2178))]), .k (cE [(0, 18)] [] (.v (.g [.d (DL z2180.2.rects_)])) [(0, .box false (gC z2178))] [(0, .box false (gC z2180.1))]), .s, .s] (fun K => K 1 ∧ K 2 ∧ True) [(3, .v (.c (.ptr 3 0)))] [(3, .box false [.d (DL z2180.2.rects_)])] ⟨KAt.cl (args := [AL x2177]) (keep_New_spec hz2179) Tryz.call12 [(100, 18)] rfl (by kernel_rfl), KAt.cl (args := [.v (.c (.ptr 0 0)), vi (9 : Int), vi (5 : Int)]) (keep_Tape_Region_spec hz2181) Tryz.call13 [(0, 18)] rfl (by kernel_rfl), True.intro⟩ (by kernel_rfl) ?_
  refine AW.seq ?_
  obtain ⟨z2182, hz2183, h⟩ := bd_some h
  refine AW.g Fm [.s, .k (cE [] [] (.t [.c (.d (DL z2182.1)), .c (ci z2182.2)]) [] []), .s, .s, .s, .s, .s] (fun K => K 1 ∧ True) [(3, .v (.c (.ptr 3 0))), (4, AL z2182.1), (5, vi z2182.2)] [(3, .box false [.d (DL z2180.2.rects_)])] ⟨KAt.cl (args := [.v (.g [.d (DL z2180.2.rects_)])]) (shape_Parts_spec hz2183) Tryz.call14 [] rfl (by kernel_rfl), True.intro⟩ (by kernel_rfl) ?_
  refine AW.seq ?_
  refine AW.sg0 Fm 2 [(3, .v (.c (.ptr 3 0))), (4, AL z2182.1), (26, vb (z2182.2 != (0 : Int)))] [(3, .box false [.d (DL z2180.2.rects_)])] (by kernel_rfl) ?_
  refine AW.cond (b := (z2182.2 != (0 : Int))) (by kernel_rfl) (fun hb2184 => ?_) (fun hb2184 => ?_)
  · have h := br_t h hb2184
    refine AW.sg0 Fm 1 [(2, vb false)] [] (by kernel_rfl) ?_
    refine AW.ret ?_
    obtain rfl := Option.some.inj h
    exact Kn.r Fm [(2, vb false)] [] (by kernel_rfl) (Kn.dn Fm (by kernel_rfl))
  · have h := br_f h hb2184
    refine AW.skip ?_
    refine AW.sg Fm [.m] (fun K => True) [(3, .v (.c (.ptr 3 0))), (4, AL z2182.1), (6, .v (.c (.own 6)))] [(3, .box false [.d (DL z2180.2.rects_)]), (6, .arr 4 (0) (fun _ => []))] True.intro (by kernel_rfl) ?_
    refine Kn.wk [(3, .v (.c (.ptr 3 0))), (4, AL z2182.1), (6, .v (.c (.own 6)))] [(3, .box false [.d (DL z2180.2.rects_)]), (6, AO (α := Rect) ([] : List Rect))] (FE.refl _) (⟨rfl, OLe.refl _, ⟨rfl, OLe.is ((Is.nil (α := Rect))), True.intro⟩⟩) ?_
    refine AW.join (r := r) (fun z : (List Rect) => law06_ShapeParts_k6 F z2180 z) (fun z => [(3, .v (.c (.ptr 3 0))), (6, .v (.c (.own 6)))]) (fun z => [(3, .box false [.d (DL z2180.2.rects_)]), (6, AO z)]) (fun v2275 h => ?_) (fun J2276 hJ2276 => ?_)
    · have h : law06_ShapeParts_k6 F z2180 v2275 = some r := h
      refine AW.seq ?_
      refine Kn.r Fm [(3, .v (.c (.ptr 3 0))), (6, .v (.c (.own 6)))] [(6, AO v2275), (3, .box false [.d (DL z2180.2.rects_)])] (by kernel_rfl) ?_
      refine Kn.frz [(3, .v (.c (.ptr 3 0))), (6, AL v2275)] [(3, .box false [.d (DL z2180.2.rects_)])] (by kernel_rfl) (by kernel_rfl) (by kernel_rfl) ?_
      obtain ⟨z2277, hz2278, h⟩ := bd_some h
      refine AW.g Fm [.s, .k (cE [] [] (.t [.g [.d (DL z2277.1.rects_)], .c (ci z2277.2)]) [] []), .s, .s, .s, .s, .s, .s] (fun K => K 1 ∧ True) [(3, .v (.c (.ptr 3 0))), (15, .v (.c (.ptr 15 0))), (16, vi z2277.2)] [(3, .box false [.d (DL z2180.2.rects_)]), (15, .box false [.d (DL z2277.1.rects_)])] ⟨KAt.cl (args := [AL v2275]) (ref04_Of_spec hz2278) Tryz.call18 [] rfl (by kernel_rfl), True.intro⟩ (by kernel_rfl) ?_
      refine AW.join (r := r) (fun z : Bool => law06_ShapeParts_k7 F z) (fun z => [(2, vb z)]) (fun z => []) (fun v2285 h => ?_) (fun J2286 hJ2286 => ?_)
      · have h : law06_ShapeParts_k7 F v2285 = some r := h
        refine AW.ret ?_
        obtain rfl := Option.some.inj h
        exact Kn.r Fm [(2, vb v2285)] [] (by kernel_rfl) (Kn.dn Fm (by kernel_rfl))
      · rcases Bool.eq_false_or_eq_true (z2277.2 == (0 : Int)) with hb2279 | hb2279
        · have h := br_t h hb2279
          obtain ⟨z2280, hz2281, h⟩ := bd_some h
          rcases Bool.eq_false_or_eq_true z2280 with hb2282 | hb2282
          · have h := br_t h hb2282
            obtain ⟨z2283, hz2284, h⟩ := bd_some h
            refine AW.g Fm [.s, .s, .w (vb true), .s, .s, .k (cE [] [] (vb z2280) [] []), .s, .w (vb true), .k (cE [] [] (vb z2283) [] []), .s, .s] (fun K => (ALe (vb (z2277.2 == (0 : Int))) (vb true)) ∧ K 5 ∧ (ALe (vb z2280) (vb true)) ∧ K 8 ∧ True) [(2, vb z2283)] [] ⟨ALe.bool hb2279, KAt.cl (args := [.v (.g [.d (DL z2180.2.rects_)]), .v (.g [.d (DL z2277.1.rects_)])]) (ref04_Same_spec hz2281) Tryz.call16 [] rfl (by kernel_rfl), ALe.bool hb2282, KAt.cl (args := []) (law06_awake_spec hz2284) Tryz.call19 [] rfl (by kernel_rfl), True.intro⟩ (by kernel_rfl) ?_
            exact Kn.r Fm [(2, vb z2283)] [] (by kernel_rfl) (hJ2286 z2283 h)
          · have h := br_f h hb2282
            refine AW.g Fm [.s, .s, .w (vb true), .s, .s, .k (cE [] [] (vb z2280) [] []), .s, .w (vb false), .s, .s, .s] (fun K => (ALe (vb (z2277.2 == (0 : Int))) (vb true)) ∧ K 5 ∧ (ALe (vb z2280) (vb false)) ∧ True) [(2, vb false)] [] ⟨ALe.bool hb2279, KAt.cl (args := [.v (.g [.d (DL z2180.2.rects_)]), .v (.g [.d (DL z2277.1.rects_)])]) (ref04_Same_spec hz2281) Tryz.call16 [] rfl (by kernel_rfl), ALe.bool hb2282, True.intro⟩ (by kernel_rfl) ?_
            exact Kn.r Fm [(2, vb false)] [] (by kernel_rfl) (hJ2286 false h)
        · have h := br_f h hb2279
          refine AW.g Fm [.s, .s, .w (vb false), .s, .s, .s, .s, .s, .s, .s, .s] (fun K => (ALe (vb (z2277.2 == (0 : Int))) (vb false)) ∧ True) [(2, vb false)] [] ⟨ALe.bool hb2279, True.intro⟩ (by kernel_rfl) ?_
          exact Kn.r Fm [(2, vb false)] [] (by kernel_rfl) (hJ2286 false h)
    · refine AW.sg0 Fm 3 [(3, .v (.c (.ptr 3 0))), (4, AL z2182.1), (6, .v (.c (.own 6))), (27, AL z2182.1), (28, vi ((List.length z2182.1 : Nat) : Int)), (29, vi (0 : Int))] [(3, .box false [.d (DL z2180.2.rects_)]), (6, AO (α := Rect) ([] : List Rect))] (by kernel_rfl) ?_
      refine AW.block ?_
      refine Kn.r Fm [(3, .v (.c (.ptr 3 0))), (4, AL z2182.1), (6, .v (.c (.own 6))), (27, AL z2182.1), (28, vi ((List.length z2182.1 : Nat) : Int)), (29, vi (0 : Int))] [(3, .box false [.d (DL z2180.2.rects_)]), (6, AO ([] : List Rect))] (by kernel_rfl) ?_
      have h : loopN (fun again (z : Int × (List Rect)) => law06_ShapeParts_b0 F z2180 z2182 again z.1 z.2) F ((0 : Int), ([] : List Rect)) = some r := h
      refine AW.loopF (E' := fun z => [(3, .v (.c (.ptr 3 0))), (4, AL z2182.1), (6, .v (.c (.own 6))), (27, AL z2182.1), (28, vi ((List.length z2182.1 : Nat) : Int)), (29, vi z.1)]) (S' := fun z => [(3, .box false [.d (DL z2180.2.rects_)]), (6, AO z.2)]) (fun ag_law06_ShapeParts_b0 z J2231 hJ2231 h => ?_) h
      obtain ⟨v2229, v2230⟩ := z
      have h : law06_ShapeParts_b0 F z2180 z2182 ag_law06_ShapeParts_b0 v2229 v2230 = some r := h
      refine AW.sg0 Fm 1 [(3, .v (.c (.ptr 3 0))), (4, AL z2182.1), (6, .v (.c (.own 6))), (27, AL z2182.1), (28, vi ((List.length z2182.1 : Nat) : Int)), (29, vi v2229), (30, vb (decide (v2229 < ((List.length z2182.1 : Nat) : Int))))] [(3, .box false [.d (DL z2180.2.rects_)]), (6, AO v2230)] (by kernel_rfl) ?_
      refine AW.seq ?_
      refine AW.cond (b := (decide (v2229 < ((List.length z2182.1 : Nat) : Int)))) (by kernel_rfl) (fun hb2232 => ?_) (fun hb2232 => ?_)
      · have h := br_t h hb2232
        refine AW.skip ?_
        refine AW.join (r := r) (fun z : Unit => law06_ShapeParts_k5 F z2182 v2229 v2230 ag_law06_ShapeParts_b0) (fun z => [(3, .v (.c (.ptr 3 0))), (4, AL z2182.1), (6, .v (.c (.own 46))), (27, AL z2182.1), (28, vi ((List.length z2182.1 : Nat) : Int)), (29, vi v2229)]) (fun z => [(3, .box false [.d (DL z2180.2.rects_)]), (46, AO (α := Rect) (v2230 ++ ((gl z2182.1 v2229.toNat).rects_)))]) (fun z h => ?_) (fun J2273 hJ2273 => ?_)
        · have h : law06_ShapeParts_k5 F z2182 v2229 v2230 ag_law06_ShapeParts_b0 = some r := h
          obtain ⟨hg2274, h⟩ := gd_some h
          refine AW.g Fm [.s, .s] (fun K => (I64 (v2229 + (1 : Int)) ∧ True) ∧ True) [(3, .v (.c (.ptr 3 0))), (4, AL z2182.1), (6, .v (.c (.own 46))), (27, AL z2182.1), (28, vi ((List.length z2182.1 : Nat) : Int)), (29, vi (v2229 + (1 : Int)))] [(3, .box false [.d (DL z2180.2.rects_)]), (46, AO (α := Rect) (v2230 ++ ((gl z2182.1 v2229.toNat).rects_)))] ⟨⟨hg2274, True.intro⟩, True.intro⟩ (by kernel_rfl) ?_
          exact Kn.re Fm [(6, 46)] [(3, .v (.c (.ptr 3 0))), (4, AL z2182.1), (6, .v (.c (.own 6))), (27, AL z2182.1), (28, vi ((List.length z2182.1 : Nat) : Int)), (29, vi (v2229 + (1 : Int)))] [(3, .box false [.d (DL z2180.2.rects_)]), (6, AO (v2230 ++ ((gl z2182.1 v2229.toNat).rects_)))] (by kernel_rfl) (by kernel_rfl) (by kernel_rfl) (by kernel_rfl) (hJ2231 ((v2229 + (1 : Int)), (v2230 ++ ((gl z2182.1 v2229.toNat).rects_))) h)
        · refine AW.block ?_
          obtain ⟨hg2233, h⟩ := gd_some h
          refine AW.sg Fm [.s, .s, .s, .s, .s, .s] (fun K => (0 ≤ v2229 ∧ v2229 < ((List.length z2182.1 : Nat) : Int)) ∧ True) [(3, .v (.c (.ptr 3 0))), (4, AL z2182.1), (6, .v (.c (.own 6))), (7, vi v2229), (8, .v (.c (.ptr 8 0))), (27, AL z2182.1), (28, vi ((List.length z2182.1 : Nat) : Int)), (29, vi v2229)] [(3, .box false [.d (DL z2180.2.rects_)]), (6, AO v2230), (8, .box false [.d (DL (α := Rect) (gl z2182.1 v2229.toNat).rects_)])] ⟨hg2233, True.intro⟩ (by kernel_rfl) ?_
          refine AW.seq ?_
          refine AW.join (r := r) (fun z : Bool => law06_ShapeParts_k1 F z2182 v2229 v2230 ag_law06_ShapeParts_b0 z) (fun z => [(3, .v (.c (.ptr 3 0))), (4, AL z2182.1), (6, .v (.c (.own 6))), (7, vi v2229), (8, .v (.c (.ptr 8 0))), (27, AL z2182.1), (28, vi ((List.length z2182.1 : Nat) : Int)), (29, vi v2229), (42, vb z)]) (fun z => [(3, .box false [.d (DL z2180.2.rects_)]), (6, AO v2230), (8, .box false [.d (DL (α := Rect) (gl z2182.1 v2229.toNat).rects_)])]) (fun v2237 h => ?_) (fun J2238 hJ2238 => ?_)
          · have h : law06_ShapeParts_k1 F z2182 v2229 v2230 ag_law06_ShapeParts_b0 v2237 = some r := h
            refine AW.cond (b := v2237) (by kernel_rfl) (fun hb2239 => ?_) (fun hb2239 => ?_)
            · have h := br_t h hb2239
              refine AW.sg0 Fm 1 [(2, vb false)] [] (by kernel_rfl) ?_
              refine AW.ret ?_
              obtain rfl := Option.some.inj h
              exact Kn.r Fm [(2, vb false)] [] (by kernel_rfl) (Kn.dn Fm (by kernel_rfl))
            · have h := br_f h hb2239
              refine AW.skip ?_
              obtain ⟨hg2240, h⟩ := gd_some h
              refine AW.sg Fm [.s, .s, .s, .s, .s] (fun K => ((List.length (α := Rect) v2230) + (List.length (α := Rect) ((gl z2182.1 v2229.toNat).rects_)) ≤ LIM ∧ (∀ j, j < List.length (α := Rect) ((gl z2182.1 v2229.toNat).rects_) → ((LF (α := Rect) ((gl z2182.1 v2229.toNat).rects_)) j).length = 4) ∧ (True)) ∧ True) [(3, .v (.c (.ptr 3 0))), (4, AL z2182.1), (6, .v (.c (.own 46))), (7, vi v2229), (8, .v (.c (.ptr 8 0))), (27, AL z2182.1), (28, vi ((List.length z2182.1 : Nat) : Int)), (29, vi v2229)] [(3, .box false [.d (DL z2180.2.rects_)]), (8, .box false [.d (DL (α := Rect) (gl z2182.1 v2229.toNat).rects_)]), (46, .arr 4 ((List.length (α := Rect) v2230) + (List.length (α := Rect) ((gl z2182.1 v2229.toNat).rects_))) (appF (List.length (α := Rect) v2230) (LF (α := Rect) v2230) (LF (α := Rect) ((gl z2182.1 v2229.toNat).rects_))))] ⟨⟨hg2240, (Is.refl ((gl z2182.1 v2229.toNat).rects_) : Is (List.length (α := Rect) ((gl z2182.1 v2229.toNat).rects_)) (LF (α := Rect) ((gl z2182.1 v2229.toNat).rects_)) ((gl z2182.1 v2229.toNat).rects_)).len, True.intro⟩, True.intro⟩ (by kernel_rfl) ?_
              refine Kn.wk [(3, .v (.c (.ptr 3 0))), (4, AL z2182.1), (6, .v (.c (.own 46))), (7, vi v2229), (8, .v (.c (.ptr 8 0))), (27, AL z2182.1), (28, vi ((List.length z2182.1 : Nat) : Int)), (29, vi v2229)] [(3, .box false [.d (DL z2180.2.rects_)]), (8, .box false [.d (DL (α := Rect) (gl z2182.1 v2229.toNat).rects_)]), (46, AO (α := Rect) (v2230 ++ ((gl z2182.1 v2229.toNat).rects_)))] (FE.refl _) (⟨rfl, OLe.refl _, ⟨rfl, OLe.refl _, ⟨rfl, OLe.is (Is.app (Is.refl v2230) (Is.refl ((gl z2182.1 v2229.toNat).rects_))), True.intro⟩⟩⟩) ?_
              refine AW.seq ?_
              obtain ⟨z2241, hz2242, h⟩ := bd_some h
              refine AW.g Fm [.s, .k (cE [] [] (.t [.c (.d (DL z2241.1)), .c (ci z2241.2)]) [] []), .s, .s, .s, .s, .s] (fun K => K 1 ∧ True) [(3, .v (.c (.ptr 3 0))), (4, AL z2182.1), (6, .v (.c (.own 46))), (7, vi v2229), (8, .v (.c (.ptr 8 0))), (9, AL z2241.1), (10, vi z2241.2), (27, AL z2182.1), (28, vi ((List.length z2182.1 : Nat) : Int)), (29, vi v2229)] [(3, .box false [.d (DL z2180.2.rects_)]), (8, .box false [.d (DL (α := Rect) (gl z2182.1 v2229.toNat).rects_)]), (46, AO (α := Rect) (v2230 ++ ((gl z2182.1 v2229.toNat).rects_)))] ⟨KAt.cl (args := [.v (.g [.d (DL (α := Rect) (gl z2182.1 v2229.toNat).rects_)])]) (shape_Parts_spec hz2242) Tryz.call14 [] rfl (by kernel_rfl), True.intro⟩ (by kernel_rfl) ?_
              refine AW.seq ?_
              refine AW.join (r := r) (fun z : Bool => law06_ShapeParts_k2 F z2182 v2229 v2230 ag_law06_ShapeParts_b0 z) (fun z => [(3, .v (.c (.ptr 3 0))), (4, AL z2182.1), (6, .v (.c (.own 46))), (7, vi v2229), (8, .v (.c (.ptr 8 0))), (27, AL z2182.1), (28, vi ((List.length z2182.1 : Nat) : Int)), (29, vi v2229), (66, vb z)]) (fun z => [(3, .box false [.d (DL z2180.2.rects_)]), (8, .box false [.d (DL (α := Rect) (gl z2182.1 v2229.toNat).rects_)]), (46, AO (α := Rect) (v2230 ++ ((gl z2182.1 v2229.toNat).rects_)))]) (fun v2248 h => ?_) (fun J2249 hJ2249 => ?_)
              · have h : law06_ShapeParts_k2 F z2182 v2229 v2230 ag_law06_ShapeParts_b0 v2248 = some r := h
                refine AW.cond (b := v2248) (by kernel_rfl) (fun hb2250 => ?_) (fun hb2250 => ?_)
                · have h := br_t h hb2250
                  refine AW.sg0 Fm 1 [(2, vb false)] [] (by kernel_rfl) ?_
                  refine AW.ret ?_
                  obtain rfl := Option.some.inj h
                  exact Kn.r Fm [(2, vb false)] [] (by kernel_rfl) (Kn.dn Fm (by kernel_rfl))
                · have h := br_f h hb2250
                  refine AW.skip ?_
                  obtain ⟨hg2251, h⟩ := gd_some h
                  refine AW.sg Fm [.s, .s, .w (AL (α := Region) (z2182.1.take v2229.toNat)), .s, .s] (fun K => (((sl (List.length z2182.1) (LF z2182.1) none (some v2229)).2 ∧ ∀ j, j < List.length z2182.1 → (LF z2182.1 j).length = 1)) ∧ (ALe (.v (.c (.d (.lst (sl (List.length z2182.1) (LF z2182.1) none (some v2229)).1.1 (sl (List.length z2182.1) (LF z2182.1) none (some v2229)).1.2)))) (AL (α := Region) (z2182.1.take v2229.toNat))) ∧ True) [(3, .v (.c (.ptr 3 0))), (4, AL z2182.1), (6, .v (.c (.own 46))), (8, .v (.c (.ptr 8 0))), (27, AL z2182.1), (28, vi ((List.length z2182.1 : Nat) : Int)), (29, vi v2229), (69, AL (α := Region) (z2182.1.take v2229.toNat)), (70, vi ((List.length (z2182.1.take v2229.toNat) : Nat) : Int)), (71, vi (0 : Int))] [(3, .box false [.d (DL z2180.2.rects_)]), (8, .box false [.d (DL (α := Rect) (gl z2182.1 v2229.toNat).rects_)]), (46, AO (α := Rect) (v2230 ++ ((gl z2182.1 v2229.toNat).rects_)))] ⟨⟨hg2251, (Is.refl z2182.1).len⟩, ALe.lst (sl_is z2182.1 none (some v2229) hg2251), True.intro⟩ (by kernel_rfl) ?_
                  refine AW.block ?_
                  refine Kn.r Fm [(3, .v (.c (.ptr 3 0))), (4, AL z2182.1), (6, .v (.c (.own 46))), (8, .v (.c (.ptr 8 0))), (27, AL z2182.1), (28, vi ((List.length z2182.1 : Nat) : Int)), (29, vi v2229), (69, AL (α := Region) (z2182.1.take v2229.toNat)), (70, vi ((List.length (z2182.1.take v2229.toNat) : Nat) : Int)), (71, vi (0 : Int))] [(3, .box false [.d (DL z2180.2.rects_)]), (8, .box false [.d (DL (α := Rect) (gl z2182.1 v2229.toNat).rects_)]), (46, AO (α := Rect) (v2230 ++ ((gl z2182.1 v2229.toNat).rects_)))] (by kernel_rfl) ?_
                  have h : loopN (fun again (z : Int) => law06_ShapeParts_b3 F z2182 v2229 v2230 ag_law06_ShapeParts_b0 again z) F (0 : Int) = some r := h
                  refine AW.loopF (E' := fun z => [(3, .v (.c (.ptr 3 0))), (4, AL z2182.1), (6, .v (.c (.own 46))), (8, .v (.c (.ptr 8 0))), (27, AL z2182.1), (28, vi ((List.length z2182.1 : Nat) : Int)), (29, vi v2229), (69, AL (α := Region) (z2182.1.take v2229.toNat)), (70, vi ((List.length (z2182.1.take v2229.toNat) : Nat) : Int)), (71, vi z)]) (S' := fun z => [(3, .box false [.d (DL z2180.2.rects_)]), (8, .box false [.d (DL (α := Rect) (gl z2182.1 v2229.toNat).rects_)]), (46, AO (α := Rect) (v2230 ++ ((gl z2182.1 v2229.toNat).rects_)))]) (fun ag_law06_ShapeParts_b3 v2262 J2263 hJ2263 h => ?_) h
                  have h : law06_ShapeParts_b3 F z2182 v2229 v2230 ag_law06_ShapeParts_b0 ag_law06_ShapeParts_b3 v2262 = some r := h
                  refine AW.sg0 Fm 1 [(3, .v (.c (.ptr 3 0))), (4, AL z2182.1), (6, .v (.c (.own 46))), (8, .v (.c (.ptr 8 0))), (27, AL z2182.1), (28, vi ((List.length z2182.1 : Nat) : Int)), (29, vi v2229), (69, AL (α := Region) (z2182.1.take v2229.toNat)), (70, vi ((List.length (z2182.1.take v2229.toNat) : Nat) : Int)), (71, vi v2262), (72, vb (decide (v2262 < ((List.length (z2182.1.take v2229.toNat) : Nat) : Int))))] [(3, .box false [.d (DL z2180.2.rects_)]), (8, .box false [.d (DL (α := Rect) (gl z2182.1 v2229.toNat).rects_)]), (46, AO (α := Rect) (v2230 ++ ((gl z2182.1 v2229.toNat).rects_)))] (by kernel_rfl) ?_
                  refine AW.seq ?_
                  refine AW.cond (b := (decide (v2262 < ((List.length (z2182.1.take v2229.toNat) : Nat) : Int)))) (by kernel_rfl) (fun hb2264 => ?_) (fun hb2264 => ?_)
                  · have h := br_t h hb2264
                    refine AW.skip ?_
                    refine AW.seq ?_
                    refine AW.block ?_
                    obtain ⟨hg2265, h⟩ := gd_some h
                    refine AW.sg Fm [.s, .s, .s, .s] (fun K => (0 ≤ v2262 ∧ v2262 < ((List.length (z2182.1.take v2229.toNat) : Nat) : Int)) ∧ True) [(3, .v (.c (.ptr 3 0))), (4, AL z2182.1), (6, .v (.c (.own 46))), (8, .v (.c (.ptr 8 0))), (12, .v (.c (.ptr 12 0))), (27, AL z2182.1), (28, vi ((List.length z2182.1 : Nat) : Int)), (29, vi v2229), (69, AL (α := Region) (z2182.1.take v2229.toNat)), (70, vi ((List.length (z2182.1.take v2229.toNat) : Nat) : Int)), (71, vi v2262)] [(3, .box false [.d (DL z2180.2.rects_)]), (8, .box false [.d (DL (α := Rect) (gl z2182.1 v2229.toNat).rects_)]), (12, .box false [.d (DL (α := Rect) (gl (z2182.1.take v2229.toNat) v2262.toNat).rects_)]), (46, AO (α := Rect) (v2230 ++ ((gl z2182.1 v2229.toNat).rects_)))] ⟨hg2265, True.intro⟩ (by kernel_rfl) ?_
                    refine AW.seq ?_
                    obtain ⟨z2266, hz2267, h⟩ := bd_some h
                    refine AW.g Fm [.s, .s, .k (cE [] [] (.t [.c (ci z2266.1), .c (ci z2266.2)]) [] []), .s, .s, .s, .s, .s] (fun K => K 2 ∧ True) [(3, .v (.c (.ptr 3 0))), (4, AL z2182.1), (6, .v (.c (.own 46))), (8, .v (.c (.ptr 8 0))), (13, vi z2266.1), (14, vi z2266.2), (27, AL z2182.1), (28, vi ((List.length z2182.1 : Nat) : Int)), (29, vi v2229), (69, AL (α := Region) (z2182.1.take v2229.toNat)), (70, vi ((List.length (z2182.1.take v2229.toNat) : Nat) : Int)), (71, vi v2262)] [(3, .box false [.d (DL z2180.2.rects_)]), (8, .box false [.d (DL (α := Rect) (gl z2182.1 v2229.toNat).rects_)]), (46, AO (α := Rect) (v2230 ++ ((gl z2182.1 v2229.toNat).rects_)))] ⟨KAt.cl (args := [.v (.g [.d (DL (α := Rect) (gl z2182.1 v2229.toNat).rects_)]), .v (.g [.d (DL (α := Rect) (gl (z2182.1.take v2229.toNat) v2262.toNat).rects_)])]) (shape_Touch_spec hz2267) Tryz.call17 [] rfl (by kernel_rfl), True.intro⟩ (by kernel_rfl) ?_
                    refine AW.join (r := r) (fun z : Bool => law06_ShapeParts_k4 F v2262 ag_law06_ShapeParts_b3 z) (fun z => [(3, .v (.c (.ptr 3 0))), (4, AL z2182.1), (6, .v (.c (.own 46))), (8, .v (.c (.ptr 8 0))), (27, AL z2182.1), (28, vi ((List.length z2182.1 : Nat) : Int)), (29, vi v2229), (69, AL (α := Region) (z2182.1.take v2229.toNat)), (70, vi ((List.length (z2182.1.take v2229.toNat) : Nat) : Int)), (71, vi v2262), (86, vb z)]) (fun z => [(3, .box false [.d (DL z2180.2.rects_)]), (8, .box false [.d (DL (α := Rect) (gl z2182.1 v2229.toNat).rects_)]), (46, AO (α := Rect) (v2230 ++ ((gl z2182.1 v2229.toNat).rects_)))]) (fun v2269 h => ?_) (fun J2270 hJ2270 => ?_)
                    · have h : law06_ShapeParts_k4 F v2262 ag_law06_ShapeParts_b3 v2269 = some r := h
                      refine AW.cond (b := v2269) (by kernel_rfl) (fun hb2271 => ?_) (fun hb2271 => ?_)
                      · have h := br_t h hb2271
                        refine AW.sg0 Fm 1 [(2, vb false)] [] (by kernel_rfl) ?_
                        refine AW.ret ?_
                        obtain rfl := Option.some.inj h
                        exact Kn.r Fm [(2, vb false)] [] (by kernel_rfl) (Kn.dn Fm (by kernel_rfl))
                      · have h := br_f h hb2271
                        refine AW.skip ?_
                        obtain ⟨hg2272, h⟩ := gd_some h
                        refine AW.g Fm [.s, .s] (fun K => (I64 (v2262 + (1 : Int)) ∧ True) ∧ True) [(3, .v (.c (.ptr 3 0))), (4, AL z2182.1), (6, .v (.c (.own 46))), (8, .v (.c (.ptr 8 0))), (27, AL z2182.1), (28, vi ((List.length z2182.1 : Nat) : Int)), (29, vi v2229), (69, AL (α := Region) (z2182.1.take v2229.toNat)), (70, vi ((List.length (z2182.1.take v2229.toNat) : Nat) : Int)), (71, vi (v2262 + (1 : Int)))] [(3, .box false [.d (DL z2180.2.rects_)]), (8, .box false [.d (DL (α := Rect) (gl z2182.1 v2229.toNat).rects_)]), (46, AO (α := Rect) (v2230 ++ ((gl z2182.1 v2229.toNat).rects_)))] ⟨⟨hg2272, True.intro⟩, True.intro⟩ (by kernel_rfl) ?_
                        exact Kn.r Fm [(3, .v (.c (.ptr 3 0))), (4, AL z2182.1), (6, .v (.c (.own 46))), (8, .v (.c (.ptr 8 0))), (27, AL z2182.1), (28, vi ((List.length z2182.1 : Nat) : Int)), (29, vi v2229), (69, AL (α := Region) (z2182.1.take v2229.toNat)), (70, vi ((List.length (z2182.1.take v2229.toNat) : Nat) : Int)), (71, vi (v2262 + (1 : Int)))] [(3, .box false [.d (DL z2180.2.rects_)]), (8, .box false [.d (DL (α := Rect) (gl z2182.1 v2229.toNat).rects_)]), (46, AO (α := Rect) (v2230 ++ ((gl z2182.1 v2229.toNat).rects_)))] (by kernel_rfl) (hJ2263 (v2262 + (1 : Int)) h)
                    · rcases Bool.eq_false_or_eq_true (z2266.2 != (0 : Int)) with hb2268 | hb2268
                      · have h := br_t h hb2268
                        refine AW.g Fm [.s, .s, .w (vb true), .s, .s, .s] (fun K => (ALe (vb (z2266.2 != (0 : Int))) (vb true)) ∧ True) [(3, .v (.c (.ptr 3 0))), (4, AL z2182.1), (6, .v (.c (.own 46))), (8, .v (.c (.ptr 8 0))), (27, AL z2182.1), (28, vi ((List.length z2182.1 : Nat) : Int)), (29, vi v2229), (69, AL (α := Region) (z2182.1.take v2229.toNat)), (70, vi ((List.length (z2182.1.take v2229.toNat) : Nat) : Int)), (71, vi v2262), (86, vb true)] [(3, .box false [.d (DL z2180.2.rects_)]), (8, .box false [.d (DL (α := Rect) (gl z2182.1 v2229.toNat).rects_)]), (46, AO (α := Rect) (v2230 ++ ((gl z2182.1 v2229.toNat).rects_)))] ⟨ALe.bool hb2268, True.intro⟩ (by kernel_rfl) ?_
                        exact Kn.r Fm [(3, .v (.c (.ptr 3 0))), (4, AL z2182.1), (6, .v (.c (.own 46))), (8, .v (.c (.ptr 8 0))), (27, AL z2182.1), (28, vi ((List.length z2182.1 : Nat) : Int)), (29, vi v2229), (69, AL (α := Region) (z2182.1.take v2229.toNat)), (70, vi ((List.length (z2182.1.take v2229.toNat) : Nat) : Int)), (71, vi v2262), (86, vb true)] [(3, .box false [.d (DL z2180.2.rects_)]), (8, .box false [.d (DL (α := Rect) (gl z2182.1 v2229.toNat).rects_)]), (46, AO (α := Rect) (v2230 ++ ((gl z2182.1 v2229.toNat).rects_)))] (by kernel_rfl) (hJ2270 true h)
                      · have h := br_f h hb2268
                        refine AW.g Fm [.s, .s, .w (vb false), .s, .s, .s] (fun K => (ALe (vb (z2266.2 != (0 : Int))) (vb false)) ∧ True) [(3, .v (.c (.ptr 3 0))), (4, AL z2182.1), (6, .v (.c (.own 46))), (8, .v (.c (.ptr 8 0))), (27, AL z2182.1), (28, vi ((List.length z2182.1 : Nat) : Int)), (29, vi v2229), (69, AL (α := Region) (z2182.1.take v2229.toNat)), (70, vi ((List.length (z2182.1.take v2229.toNat) : Nat) : Int)), (71, vi v2262), (84, vi z2266.1), (85, vb (z2266.1 != (0 : Int))), (86, vb (z2266.1 != (0 : Int)))] [(3, .box false [.d (DL z2180.2.rects_)]), (8, .box false [.d (DL (α := Rect) (gl z2182.1 v2229.toNat).rects_)]), (46, AO (α := Rect) (v2230 ++ ((gl z2182.1 v2229.toNat).rects_)))] ⟨ALe.bool hb2268, True.intro⟩ (by kernel_rfl) ?_
                        exact Kn.r Fm [(3, .v (.c (.ptr 3 0))), (4, AL z2182.1), (6, .v (.c (.own 46))), (8, .v (.c (.ptr 8 0))), (27, AL z2182.1), (28, vi ((List.length z2182.1 : Nat) : Int)), (29, vi v2229), (69, AL (α := Region) (z2182.1.take v2229.toNat)), (70, vi ((List.length (z2182.1.take v2229.toNat) : Nat) : Int)), (71, vi v2262), (86, vb (z2266.1 != (0 : Int)))] [(3, .box false [.d (DL z2180.2.rects_)]), (8, .box false [.d (DL (α := Rect) (gl z2182.1 v2229.toNat).rects_)]), (46, AO (α := Rect) (v2230 ++ ((gl z2182.1 v2229.toNat).rects_)))] (by kernel_rfl) (hJ2270 (z2266.1 != (0 : Int)) h)
                  · have h := br_f h hb2264
                    refine AW.exit ?_
                    exact Kn.r Fm [(3, .v (.c (.ptr 3 0))), (4, AL z2182.1), (6, .v (.c (.own 46))), (27, AL z2182.1), (28, vi ((List.length z2182.1 : Nat) : Int)), (29, vi v2229)] [(3, .box false [.d (DL z2180.2.rects_)]), (46, AO (α := Rect) (v2230 ++ ((gl z2182.1 v2229.toNat).rects_)))] (by kernel_rfl) (hJ2273 () h)
              · rcases Bool.eq_false_or_eq_true (z2241.2 != (0 : Int)) with hb2243 | hb2243
                · have h := br_t h hb2243
                  refine AW.g Fm [.s, .s, .w (vb true), .s, .s, .s, .s, .s, .s, .s, .s, .s, .s, .s, .s] (fun K => (ALe (vb (z2241.2 != (0 : Int))) (vb true)) ∧ True) [(3, .v (.c (.ptr 3 0))), (4, AL z2182.1), (6, .v (.c (.own 46))), (7, vi v2229), (8, .v (.c (.ptr 8 0))), (27, AL z2182.1), (28, vi ((List.length z2182.1 : Nat) : Int)), (29, vi v2229), (66, vb true)] [(3, .box false [.d (DL z2180.2.rects_)]), (8, .box false [.d (DL (α := Rect) (gl z2182.1 v2229.toNat).rects_)]), (46, AO (α := Rect) (v2230 ++ ((gl z2182.1 v2229.toNat).rects_)))] ⟨ALe.bool hb2243, True.intro⟩ (by kernel_rfl) ?_
                  exact Kn.r Fm [(3, .v (.c (.ptr 3 0))), (4, AL z2182.1), (6, .v (.c (.own 46))), (7, vi v2229), (8, .v (.c (.ptr 8 0))), (27, AL z2182.1), (28, vi ((List.length z2182.1 : Nat) : Int)), (29, vi v2229), (66, vb true)] [(3, .box false [.d (DL z2180.2.rects_)]), (8, .box false [.d (DL (α := Rect) (gl z2182.1 v2229.toNat).rects_)]), (46, AO (α := Rect) (v2230 ++ ((gl z2182.1 v2229.toNat).rects_)))] (by kernel_rfl) (hJ2249 true h)
                · have h := br_f h hb2243
                  rcases Bool.eq_false_or_eq_true (((List.length z2241.1 : Nat) : Int) != (1 : Int)) with hb2244 | hb2244
                  · have h := br_t h hb2244
                    refine AW.g Fm [.s, .s, .w (vb false), .s, .s, .s, .s, .w (vb true), .s, .s, .s, .s, .s, .s, .s] (fun K => (ALe (vb (z2241.2 != (0 : Int))) (vb false)) ∧ (ALe (vb (((List.length z2241.1 : Nat) : Int) != (1 : Int))) (vb true)) ∧ True) [(3, .v (.c (.ptr 3 0))), (4, AL z2182.1), (6, .v (.c (.own 46))), (7, vi v2229), (8, .v (.c (.ptr 8 0))), (27, AL z2182.1), (28, vi ((List.length z2182.1 : Nat) : Int)), (29, vi v2229), (55, AL z2241.1), (56, vi ((List.length z2241.1 : Nat) : Int)), (57, vb (((List.length z2241.1 : Nat) : Int) != (1 : Int))), (66, vb true)] [(3, .box false [.d (DL z2180.2.rects_)]), (8, .box false [.d (DL (α := Rect) (gl z2182.1 v2229.toNat).rects_)]), (46, AO (α := Rect) (v2230 ++ ((gl z2182.1 v2229.toNat).rects_)))] ⟨ALe.bool hb2243, ALe.bool hb2244, True.intro⟩ (by kernel_rfl) ?_
                    exact Kn.r Fm [(3, .v (.c (.ptr 3 0))), (4, AL z2182.1), (6, .v (.c (.own 46))), (7, vi v2229), (8, .v (.c (.ptr 8 0))), (27, AL z2182.1), (28, vi ((List.length z2182.1 : Nat) : Int)), (29, vi v2229), (66, vb true)] [(3, .box false [.d (DL z2180.2.rects_)]), (8, .box false [.d (DL (α := Rect) (gl z2182.1 v2229.toNat).rects_)]), (46, AO (α := Rect) (v2230 ++ ((gl z2182.1 v2229.toNat).rects_)))] (by kernel_rfl) (hJ2249 true h)
                  · have h := br_f h hb2244
                    obtain ⟨hg2245, h⟩ := gd_some h
                    obtain ⟨z2246, hz2247, h⟩ := bd_some h
                    refine AW.g Fm [.s, .s, .w (vb false), .s, .s, .s, .s, .w (vb false), .s, .s, .s, .s, .k (cE [] [] (vb z2246) [] []), .s, .s] (fun K => (ALe (vb (z2241.2 != (0 : Int))) (vb false)) ∧ (ALe (vb (((List.length z2241.1 : Nat) : Int) != (1 : Int))) (vb false)) ∧ (0 ≤ (0 : Int) ∧ (0 : Int) < ((List.length z2241.1 : Nat) : Int)) ∧ K 12 ∧ True) [(3, .v (.c (.ptr 3 0))), (4, AL z2182.1), (6, .v (.c (.own 46))), (7, vi v2229), (8, .v (.c (.ptr 8 0))), (27, AL z2182.1), (28, vi ((List.length z2182.1 : Nat) : Int)), (29, vi v2229), (55, AL z2241.1), (56, vi ((List.length z2241.1 : Nat) : Int)), (57, vb (((List.length z2241.1 : Nat) : Int) != (1 : Int))), (60, AL z2241.1), (61, .v (.c (.elm [DL (α := Rect) (gl z2241.1 (0 : Int).toNat).rects_]))), (62, .v (.g [.d (DL (α := Rect) (gl z2241.1 (0 : Int).toNat).rects_)])), (63, .v (.g [.d (DL (α := Rect) (gl z2182.1 v2229.toNat).rects_)])), (64, vb z2246), (65, vb (!z2246)), (66, vb (!z2246))] [(3, .box false [.d (DL z2180.2.rects_)]), (8, .box false [.d (DL (α := Rect) (gl z2182.1 v2229.toNat).rects_)]), (46, AO (α := Rect) (v2230 ++ ((gl z2182.1 v2229.toNat).rects_)))] ⟨ALe.bool hb2243, ALe.bool hb2244, hg2245, KAt.cl (args := [.v (.g [.d (DL (α := Rect) (gl z2241.1 (0 : Int).toNat).rects_)]), .v (.g [.d (DL (α := Rect) (gl z2182.1 v2229.toNat).rects_)])]) (ref04_Same_spec hz2247) Tryz.call16 [] rfl (by kernel_rfl), True.intro⟩ (by kernel_rfl) ?_
                    exact Kn.r Fm [(3, .v (.c (.ptr 3 0))), (4, AL z2182.1), (6, .v (.c (.own 46))), (7, vi v2229), (8, .v (.c (.ptr 8 0))), (27, AL z2182.1), (28, vi ((List.length z2182.1 : Nat) : Int)), (29, vi v2229), (66, vb (!z2246))] [(3, .box false [.d (DL z2180.2.rects_)]), (8, .box false [.d (DL (α := Rect) (gl z2182.1 v2229.toNat).rects_)]), (46, AO (α := Rect) (v2230 ++ ((gl z2182.1 v2229.toNat).rects_)))] (by kernel_rfl) (hJ2249 (!z2246) h)
          · rcases Bool.eq_false_or_eq_true (((List.length ((gl z2182.1 v2229.toNat).rects_) : Nat) : Int) == (0 : Int)) with hb2234 | hb2234
            · have h := br_t h hb2234
              refine AW.g Fm [.s, .s, .s, .s, .w (vb true), .s, .s, .s, .s] (fun K => (ALe (vb (((List.length ((gl z2182.1 v2229.toNat).rects_) : Nat) : Int) == (0 : Int))) (vb true)) ∧ True) [(3, .v (.c (.ptr 3 0))), (4, AL z2182.1), (6, .v (.c (.own 6))), (7, vi v2229), (8, .v (.c (.ptr 8 0))), (27, AL z2182.1), (28, vi ((List.length z2182.1 : Nat) : Int)), (29, vi v2229), (42, vb true)] [(3, .box false [.d (DL z2180.2.rects_)]), (6, AO v2230), (8, .box false [.d (DL (α := Rect) (gl z2182.1 v2229.toNat).rects_)])] ⟨ALe.bool hb2234, True.intro⟩ (by kernel_rfl) ?_
              exact Kn.r Fm [(3, .v (.c (.ptr 3 0))), (4, AL z2182.1), (6, .v (.c (.own 6))), (7, vi v2229), (8, .v (.c (.ptr 8 0))), (27, AL z2182.1), (28, vi ((List.length z2182.1 : Nat) : Int)), (29, vi v2229), (42, vb true)] [(3, .box false [.d (DL z2180.2.rects_)]), (6, AO v2230), (8, .box false [.d (DL (α := Rect) (gl z2182.1 v2229.toNat).rects_)])] (by kernel_rfl) (hJ2238 true h)
            · have h := br_f h hb2234
              obtain ⟨z2235, hz2236, h⟩ := bd_some h
              refine AW.g Fm [.s, .s, .s, .s, .w (vb false), .s, .k (cE [] [] (vb z2235) [] []), .s, .s] (fun K => (ALe (vb (((List.length ((gl z2182.1 v2229.toNat).rects_) : Nat) : Int) == (0 : Int))) (vb false)) ∧ K 6 ∧ True) [(3, .v (.c (.ptr 3 0))), (4, AL z2182.1), (6, .v (.c (.own 6))), (7, vi v2229), (8, .v (.c (.ptr 8 0))), (27, AL z2182.1), (28, vi ((List.length z2182.1 : Nat) : Int)), (29, vi v2229), (39, .v (.g [.d (DL (α := Rect) (gl z2182.1 v2229.toNat).rects_)])), (40, vb z2235), (41, vb (!z2235)), (42, vb (!z2235))] [(3, .box false [.d (DL z2180.2.rects_)]), (6, AO v2230), (8, .box false [.d (DL (α := Rect) (gl z2182.1 v2229.toNat).rects_)])] ⟨ALe.bool hb2234, KAt.cl (args := [.v (.g [.d (DL (α := Rect) (gl z2182.1 v2229.toNat).rects_)])]) (ref04_Valid_spec hz2236) Tryz.call15 [] rfl (by kernel_rfl), True.intro⟩ (by kernel_rfl) ?_
              exact Kn.r Fm [(3, .v (.c (.ptr 3 0))), (4, AL z2182.1), (6, .v (.c (.own 6))), (7, vi v2229), (8, .v (.c (.ptr 8 0))), (27, AL z2182.1), (28, vi ((List.length z2182.1 : Nat) : Int)), (29, vi v2229), (42, vb (!z2235))] [(3, .box false [.d (DL z2180.2.rects_)]), (6, AO v2230), (8, .box false [.d (DL (α := Rect) (gl z2182.1 v2229.toNat).rects_)])] (by kernel_rfl) (hJ2238 (!z2235) h)
      · have h := br_f h hb2232
        refine AW.exit ?_
        exact Kn.r Fm [(3, .v (.c (.ptr 3 0))), (6, .v (.c (.own 6)))] [(3, .box false [.d (DL z2180.2.rects_)]), (6, AO v2230)] (by kernel_rfl) (hJ2276 v2230 h)
end Go.Ab
end
