/- The table of the types that this seat's functions use. Conditions: none. -/
import Derived.Test.YtbcjcekoonebiaaTlK
import Derived.Test.YtbcjcekoonebiaaProg
import Derived.KernelRfl
set_option linter.unusedVariables false
set_option maxRecDepth 100000
namespace Go.Proofs.Ytbcjcekoonebiaa.Tl
open Go
def ti : TI where
  lay := [(2, (false, 1)), (3, (false, 1)), (4, (false, 1)), (5, (false, 1)), (9, (false, 1)), (22, (false, 1)), (24, (true, 5)), (25, (false, 1)), (27, (true, 8)), (31, (false, 1)), (33, (true, 5)), (34, (false, 1)), (36, (true, 8)), (38, (false, 1)), (40, (true, 2)), (45, (false, 1)), (67, (false, 1)), (80, (false, 1)), (82, (false, 1)), (84, (true, 2)), (86, (true, 15)), (87, (false, 1)), (90, (false, 1)), (93, (true, 6)), (95, (false, 1)), (103, (false, 1)), (109, (true, 7)), (132, (true, 7)), (136, (false, 1)), (137, (false, 1)), (139, (true, 4)), (142, (false, 1)), (144, (true, 7)), (150, (true, 15)), (152, (false, 1)), (160, (true, 3)), (173, (false, 1)), (180, (false, 1)), (209, (true, 2)), (211, (false, 1)), (212, (true, 2))]
  fld := [(24, [(0, 1, false), (1, 1, false), (2, 1, false), (3, 1, false), (4, 1, false)]), (27, [(0, 1, false), (1, 5, true), (6, 1, false), (7, 1, false)]), (33, [(0, 1, false), (1, 1, false), (2, 1, false), (3, 1, false), (4, 1, false)]), (36, [(0, 1, false), (1, 5, true), (6, 1, false), (7, 1, false)]), (40, [(0, 1, false), (1, 1, false)]), (84, [(0, 1, false), (1, 1, false)]), (86, [(0, 1, false), (1, 1, false), (2, 2, true), (4, 1, false), (5, 8, true), (13, 1, false), (14, 1, false)]), (93, [(0, 1, false), (1, 5, true)]), (109, [(0, 1, false), (1, 5, true), (6, 1, false)]), (132, [(0, 1, false), (1, 5, true), (6, 1, false)]), (139, [(0, 1, false), (1, 1, false), (2, 2, true)]), (144, [(0, 5, true), (5, 1, false), (6, 1, false)]), (150, [(0, 1, false), (1, 1, false), (2, 2, true), (4, 1, false), (5, 8, true), (13, 1, false), (14, 1, false)]), (160, [(0, 1, false), (1, 1, false), (2, 1, false)]), (209, [(0, 1, false), (1, 1, false)]), (212, [(0, 1, false), (1, 1, false)])]
  elm := [(22, (24, 5)), (25, (27, 8)), (31, (33, 5)), (34, (36, 8)), (38, (40, 2)), (67, (109, 7)), (69, (132, 7)), (79, (80, 1)), (82, (84, 2)), (87, (93, 6)), (90, (67, 1)), (91, (2, 1)), (95, (5, 1)), (136, (38, 1)), (137, (4, 1)), (142, (24, 5)), (176, (209, 2)), (183, (212, 2)), (213, (3, 1)), (220, (9, 1))]
  srt := [(2, .int .i64), (3, .int .i64), (4, .bool), (5, .int .u8), (9, .string), (22, .slice 24), (25, .slice 27), (31, .slice 33), (34, .slice 36), (38, .slice 40), (45, .int .i64), (67, .slice 109), (69, .slice 132), (79, .slice 80), (80, .int .i8), (82, .slice 84), (87, .slice 93), (90, .slice 67), (91, .slice 2), (95, .slice 5), (101, .int .u16), (103, .int .u64), (136, .slice 38), (137, .slice 4), (142, .slice 24), (176, .slice 209), (183, .slice 212), (213, .slice 3), (220, .slice 9)]
  zr := [(2, [.int .i64 0]), (3, [.int .i64 0]), (4, [.bool false]), (5, [.int .u8 0]), (9, [.str ⟨#[]⟩]), (22, [.sl .nil 0 []]), (24, [.int .i64 0, .int .i64 0, .bool false, .str ⟨#[]⟩, .sl .nil 0 []]), (27, [.str ⟨#[]⟩, .int .i64 0, .int .i64 0, .bool false, .str ⟨#[]⟩, .sl .nil 0 [], .int .i64 0, .sl .nil 0 []]), (33, [.int .i64 0, .int .i64 0, .bool false, .str ⟨#[]⟩, .sl .nil 0 []]), (36, [.str ⟨#[]⟩, .int .i64 0, .int .i64 0, .bool false, .str ⟨#[]⟩, .sl .nil 0 [], .int .i64 0, .sl .nil 0 []]), (38, [.sl .nil 0 []]), (40, [.int .i64 0, .sl .nil 0 []]), (67, [.sl .nil 0 []]), (80, [.int .i8 0]), (84, [.int .i64 0, .sl .nil 0 []]), (86, [.int .i64 0, .str ⟨#[]⟩, .int .i64 0, .sl .nil 0 [], .sl .nil 0 [], .str ⟨#[]⟩, .int .i64 0, .int .i64 0, .bool false, .str ⟨#[]⟩, .sl .nil 0 [], .int .i64 0, .sl .nil 0 [], .int .i64 0, .int .i64 0]), (87, [.sl .nil 0 []]), (93, [.int .i64 0, .int .i64 0, .int .i64 0, .bool false, .str ⟨#[]⟩, .sl .nil 0 []]), (109, [.str ⟨#[]⟩, .int .i64 0, .int .i64 0, .bool false, .str ⟨#[]⟩, .sl .nil 0 [], .int .i64 0]), (132, [.str ⟨#[]⟩, .int .i64 0, .int .i64 0, .bool false, .str ⟨#[]⟩, .sl .nil 0 [], .int .i64 0]), (139, [.sl .nil 0 [], .sl .nil 0 [], .int .i64 0, .sl .nil 0 []]), (144, [.int .i64 0, .int .i64 0, .bool false, .str ⟨#[]⟩, .sl .nil 0 [], .sl .nil 0 [], .sl .nil 0 []]), (150, [.int .i64 0, .str ⟨#[]⟩, .int .i64 0, .sl .nil 0 [], .sl .nil 0 [], .str ⟨#[]⟩, .int .i64 0, .int .i64 0, .bool false, .str ⟨#[]⟩, .sl .nil 0 [], .int .i64 0, .sl .nil 0 [], .int .i64 0, .int .i64 0]), (152, [.nilf]), (160, [.sl .nil 0 [], .int .i64 0, .int .i64 0]), (209, [.str ⟨#[]⟩, .nilf]), (212, [.str ⟨#[]⟩, .nilf])]
  plc := [(24, [(0, 1), (1, 1), (2, 1), (3, 1), (4, 1)]), (27, [(0, 1), (1, 5), (6, 1), (7, 1)]), (33, [(0, 1), (1, 1), (2, 1), (3, 1), (4, 1)]), (36, [(0, 1), (1, 5), (6, 1), (7, 1)]), (40, [(0, 1), (1, 1)]), (86, [(0, 1), (1, 1), (2, 2), (4, 1), (5, 8), (13, 1), (14, 1)]), (93, [(0, 1), (1, 5)]), (109, [(0, 1), (1, 5), (6, 1)]), (132, [(0, 1), (1, 5), (6, 1)]), (139, [(0, 1), (1, 1), (2, 2)]), (144, [(0, 5), (5, 1), (6, 1)]), (150, [(0, 1), (1, 1), (2, 2), (4, 1), (5, 8), (13, 1), (14, 1)]), (160, [(0, 1), (1, 1), (2, 1)]), (209, [(0, 1), (1, 1)]), (212, [(0, 1), (1, 1)])]
  byt := [(2, 8), (3, 8), (4, 1), (5, 1), (9, 16), (24, 64), (27, 112), (33, 64), (36, 112), (38, 24), (40, 32), (67, 24), (80, 1), (84, 32), (93, 72), (109, 88), (132, 88), (209, 24), (212, 24)]
  fns := [(2, true), (3, true), (4, true), (5, true), (6, true), (7, true), (8, true), (9, true), (10, true), (11, true), (12, true), (13, true), (14, true), (15, true), (16, true), (17, true), (18, true), (19, true), (20, true), (21, true), (22, true), (23, true), (24, true), (25, true), (26, true), (27, true), (28, true), (29, true), (30, true), (31, true), (32, true), (33, true), (34, true), (35, true), (36, true), (37, true), (38, true), (39, true), (40, true), (41, true), (42, true), (43, true), (44, true), (45, true), (46, true), (47, true), (48, true), (49, true), (50, true), (51, true), (52, true), (53, true), (54, true), (55, true), (56, true), (57, true), (58, true), (59, true), (60, true), (61, true), (62, true), (63, true), (64, true), (65, true), (66, true), (67, true), (68, true), (69, true), (70, true), (71, true), (72, true), (73, true), (74, true), (75, true), (76, true), (77, true), (78, true), (79, true), (80, true), (81, true), (82, true), (83, true), (84, true), (85, true), (86, true), (87, true), (88, true), (89, true), (90, true), (91, true), (92, true), (93, true), (94, true), (95, true), (96, true), (97, true), (98, true), (99, true), (100, true), (101, true), (102, true), (103, true), (104, true), (105, true), (106, true), (107, true), (108, true), (109, true), (110, true), (111, true), (112, true), (113, true), (114, true), (115, true), (116, true), (117, true), (118, true), (119, true), (120, true), (121, true), (122, true), (123, true), (124, true), (125, true), (126, true), (127, true), (128, true), (129, true), (130, true), (131, true), (132, true), (133, true), (134, true), (135, true), (136, true), (137, true), (138, true), (139, true), (140, true), (141, true), (142, true), (143, true), (144, true), (145, true), (146, true), (147, true), (148, true), (150, true)]
theorem ti_lay : ∀ p ∈ ti.lay, Tl.lay Try.prog p.1 = some p.2 := List.map_inj_left.1 (by kernel_rfl)
theorem ti_fld : ∀ p ∈ ti.fld, (List.range p.2.length).map (Tl.fld Try.prog p.1) = p.2.map some := List.map_inj_left.1 (by kernel_rfl)
theorem ti_elm : ∀ p ∈ ti.elm, Tl.elm Try.prog p.1 = some p.2 := List.map_inj_left.1 (by kernel_rfl)
theorem ti_srt : ∀ p ∈ ti.srt, sort0 Try.prog p.1 = p.2 := List.map_inj_left.1 (by kernel_rfl)
theorem ti_zr : ∀ p ∈ ti.zr, Tl.zr Try.prog p.1 = some p.2 := List.map_inj_left.1 (by kernel_rfl)
theorem ti_plc : ∀ p ∈ ti.plc, plcs Try.prog p.1 = some p.2 := List.map_inj_left.1 (by kernel_rfl)
theorem ti_byt : ∀ p ∈ ti.byt, Tl.byt Try.prog p.1 = some p.2 := List.map_inj_left.1 (by kernel_rfl)
theorem ti_fns : ∀ p ∈ ti.fns, callable Try.prog p.1 = p.2 := List.map_inj_left.1 (by kernel_rfl)
theorem good : ti.Good Try.prog where
  lay h := ti_lay _ (gt_mem h)
  fld {s f r} h := by
    unfold TI.fl at h
    split at h
    · rename_i l hl
      have h1 := ti_fld _ (gt_mem hl)
      simp only at h1
      have h2 : f < l.length := (List.getElem?_eq_some_iff.1 h).1
      have h3 := congrArg (fun z => z[f]?) h1
      simp only [List.getElem?_map, List.getElem?_range h2, Option.map_some, h] at h3
      injection h3
    · cases h
  elm h := ti_elm _ (gt_mem h)
  srt h := ti_srt _ (gt_mem h)
  zr h := ti_zr _ (gt_mem h)
  plc h := ti_plc _ (gt_mem h)
  byt h := ti_byt _ (gt_mem h)
  fns h := ti_fns _ (gt_mem h)
  wide := by kernel_rfl
end Go.Proofs.Ytbcjcekoonebiaa.Tl
