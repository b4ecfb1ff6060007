/- What each function of the program answers upon plain values, and that it does (part 1). No condition. -/
import Derived.Test.YtliiapjinminlaaGreatProg
import Derived.Test.YtliiapjinminlaaGreatE4
import Derived.KernelRfl
import Derived.Deep.Draws
import Derived.Tactics
import Derived.Tactics2
import Derived.WalkKit
import Derived.RowKit3
import Derived.Deep.QuietTactic
import Derived.WideLaws
import Derived.Laws.BitsLemmas
import Derived.OrdersHeld
import Derived.OwnWalk
import Derived.BigQuiet
import Derived.Laws.CopyRow
import Derived.Laws.CopyOwn
import Derived.Laws.MakeOwn
import Derived.Deep.RegionLaw
import Derived.LoopN
import Derived.Deep.DeepFit
namespace Go.Proofs.YtliiapjinminlaaGreat.Rf
open Go Go.Proofs Go.Proofs.YtliiapjinminlaaGreat
set_option linter.unusedVariables false
set_option linter.unusedSimpArgs false
set_option maxRecDepth 100000
noncomputable section
abbrev T7 : Ty := (.pair (.int .i64) (.pair (.int .i64) (.pair .bool (.int .u8))))
abbrev T29 : Ty := (.pair (.int .i64) (.pair .bool (.pair (.int .u64) (.int .i64))))
abbrev T31 : Ty := (.pair .bool (.pair T29 T29))
abbrev T33 : Ty := (.pair (.int .i64) (.pair T29 (.pair T31 (.pair T31 T31))))
abbrev T22 : Ty := (.list T33)
abbrev T35 : Ty := (.list (.int .u8))
abbrev T77 : Ty := (.pair T29 (.pair T31 T31))
abbrev T44 : Ty := (.list T77)
abbrev T45 : Ty := (.pair T29 (.pair T31 T44))
abbrev T57 : Ty := (.list T31)
abbrev T58 : Ty := (.pair T45 T57)
abbrev T69 : Ty := (.pair T35 .bool)
abbrev T111 : Ty := (.pair T29 T31)
abbrev T135 : Ty := (.list T29)
abbrev T154 : Ty := (.list (.int .u32))
abbrev T165 : Ty := (.pair (.int .u64) (.pair (.int .u64) .bool))
noncomputable def bytes0 : ByteArray := ⟨#[0, 1, 2, 2, 3, 3, 3, 3, 4, 4, 4, 4, 4, 4, 4, 4, 5, 5, 5, 5, 5, 5, 5, 5, 5, 5, 5, 5, 5, 5, 5, 5, 6, 6, 6, 6, 6, 6, 6, 6, 6, 6, 6, 6, 6, 6, 6, 6, 6, 6, 6, 6, 6, 6, 6, 6, 6, 6, 6, 6, 6, 6, 6, 6, 7, 7, 7, 7, 7, 7, 7, 7, 7, 7, 7, 7, 7, 7, 7, 7, 7, 7, 7, 7, 7, 7, 7, 7, 7, 7, 7, 7, 7, 7, 7, 7, 7, 7, 7, 7, 7, 7, 7, 7, 7, 7, 7, 7, 7, 7, 7, 7, 7, 7, 7, 7, 7, 7, 7, 7, 7, 7, 7, 7, 7, 7, 7, 7, 8, 8, 8, 8, 8, 8, 8, 8, 8, 8, 8, 8, 8, 8, 8, 8, 8, 8, 8, 8, 8, 8, 8, 8, 8, 8, 8, 8, 8, 8, 8, 8, 8, 8, 8, 8, 8, 8, 8, 8, 8, 8, 8, 8, 8, 8, 8, 8, 8, 8, 8, 8, 8, 8, 8, 8, 8, 8, 8, 8, 8, 8, 8, 8, 8, 8, 8, 8, 8, 8, 8, 8, 8, 8, 8, 8, 8, 8, 8, 8, 8, 8, 8, 8, 8, 8, 8, 8, 8, 8, 8, 8, 8, 8, 8, 8, 8, 8, 8, 8, 8, 8, 8, 8, 8, 8, 8, 8, 8, 8, 8, 8, 8, 8, 8, 8, 8, 8, 8, 8, 8, 8, 8, 8, 8, 8, 8, 8]⟩
def tabs : Tables where
 ty := [(2, (.int .i64)), (3, (.int .i64)), (4, .bool), (5, (.int .u8)), (6, (.int .u8)), (7, T7), (8, T7), (12, (.int .u64)), (21, (.int .i32)), (22, T22), (26, (.int .i64)), (28, (.int .u64)), (29, T29), (30, T29), (31, T31), (32, T31), (33, T33), (34, T33), (35, T35), (44, T44), (45, T45), (46, T45), (57, T57), (58, T58), (59, T58), (69, T69), (70, T69), (77, T77), (78, T77), (111, T111), (112, T111), (122, (.int .u64)), (135, T135), (154, T154), (161, (.int .u32)), (165, T165), (166, T165), (192, (.int .u8)), (193, (.int .u8)), (196, (.int .i32)), (197, (.int .i32))]
 lay := [(131, 1, false, Value.pointer none), (132, 1, false, Value.pointer none), (139, 1, false, Value.nilFunc)]
 el := [(22, 34, 256), (35, 5, 1), (44, 78, 176), (57, 32, 72), (135, 30, 32), (154, 161, 4)]
 eq := [7, 8, 29, 30, 31, 32, 33, 34, 77, 78, 111, 112, 165, 166]
 str := [9, 10, 11]
 pt := [24]
 fld := [(7, [(0, 0, 2), (1, 1, 3), (2, 2, 4), (3, 3, 6)]), (8, [(0, 0, 2), (1, 1, 3), (2, 2, 4), (3, 3, 6)]), (29, [(0, 0, 3), (1, 1, 4), (2, 2, 28), (3, 3, 3)]), (30, [(0, 0, 3), (1, 1, 4), (2, 2, 28), (3, 3, 3)]), (31, [(0, 0, 4), (1, 1, 30), (2, 5, 30)]), (32, [(0, 0, 4), (1, 1, 30), (2, 5, 30)]), (33, [(0, 0, 3), (1, 1, 30), (2, 5, 32), (3, 14, 32), (4, 23, 32)]), (34, [(0, 0, 3), (1, 1, 30), (2, 5, 32), (3, 14, 32), (4, 23, 32)]), (45, [(0, 0, 30), (1, 4, 32), (2, 13, 44)]), (46, [(0, 0, 30), (1, 4, 32), (2, 13, 44)]), (58, [(0, 0, 46), (1, 14, 57)]), (59, [(0, 0, 46), (1, 14, 57)]), (62, [(0, 0, 60), (1, 30, 4), (2, 31, 22), (3, 32, 22)]), (65, [(0, 0, 35)]), (69, [(0, 0, 35), (1, 1, 4)]), (70, [(0, 0, 35), (1, 1, 4)]), (72, [(0, 0, 70)]), (77, [(0, 0, 30), (1, 4, 32), (2, 13, 32)]), (78, [(0, 0, 30), (1, 4, 32), (2, 13, 32)]), (111, [(0, 0, 30), (1, 4, 32)]), (112, [(0, 0, 30), (1, 4, 32)]), (134, [(0, 0, 132), (1, 1, 132), (2, 2, 132), (3, 3, 32), (4, 12, 32)]), (165, [(0, 0, 28), (1, 1, 28), (2, 2, 4)]), (166, [(0, 0, 28), (1, 1, 28), (2, 2, 4)])]
 arr := [(60, 2, 59), (117, 5, 32)]
 one := [65]
 st := [(60, (.pr (.plain T58) (.plain T58))), (62, (.pr (.pr (.plain T58) (.plain T58)) (.pr (.plain .bool) (.pr (.plain T22) (.plain T22))))), (72, (.pr (.plain T35) (.plain .bool))), (117, (.pr (.plain T31) (.pr (.plain T31) (.pr (.plain T31) (.pr (.plain T31) (.plain T31)))))), (134, (.pr (.cst (Value.pointer none)) (.pr (.cst (Value.pointer none)) (.pr (.cst (Value.pointer none)) (.pr (.plain T31) (.plain T31))))))]
noncomputable def fnL : List (Nat × Func) := [(5, Tryz.f5), (35, Tryz.f35), (39, Tryz.f39), (54, Tryz.f54), (83, Tryz.f83), (84, Tryz.f84), (85, Tryz.f85), (58, Tryz.f58), (51, Tryz.f51), (38, Tryz.f38), (21, Tryz.f21), (65, Tryz.f65), (40, Tryz.f40), (41, Tryz.f41), (67, Tryz.f67), (57, Tryz.f57), (31, Tryz.f31), (59, Tryz.f59), (87, Tryz.f87), (70, Tryz.f70), (44, Tryz.f44), (22, Tryz.f22), (62, Tryz.f62), (63, Tryz.f63), (34, Tryz.f34), (94, Tryz.f94), (95, Tryz.f95), (96, Tryz.f96), (74, Tryz.f74), (61, Tryz.f61), (33, Tryz.f33), (64, Tryz.f64), (104, Tryz.f104), (88, Tryz.f88), (71, Tryz.f71), (46, Tryz.f46), (109, Tryz.f109), (113, Tryz.f113), (142, Tryz.f142), (143, Tryz.f143), (128, Tryz.f128), (115, Tryz.f115), (131, Tryz.f131), (121, Tryz.f121), (68, Tryz.f68), (37, Tryz.f37), (122, Tryz.f122), (110, Tryz.f110), (92, Tryz.f92), (93, Tryz.f93), (73, Tryz.f73), (105, Tryz.f105), (90, Tryz.f90), (91, Tryz.f91), (72, Tryz.f72), (47, Tryz.f47), (75, Tryz.f75), (98, Tryz.f98), (114, Tryz.f114), (99, Tryz.f99), (78, Tryz.f78), (111, Tryz.f111), (123, Tryz.f123), (134, Tryz.f134), (141, Tryz.f141), (125, Tryz.f125), (144, Tryz.f144), (135, Tryz.f135), (137, Tryz.f137), (139, Tryz.f139), (151, Tryz.f151), (145, Tryz.f145), (146, Tryz.f146), (147, Tryz.f147), (152, Tryz.f152), (148, Tryz.f148), (150, Tryz.f150), (149, Tryz.f149), (136, Tryz.f136), (138, Tryz.f138), (140, Tryz.f140), (124, Tryz.f124), (126, Tryz.f126), (127, Tryz.f127), (112, Tryz.f112), (97, Tryz.f97), (76, Tryz.f76), (77, Tryz.f77), (79, Tryz.f79), (100, Tryz.f100), (80, Tryz.f80), (116, Tryz.f116), (101, Tryz.f101), (129, Tryz.f129), (117, Tryz.f117), (102, Tryz.f102), (103, Tryz.f103), (81, Tryz.f81), (48, Tryz.f48), (49, Tryz.f49), (82, Tryz.f82), (50, Tryz.f50), (23, Tryz.f23), (6, Tryz.f6), (27, Tryz.f27), (8, Tryz.f8), (20, Tryz.f20), (18, Tryz.f18), (36, Tryz.f36), (19, Tryz.f19), (4, Tryz.f4), (24, Tryz.f24), (52, Tryz.f52), (53, Tryz.f53), (25, Tryz.f25), (26, Tryz.f26), (7, Tryz.f7), (29, Tryz.f29), (30, Tryz.f30), (9, Tryz.f9), (10, Tryz.f10), (11, Tryz.f11), (32, Tryz.f32), (12, Tryz.f12), (13, Tryz.f13), (14, Tryz.f14), (15, Tryz.f15), (16, Tryz.f16), (17, Tryz.f17), (3, Tryz.f3), (28, Tryz.f28), (42, Tryz.f42), (45, Tryz.f45), (55, Tryz.f55), (56, Tryz.f56), (60, Tryz.f60), (66, Tryz.f66), (69, Tryz.f69), (86, Tryz.f86), (89, Tryz.f89), (106, Tryz.f106), (43, Tryz.f43), (107, Tryz.f107), (108, Tryz.f108), (118, Tryz.f118), (119, Tryz.f119), (120, Tryz.f120), (130, Tryz.f130)]
theorem fnL.ok : FnsOK Tryz.prog fnL := ⟨⟨Tryz.func5, by kernel_rfl⟩, ⟨Tryz.func35, by kernel_rfl⟩, ⟨Tryz.func39, by kernel_rfl⟩, ⟨Tryz.func54, by kernel_rfl⟩, ⟨Tryz.func83, by kernel_rfl⟩, ⟨Tryz.func84, by kernel_rfl⟩, ⟨Tryz.func85, by kernel_rfl⟩, ⟨Tryz.func58, by kernel_rfl⟩, ⟨Tryz.func51, by kernel_rfl⟩, ⟨Tryz.func38, by kernel_rfl⟩, ⟨Tryz.func21, by kernel_rfl⟩, ⟨Tryz.func65, by kernel_rfl⟩, ⟨Tryz.func40, by kernel_rfl⟩, ⟨Tryz.func41, by kernel_rfl⟩, ⟨Tryz.func67, by kernel_rfl⟩, ⟨Tryz.func57, by kernel_rfl⟩, ⟨Tryz.func31, by kernel_rfl⟩, ⟨Tryz.func59, by kernel_rfl⟩, ⟨Tryz.func87, by kernel_rfl⟩, ⟨Tryz.func70, by kernel_rfl⟩, ⟨Tryz.func44, by kernel_rfl⟩, ⟨Tryz.func22, by kernel_rfl⟩, ⟨Tryz.func62, by kernel_rfl⟩, ⟨Tryz.func63, by kernel_rfl⟩, ⟨Tryz.func34, by kernel_rfl⟩, ⟨Tryz.func94, by kernel_rfl⟩, ⟨Tryz.func95, by kernel_rfl⟩, ⟨Tryz.func96, by kernel_rfl⟩, ⟨Tryz.func74, by kernel_rfl⟩, ⟨Tryz.func61, by kernel_rfl⟩, ⟨Tryz.func33, by kernel_rfl⟩, ⟨Tryz.func64, by kernel_rfl⟩, ⟨Tryz.func104, by kernel_rfl⟩, ⟨Tryz.func88, by kernel_rfl⟩, ⟨Tryz.func71, by kernel_rfl⟩, ⟨Tryz.func46, by kernel_rfl⟩, ⟨Tryz.func109, by kernel_rfl⟩, ⟨Tryz.func113, by kernel_rfl⟩, ⟨Tryz.func142, by kernel_rfl⟩, ⟨Tryz.func143, by kernel_rfl⟩, ⟨Tryz.func128, by kernel_rfl⟩, ⟨Tryz.func115, by kernel_rfl⟩, ⟨Tryz.func131, by kernel_rfl⟩, ⟨Tryz.func121, by kernel_rfl⟩, ⟨Tryz.func68, by kernel_rfl⟩, ⟨Tryz.func37, by kernel_rfl⟩, ⟨Tryz.func122, by kernel_rfl⟩, ⟨Tryz.func110, by kernel_rfl⟩, ⟨Tryz.func92, by kernel_rfl⟩, ⟨Tryz.func93, by kernel_rfl⟩, ⟨Tryz.func73, by kernel_rfl⟩, ⟨Tryz.func105, by kernel_rfl⟩, ⟨Tryz.func90, by kernel_rfl⟩, ⟨Tryz.func91, by kernel_rfl⟩, ⟨Tryz.func72, by kernel_rfl⟩, ⟨Tryz.func47, by kernel_rfl⟩, ⟨Tryz.func75, by kernel_rfl⟩, ⟨Tryz.func98, by kernel_rfl⟩, ⟨Tryz.func114, by kernel_rfl⟩, ⟨Tryz.func99, by kernel_rfl⟩, ⟨Tryz.func78, by kernel_rfl⟩, ⟨Tryz.func111, by kernel_rfl⟩, ⟨Tryz.func123, by kernel_rfl⟩, ⟨Tryz.func134, by kernel_rfl⟩, ⟨Tryz.func141, by kernel_rfl⟩, ⟨Tryz.func125, by kernel_rfl⟩, ⟨Tryz.func144, by kernel_rfl⟩, ⟨Tryz.func135, by kernel_rfl⟩, ⟨Tryz.func137, by kernel_rfl⟩, ⟨Tryz.func139, by kernel_rfl⟩, ⟨Tryz.func151, by kernel_rfl⟩, ⟨Tryz.func145, by kernel_rfl⟩, ⟨Tryz.func146, by kernel_rfl⟩, ⟨Tryz.func147, by kernel_rfl⟩, ⟨Tryz.func152, by kernel_rfl⟩, ⟨Tryz.func148, by kernel_rfl⟩, ⟨Tryz.func150, by kernel_rfl⟩, ⟨Tryz.func149, by kernel_rfl⟩, ⟨Tryz.func136, by kernel_rfl⟩, ⟨Tryz.func138, by kernel_rfl⟩, ⟨Tryz.func140, by kernel_rfl⟩, ⟨Tryz.func124, by kernel_rfl⟩, ⟨Tryz.func126, by kernel_rfl⟩, ⟨Tryz.func127, by kernel_rfl⟩, ⟨Tryz.func112, by kernel_rfl⟩, ⟨Tryz.func97, by kernel_rfl⟩, ⟨Tryz.func76, by kernel_rfl⟩, ⟨Tryz.func77, by kernel_rfl⟩, ⟨Tryz.func79, by kernel_rfl⟩, ⟨Tryz.func100, by kernel_rfl⟩, ⟨Tryz.func80, by kernel_rfl⟩, ⟨Tryz.func116, by kernel_rfl⟩, ⟨Tryz.func101, by kernel_rfl⟩, ⟨Tryz.func129, by kernel_rfl⟩, ⟨Tryz.func117, by kernel_rfl⟩, ⟨Tryz.func102, by kernel_rfl⟩, ⟨Tryz.func103, by kernel_rfl⟩, ⟨Tryz.func81, by kernel_rfl⟩, ⟨Tryz.func48, by kernel_rfl⟩, ⟨Tryz.func49, by kernel_rfl⟩, ⟨Tryz.func82, by kernel_rfl⟩, ⟨Tryz.func50, by kernel_rfl⟩, ⟨Tryz.func23, by kernel_rfl⟩, ⟨Tryz.func6, by kernel_rfl⟩, ⟨Tryz.func27, by kernel_rfl⟩, ⟨Tryz.func8, by kernel_rfl⟩, ⟨Tryz.func20, by kernel_rfl⟩, ⟨Tryz.func18, by kernel_rfl⟩, ⟨Tryz.func36, by kernel_rfl⟩, ⟨Tryz.func19, by kernel_rfl⟩, ⟨Tryz.func4, by kernel_rfl⟩, ⟨Tryz.func24, by kernel_rfl⟩, ⟨Tryz.func52, by kernel_rfl⟩, ⟨Tryz.func53, by kernel_rfl⟩, ⟨Tryz.func25, by kernel_rfl⟩, ⟨Tryz.func26, by kernel_rfl⟩, ⟨Tryz.func7, by kernel_rfl⟩, ⟨Tryz.func29, by kernel_rfl⟩, ⟨Tryz.func30, by kernel_rfl⟩, ⟨Tryz.func9, by kernel_rfl⟩, ⟨Tryz.func10, by kernel_rfl⟩, ⟨Tryz.func11, by kernel_rfl⟩, ⟨Tryz.func32, by kernel_rfl⟩, ⟨Tryz.func12, by kernel_rfl⟩, ⟨Tryz.func13, by kernel_rfl⟩, ⟨Tryz.func14, by kernel_rfl⟩, ⟨Tryz.func15, by kernel_rfl⟩, ⟨Tryz.func16, by kernel_rfl⟩, ⟨Tryz.func17, by kernel_rfl⟩, ⟨Tryz.func3, by kernel_rfl⟩, ⟨Tryz.func28, by kernel_rfl⟩, ⟨Tryz.func42, by kernel_rfl⟩, ⟨Tryz.func45, by kernel_rfl⟩, ⟨Tryz.func55, by kernel_rfl⟩, ⟨Tryz.func56, by kernel_rfl⟩, ⟨Tryz.func60, by kernel_rfl⟩, ⟨Tryz.func66, by kernel_rfl⟩, ⟨Tryz.func69, by kernel_rfl⟩, ⟨Tryz.func86, by kernel_rfl⟩, ⟨Tryz.func89, by kernel_rfl⟩, ⟨Tryz.func106, by kernel_rfl⟩, ⟨Tryz.func43, by kernel_rfl⟩, ⟨Tryz.func107, by kernel_rfl⟩, ⟨Tryz.func108, by kernel_rfl⟩, ⟨Tryz.func118, by kernel_rfl⟩, ⟨Tryz.func119, by kernel_rfl⟩, ⟨Tryz.func120, by kernel_rfl⟩, ⟨Tryz.func130, by kernel_rfl⟩, trivial⟩
def clL : List (Nat × TypeId) := [(59, 44), (141, 154), (103, 57), (27, 22)]
theorem clL.ok : ClsOK Tryz.prog clL := ⟨clone_ok (tb := 4) Tryz.func59 (by kernel_rfl) (by kernel_rfl) (by kernel_rfl) (by kernel_rfl), clone_ok (tb := 4) Tryz.func141 (by kernel_rfl) (by kernel_rfl) (by kernel_rfl) (by kernel_rfl), clone_ok (tb := 4) Tryz.func103 (by kernel_rfl) (by kernel_rfl) (by kernel_rfl) (by kernel_rfl), clone_ok (tb := 4) Tryz.func27 (by kernel_rfl) (by kernel_rfl) (by kernel_rfl) (by kernel_rfl), trivial⟩
abbrev G0 : World -> Prop := fun _ => True
def xtL : List (Nat × Spec) := [(132, ⟨[(.int .u64), (.int .u64), (.int .u64)], [(.int .u64), (.int .u64)], add64F⟩), (133, ⟨[(.int .u64), (.int .u64), (.int .u64)], [(.int .u64), (.int .u64)], sub64F⟩)]
theorem xtL.ok : XtsOK Tryz.prog xtL := ⟨add64_ok Tryz.func132 (by kernel_rfl) (by kernel_rfl) (by kernel_rfl) (by kernel_rfl), sub64_ok Tryz.func133 (by kernel_rfl) (by kernel_rfl) (by kernel_rfl) (by kernel_rfl), trivial⟩
section
open Go.RowKit
theorem run_copy_wide {P : Program} (w : World) (dT sT ty elem : TypeId) (sz g o dLen dCap : Nat) (a : Addr) (sLen sCap n : Nat) (cur : Array Value) (t : TypeId) (cs : List Value)
  (hu : P.underlying dT = some (.slice elem)) (hs : (P.info? elem).map (·.size) = some sz)
  (hg : w.heap[g]? = some (.cells cur t (0, 0))) (hm : Nat.min sLen dLen = n) (hn : cs.length = n * sz)
  (hsrc : ∀ j v, cs[j]? = some v -> w.cell? (a.add j) = some v) (hfit : o + cs.length <= cur.size) (h1 : ∀ v ∈ cs, v.oneCell' = true) :
  (Builtin.copy_ #[dT, sT] ty #[.slice (some ⟨g, o, none⟩) dLen dCap, .slice (some a) sLen sCap]).run P w =
   .ok (goInt n) (w.setRow g (cur.toList.take o ++ cs ++ cur.toList.drop (o + cs.length)).toArray) := by
 have hl := run_loadCells_list (P := P) w a cs hsrc
 have hst := run_storeCells_at P g o t cs 0 cur w hg (by simpa using hfit) h1
 cases hq : P.info? elem with
 | none => simp [hq] at hs
 | some i =>
  have hi : i.size = sz := by simpa [hq] using hs
  rw [hn] at hl
  simp [Builtin.copy_, run_underlying hu, Builtin.lenOf, Builtin.firstCells, sizeOf, typeInfo, hq, hi, hm, hl, hst]
def rowR (cs Z : List Value) (n : Nat) : List Value := (List.replicate n cs).flatten ++ Z.drop (n * cs.length)
theorem flat_len (cs : List Value) (n : Nat) : (List.replicate n cs).flatten.length = n * cs.length := by simp
theorem rowR_len (cs Z : List Value) (n : Nat) (h : n * cs.length <= Z.length) : (rowR cs Z n).length = Z.length := by
 simp [rowR]; omega
theorem rowR_more (cs Z : List Value) (n m : Nat) : (rowR cs Z n).take (n * cs.length) ++ (List.replicate m cs).flatten ++ (rowR cs Z n).drop (n * cs.length + (List.replicate m cs).flatten.length) = rowR cs Z (n + m) := by
 unfold rowR
 rw [List.take_append_of_le_length (by simp), List.take_of_length_le (by simp), List.drop_append, List.drop_of_length_le (by simp), List.drop_drop, List.nil_append]
 simp only [flat_len]
 rw [show n * cs.length + (n * cs.length + m * cs.length - n * cs.length) = (n + m) * cs.length by rw [Nat.add_mul]; omega, <- List.replicate_append_replicate, List.flatten_append]
theorem wpList_copyR {P : Program} {w : World} {ops : Array Oper} {rest : List Oper} {o : Oper} {a : Act} {Q : Exit -> Act -> World -> Prop} (hgd : o.guard = none) (d s : Operand) (dT sT : TypeId)
  (ho : o.op = .call { callee := .builtin .copy, args := #[d, s], argTypes := #[dT, sT] }) (elem : TypeId) (hu : P.underlying dT = some (.slice elem)) (cs Z : List Value) (hsz : (P.info? elem).map (·.size) = some cs.length)
  (dLen dCap sLen sCap n m off g : Nat) (ad : Addr) (hoff : off = n * cs.length) (hd : a.eval d = .slice (some ⟨g, off, none⟩) dLen dCap) (hs : a.eval s = .slice (some ad) sLen sCap)
  (t : TypeId) (hg : w.heap[g]? = some (.cells (rowR cs Z n).toArray t (0, 0))) (hm : Nat.min sLen dLen = m)
  (hsrc : ∀ j v, (List.replicate m cs).flatten[j]? = some v -> w.cell? (ad.add j) = some v)
  (hfit : (n + m) * cs.length <= Z.length) (h1 : ∀ v ∈ cs, v.oneCell' = true) (B : Nat) (w0 : World) (hb : Below B w0 w) (hBg : B <= g)
  (h : ∀ w', Hid (w'.heap[g]? = some (.cells (rowR cs Z (n + m)).toArray t (0, 0))) -> Below B w0 w' -> wpList P ops Q rest (a.put o.dst (goInt m)) w') :
  wpList P ops Q (o :: rest) a w := by
 subst hoff
 rw [Nat.add_mul] at hfit
 have hrun := run_copy_wide (P := P) w dT sT o.type elem cs.length g (n * cs.length) dLen dCap ad sLen sCap m (rowR cs Z n).toArray t (List.replicate m cs).flatten hu hsz hg hm (flat_len _ _) hsrc
  (by rw [flat_len]; show _ <= (rowR cs Z n).length; rw [rowR_len _ _ _ (by omega)]; exact hfit) (fun v hv => by
   obtain ⟨l, hl, hv⟩ := List.mem_flatten.1 hv
   rw [(List.mem_replicate.1 hl).2] at hv
   exact h1 v hv)
 rw [show (rowR cs Z n).toArray.toList = rowR cs Z n from rfl, rowR_more] at hrun
 refine wpList_plain hgd fun K hK => ?_
 unfold Oper.wp
 simp [execOp, ho, resolve, invoke, builtin, hd, hs, hrun, Result.andThen]
 exact hK _ _ (h _ (show _ = _ by simpa using setRow_heap w g _ _ t _ hg) (below_setRow hb hBg _))
theorem step_copyR {P : Program} {ops : Array Oper} {o : Oper} {a : Act} {w : World} {K : Act -> World -> Prop} {Q : Exit -> Act -> World -> Prop} {E : Prop} (hgd : o.guard = none) (d s : Operand) (dT sT : TypeId)
  (ho : o.op = .call { callee := .builtin .copy, args := #[d, s], argTypes := #[dT, sT] }) (elem : TypeId) (hu : P.underlying dT = some (.slice elem)) (cs Z : List Value) (hsz : (P.info? elem).map (·.size) = some cs.length)
  (dLen dCap sLen sCap n m off g : Nat) (ad : Addr) (hoff : off = n * cs.length) (hd : a.eval d = .slice (some ⟨g, off, none⟩) dLen dCap) (hs : a.eval s = .slice (some ad) sLen sCap)
  (t : TypeId) (hg : w.heap[g]? = some (.cells (rowR cs Z n).toArray t (0, 0))) (hm : Nat.min sLen dLen = m)
  (hsrc : ∀ j v, (List.replicate m cs).flatten[j]? = some v -> w.cell? (ad.add j) = some v)
  (hfit : (n + m) * cs.length <= Z.length) (h1 : ∀ v ∈ cs, v.oneCell' = true) (B : Nat) (w0 : World) (hb : Below B w0 w) (hBg : B <= g)
  (h : ∀ w', Hid (w'.heap[g]? = some (.cells (rowR cs Z (n + m)).toArray t (0, 0))) -> Below B w0 w' -> K (a.put o.dst (goInt m)) w') :
  if Region.wanted o (yielded ops a.tmps) = true then Oper.wp P o a w K Q else E := by
 subst hoff
 rw [Nat.add_mul] at hfit
 have hrun := run_copy_wide (P := P) w dT sT o.type elem cs.length g (n * cs.length) dLen dCap ad sLen sCap m (rowR cs Z n).toArray t (List.replicate m cs).flatten hu hsz hg hm (flat_len _ _) hsrc
  (by rw [flat_len]; show _ <= (rowR cs Z n).length; rw [rowR_len _ _ _ (by omega)]; exact hfit) (fun v hv => by
   obtain ⟨l, hl, hv⟩ := List.mem_flatten.1 hv
   rw [(List.mem_replicate.1 hl).2] at hv
   exact h1 v hv)
 rw [show (rowR cs Z n).toArray.toList = rowR cs Z n from rfl, rowR_more] at hrun
 have hw : Region.wanted o (yielded ops a.tmps) = true := by simp [Region.wanted, hgd]
 rw [if_pos hw]
 unfold Oper.wp
 simp [execOp, ho, resolve, invoke, builtin, hd, hs, hrun, Result.andThen]
 exact h _ (show _ = _ by simpa using setRow_heap w g _ _ t _ hg) (below_setRow hb hBg _)
structure DrwR (w w' : World) : Prop where mk :: (out : ∃ n, w' = w.drewN n)
theorem DrwR.refl (w : World) : DrwR w w := ⟨⟨0, rfl⟩⟩
theorem DrwR.step {w w' : World} (h : DrwR w w') (n : Nat) : DrwR w (w'.drewN n) := by
 obtain ⟨m, rfl⟩ := h
 exact ⟨⟨m + n, World.drewN_drewN ..⟩⟩
theorem DrwR.below {w w' : World} (h : DrwR w w') : Below w.heap.size w w' := by
 obtain ⟨n, rfl⟩ := h
 induction n with
 | zero => exact Below.refl _ _
 | succ n ih => rw [<- World.drew_drewN]; exact ih.drew
theorem mul_15 (w : World) : Calls Tryz.prog 117 #[.int .u64 1, .int .u64 5] w fun e w' => e = .returned (.tuple #[.int .u64 0, .int .u64 5]) /\ DrwR w w' := by
 go_enter Tryz.func117, Tryz.ntmps117
 go_wp2
 go_ret2
 exact ⟨rfl, by repeat (first | exact DrwR.refl _ | apply DrwR.step)⟩
theorem rowR_cell {cs Z : List Value} {n m g : Nat} {t : TypeId} {W : World} (hg : W.heap[g]? = some (.cells (rowR cs Z n).toArray t (0, 0))) (hm : m <= n) {j : Nat} {v : Value} (hj : (List.replicate m cs).flatten[j]? = some v) : W.cell? ((⟨g, 0, none⟩ : Addr).add j) = some v := by
 have e : (⟨g, 0, none⟩ : Addr).add j = ⟨g, j, none⟩ := by unfold Addr.add; split <;> simp_all
 rw [e]
 have hlt : j < (List.replicate m cs).flatten.length := (List.getElem?_eq_some_iff.1 hj).1
 have : (rowR cs Z n)[j]? = some v := by
  unfold rowR
  obtain ⟨d, rfl⟩ := Nat.exists_eq_add_of_le hm
  rw [<- List.replicate_append_replicate, List.flatten_append, List.append_assoc, List.getElem?_append_left hlt]
  exact hj
 simp only [World.cell?, hg]
 simpa using this
theorem rep_info : ∃ i z, Tryz.prog.info? 32 = some i /\ i.zero = some z /\ i.size = 9 /\ i.bytes <= 1000 := by
 have h : ((Tryz.prog.info? 32).bind fun i => i.zero.bind fun z => bif Nat.beq i.size 9 && Nat.ble i.bytes 1000 then some () else none) = some () := by kernel_rfl
 cases hi : Tryz.prog.info? 32 with
 | none => rw [hi] at h; cases h
 | some i =>
  rw [hi] at h
  cases hz : i.zero with
  | none => rw [Option.bind_some, hz] at h; cases h
  | some z =>
   rw [Option.bind_some, hz, Option.bind_some] at h
   cases hb : Nat.beq i.size 9 && Nat.ble i.bytes 1000 with
   | false => rw [hb] at h; cases h
   | true =>
    rw [Bool.and_eq_true] at hb
    exact ⟨i, z, rfl, hz, Nat.eq_of_beq_eq_true hb.1, Nat.le_of_ble_eq_true hb.2⟩
set_option maxHeartbeats 4000000 in
theorem rep_calls (w : World) (a : Addr) (c : Nat) (cs : List Value) (hl : cs.length = 9) (hc : ∀ j v, cs[j]? = some v -> w.cell? (a.add j) = some v) (h1 : ∀ v ∈ cs, v.oneCell' = true) :
  Calls Tryz.prog 102 #[.slice (some a) 1 c, .int .i64 5] w fun e w' => ∃ g Z, w.heap.size <= g /\ e = .returned (.slice (some ⟨g, 0, none⟩) 5 5) /\ w'.heap[g]? = some (.cells (rowR cs Z 5).toArray 32 (0, 0)) /\ Z.length = 45 /\ Below w.heap.size w w' := by
 obtain ⟨i, z, hi, hz, hs, hb⟩ := rep_info
 have hu : Tryz.prog.underlying 57 = some (.slice 32) := by kernel_rfl
 obtain ⟨Z, hZ, hmk⟩ : ∃ Z : List Value, Z.length = 45 /\ ∀ W : World, (Instr.makeSlice 57 (.int .i64 5) (.int .i64 5)).run Tryz.prog W = .ok (.slice (some ⟨W.heap.size, 0, none⟩) 5 5) (W.alloc (.cells Z.toArray 32)) := by
  refine ⟨(madeCells z.cells 45).toList, by simp [size_madeCells], fun W => ?_⟩
  have h := run_makeSlice (P := Tryz.prog) W 57 32 i z hu hi hz .i64 .i64 5 5 (by decide) (by decide) (by rw [hs]; decide) (by omega) (by decide)
  rw [hs] at h
  exact h
 have hsz : (Tryz.prog.info? 32).map (·.size) = some cs.length := by rw [hi, hl]; exact congrArg some hs
 clear hz hb
 have r0 : rowR cs Z 0 = Z := by simp [rowR]
 have hht : ∀ (w : World) (o : Obj), (w.alloc o).heap[w.heap.size]? = some o := fun w o => Array.getElem?_push_size
 have f1 : (List.replicate 1 cs).flatten = cs := by simp
 have hsW : ∀ W, Below w.heap.size w W -> ∀ j v, cs[j]? = some v -> W.cell? (a.add j) = some v := fun W hW j v hj => by
  have hcu := hc j v hj
  have hlt : (a.add j).block < w.heap.size := by
   simp only [World.cell?] at hcu
   split at hcu
   ·rename_i hh; exact (Array.getElem?_eq_some_iff.1 hh).1
   ·cases hcu
  rw [<- hcu]
  exact World.cell?_of_block (hW.block _ hlt)
 go_enter Tryz.func102, Tryz.ntmps102
 go_wp2_with (first
  | (refine Calls.mono (mul_15 _) ?_; rintro e w1 ⟨rfl, hw1⟩)
  | (refine wpList_copyR rfl _ _ 57 57 rfl 32 hu cs Z hsz 5 5 1 c 0 1 0 _ a (Nat.zero_mul _).symm rfl rfl 32 (by rw [r0]; exact hht _ _) rfl (fun j v hj => hsW _ (hw1.below.alloc hw1.below.size _) j v (by rw [f1] at hj; exact hj)) (by omega) h1 w.heap.size w (hw1.below.alloc hw1.below.size _) hw1.below.size ?_; intro w2 hg2 hb2))
 clear hmk
 obtain ⟨g, hgg⟩ : ∃ g, g = w1.heap.size := ⟨_, rfl⟩
 have hgw : w.heap.size <= g := hgg ▸ hw1.below.size
 rw [<- hgg] at hg2 ⊢
 clear hsW hc hht hgg hw1 r0
 refine wp_loop_rounds 4 ?_
 rw [rounds_succ]
 go_wp2
 go_region_law (refine step_copyR rfl (.tmp 41) (.tmp 44) 57 57 rfl 32 hu cs Z hsz 4 4 1 5 (0 + 1) 1 9 g ⟨g, 0, none⟩ (by rw [hl]) (by simp [Act.eval, Act.put]) (by simp [Act.eval, Act.put]) 32 hg2.out rfl (fun j v hj => rowR_cell hg2.out (by omega) hj) (by omega) h1 w.heap.size w hb2.drew hgw ?_; intro w3 hg3 hb3)
 go_wp2
 rw [rounds_succ]
 go_wp2
 go_region_law (refine step_copyR rfl (.tmp 41) (.tmp 44) 57 57 rfl 32 hu cs Z hsz 3 3 2 5 (0 + 1 + 1) 2 18 g ⟨g, 0, none⟩ (by rw [hl]) (by simp [Act.eval, Act.put]) (by simp [Act.eval, Act.put]) 32 hg3.out rfl (fun j v hj => rowR_cell hg3.out (by omega) hj) (by omega) h1 w.heap.size w hb3.drew hgw ?_; intro w4 hg4 hb4)
 go_wp2
 rw [rounds_succ]
 go_wp2
 go_region_law (refine step_copyR rfl (.tmp 41) (.tmp 44) 57 57 rfl 32 hu cs Z hsz 1 1 4 5 (0 + 1 + 1 + 2) 1 36 g ⟨g, 0, none⟩ (by rw [hl]) (by simp [Act.eval, Act.put]) (by simp [Act.eval, Act.put]) 32 hg4.out rfl (fun j v hj => rowR_cell hg4.out (by omega) hj) (by omega) h1 w.heap.size w hb4.drew hgw ?_; intro w5 hg5 hb5)
 go_wp2
 rw [rounds_succ]
 go_wp2
 go_ret
 exact ⟨g, Z, hgw, rfl, hg5.out, hZ, hb5⟩
def w_Repeat (_k : Nat) (x : Ty.den T57) (n : Int) : Option (HL [T57]) := match x with
| [v] => if n = 5 then some (List.replicate 5 v, ()) else none
| _ => none
theorem all2_replicate {α β : Type} {R : α -> β -> Prop} {x : α} {y : β} (h : R x y) : ∀ n, All2 R (List.replicate n x) (List.replicate n y)
 | 0 => trivial
 | n + 1 => ⟨h, all2_replicate h n⟩
theorem w_Repeat.ok (k : Nat) : SpecOK Tryz.prog G0 102 ⟨[T57, (.int .i64)], [T57], fun x => w_Repeat k x.1 x.2.1⟩ := by
 refine ⟨⟨_, _, Tryz.func102, by kernel_rfl, rfl⟩, fun w ok xs vs r _ hxs hr => ?_⟩
 obtain ⟨v0, _, rfl, h0, v1, _, rfl, h2, rfl⟩ := hxs
 obtain ⟨l, n, u⟩ := xs
 have hr' : w_Repeat k l n = some r := hr
 match l, h0, hr' with
 | [], _, h => cases h
 | _ :: _ :: _, _, h => cases h
 | [x], h0, hr' =>
  unfold w_Repeat at hr'
  by_cases hn : n = 5
  ·subst hn
   dsimp only at hr'
   rw [if_pos rfl] at hr'
   obtain rfl := Option.some.inj hr'
   rw [Rep.int_of h2]
   obtain ⟨cs0, hcs0, hv⟩ := h0
   obtain ⟨css, u0, e0, hcs, hsl, hmax⟩ := Holds.slice hcs0
   subst e0
   have hv' : v0 = u0 := hv
   subst hv'
   match css, hcs, hsl with
   | [], h, _ => exact h.elim
   | _ :: _ :: _, h, _ => exact h.2.elim
   | [c1], hcs, hsl =>
    obtain ⟨A, cap, rfl, hlen, hone, hne⟩ := hsl
    obtain ⟨a, rfl, hc⟩ := hne (fun h => by cases h)
    have hf : [c1].flatten = c1 := by simp
    rw [hf] at hlen hone hc
    refine (rep_calls w a cap c1 hlen hc hone).mono fun en w' he => ?_
    obtain ⟨g, Z, hgw, rfl, hrow, hZ, hb⟩ := he
    refine ⟨_, rfl, hb, ?_⟩
    have hall := all2_replicate (Holds.map (ok := ok) (ok' := fun k => ok k \/ w.heap.size <= k) (w := w) (w' := w') (fun k c e z hk hh => ⟨.inl hk, by
     rw [hb.block k (Array.getElem?_eq_some_iff.1 hh).1]; exact hh⟩) _ _ _ hcs.1) 5
    have hrep : Rep w' (fun k => ok k \/ w.heap.size <= k) T57 (List.replicate 5 x) (.slice (some ⟨g, 0, none⟩) 5 5) := by
     refine ⟨[.slice (some ⟨g, 0, none⟩) 5 5], ⟨some ⟨g, 0, none⟩, 5, List.replicate 5 c1, rfl, ⟨Nat.le_refl _, (by decide : (5 : Nat) <= 9223372036854775807)⟩, hall, fun _ => ⟨_, rfl, rfl, .inr hgw, _, 32, (0, 0), hrow, fun j v hj => ?_⟩⟩, rfl⟩
     have : (rowR c1 Z 5)[j]? = some v := by
      unfold rowR
      rw [List.getElem?_append_left (List.getElem?_eq_some_iff.1 hj).1]
      exact hj
     simpa using this
    exact hrep
  ·dsimp only at hr'
   rw [if_neg hn] at hr'
   cases hr'
end
def e0 (_k : Nat) : Env := baseE G0 tabs fnL clL xtL
theorem e0.ok (k : Nat) : (e0 k).OK Tryz.prog := Env.OK.base (by kernel_rfl) fnL.ok clL.ok xtL.ok
def e1 (k : Nat) : Env := (e0 k).add 102 ⟨[T57, (.int .i64)], [T57], fun x => w_Repeat k x.1 x.2.1⟩
theorem e1.ok (k : Nat) : (e1 k).OK Tryz.prog := (e0.ok k).add (w_Repeat.ok k)
def iv_None (k : Nat) : Option (HL [T31]) :=
 some ((true, (0, false, 0, 0), 0, false, 0, 0), ())
theorem iv_None.ok (k : Nat) : SpecOK Tryz.prog G0 35 ⟨[], [T31], fun x => iv_None k⟩ :=
 evF_sound (E := (e1 k)) (fn := Tryz.f35) (e1.ok k) (by kernel_rfl) (by kernel_rfl) (by kernel_rfl) 8 .n trivial (fun xs => by kernel_rfl)
def e2 (k : Nat) : Env := (e1 k).add 35 ⟨[], [T31], fun x => iv_None k⟩
theorem e2.ok (k : Nat) : (e2 k).OK Tryz.prog := (e1.ok k).add (iv_None.ok k)
def num_May (k : Nat) (x0 : Ty.den T29) : Option (HL [.bool]) :=
 bif (x0.1 == 0) then
 some ((beqT T29 x0 (0, false, 0, 0)), ())
 else
 bif (x0.1 == 1) then
 bif (decide (x0.2.2.1 >= 9223372036854775808)) then
 bif (decide (x0.2.2.2 >= (-1048576))) then
 some ((decide (x0.2.2.2 <= 1048576)), ())
 else
 some (false, ())
 else
 some (false, ())
 else
 bif (x0.1 == 2) then
 bif (x0.2.2.1 == 0) then
 some ((x0.2.2.2 == 0), ())
 else
 some (false, ())
 else
 some (false, ())
theorem num_May.ok (k : Nat) : SpecOK Tryz.prog G0 39 ⟨[T29], [.bool], fun x => num_May k x.1⟩ :=
 evF_sound (E := (e2 k)) (fn := Tryz.f39) (e2.ok k) (by kernel_rfl) (by kernel_rfl) (by kernel_rfl) 8 .n trivial (fun xs => by kernel_rfl)
def e3 (k : Nat) : Env := (e2 k).add 39 ⟨[T29], [.bool], fun x => num_May k x.1⟩
theorem e3.ok (k : Nat) : (e3 k).OK Tryz.prog := (e2.ok k).add (num_May.ok k)
def num_Infinite (k : Nat) (x0 : Ty.den .bool) : Option (HL [T29]) :=
 some ((2, x0, 0, 0), ())
theorem num_Infinite.ok (k : Nat) : SpecOK Tryz.prog G0 54 ⟨[.bool], [T29], fun x => num_Infinite k x.1⟩ :=
 evF_sound (E := (e3 k)) (fn := Tryz.f54) (e3.ok k) (by kernel_rfl) (by kernel_rfl) (by kernel_rfl) 8 .n trivial (fun xs => by kernel_rfl)
def e4 (k : Nat) : Env := (e3 k).add 54 ⟨[.bool], [T29], fun x => num_Infinite k x.1⟩
theorem e4.ok (k : Nat) : (e4 k).OK Tryz.prog := (e3.ok k).add (num_Infinite.ok k)
def num_fair (k : Nat) (x0 : Ty.den T29) : Option (HL [T29]) :=
 (num_May k x0).bind fun r1 =>
 bif (!r1.1) then
 some ((0, false, 0, 0), ())
 else
 some (x0, ())
theorem num_fair.ok (k : Nat) : SpecOK Tryz.prog G0 83 ⟨[T29], [T29], fun x => num_fair k x.1⟩ :=
 evF_sound (E := (e4 k)) (fn := Tryz.f83) (e4.ok k) (by kernel_rfl) (by kernel_rfl) (by kernel_rfl) 8 .n trivial (fun xs => by kernel_rfl)
def e5 (k : Nat) : Env := (e4 k).add 83 ⟨[T29], [T29], fun x => num_fair k x.1⟩
theorem e5.ok (k : Nat) : (e5 k).OK Tryz.prog := (e4.ok k).add (num_fair.ok k)
def num_Sign (k : Nat) (x0 : Ty.den T29) : Option (HL [(.int .i64)]) :=
 (num_fair k x0).bind fun r1 =>
 bif (r1.1.1 == 0) then
 some (0, ())
 else
 bif r1.1.2.1 then
 some ((-1), ())
 else
 some (1, ())
theorem num_Sign.ok (k : Nat) : SpecOK Tryz.prog G0 84 ⟨[T29], [(.int .i64)], fun x => num_Sign k x.1⟩ :=
 evF_sound (E := (e5 k)) (fn := Tryz.f84) (e5.ok k) (by kernel_rfl) (by kernel_rfl) (by kernel_rfl) 8 .n trivial (fun xs => by kernel_rfl)
def e6 (k : Nat) : Env := (e5 k).add 84 ⟨[T29], [(.int .i64)], fun x => num_Sign k x.1⟩
theorem e6.ok (k : Nat) : (e6 k).OK Tryz.prog := (e5.ok k).add (num_Sign.ok k)
def num_farther (k : Nat) (x0 : Ty.den T29) (x1 : Ty.den T29) : Option (HL [.bool]) :=
 bif (x0.1 != x1.1) then
 some ((decide (x0.1 > x1.1)), ())
 else
 bif (x0.2.2.2 != x1.2.2.2) then
 some ((decide (x0.2.2.2 > x1.2.2.2)), ())
 else
 some ((decide (x0.2.2.1 > x1.2.2.1)), ())
theorem num_farther.ok (k : Nat) : SpecOK Tryz.prog G0 85 ⟨[T29, T29], [.bool], fun x => num_farther k x.1 x.2.1⟩ :=
 evF_sound (E := (e6 k)) (fn := Tryz.f85) (e6.ok k) (by kernel_rfl) (by kernel_rfl) (by kernel_rfl) 8 .n trivial (fun xs => by kernel_rfl)
def e7 (k : Nat) : Env := (e6 k).add 85 ⟨[T29, T29], [.bool], fun x => num_farther k x.1 x.2.1⟩
theorem e7.ok (k : Nat) : (e7 k).OK Tryz.prog := (e6.ok k).add (num_farther.ok k)
def num_Cmp (k : Nat) (x0 : Ty.den T29) (x1 : Ty.den T29) : Option (HL [(.int .i64)]) :=
 (num_fair k x0).bind fun r1 =>
 (num_fair k x1).bind fun r2 =>
 (num_Sign k r1.1).bind fun r3 =>
 (num_Sign k r2.1).bind fun r4 =>
 bif (decide (r3.1 < r4.1)) then
 some ((-1), ())
 else
 bif (decide (r3.1 > r4.1)) then
 some (1, ())
 else
 (num_farther k r1.1 r2.1).bind fun r5 =>
 bif r5.1 then
 some (r3.1, ())
 else
 (num_farther k r2.1 r1.1).bind fun r6 =>
 bif r6.1 then
 some ((IntKind.i64.wrap (0 - r3.1)), ())
 else
 some (0, ())
theorem num_Cmp.ok (k : Nat) : SpecOK Tryz.prog G0 58 ⟨[T29, T29], [(.int .i64)], fun x => num_Cmp k x.1 x.2.1⟩ :=
 evF_sound (E := (e7 k)) (fn := Tryz.f58) (e7.ok k) (by kernel_rfl) (by kernel_rfl) (by kernel_rfl) 8 .n trivial (fun xs => by kernel_rfl)
def e8 (k : Nat) : Env := (e7 k).add 58 ⟨[T29, T29], [(.int .i64)], fun x => num_Cmp k x.1 x.2.1⟩
theorem e8.ok (k : Nat) : (e8 k).OK Tryz.prog := (e7.ok k).add (num_Cmp.ok k)
def iv_May (k : Nat) (x0 : Ty.den T31) : Option (HL [.bool]) :=
 bif x0.1 then
 (iv_None k).bind fun r1 =>
 some ((beqT T31 x0 r1.1), ())
 else
 (num_May k x0.2.1).bind fun r2 =>
 bif r2.1 then
 (num_May k x0.2.2).bind fun r3 =>
 bif r3.1 then
 (num_Cmp k x0.2.1 x0.2.2).bind fun r4 =>
 bif (decide (r4.1 <= 0)) then
 (num_Infinite k false).bind fun r5 =>
 bif (!(beqT T29 x0.2.1 r5.1)) then
 (num_Infinite k true).bind fun r6 =>
 some ((!(beqT T29 x0.2.2 r6.1)), ())
 else
 some (false, ())
 else
 some (false, ())
 else
 some (false, ())
 else
 some (false, ())
theorem iv_May.ok (k : Nat) : SpecOK Tryz.prog G0 51 ⟨[T31], [.bool], fun x => iv_May k x.1⟩ :=
 evF_sound (E := (e8 k)) (fn := Tryz.f51) (e8.ok k) (by kernel_rfl) (by kernel_rfl) (by kernel_rfl) 8 .n trivial (fun xs => by kernel_rfl)
def e9 (k : Nat) : Env := (e8 k).add 51 ⟨[T31], [.bool], fun x => iv_May k x.1⟩
theorem e9.ok (k : Nat) : (e9 k).OK Tryz.prog := (e8.ok k).add (iv_May.ok k)
def engine_full (k : Nat) (x0 : Ty.den T31) : Option (HL [.bool]) :=
 (iv_May k x0).bind fun r1 =>
 bif r1.1 then
 some ((!x0.1), ())
 else
 some (false, ())
theorem engine_full.ok (k : Nat) : SpecOK Tryz.prog G0 38 ⟨[T31], [.bool], fun x => engine_full k x.1⟩ :=
 evF_sound (E := (e9 k)) (fn := Tryz.f38) (e9.ok k) (by kernel_rfl) (by kernel_rfl) (by kernel_rfl) 8 .n trivial (fun xs => by kernel_rfl)
def e10 (k : Nat) : Env := (e9 k).add 38 ⟨[T31], [.bool], fun x => engine_full k x.1⟩
theorem e10.ok (k : Nat) : (e10 k).OK Tryz.prog := (e9.ok k).add (engine_full.ok k)
def engine_may (k : Nat) (x0 : Ty.den T33) : Option (HL [.bool]) :=
 bif (x0.1 == 3) then
 (engine_full k x0.2.2.2.2).bind fun r1 =>
 bif (decide (x0.1 >= 0)) then
 bif (decide (x0.1 <= 3)) then
 (num_May k x0.2.1).bind fun r2 =>
 bif r2.1 then
 bif (x0.2.1.1 != 2) then
 (engine_full k x0.2.2.1).bind fun r3 =>
 bif r3.1 then
 (engine_full k x0.2.2.2.1).bind fun r4 =>
 bif r4.1 then
 some (r1.1, ())
 else
 some (false, ())
 else
 some (false, ())
 else
 some (false, ())
 else
 some (false, ())
 else
 some (false, ())
 else
 some (false, ())
 else
 bif (decide (x0.1 >= 0)) then
 bif (decide (x0.1 <= 3)) then
 (num_May k x0.2.1).bind fun r5 =>
 bif r5.1 then
 bif (x0.2.1.1 != 2) then
 (engine_full k x0.2.2.1).bind fun r6 =>
 bif r6.1 then
 (engine_full k x0.2.2.2.1).bind fun r7 =>
 bif r7.1 then
 some ((beqT T31 x0.2.2.2.2 (false, (0, false, 0, 0), 0, false, 0, 0)), ())
 else
 some (false, ())
 else
 some (false, ())
 else
 some (false, ())
 else
 some (false, ())
 else
 some (false, ())
 else
 some (false, ())
theorem engine_may.ok (k : Nat) : SpecOK Tryz.prog G0 21 ⟨[T33], [.bool], fun x => engine_may k x.1⟩ :=
 evF_sound (E := (e10 k)) (fn := Tryz.f21) (e10.ok k) (by kernel_rfl) (by kernel_rfl) (by kernel_rfl) 8 .n trivial (fun xs => by kernel_rfl)
def e11 (k : Nat) : Env := (e10 k).add 21 ⟨[T33], [.bool], fun x => engine_may k x.1⟩
theorem e11.ok (k : Nat) : (e11 k).OK Tryz.prog := (e10.ok k).add (engine_may.ok k)
def iv_All (k : Nat) : Option (HL [T31]) :=
 (num_Infinite k true).bind fun r1 =>
 (num_Infinite k false).bind fun r2 =>
 some ((false, r1.1, r2.1), ())
theorem iv_All.ok (k : Nat) : SpecOK Tryz.prog G0 67 ⟨[], [T31], fun x => iv_All k⟩ :=
 evF_sound (E := (e11 k)) (fn := Tryz.f67) (e11.ok k) (by kernel_rfl) (by kernel_rfl) (by kernel_rfl) 8 .n trivial (fun xs => by kernel_rfl)
def e12 (k : Nat) : Env := (e11 k).add 67 ⟨[], [T31], fun x => iv_All k⟩
theorem e12.ok (k : Nat) : (e12 k).OK Tryz.prog := (e11.ok k).add (iv_All.ok k)
def tube_finite (k : Nat) (x0 : Ty.den T29) : Option (HL [.bool]) :=
 (num_May k x0).bind fun r1 =>
 bif r1.1 then
 some ((x0.1 != 2), ())
 else
 some (false, ())
theorem tube_finite.ok (k : Nat) : SpecOK Tryz.prog G0 57 ⟨[T29], [.bool], fun x => tube_finite k x.1⟩ :=
 evF_sound (E := (e12 k)) (fn := Tryz.f57) (e12.ok k) (by kernel_rfl) (by kernel_rfl) (by kernel_rfl) 8 .n trivial (fun xs => by kernel_rfl)
def e13 (k : Nat) : Env := (e12 k).add 57 ⟨[T29], [.bool], fun x => tube_finite k x.1⟩
theorem e13.ok (k : Nat) : (e13 k).OK Tryz.prog := (e12.ok k).add (tube_finite.ok k)
abbrev tube_May_l0_i : Mask := ⟨[(0, 3, (.k (.ptr 3 0 0))), (0, 25, (.v T44)), (0, 26, (.v (.int .i64))), (0, 27, (.v (.int .i64)))], [(3, .cells (.v T29))], [], 0⟩
abbrev tube_May_l0_o : List Out := [⟨.ret, ⟨[(0, 2, (.v .bool))], [], [], 0⟩⟩, ⟨.exit 0, ⟨[], [], [], 0⟩⟩]
def tube_May_l0 (k : Nat) : Nat -> Mask.den tube_May_l0_i -> Option (denS tube_May_l0_o)
| 0, _ => none
| m + 1, x =>
 bif (decide (x.1.2.2.2.1 < x.1.2.2.1)) then
 if 0 <= x.1.2.2.2.1 then (x.1.2.1[Int.toNat x.1.2.2.2.1]?).bind fun y3 =>
 (tube_finite k y3.1).bind fun r4 =>
 bif (!r4.1) then
 some (Sum.inl ((false, ()), ()))
 else
 (num_Cmp k y3.1 x.2.1).bind fun r5 =>
 bif (decide (r5.1 <= 0)) then
 some (Sum.inl ((false, ()), ()))
 else
 (iv_May k y3.2.1).bind fun r6 =>
 bif (!r6.1) then
 some (Sum.inl ((false, ()), ()))
 else
 (iv_May k y3.2.2).bind fun r7 =>
 bif (!r7.1) then
 some (Sum.inl ((false, ()), ()))
 else
 tube_May_l0 k m (((), x.1.2.1, x.1.2.2.1, (IntKind.i64.wrap (x.1.2.2.2.1 + 1)), ()), (y3.1, ()))
 else none
 else
 some (Sum.inr (Sum.inl ((), ())))
abbrev tube_May_l0_seg (k : Nat) : Seg := ⟨⟨0, 57, false, [], []⟩, 31, [.b, .s2, .s1, .s2, .s2, .s2], tube_May_l0_i, tube_May_l0_o, tube_May_l0 k k⟩
theorem tube_May_l0_seg.ok (k : Nat) : SegOK Tryz.prog (e13 k) (tube_May_l0_seg k) :=
 SegOK.loop (e13.ok k) (by kernel_rfl) (S := tube_May_l0_seg k) (c := atR (codeOf (e13 k) 31) [.l, .b, .s2, .s1, .s2, .s2, .s2]) (by kernel_rfl) (tube_May_l0 k) k rfl (fun _ => rfl) 8 .n trivial (fun k' x => by kernel_rfl)
def tube_May (k : Nat) (x0 : Ty.den T45) : Option (HL [.bool]) :=
 (tube_finite k x0.1).bind fun r1 =>
 bif (!r1.1) then
 some (false, ())
 else
 (iv_May k x0.2.1).bind fun r2 =>
 bif (!r2.1) then
 some (false, ())
 else
 bif (decide ((x0.2.2.length : Int) > 64)) then
 some (false, ())
 else
 (tube_May_l0 k k (((), x0.2.2, (x0.2.2.length : Int), 0, ()), (x0.1, ()))).bind fun q8 =>
 Sum.elim (fun z9 =>
 some (z9.1.1, ()))
 (fun q8' =>
 Sum.elim (fun z10 =>
 some (true, ()))
 (fun q8'' =>
 none) q8') q8
theorem tube_May.ok (k : Nat) : SpecOK Tryz.prog G0 31 ⟨[T45], [.bool], fun x => tube_May k x.1⟩ :=
 evF_sound (E := (e13 k)) (fn := Tryz.f31) (e13.ok k) (by kernel_rfl) (by kernel_rfl) (by kernel_rfl) 8 (.two .n (.two .n (.two .n (.two (.two .n (.two (.use (tube_May_l0_seg k)) .n)) .n)))) ⟨trivial, ⟨trivial, ⟨trivial, ⟨⟨trivial, ⟨(tube_May_l0_seg.ok k), trivial⟩⟩, trivial⟩⟩⟩⟩ (fun xs => by kernel_rfl)
def e14 (k : Nat) : Env := (e13 k).add 31 ⟨[T45], [.bool], fun x => tube_May k x.1⟩
theorem e14.ok (k : Nat) : (e14 k).OK Tryz.prog := (e13.ok k).add (tube_May.ok k)
def tube_end (k : Nat) (x0 : Ty.den T45) : Option (HL [T29]) :=
 bif (decide ((x0.2.2.length : Int) > 0)) then
 if 0 <= (IntKind.i64.wrap ((x0.2.2.length : Int) - 1)) then (x0.2.2[Int.toNat (IntKind.i64.wrap ((x0.2.2.length : Int) - 1))]?).bind fun y1 =>
 some (y1.1, ())
 else none
 else
 some (x0.1, ())
theorem tube_end.ok (k : Nat) : SpecOK Tryz.prog G0 87 ⟨[T45], [T29], fun x => tube_end k x.1⟩ :=
 evF_sound (E := (e14 k)) (fn := Tryz.f87) (e14.ok k) (by kernel_rfl) (by kernel_rfl) (by kernel_rfl) 8 .n trivial (fun xs => by kernel_rfl)
def e15 (k : Nat) : Env := (e14 k).add 87 ⟨[T45], [T29], fun x => tube_end k x.1⟩
theorem e15.ok (k : Nat) : (e15 k).OK Tryz.prog := (e14.ok k).add (tube_end.ok k)
def tube_Append (k : Nat) (x0 : Ty.den T45) (x1 : Ty.den T29) (x2 : Ty.den T31) (x3 : Ty.den T31) : Option (HL [T45, (.int .i64)]) :=
 (tube_May k x0).bind fun r1 =>
 bif (!r1.1) then
 some (((0, false, 0, 0), (false, (0, false, 0, 0), 0, false, 0, 0), []), 1, ())
 else
 (tube_finite k x1).bind fun r2 =>
 bif (!r2.1) then
 some (((0, false, 0, 0), (false, (0, false, 0, 0), 0, false, 0, 0), []), 1, ())
 else
 (iv_May k x2).bind fun r3 =>
 bif (!r3.1) then
 some (((0, false, 0, 0), (false, (0, false, 0, 0), 0, false, 0, 0), []), 1, ())
 else
 (iv_May k x3).bind fun r4 =>
 bif (!r4.1) then
 some (((0, false, 0, 0), (false, (0, false, 0, 0), 0, false, 0, 0), []), 1, ())
 else
 bif (decide ((x0.2.2.length : Int) >= 64)) then
 some (((0, false, 0, 0), (false, (0, false, 0, 0), 0, false, 0, 0), []), 3, ())
 else
 (tube_end k x0).bind fun r5 =>
 (num_Cmp k x1 r5.1).bind fun r6 =>
 bif (decide (r6.1 <= 0)) then
 some (((0, false, 0, 0), (false, (0, false, 0, 0), 0, false, 0, 0), []), 6, ())
 else
 if x0.2.2.length * 176 <= 140737488355328 then
 if (x0.2.2.length + [(x1, x2, x3)].length) * 176 <= 140737488355328 then
 some ((x0.1, x0.2.1, (x0.2.2 ++ [(x1, x2, x3)])), 0, ())
 else none
 else none
theorem tube_Append.ok (k : Nat) : SpecOK Tryz.prog G0 70 ⟨[T45, T29, T31, T31], [T45, (.int .i64)], fun x => tube_Append k x.1 x.2.1 x.2.2.1 x.2.2.2.1⟩ :=
 evF_sound (E := (e15 k)) (fn := Tryz.f70) (e15.ok k) (by kernel_rfl) (by kernel_rfl) (by kernel_rfl) 8 .n trivial (fun xs => by kernel_rfl)
def e16 (k : Nat) : Env := (e15 k).add 70 ⟨[T45, T29, T31, T31], [T45, (.int .i64)], fun x => tube_Append k x.1 x.2.1 x.2.2.1 x.2.2.2.1⟩
theorem e16.ok (k : Nat) : (e16 k).OK Tryz.prog := (e15.ok k).add (tube_Append.ok k)
def iv_fair (k : Nat) (x0 : Ty.den T31) : Option (HL [T31]) :=
 (iv_May k x0).bind fun r1 =>
 bif (!r1.1) then
 (iv_None k).bind fun r2 =>
 some (r2.1, ())
 else
 some (x0, ())
theorem iv_fair.ok (k : Nat) : SpecOK Tryz.prog G0 62 ⟨[T31], [T31], fun x => iv_fair k x.1⟩ :=
 evF_sound (E := (e16 k)) (fn := Tryz.f62) (e16.ok k) (by kernel_rfl) (by kernel_rfl) (by kernel_rfl) 8 .n trivial (fun xs => by kernel_rfl)
def e17 (k : Nat) : Env := (e16 k).add 62 ⟨[T31], [T31], fun x => iv_fair k x.1⟩
theorem e17.ok (k : Nat) : (e17 k).OK Tryz.prog := (e16.ok k).add (iv_fair.ok k)
def num_Neg (k : Nat) (x0 : Ty.den T29) : Option (HL [T29]) :=
 (num_fair k x0).bind fun r1 =>
 bif (r1.1.1 != 0) then
 some ((r1.1.1, (!r1.1.2.1), r1.1.2.2), ())
 else
 some ((r1.1.1, false, r1.1.2.2), ())
theorem num_Neg.ok (k : Nat) : SpecOK Tryz.prog G0 63 ⟨[T29], [T29], fun x => num_Neg k x.1⟩ :=
 evF_sound (E := (e17 k)) (fn := Tryz.f63) (e17.ok k) (by kernel_rfl) (by kernel_rfl) (by kernel_rfl) 8 .n trivial (fun xs => by kernel_rfl)
def e18 (k : Nat) : Env := (e17 k).add 63 ⟨[T29], [T29], fun x => num_Neg k x.1⟩
theorem e18.ok (k : Nat) : (e18 k).OK Tryz.prog := (e17.ok k).add (num_Neg.ok k)
def iv_Make (k : Nat) (x0 : Ty.den T29) (x1 : Ty.den T29) : Option (HL [T31]) :=
 (num_Neg k x0).bind fun r1 =>
 (num_Neg k r1.1).bind fun r2 =>
 (num_Neg k x1).bind fun r3 =>
 (num_Neg k r3.1).bind fun r4 =>
 (iv_fair k (false, r2.1, r4.1)).bind fun r5 =>
 some (r5.1, ())
theorem iv_Make.ok (k : Nat) : SpecOK Tryz.prog G0 34 ⟨[T29, T29], [T31], fun x => iv_Make k x.1 x.2.1⟩ :=
 evF_sound (E := (e18 k)) (fn := Tryz.f34) (e18.ok k) (by kernel_rfl) (by kernel_rfl) (by kernel_rfl) 8 .n trivial (fun xs => by kernel_rfl)
def e19 (k : Nat) : Env := (e18 k).add 34 ⟨[T29, T29], [T31], fun x => iv_Make k x.1 x.2.1⟩
theorem e19.ok (k : Nat) : (e19 k).OK Tryz.prog := (e18.ok k).add (iv_Make.ok k)
abbrev iv_ends_l0_i : Mask := ⟨[(0, 2, (.k (.arr 21 0))), (0, 3, (.k (.arr 26 0))), (0, 4, (.v .bool)), (0, 7, (.v T57)), (0, 8, (.v (.int .i64))), (0, 9, (.v (.int .i64)))], [(21, .arr 30 T29), (26, .arr 30 T29)], [], 0⟩
abbrev iv_ends_l0_o : List Out := [⟨.exit 0, ⟨[(0, 2, (.k (.arr 21 0))), (0, 3, (.k (.arr 26 0))), (0, 4, (.v .bool))], [(21, .arr 30 T29), (26, .arr 30 T29)], [], 0⟩⟩]
def iv_ends_l0 (k : Nat) : Nat -> Mask.den iv_ends_l0_i -> Option (denS iv_ends_l0_o)
| 0, _ => none
| m + 1, x =>
 bif (decide (x.1.2.2.2.2.2.1 < x.1.2.2.2.2.1)) then
 if 0 <= x.1.2.2.2.2.2.1 then (x.1.2.2.2.1[Int.toNat x.1.2.2.2.2.2.1]?).bind fun y5 =>
 (iv_fair k y5).bind fun r6 =>
 bif r6.1.1 then
 iv_ends_l0 k m (((), (), false, x.1.2.2.2.1, x.1.2.2.2.2.1, (IntKind.i64.wrap (x.1.2.2.2.2.2.1 + 1)), ()), (x.2.1, x.2.2.1, ()))
 else
 if (x.2.1.length + [r6.1.2.1].length) * 32 <= 140737488355328 then
 if (x.2.2.1.length + [r6.1.2.2].length) * 32 <= 140737488355328 then
 iv_ends_l0 k m (((), (), x.1.2.2.1, x.1.2.2.2.1, x.1.2.2.2.2.1, (IntKind.i64.wrap (x.1.2.2.2.2.2.1 + 1)), ()), ((x.2.1 ++ [r6.1.2.1]), (x.2.2.1 ++ [r6.1.2.2]), ()))
 else none
 else none
 else none
 else
 some (Sum.inl (((), (), x.1.2.2.1, ()), (x.2.1, x.2.2.1, ())))
abbrev iv_ends_l0_seg (k : Nat) : Seg := ⟨⟨0, 31, false, [], []⟩, 94, [.b, .s2, .s1, .s2, .s2], iv_ends_l0_i, iv_ends_l0_o, iv_ends_l0 k k⟩
theorem iv_ends_l0_seg.ok (k : Nat) : SegOK Tryz.prog (e19 k) (iv_ends_l0_seg k) :=
 SegOK.loop (e19.ok k) (by kernel_rfl) (S := iv_ends_l0_seg k) (c := atR (codeOf (e19 k) 94) [.l, .b, .s2, .s1, .s2, .s2]) (by kernel_rfl) (iv_ends_l0 k) k rfl (fun _ => rfl) 8 .n trivial (fun k' x => by kernel_rfl)
def iv_ends (k : Nat) (x0 : Ty.den T57) : Option (HL [T135, T135, .bool]) :=
 (iv_ends_l0 k k (((), (), true, x0, (x0.length : Int), 0, ()), ([], [], ()))).bind fun q7 =>
 Sum.elim (fun z8 =>
 some (z8.2.1, z8.2.2.1, z8.1.2.2.1, ()))
 (fun q7' =>
 none) q7
theorem iv_ends.ok (k : Nat) : SpecOK Tryz.prog G0 94 ⟨[T57], [T135, T135, .bool], fun x => iv_ends k x.1⟩ :=
 evF_sound (E := (e19 k)) (fn := Tryz.f94) (e19.ok k) (by kernel_rfl) (by kernel_rfl) (by kernel_rfl) 8 (.two .n (.two .n (.two (.two .n (.two (.use (iv_ends_l0_seg k)) .n)) .n))) ⟨trivial, ⟨trivial, ⟨⟨trivial, ⟨(iv_ends_l0_seg.ok k), trivial⟩⟩, trivial⟩⟩⟩ (fun xs => by kernel_rfl)
def e20 (k : Nat) : Env := (e19 k).add 94 ⟨[T57], [T135, T135, .bool], fun x => iv_ends k x.1⟩
theorem e20.ok (k : Nat) : (e20 k).OK Tryz.prog := (e19.ok k).add (iv_ends.ok k)
abbrev num_Most_l0_i : Mask := ⟨[(0, 2, (.k (.ptr 2 0 0))), (0, 3, (.k (.ptr 3 0 0))), (0, 7, (.v T135)), (0, 8, (.v (.int .i64))), (0, 9, (.v (.int .i64)))], [(2, .cells (.v T29)), (3, .cells (.v T29))], [], 0⟩
abbrev num_Most_l0_o : List Out := [⟨.exit 0, ⟨[(0, 2, (.k (.ptr 2 0 0))), (0, 3, (.k (.ptr 3 0 0)))], [(2, .cells (.v T29)), (3, .cells (.v T29))], [], 0⟩⟩]
def num_Most_l0 (k : Nat) : Nat -> Mask.den num_Most_l0_i -> Option (denS num_Most_l0_o)
| 0, _ => none
| m + 1, x =>
 bif (decide (x.1.2.2.2.2.1 < x.1.2.2.2.1)) then
 if 0 <= x.1.2.2.2.2.1 then (x.1.2.2.1[Int.toNat x.1.2.2.2.2.1]?).bind fun y2 =>
 (num_Cmp k y2 x.2.2.1).bind fun r3 =>
 bif (decide (r3.1 > 0)) then
 (num_fair k y2).bind fun r4 =>
 num_Most_l0 k m (((), (), x.1.2.2.1, x.1.2.2.2.1, (IntKind.i64.wrap (x.1.2.2.2.2.1 + 1)), ()), (x.2.1, r4.1, ()))
 else
 num_Most_l0 k m (((), (), x.1.2.2.1, x.1.2.2.2.1, (IntKind.i64.wrap (x.1.2.2.2.2.1 + 1)), ()), (x.2.1, x.2.2.1, ()))
 else none
 else
 some (Sum.inl (((), (), ()), (x.2.1, x.2.2.1, ())))
abbrev num_Most_l0_seg (k : Nat) : Seg := ⟨⟨0, 21, false, [], []⟩, 95, [.b, .s2, .s1, .s2, .s2], num_Most_l0_i, num_Most_l0_o, num_Most_l0 k k⟩
theorem num_Most_l0_seg.ok (k : Nat) : SegOK Tryz.prog (e20 k) (num_Most_l0_seg k) :=
 SegOK.loop (e20.ok k) (by kernel_rfl) (S := num_Most_l0_seg k) (c := atR (codeOf (e20 k) 95) [.l, .b, .s2, .s1, .s2, .s2]) (by kernel_rfl) (num_Most_l0 k) k rfl (fun _ => rfl) 8 .n trivial (fun k' x => by kernel_rfl)
def num_Most (k : Nat) (x0 : Ty.den T135) : Option (HL [T29]) :=
 (num_Infinite k true).bind fun r1 =>
 (num_Most_l0 k k (((), (), x0, (x0.length : Int), 0, ()), ((0, false, 0, 0), r1.1, ()))).bind fun q5 =>
 Sum.elim (fun z6 =>
 some (z6.2.2.1, ()))
 (fun q5' =>
 none) q5
theorem num_Most.ok (k : Nat) : SpecOK Tryz.prog G0 95 ⟨[T135], [T29], fun x => num_Most k x.1⟩ :=
 evF_sound (E := (e20 k)) (fn := Tryz.f95) (e20.ok k) (by kernel_rfl) (by kernel_rfl) (by kernel_rfl) 8 (.two .n (.two .n (.two (.two .n (.two (.use (num_Most_l0_seg k)) .n)) .n))) ⟨trivial, ⟨trivial, ⟨⟨trivial, ⟨(num_Most_l0_seg.ok k), trivial⟩⟩, trivial⟩⟩⟩ (fun xs => by kernel_rfl)
def e21 (k : Nat) : Env := (e20 k).add 95 ⟨[T135], [T29], fun x => num_Most k x.1⟩
theorem e21.ok (k : Nat) : (e21 k).OK Tryz.prog := (e20.ok k).add (num_Most.ok k)
abbrev num_Least_l0_i : Mask := ⟨[(0, 2, (.k (.ptr 2 0 0))), (0, 3, (.k (.ptr 3 0 0))), (0, 7, (.v T135)), (0, 8, (.v (.int .i64))), (0, 9, (.v (.int .i64)))], [(2, .cells (.v T29)), (3, .cells (.v T29))], [], 0⟩
abbrev num_Least_l0_o : List Out := [⟨.exit 0, ⟨[(0, 2, (.k (.ptr 2 0 0))), (0, 3, (.k (.ptr 3 0 0)))], [(2, .cells (.v T29)), (3, .cells (.v T29))], [], 0⟩⟩]
def num_Least_l0 (k : Nat) : Nat -> Mask.den num_Least_l0_i -> Option (denS num_Least_l0_o)
| 0, _ => none
| m + 1, x =>
 bif (decide (x.1.2.2.2.2.1 < x.1.2.2.2.1)) then
 if 0 <= x.1.2.2.2.2.1 then (x.1.2.2.1[Int.toNat x.1.2.2.2.2.1]?).bind fun y2 =>
 (num_Cmp k y2 x.2.2.1).bind fun r3 =>
 bif (decide (r3.1 < 0)) then
 (num_fair k y2).bind fun r4 =>
 num_Least_l0 k m (((), (), x.1.2.2.1, x.1.2.2.2.1, (IntKind.i64.wrap (x.1.2.2.2.2.1 + 1)), ()), (x.2.1, r4.1, ()))
 else
 num_Least_l0 k m (((), (), x.1.2.2.1, x.1.2.2.2.1, (IntKind.i64.wrap (x.1.2.2.2.2.1 + 1)), ()), (x.2.1, x.2.2.1, ()))
 else none
 else
 some (Sum.inl (((), (), ()), (x.2.1, x.2.2.1, ())))
abbrev num_Least_l0_seg (k : Nat) : Seg := ⟨⟨0, 21, false, [], []⟩, 96, [.b, .s2, .s1, .s2, .s2], num_Least_l0_i, num_Least_l0_o, num_Least_l0 k k⟩
theorem num_Least_l0_seg.ok (k : Nat) : SegOK Tryz.prog (e21 k) (num_Least_l0_seg k) :=
 SegOK.loop (e21.ok k) (by kernel_rfl) (S := num_Least_l0_seg k) (c := atR (codeOf (e21 k) 96) [.l, .b, .s2, .s1, .s2, .s2]) (by kernel_rfl) (num_Least_l0 k) k rfl (fun _ => rfl) 8 .n trivial (fun k' x => by kernel_rfl)
def num_Least (k : Nat) (x0 : Ty.den T135) : Option (HL [T29]) :=
 (num_Infinite k false).bind fun r1 =>
 (num_Least_l0 k k (((), (), x0, (x0.length : Int), 0, ()), ((0, false, 0, 0), r1.1, ()))).bind fun q5 =>
 Sum.elim (fun z6 =>
 some (z6.2.2.1, ()))
 (fun q5' =>
 none) q5
theorem num_Least.ok (k : Nat) : SpecOK Tryz.prog G0 96 ⟨[T135], [T29], fun x => num_Least k x.1⟩ :=
 evF_sound (E := (e21 k)) (fn := Tryz.f96) (e21.ok k) (by kernel_rfl) (by kernel_rfl) (by kernel_rfl) 8 (.two .n (.two .n (.two (.two .n (.two (.use (num_Least_l0_seg k)) .n)) .n))) ⟨trivial, ⟨trivial, ⟨⟨trivial, ⟨(num_Least_l0_seg.ok k), trivial⟩⟩, trivial⟩⟩⟩ (fun xs => by kernel_rfl)
def e22 (k : Nat) : Env := (e21 k).add 96 ⟨[T135], [T29], fun x => num_Least k x.1⟩
theorem e22.ok (k : Nat) : (e22 k).OK Tryz.prog := (e21.ok k).add (num_Least.ok k)
def iv_Meet (k : Nat) (x0 : Ty.den T57) : Option (HL [T31]) :=
 (iv_ends k x0).bind fun r1 =>
 bif (!r1.2.2.1) then
 (iv_None k).bind fun r2 =>
 some (r2.1, ())
 else
 (num_Most k r1.1).bind fun r3 =>
 (num_Least k r1.2.1).bind fun r4 =>
 (iv_Make k r3.1 r4.1).bind fun r5 =>
 some (r5.1, ())
theorem iv_Meet.ok (k : Nat) : SpecOK Tryz.prog G0 74 ⟨[T57], [T31], fun x => iv_Meet k x.1⟩ :=
 evF_sound (E := (e22 k)) (fn := Tryz.f74) (e22.ok k) (by kernel_rfl) (by kernel_rfl) (by kernel_rfl) 8 .n trivial (fun xs => by kernel_rfl)
def e23 (k : Nat) : Env := (e22 k).add 74 ⟨[T57], [T31], fun x => iv_Meet k x.1⟩
theorem e23.ok (k : Nat) : (e23 k).OK Tryz.prog := (e22.ok k).add (iv_Meet.ok k)
abbrev tube_void_l0_i : Mask := ⟨[(0, 1, (.k (.ptr 1 0 0))), (0, 2, (.k (.ptr 2 0 0))), (0, 3, (.k (.ptr 3 0 0))), (0, 14, (.v (.int .i64))), (0, 15, (.v (.int .i64)))], [(1, .cells (.pr (.v T29) (.pr (.v T31) (.k (.arr 10 0))))), (2, .cells (.pr (.v T29) (.pr (.v T31) (.v T44)))), (3, .cells (.v T31)), (10, .arr 78 T77)], [], 0⟩
abbrev tube_void_l0_o : List Out := [⟨.exit 0, ⟨[(0, 1, (.k (.ptr 1 0 0))), (0, 2, (.k (.ptr 2 0 0)))], [(1, .cells (.pr (.v T29) (.pr (.v T31) (.k (.arr 10 0))))), (2, .cells (.pr (.v T29) (.pr (.v T31) (.v T44)))), (10, .arr 78 T77)], [], 0⟩⟩]
def tube_void_l0 (k : Nat) : Nat -> Mask.den tube_void_l0_i -> Option (denS tube_void_l0_o)
| 0, _ => none
| m + 1, x =>
 bif (decide (x.1.2.2.2.2.1 < x.1.2.2.2.1)) then
 if 0 <= x.1.2.2.2.2.1 then (x.2.2.2.2.1[Int.toNat x.1.2.2.2.2.1]?).bind fun _ =>
 (x.2.2.2.2.1[(Int.toNat x.1.2.2.2.2.1)]?).bind fun y3 =>
 if 0 <= x.1.2.2.2.2.1 then ((x.2.2.2.2.1.set (Int.toNat x.1.2.2.2.2.1) (y3.1, x.2.2.2.1, y3.2.2))[Int.toNat x.1.2.2.2.2.1]?).bind fun _ =>
 ((x.2.2.2.2.1.set (Int.toNat x.1.2.2.2.2.1) (y3.1, x.2.2.2.1, y3.2.2))[(Int.toNat x.1.2.2.2.2.1)]?).bind fun y5 =>
 tube_void_l0 k m (((), (), (), x.1.2.2.2.1, (IntKind.i64.wrap (x.1.2.2.2.2.1 + 1)), ()), ((x.2.1.1, (x.2.1.2.1, ())), (x.2.2.1.1, (x.2.2.1.2.1, x.2.2.1.2.2)), x.2.2.2.1, ((x.2.2.2.2.1.set (Int.toNat x.1.2.2.2.2.1) (y3.1, x.2.2.2.1, y3.2.2)).set (Int.toNat x.1.2.2.2.2.1) (y5.1, y5.2.1, x.2.2.2.1)), ()))
 else none
 else none
 else
 some (Sum.inl (((), (), ()), ((x.2.1.1, (x.2.1.2.1, ())), (x.2.2.1.1, (x.2.2.1.2.1, x.2.2.1.2.2)), x.2.2.2.2.1, ())))
abbrev tube_void_l0_seg (k : Nat) : Seg := ⟨⟨0, 32, false, [], []⟩, 104, [.b, .s2, .s1, .s2, .s2, .s2, .s2], tube_void_l0_i, tube_void_l0_o, tube_void_l0 k k⟩
theorem tube_void_l0_seg.ok (k : Nat) : SegOK Tryz.prog (e23 k) (tube_void_l0_seg k) :=
 SegOK.loop (e23.ok k) (by kernel_rfl) (S := tube_void_l0_seg k) (c := atR (codeOf (e23 k) 104) [.l, .b, .s2, .s1, .s2, .s2, .s2, .s2]) (by kernel_rfl) (tube_void_l0 k) k rfl (fun _ => rfl) 8 .n trivial (fun k' x => by kernel_rfl)
def tube_void (k : Nat) (x0 : Ty.den T45) : Option (HL [T45]) :=
 (iv_None k).bind fun r1 =>
 if x0.2.2.length * 176 <= 140737488355328 then
 (tube_void_l0 k k (((), (), (), (x0.2.2.length : Int), 0, ()), ((x0.1, (r1.1, ())), ((0, false, 0, 0), ((false, (0, false, 0, 0), 0, false, 0, 0), [])), r1.1, x0.2.2, ()))).bind fun q6 =>
 Sum.elim (fun z7 =>
 some ((z7.2.1.1, z7.2.1.2.1, z7.2.2.2.1), ()))
 (fun q6' =>
 none) q6
 else none
theorem tube_void.ok (k : Nat) : SpecOK Tryz.prog G0 104 ⟨[T45], [T45], fun x => tube_void k x.1⟩ :=
 evF_sound (E := (e23 k)) (fn := Tryz.f104) (e23.ok k) (by kernel_rfl) (by kernel_rfl) (by kernel_rfl) 8 (.two .n (.two .n (.two .n (.two .n (.two (.two .n (.two (.use (tube_void_l0_seg k)) .n)) .n))))) ⟨trivial, ⟨trivial, ⟨trivial, ⟨trivial, ⟨⟨trivial, ⟨(tube_void_l0_seg.ok k), trivial⟩⟩, trivial⟩⟩⟩⟩⟩ (fun xs => by kernel_rfl)
def e24 (k : Nat) : Env := (e23 k).add 104 ⟨[T45], [T45], fun x => tube_void k x.1⟩
theorem e24.ok (k : Nat) : (e24 k).OK Tryz.prog := (e23.ok k).add (tube_void.ok k)
abbrev ivop_none_l0_i : Mask := ⟨[(0, 5, (.v T57)), (0, 6, (.v (.int .i64))), (0, 7, (.v (.int .i64)))], [], [], 0⟩
abbrev ivop_none_l0_o : List Out := [⟨.ret, ⟨[(0, 2, (.v .bool))], [], [], 0⟩⟩, ⟨.exit 0, ⟨[], [], [], 0⟩⟩]
def ivop_none_l0 (k : Nat) : Nat -> Mask.den ivop_none_l0_i -> Option (denS ivop_none_l0_o)
| 0, _ => none
| m + 1, x =>
 bif (decide (x.1.2.2.1 < x.1.2.1)) then
 if 0 <= x.1.2.2.1 then (x.1.1[Int.toNat x.1.2.2.1]?).bind fun y1 =>
 bif y1.1 then
 some (Sum.inl ((true, ()), ()))
 else
 (iv_May k y1).bind fun r2 =>
 bif (!r2.1) then
 some (Sum.inl ((true, ()), ()))
 else
 ivop_none_l0 k m ((x.1.1, x.1.2.1, (IntKind.i64.wrap (x.1.2.2.1 + 1)), ()), ())
 else none
 else
 some (Sum.inr (Sum.inl ((), ())))
abbrev ivop_none_l0_seg (k : Nat) : Seg := ⟨⟨0, 19, false, [], []⟩, 109, [.b, .s2, .s1, .s2], ivop_none_l0_i, ivop_none_l0_o, ivop_none_l0 k k⟩
theorem ivop_none_l0_seg.ok (k : Nat) : SegOK Tryz.prog (e24 k) (ivop_none_l0_seg k) :=
 SegOK.loop (e24.ok k) (by kernel_rfl) (S := ivop_none_l0_seg k) (c := atR (codeOf (e24 k) 109) [.l, .b, .s2, .s1, .s2]) (by kernel_rfl) (ivop_none_l0 k) k rfl (fun _ => rfl) 8 .n trivial (fun k' x => by kernel_rfl)
def ivop_none (k : Nat) (x0 : Ty.den T57) : Option (HL [.bool]) :=
 (ivop_none_l0 k k ((x0, (x0.length : Int), 0, ()), ())).bind fun q3 =>
 Sum.elim (fun z4 =>
 some (z4.1.1, ()))
 (fun q3' =>
 Sum.elim (fun z5 =>
 some (false, ()))
 (fun q3'' =>
 none) q3') q3
theorem ivop_none.ok (k : Nat) : SpecOK Tryz.prog G0 109 ⟨[T57], [.bool], fun x => ivop_none k x.1⟩ :=
 evF_sound (E := (e24 k)) (fn := Tryz.f109) (e24.ok k) (by kernel_rfl) (by kernel_rfl) (by kernel_rfl) 8 (.two .n (.two (.two .n (.two (.use (ivop_none_l0_seg k)) .n)) .n)) ⟨trivial, ⟨⟨trivial, ⟨(ivop_none_l0_seg.ok k), trivial⟩⟩, trivial⟩⟩ (fun xs => by kernel_rfl)
def e25 (k : Nat) : Env := (e24 k).add 109 ⟨[T57], [.bool], fun x => ivop_none k x.1⟩
theorem e25.ok (k : Nat) : (e25 k).OK Tryz.prog := (e24.ok k).add (ivop_none.ok k)
def arith_fair (k : Nat) (x0 : Ty.den T29) : Option (HL [T29]) :=
 (num_May k x0).bind fun r1 =>
 bif (!r1.1) then
 some ((0, false, 0, 0), ())
 else
 some (x0, ())
theorem arith_fair.ok (k : Nat) : SpecOK Tryz.prog G0 113 ⟨[T29], [T29], fun x => arith_fair k x.1⟩ :=
 evF_sound (E := (e25 k)) (fn := Tryz.f113) (e25.ok k) (by kernel_rfl) (by kernel_rfl) (by kernel_rfl) 8 .n trivial (fun xs => by kernel_rfl)
def e26 (k : Nat) : Env := (e25 k).add 113 ⟨[T29], [T29], fun x => arith_fair k x.1⟩
theorem e26.ok (k : Nat) : (e26 k).OK Tryz.prog := (e25.ok k).add (arith_fair.ok k)
def num_huge (k : Nat) (x0 : Ty.den .bool) : Option (HL [T29]) :=
 some ((1, x0, 18446744073709551615, 1048576), ())
theorem num_huge.ok (k : Nat) : SpecOK Tryz.prog G0 142 ⟨[.bool], [T29], fun x => num_huge k x.1⟩ :=
 evF_sound (E := (e26 k)) (fn := Tryz.f142) (e26.ok k) (by kernel_rfl) (by kernel_rfl) (by kernel_rfl) 8 .n trivial (fun xs => by kernel_rfl)
def e27 (k : Nat) : Env := (e26 k).add 142 ⟨[.bool], [T29], fun x => num_huge k x.1⟩
theorem e27.ok (k : Nat) : (e27 k).OK Tryz.prog := (e26.ok k).add (num_huge.ok k)
def num_tiny (k : Nat) (x0 : Ty.den .bool) : Option (HL [T29]) :=
 some ((1, x0, 9223372036854775808, (-1048576)), ())
theorem num_tiny.ok (k : Nat) : SpecOK Tryz.prog G0 143 ⟨[.bool], [T29], fun x => num_tiny k x.1⟩ :=
 evF_sound (E := (e27 k)) (fn := Tryz.f143) (e27.ok k) (by kernel_rfl) (by kernel_rfl) (by kernel_rfl) 8 .n trivial (fun xs => by kernel_rfl)
def e28 (k : Nat) : Env := (e27 k).add 143 ⟨[.bool], [T29], fun x => num_tiny k x.1⟩
theorem e28.ok (k : Nat) : (e28 k).OK Tryz.prog := (e27.ok k).add (num_tiny.ok k)
def num_Bound (k : Nat) (x0 : Ty.den .bool) (x1 : Ty.den (.int .u64)) (x2 : Ty.den (.int .i64)) (x3 : Ty.den .bool) : Option (HL [T29]) :=
 bif (decide (x2 > 1048576)) then
 bif x3 then
 (num_Infinite k x0).bind fun r1 =>
 some (r1.1, ())
 else
 bif (decide (x2 > 1048576)) then
 (num_huge k x0).bind fun r2 =>
 some (r2.1, ())
 else
 bif (decide (x2 < (-1048576))) then
 bif x3 then
 (num_tiny k x0).bind fun r3 =>
 some (r3.1, ())
 else
 bif (decide (x2 < (-1048576))) then
 some ((0, false, 0, 0), ())
 else
 some ((1, x0, x1, x2), ())
 else
 bif (decide (x2 < (-1048576))) then
 some ((0, false, 0, 0), ())
 else
 some ((1, x0, x1, x2), ())
 else
 bif (decide (x2 > 1048576)) then
 (num_huge k x0).bind fun r4 =>
 some (r4.1, ())
 else
 bif (decide (x2 < (-1048576))) then
 bif x3 then
 (num_tiny k x0).bind fun r5 =>
 some (r5.1, ())
 else
 bif (decide (x2 < (-1048576))) then
 some ((0, false, 0, 0), ())
 else
 some ((1, x0, x1, x2), ())
 else
 bif (decide (x2 < (-1048576))) then
 some ((0, false, 0, 0), ())
 else
 some ((1, x0, x1, x2), ())
theorem num_Bound.ok (k : Nat) : SpecOK Tryz.prog G0 128 ⟨[.bool, (.int .u64), (.int .i64), .bool], [T29], fun x => num_Bound k x.1 x.2.1 x.2.2.1 x.2.2.2.1⟩ :=
 evF_sound (E := (e28 k)) (fn := Tryz.f128) (e28.ok k) (by kernel_rfl) (by kernel_rfl) (by kernel_rfl) 8 .n trivial (fun xs => by kernel_rfl)
def e29 (k : Nat) : Env := (e28 k).add 128 ⟨[.bool, (.int .u64), (.int .i64), .bool], [T29], fun x => num_Bound k x.1 x.2.1 x.2.2.1 x.2.2.2.1⟩
theorem e29.ok (k : Nat) : (e29 k).OK Tryz.prog := (e28.ok k).add (num_Bound.ok k)
def num_Grow (k : Nat) (x0 : Ty.den .bool) (x1 : Ty.den (.int .u64)) (x2 : Ty.den (.int .i64)) (x3 : Ty.den .bool) (x4 : Ty.den .bool) : Option (HL [T29]) :=
 bif x3 then
 bif x4 then
 bif ((IntKind.u64.wrap (x1 + 1)) == 0) then
 (num_Bound k x0 9223372036854775808 (IntKind.i64.wrap (x2 + 1)) x4).bind fun r1 =>
 some (r1.1, ())
 else
 (num_Bound k x0 (IntKind.u64.wrap (x1 + 1)) x2 x4).bind fun r2 =>
 some (r2.1, ())
 else
 (num_Bound k x0 x1 x2 x4).bind fun r3 =>
 some (r3.1, ())
 else
 (num_Bound k x0 x1 x2 x4).bind fun r4 =>
 some (r4.1, ())
theorem num_Grow.ok (k : Nat) : SpecOK Tryz.prog G0 115 ⟨[.bool, (.int .u64), (.int .i64), .bool, .bool], [T29], fun x => num_Grow k x.1 x.2.1 x.2.2.1 x.2.2.2.1 x.2.2.2.2.1⟩ :=
 evF_sound (E := (e29 k)) (fn := Tryz.f115) (e29.ok k) (by kernel_rfl) (by kernel_rfl) (by kernel_rfl) 8 .n trivial (fun xs => by kernel_rfl)
def e30 (k : Nat) : Env := (e29 k).add 115 ⟨[.bool, (.int .u64), (.int .i64), .bool, .bool], [T29], fun x => num_Grow k x.1 x.2.1 x.2.2.1 x.2.2.2.1 x.2.2.2.2.1⟩
theorem e30.ok (k : Nat) : (e30 k).OK Tryz.prog := (e29.ok k).add (num_Grow.ok k)
def arith_lower (k : Nat) (x0 : Ty.den (.int .u64)) (x1 : Ty.den (.int .i64)) : Option (HL [T165]) :=
 bif (decide (x1 < 64)) then
 if x1 < 0 then none else
 if (IntKind.i64.wrap (64 - x1)) < 0 then none else
 some (((Int.fdiv x0 (2 ^ min (Int.toNat x1) IntKind.u64.bits)), (IntKind.u64.wrap (x0 * 2 ^ min (Int.toNat (IntKind.i64.wrap (64 - x1))) IntKind.u64.bits)), false), ())
 else
 bif (decide (x1 < 128)) then
 if (IntKind.i64.wrap (x1 - 64)) < 0 then none else
 if (IntKind.i64.wrap (64 - (IntKind.i64.wrap (x1 - 64)))) < 0 then none else
 some ((0, (Int.fdiv x0 (2 ^ min (Int.toNat (IntKind.i64.wrap (x1 - 64))) IntKind.u64.bits)), ((IntKind.u64.wrap (x0 * 2 ^ min (Int.toNat (IntKind.i64.wrap (64 - (IntKind.i64.wrap (x1 - 64))))) IntKind.u64.bits)) != 0)), ())
 else
 some ((0, 0, true), ())
theorem arith_lower.ok (k : Nat) : SpecOK Tryz.prog G0 131 ⟨[(.int .u64), (.int .i64)], [T165], fun x => arith_lower k x.1 x.2.1⟩ :=
 evF_sound (E := (e30 k)) (fn := Tryz.f131) (e30.ok k) (by kernel_rfl) (by kernel_rfl) (by kernel_rfl) 8 .n trivial (fun xs => by kernel_rfl)
def e31 (k : Nat) : Env := (e30 k).add 131 ⟨[(.int .u64), (.int .i64)], [T165], fun x => arith_lower k x.1 x.2.1⟩
theorem e31.ok (k : Nat) : (e31 k).OK Tryz.prog := (e30.ok k).add (arith_lower.ok k)
def arith_plus (k : Nat) (x0 : Ty.den T29) (x1 : Ty.den T29) (x2 : Ty.den .bool) : Option (HL [T29]) :=
 (arith_lower k x1.2.2.1 (IntKind.i64.wrap (x0.2.2.2 - x1.2.2.2))).bind fun r1 =>
 (add64F (x0.2.2.1, r1.1.1, 0, ())).bind fun r2 =>
 bif r1.1.2.2 then
 bif (r2.2.1 != 0) then
 (num_Grow k x0.2.1 (IntKind.u64.wrap (BitVec.toNat (BitVec.ofInt IntKind.u64.bits (Int.fdiv r2.1 (2 ^ min (Int.toNat 1) IntKind.u64.bits)) ||| BitVec.ofInt IntKind.u64.bits 9223372036854775808))) (IntKind.i64.wrap (x0.2.2.2 + 1)) true (!(x2 == x0.2.1))).bind fun r3 =>
 some (r3.1, ())
 else
 (num_Grow k x0.2.1 r2.1 x0.2.2.2 true (!(x2 == x0.2.1))).bind fun r4 =>
 some (r4.1, ())
 else
 bif (r2.2.1 != 0) then
 bif (r1.1.2.1 != 0) then
 (num_Grow k x0.2.1 (IntKind.u64.wrap (BitVec.toNat (BitVec.ofInt IntKind.u64.bits (Int.fdiv r2.1 (2 ^ min (Int.toNat 1) IntKind.u64.bits)) ||| BitVec.ofInt IntKind.u64.bits 9223372036854775808))) (IntKind.i64.wrap (x0.2.2.2 + 1)) true (!(x2 == x0.2.1))).bind fun r5 =>
 some (r5.1, ())
 else
 (num_Grow k x0.2.1 (IntKind.u64.wrap (BitVec.toNat (BitVec.ofInt IntKind.u64.bits (Int.fdiv r2.1 (2 ^ min (Int.toNat 1) IntKind.u64.bits)) ||| BitVec.ofInt IntKind.u64.bits 9223372036854775808))) (IntKind.i64.wrap (x0.2.2.2 + 1)) ((IntKind.u64.wrap (BitVec.toNat (BitVec.ofInt IntKind.u64.bits r2.1 &&& BitVec.ofInt IntKind.u64.bits 1))) != 0) (!(x2 == x0.2.1))).bind fun r6 =>
 some (r6.1, ())
 else
 (num_Grow k x0.2.1 r2.1 x0.2.2.2 (r1.1.2.1 != 0) (!(x2 == x0.2.1))).bind fun r7 =>
 some (r7.1, ())
theorem arith_plus.ok (k : Nat) : SpecOK Tryz.prog G0 121 ⟨[T29, T29, .bool], [T29], fun x => arith_plus k x.1 x.2.1 x.2.2.1⟩ :=
 evF_sound (E := (e31 k)) (fn := Tryz.f121) (e31.ok k) (by kernel_rfl) (by kernel_rfl) (by kernel_rfl) 8 .n trivial (fun xs => by kernel_rfl)
def e32 (k : Nat) : Env := (e31 k).add 121 ⟨[T29, T29, .bool], [T29], fun x => arith_plus k x.1 x.2.1 x.2.2.1⟩
theorem e32.ok (k : Nat) : (e32 k).OK Tryz.prog := (e31.ok k).add (arith_plus.ok k)
def bits_Len64 (k : Nat) (x0 : Ty.den (.int .u64)) : Option (HL [(.int .i64)]) :=
 bif (decide (x0 >= 4294967296)) then
 bif (decide ((Int.fdiv x0 (2 ^ min (Int.toNat 32) IntKind.u64.bits)) >= 65536)) then
 bif (decide ((Int.fdiv (Int.fdiv x0 (2 ^ min (Int.toNat 32) IntKind.u64.bits)) (2 ^ min (Int.toNat 16) IntKind.u64.bits)) >= 256)) then
 if 0 <= (IntKind.u8.wrap (Int.fdiv (Int.fdiv (Int.fdiv x0 (2 ^ min (Int.toNat 32) IntKind.u64.bits)) (2 ^ min (Int.toNat 16) IntKind.u64.bits)) (2 ^ min (Int.toNat 8) IntKind.u64.bits))) then (bytes0[Int.toNat (IntKind.u8.wrap (Int.fdiv (Int.fdiv (Int.fdiv x0 (2 ^ min (Int.toNat 32) IntKind.u64.bits)) (2 ^ min (Int.toNat 16) IntKind.u64.bits)) (2 ^ min (Int.toNat 8) IntKind.u64.bits)))]?).bind fun y1 =>
 some ((IntKind.i64.wrap ((IntKind.i64.wrap ((IntKind.i64.wrap (32 + 16)) + 8)) + (IntKind.i64.wrap (y1.toNat : Int)))), ())
 else none
 else
 if 0 <= (IntKind.u8.wrap (Int.fdiv (Int.fdiv x0 (2 ^ min (Int.toNat 32) IntKind.u64.bits)) (2 ^ min (Int.toNat 16) IntKind.u64.bits))) then (bytes0[Int.toNat (IntKind.u8.wrap (Int.fdiv (Int.fdiv x0 (2 ^ min (Int.toNat 32) IntKind.u64.bits)) (2 ^ min (Int.toNat 16) IntKind.u64.bits)))]?).bind fun y2 =>
 some ((IntKind.i64.wrap ((IntKind.i64.wrap (32 + 16)) + (IntKind.i64.wrap (y2.toNat : Int)))), ())
 else none
 else
 bif (decide ((Int.fdiv x0 (2 ^ min (Int.toNat 32) IntKind.u64.bits)) >= 256)) then
 if 0 <= (IntKind.u8.wrap (Int.fdiv (Int.fdiv x0 (2 ^ min (Int.toNat 32) IntKind.u64.bits)) (2 ^ min (Int.toNat 8) IntKind.u64.bits))) then (bytes0[Int.toNat (IntKind.u8.wrap (Int.fdiv (Int.fdiv x0 (2 ^ min (Int.toNat 32) IntKind.u64.bits)) (2 ^ min (Int.toNat 8) IntKind.u64.bits)))]?).bind fun y3 =>
 some ((IntKind.i64.wrap ((IntKind.i64.wrap (32 + 8)) + (IntKind.i64.wrap (y3.toNat : Int)))), ())
 else none
 else
 if 0 <= (IntKind.u8.wrap (Int.fdiv x0 (2 ^ min (Int.toNat 32) IntKind.u64.bits))) then (bytes0[Int.toNat (IntKind.u8.wrap (Int.fdiv x0 (2 ^ min (Int.toNat 32) IntKind.u64.bits)))]?).bind fun y4 =>
 some ((IntKind.i64.wrap (32 + (IntKind.i64.wrap (y4.toNat : Int)))), ())
 else none
 else
 bif (decide (x0 >= 65536)) then
 bif (decide ((Int.fdiv x0 (2 ^ min (Int.toNat 16) IntKind.u64.bits)) >= 256)) then
 if 0 <= (IntKind.u8.wrap (Int.fdiv (Int.fdiv x0 (2 ^ min (Int.toNat 16) IntKind.u64.bits)) (2 ^ min (Int.toNat 8) IntKind.u64.bits))) then (bytes0[Int.toNat (IntKind.u8.wrap (Int.fdiv (Int.fdiv x0 (2 ^ min (Int.toNat 16) IntKind.u64.bits)) (2 ^ min (Int.toNat 8) IntKind.u64.bits)))]?).bind fun y5 =>
 some ((IntKind.i64.wrap ((IntKind.i64.wrap ((IntKind.i64.wrap (0 + 16)) + 8)) + (IntKind.i64.wrap (y5.toNat : Int)))), ())
 else none
 else
 if 0 <= (IntKind.u8.wrap (Int.fdiv x0 (2 ^ min (Int.toNat 16) IntKind.u64.bits))) then (bytes0[Int.toNat (IntKind.u8.wrap (Int.fdiv x0 (2 ^ min (Int.toNat 16) IntKind.u64.bits)))]?).bind fun y6 =>
 some ((IntKind.i64.wrap ((IntKind.i64.wrap (0 + 16)) + (IntKind.i64.wrap (y6.toNat : Int)))), ())
 else none
 else
 bif (decide (x0 >= 256)) then
 if 0 <= (IntKind.u8.wrap (Int.fdiv x0 (2 ^ min (Int.toNat 8) IntKind.u64.bits))) then (bytes0[Int.toNat (IntKind.u8.wrap (Int.fdiv x0 (2 ^ min (Int.toNat 8) IntKind.u64.bits)))]?).bind fun y7 =>
 some ((IntKind.i64.wrap ((IntKind.i64.wrap (0 + 8)) + (IntKind.i64.wrap (y7.toNat : Int)))), ())
 else none
 else
 if 0 <= (IntKind.u8.wrap x0) then (bytes0[Int.toNat (IntKind.u8.wrap x0)]?).bind fun y8 =>
 some ((IntKind.i64.wrap (0 + (IntKind.i64.wrap (y8.toNat : Int)))), ())
 else none
theorem bits_Len64.ok (k : Nat) : SpecOK Tryz.prog G0 68 ⟨[(.int .u64)], [(.int .i64)], fun x => bits_Len64 k x.1⟩ :=
 evF_sound (E := (e32 k)) (fn := Tryz.f68) (e32.ok k) (by kernel_rfl) (by kernel_rfl) (by kernel_rfl) 8 .n trivial (fun xs => by kernel_rfl)
def e33 (k : Nat) : Env := (e32 k).add 68 ⟨[(.int .u64)], [(.int .i64)], fun x => bits_Len64 k x.1⟩
theorem e33.ok (k : Nat) : (e33 k).OK Tryz.prog := (e32.ok k).add (bits_Len64.ok k)
def bits_LeadingZeros64 (k : Nat) (x0 : Ty.den (.int .u64)) : Option (HL [(.int .i64)]) :=
 (bits_Len64 k x0).bind fun r1 =>
 some ((IntKind.i64.wrap (64 - r1.1)), ())
theorem bits_LeadingZeros64.ok (k : Nat) : SpecOK Tryz.prog G0 37 ⟨[(.int .u64)], [(.int .i64)], fun x => bits_LeadingZeros64 k x.1⟩ :=
 evF_sound (E := (e33 k)) (fn := Tryz.f37) (e33.ok k) (by kernel_rfl) (by kernel_rfl) (by kernel_rfl) 8 .n trivial (fun xs => by kernel_rfl)
def e34 (k : Nat) : Env := (e33 k).add 37 ⟨[(.int .u64)], [(.int .i64)], fun x => bits_LeadingZeros64 k x.1⟩
theorem e34.ok (k : Nat) : (e34 k).OK Tryz.prog := (e33.ok k).add (bits_LeadingZeros64.ok k)
def arith_minus (k : Nat) (x0 : Ty.den T29) (x1 : Ty.den T29) (x2 : Ty.den .bool) : Option (HL [T29]) :=
 (arith_lower k x1.2.2.1 (IntKind.i64.wrap (x0.2.2.2 - x1.2.2.2))).bind fun r1 =>
 bif r1.1.2.2 then
 (sub64F (0, r1.1.2.1, 1, ())).bind fun r2 =>
 (sub64F (x0.2.2.1, r1.1.1, r2.2.1, ())).bind fun r3 =>
 bif (r3.1 == 0) then
 (bits_LeadingZeros64 k r2.1).bind fun r4 =>
 bif (decide (r4.1 > 0)) then
 if r4.1 < 0 then none else
 if (IntKind.i64.wrap (64 - r4.1)) < 0 then none else
 if r4.1 < 0 then none else
 bif r1.1.2.2 then
 (num_Grow k x0.2.1 (IntKind.u64.wrap (BitVec.toNat (BitVec.ofInt IntKind.u64.bits (IntKind.u64.wrap (r2.1 * 2 ^ min (Int.toNat r4.1) IntKind.u64.bits)) ||| BitVec.ofInt IntKind.u64.bits (Int.fdiv 0 (2 ^ min (Int.toNat (IntKind.i64.wrap (64 - r4.1))) IntKind.u64.bits))))) (IntKind.i64.wrap ((IntKind.i64.wrap (x0.2.2.2 - 64)) - r4.1)) true (!(x2 == x0.2.1))).bind fun r5 =>
 some (r5.1, ())
 else
 (num_Grow k x0.2.1 (IntKind.u64.wrap (BitVec.toNat (BitVec.ofInt IntKind.u64.bits (IntKind.u64.wrap (r2.1 * 2 ^ min (Int.toNat r4.1) IntKind.u64.bits)) ||| BitVec.ofInt IntKind.u64.bits (Int.fdiv 0 (2 ^ min (Int.toNat (IntKind.i64.wrap (64 - r4.1))) IntKind.u64.bits))))) (IntKind.i64.wrap ((IntKind.i64.wrap (x0.2.2.2 - 64)) - r4.1)) ((IntKind.u64.wrap (0 * 2 ^ min (Int.toNat r4.1) IntKind.u64.bits)) != 0) (!(x2 == x0.2.1))).bind fun r6 =>
 some (r6.1, ())
 else
 bif r1.1.2.2 then
 (num_Grow k x0.2.1 r2.1 (IntKind.i64.wrap (x0.2.2.2 - 64)) true (!(x2 == x0.2.1))).bind fun r7 =>
 some (r7.1, ())
 else
 (num_Grow k x0.2.1 r2.1 (IntKind.i64.wrap (x0.2.2.2 - 64)) false (!(x2 == x0.2.1))).bind fun r8 =>
 some (r8.1, ())
 else
 (bits_LeadingZeros64 k r3.1).bind fun r9 =>
 bif (decide (r9.1 > 0)) then
 if r9.1 < 0 then none else
 if (IntKind.i64.wrap (64 - r9.1)) < 0 then none else
 if r9.1 < 0 then none else
 bif r1.1.2.2 then
 (num_Grow k x0.2.1 (IntKind.u64.wrap (BitVec.toNat (BitVec.ofInt IntKind.u64.bits (IntKind.u64.wrap (r3.1 * 2 ^ min (Int.toNat r9.1) IntKind.u64.bits)) ||| BitVec.ofInt IntKind.u64.bits (Int.fdiv r2.1 (2 ^ min (Int.toNat (IntKind.i64.wrap (64 - r9.1))) IntKind.u64.bits))))) (IntKind.i64.wrap (x0.2.2.2 - r9.1)) true (!(x2 == x0.2.1))).bind fun r10 =>
 some (r10.1, ())
 else
 (num_Grow k x0.2.1 (IntKind.u64.wrap (BitVec.toNat (BitVec.ofInt IntKind.u64.bits (IntKind.u64.wrap (r3.1 * 2 ^ min (Int.toNat r9.1) IntKind.u64.bits)) ||| BitVec.ofInt IntKind.u64.bits (Int.fdiv r2.1 (2 ^ min (Int.toNat (IntKind.i64.wrap (64 - r9.1))) IntKind.u64.bits))))) (IntKind.i64.wrap (x0.2.2.2 - r9.1)) ((IntKind.u64.wrap (r2.1 * 2 ^ min (Int.toNat r9.1) IntKind.u64.bits)) != 0) (!(x2 == x0.2.1))).bind fun r11 =>
 some (r11.1, ())
 else
 bif r1.1.2.2 then
 (num_Grow k x0.2.1 r3.1 x0.2.2.2 true (!(x2 == x0.2.1))).bind fun r12 =>
 some (r12.1, ())
 else
 (num_Grow k x0.2.1 r3.1 x0.2.2.2 (r2.1 != 0) (!(x2 == x0.2.1))).bind fun r13 =>
 some (r13.1, ())
 else
 (sub64F (0, r1.1.2.1, 0, ())).bind fun r14 =>
 (sub64F (x0.2.2.1, r1.1.1, r14.2.1, ())).bind fun r15 =>
 bif (r15.1 == 0) then
 (bits_LeadingZeros64 k r14.1).bind fun r16 =>
 bif (decide (r16.1 > 0)) then
 if r16.1 < 0 then none else
 if (IntKind.i64.wrap (64 - r16.1)) < 0 then none else
 if r16.1 < 0 then none else
 bif r1.1.2.2 then
 (num_Grow k x0.2.1 (IntKind.u64.wrap (BitVec.toNat (BitVec.ofInt IntKind.u64.bits (IntKind.u64.wrap (r14.1 * 2 ^ min (Int.toNat r16.1) IntKind.u64.bits)) ||| BitVec.ofInt IntKind.u64.bits (Int.fdiv 0 (2 ^ min (Int.toNat (IntKind.i64.wrap (64 - r16.1))) IntKind.u64.bits))))) (IntKind.i64.wrap ((IntKind.i64.wrap (x0.2.2.2 - 64)) - r16.1)) true (!(x2 == x0.2.1))).bind fun r17 =>
 some (r17.1, ())
 else
 (num_Grow k x0.2.1 (IntKind.u64.wrap (BitVec.toNat (BitVec.ofInt IntKind.u64.bits (IntKind.u64.wrap (r14.1 * 2 ^ min (Int.toNat r16.1) IntKind.u64.bits)) ||| BitVec.ofInt IntKind.u64.bits (Int.fdiv 0 (2 ^ min (Int.toNat (IntKind.i64.wrap (64 - r16.1))) IntKind.u64.bits))))) (IntKind.i64.wrap ((IntKind.i64.wrap (x0.2.2.2 - 64)) - r16.1)) ((IntKind.u64.wrap (0 * 2 ^ min (Int.toNat r16.1) IntKind.u64.bits)) != 0) (!(x2 == x0.2.1))).bind fun r18 =>
 some (r18.1, ())
 else
 bif r1.1.2.2 then
 (num_Grow k x0.2.1 r14.1 (IntKind.i64.wrap (x0.2.2.2 - 64)) true (!(x2 == x0.2.1))).bind fun r19 =>
 some (r19.1, ())
 else
 (num_Grow k x0.2.1 r14.1 (IntKind.i64.wrap (x0.2.2.2 - 64)) false (!(x2 == x0.2.1))).bind fun r20 =>
 some (r20.1, ())
 else
 (bits_LeadingZeros64 k r15.1).bind fun r21 =>
 bif (decide (r21.1 > 0)) then
 if r21.1 < 0 then none else
 if (IntKind.i64.wrap (64 - r21.1)) < 0 then none else
 if r21.1 < 0 then none else
 bif r1.1.2.2 then
 (num_Grow k x0.2.1 (IntKind.u64.wrap (BitVec.toNat (BitVec.ofInt IntKind.u64.bits (IntKind.u64.wrap (r15.1 * 2 ^ min (Int.toNat r21.1) IntKind.u64.bits)) ||| BitVec.ofInt IntKind.u64.bits (Int.fdiv r14.1 (2 ^ min (Int.toNat (IntKind.i64.wrap (64 - r21.1))) IntKind.u64.bits))))) (IntKind.i64.wrap (x0.2.2.2 - r21.1)) true (!(x2 == x0.2.1))).bind fun r22 =>
 some (r22.1, ())
 else
 (num_Grow k x0.2.1 (IntKind.u64.wrap (BitVec.toNat (BitVec.ofInt IntKind.u64.bits (IntKind.u64.wrap (r15.1 * 2 ^ min (Int.toNat r21.1) IntKind.u64.bits)) ||| BitVec.ofInt IntKind.u64.bits (Int.fdiv r14.1 (2 ^ min (Int.toNat (IntKind.i64.wrap (64 - r21.1))) IntKind.u64.bits))))) (IntKind.i64.wrap (x0.2.2.2 - r21.1)) ((IntKind.u64.wrap (r14.1 * 2 ^ min (Int.toNat r21.1) IntKind.u64.bits)) != 0) (!(x2 == x0.2.1))).bind fun r23 =>
 some (r23.1, ())
 else
 bif r1.1.2.2 then
 (num_Grow k x0.2.1 r15.1 x0.2.2.2 true (!(x2 == x0.2.1))).bind fun r24 =>
 some (r24.1, ())
 else
 (num_Grow k x0.2.1 r15.1 x0.2.2.2 (r14.1 != 0) (!(x2 == x0.2.1))).bind fun r25 =>
 some (r25.1, ())
theorem arith_minus.ok (k : Nat) : SpecOK Tryz.prog G0 122 ⟨[T29, T29, .bool], [T29], fun x => arith_minus k x.1 x.2.1 x.2.2.1⟩ :=
 evF_sound (E := (e34 k)) (fn := Tryz.f122) (e34.ok k) (by kernel_rfl) (by kernel_rfl) (by kernel_rfl) 8 .n trivial (fun xs => by kernel_rfl)
def e35 (k : Nat) : Env := (e34 k).add 122 ⟨[T29, T29, .bool], [T29], fun x => arith_minus k x.1 x.2.1 x.2.2.1⟩
theorem e35.ok (k : Nat) : (e35 k).OK Tryz.prog := (e34.ok k).add (arith_minus.ok k)
def arith_Add (k : Nat) (x0 : Ty.den T29) (x1 : Ty.den T29) (x2 : Ty.den .bool) : Option (HL [T29]) :=
 (arith_fair k x0).bind fun r1 =>
 (arith_fair k x1).bind fun r2 =>
 bif (r1.1.1 == 2) then
 bif (r2.1.1 == 2) then
 bif (!(r1.1.2.1 == r2.1.2.1)) then
 (num_Infinite k (!x2)).bind fun r3 =>
 some (r3.1, ())
 else
 bif (r1.1.1 == 2) then
 some (r1.1, ())
 else
 bif (r2.1.1 == 0) then
 some (r1.1, ())
 else
 bif (r2.1.1 == 2) then
 some (r2.1, ())
 else
 bif (r1.1.1 == 0) then
 some (r2.1, ())
 else
 bif (decide (r2.1.2.2.2 > r1.1.2.2.2)) then
 bif (r2.1.2.1 == r1.1.2.1) then
 (arith_plus k r2.1 r1.1 x2).bind fun r4 =>
 some (r4.1, ())
 else
 bif (r2.1.2.2.2 == r1.1.2.2.2) then
 bif (r2.1.2.2.1 == r1.1.2.2.1) then
 some ((0, false, 0, 0), ())
 else
 (arith_minus k r2.1 r1.1 x2).bind fun r5 =>
 some (r5.1, ())
 else
 (arith_minus k r2.1 r1.1 x2).bind fun r6 =>
 some (r6.1, ())
 else
 bif (r2.1.2.2.2 == r1.1.2.2.2) then
 bif (decide (r2.1.2.2.1 > r1.1.2.2.1)) then
 bif (r2.1.2.1 == r1.1.2.1) then
 (arith_plus k r2.1 r1.1 x2).bind fun r7 =>
 some (r7.1, ())
 else
 bif (r2.1.2.2.2 == r1.1.2.2.2) then
 bif (r2.1.2.2.1 == r1.1.2.2.1) then
 some ((0, false, 0, 0), ())
 else
 (arith_minus k r2.1 r1.1 x2).bind fun r8 =>
 some (r8.1, ())
 else
 (arith_minus k r2.1 r1.1 x2).bind fun r9 =>
 some (r9.1, ())
 else
 bif (r1.1.2.1 == r2.1.2.1) then
 (arith_plus k r1.1 r2.1 x2).bind fun r10 =>
 some (r10.1, ())
 else
 bif (r1.1.2.2.2 == r2.1.2.2.2) then
 bif (r1.1.2.2.1 == r2.1.2.2.1) then
 some ((0, false, 0, 0), ())
 else
 (arith_minus k r1.1 r2.1 x2).bind fun r11 =>
 some (r11.1, ())
 else
 (arith_minus k r1.1 r2.1 x2).bind fun r12 =>
 some (r12.1, ())
 else
 bif (r1.1.2.1 == r2.1.2.1) then
 (arith_plus k r1.1 r2.1 x2).bind fun r13 =>
 some (r13.1, ())
 else
 bif (r1.1.2.2.2 == r2.1.2.2.2) then
 bif (r1.1.2.2.1 == r2.1.2.2.1) then
 some ((0, false, 0, 0), ())
 else
 (arith_minus k r1.1 r2.1 x2).bind fun r14 =>
 some (r14.1, ())
 else
 (arith_minus k r1.1 r2.1 x2).bind fun r15 =>
 some (r15.1, ())
 else
 bif (r1.1.1 == 2) then
 some (r1.1, ())
 else
 bif (r2.1.1 == 0) then
 some (r1.1, ())
 else
 bif (r2.1.1 == 2) then
 some (r2.1, ())
 else
 bif (r1.1.1 == 0) then
 some (r2.1, ())
 else
 bif (decide (r2.1.2.2.2 > r1.1.2.2.2)) then
 bif (r2.1.2.1 == r1.1.2.1) then
 (arith_plus k r2.1 r1.1 x2).bind fun r16 =>
 some (r16.1, ())
 else
 bif (r2.1.2.2.2 == r1.1.2.2.2) then
 bif (r2.1.2.2.1 == r1.1.2.2.1) then
 some ((0, false, 0, 0), ())
 else
 (arith_minus k r2.1 r1.1 x2).bind fun r17 =>
 some (r17.1, ())
 else
 (arith_minus k r2.1 r1.1 x2).bind fun r18 =>
 some (r18.1, ())
 else
 bif (r2.1.2.2.2 == r1.1.2.2.2) then
 bif (decide (r2.1.2.2.1 > r1.1.2.2.1)) then
 bif (r2.1.2.1 == r1.1.2.1) then
 (arith_plus k r2.1 r1.1 x2).bind fun r19 =>
 some (r19.1, ())
 else
 bif (r2.1.2.2.2 == r1.1.2.2.2) then
 bif (r2.1.2.2.1 == r1.1.2.2.1) then
 some ((0, false, 0, 0), ())
 else
 (arith_minus k r2.1 r1.1 x2).bind fun r20 =>
 some (r20.1, ())
 else
 (arith_minus k r2.1 r1.1 x2).bind fun r21 =>
 some (r21.1, ())
 else
 bif (r1.1.2.1 == r2.1.2.1) then
 (arith_plus k r1.1 r2.1 x2).bind fun r22 =>
 some (r22.1, ())
 else
 bif (r1.1.2.2.2 == r2.1.2.2.2) then
 bif (r1.1.2.2.1 == r2.1.2.2.1) then
 some ((0, false, 0, 0), ())
 else
 (arith_minus k r1.1 r2.1 x2).bind fun r23 =>
 some (r23.1, ())
 else
 (arith_minus k r1.1 r2.1 x2).bind fun r24 =>
 some (r24.1, ())
 else
 bif (r1.1.2.1 == r2.1.2.1) then
 (arith_plus k r1.1 r2.1 x2).bind fun r25 =>
 some (r25.1, ())
 else
 bif (r1.1.2.2.2 == r2.1.2.2.2) then
 bif (r1.1.2.2.1 == r2.1.2.2.1) then
 some ((0, false, 0, 0), ())
 else
 (arith_minus k r1.1 r2.1 x2).bind fun r26 =>
 some (r26.1, ())
 else
 (arith_minus k r1.1 r2.1 x2).bind fun r27 =>
 some (r27.1, ())
 else
 bif (r1.1.1 == 2) then
 some (r1.1, ())
 else
 bif (r2.1.1 == 0) then
 some (r1.1, ())
 else
 bif (r2.1.1 == 2) then
 some (r2.1, ())
 else
 bif (r1.1.1 == 0) then
 some (r2.1, ())
 else
 bif (decide (r2.1.2.2.2 > r1.1.2.2.2)) then
 bif (r2.1.2.1 == r1.1.2.1) then
 (arith_plus k r2.1 r1.1 x2).bind fun r28 =>
 some (r28.1, ())
 else
 bif (r2.1.2.2.2 == r1.1.2.2.2) then
 bif (r2.1.2.2.1 == r1.1.2.2.1) then
 some ((0, false, 0, 0), ())
 else
 (arith_minus k r2.1 r1.1 x2).bind fun r29 =>
 some (r29.1, ())
 else
 (arith_minus k r2.1 r1.1 x2).bind fun r30 =>
 some (r30.1, ())
 else
 bif (r2.1.2.2.2 == r1.1.2.2.2) then
 bif (decide (r2.1.2.2.1 > r1.1.2.2.1)) then
 bif (r2.1.2.1 == r1.1.2.1) then
 (arith_plus k r2.1 r1.1 x2).bind fun r31 =>
 some (r31.1, ())
 else
 bif (r2.1.2.2.2 == r1.1.2.2.2) then
 bif (r2.1.2.2.1 == r1.1.2.2.1) then
 some ((0, false, 0, 0), ())
 else
 (arith_minus k r2.1 r1.1 x2).bind fun r32 =>
 some (r32.1, ())
 else
 (arith_minus k r2.1 r1.1 x2).bind fun r33 =>
 some (r33.1, ())
 else
 bif (r1.1.2.1 == r2.1.2.1) then
 (arith_plus k r1.1 r2.1 x2).bind fun r34 =>
 some (r34.1, ())
 else
 bif (r1.1.2.2.2 == r2.1.2.2.2) then
 bif (r1.1.2.2.1 == r2.1.2.2.1) then
 some ((0, false, 0, 0), ())
 else
 (arith_minus k r1.1 r2.1 x2).bind fun r35 =>
 some (r35.1, ())
 else
 (arith_minus k r1.1 r2.1 x2).bind fun r36 =>
 some (r36.1, ())
 else
 bif (r1.1.2.1 == r2.1.2.1) then
 (arith_plus k r1.1 r2.1 x2).bind fun r37 =>
 some (r37.1, ())
 else
 bif (r1.1.2.2.2 == r2.1.2.2.2) then
 bif (r1.1.2.2.1 == r2.1.2.2.1) then
 some ((0, false, 0, 0), ())
 else
 (arith_minus k r1.1 r2.1 x2).bind fun r38 =>
 some (r38.1, ())
 else
 (arith_minus k r1.1 r2.1 x2).bind fun r39 =>
 some (r39.1, ())
theorem arith_Add.ok (k : Nat) : SpecOK Tryz.prog G0 110 ⟨[T29, T29, .bool], [T29], fun x => arith_Add k x.1 x.2.1 x.2.2.1⟩ :=
 evF_sound (E := (e35 k)) (fn := Tryz.f110) (e35.ok k) (by kernel_rfl) (by kernel_rfl) (by kernel_rfl) 8 .n trivial (fun xs => by kernel_rfl)
def e36 (k : Nat) : Env := (e35 k).add 110 ⟨[T29, T29, .bool], [T29], fun x => arith_Add k x.1 x.2.1 x.2.2.1⟩
theorem e36.ok (k : Nat) : (e36 k).OK Tryz.prog := (e35.ok k).add (arith_Add.ok k)
abbrev ivop_Add_l0_i : Mask := ⟨[(0, 2, (.k (.ptr 2 0 0))), (0, 3, (.k (.ptr 3 0 0))), (0, 4, (.k (.ptr 4 0 0))), (0, 10, (.v T57)), (0, 11, (.v (.int .i64))), (0, 12, (.v (.int .i64)))], [(2, .cells (.v T31)), (3, .cells (.v T29)), (4, .cells (.v T29))], [], 0⟩
abbrev ivop_Add_l0_o : List Out := [⟨.exit 0, ⟨[(0, 2, (.k (.ptr 2 0 0))), (0, 3, (.k (.ptr 3 0 0))), (0, 4, (.k (.ptr 4 0 0)))], [(2, .cells (.v T31)), (3, .cells (.v T29)), (4, .cells (.v T29))], [], 0⟩⟩]
def ivop_Add_l0 (k : Nat) : Nat -> Mask.den ivop_Add_l0_i -> Option (denS ivop_Add_l0_o)
| 0, _ => none
| m + 1, x =>
 bif (decide (x.1.2.2.2.2.2.1 < x.1.2.2.2.2.1)) then
 if 0 <= x.1.2.2.2.2.2.1 then (x.1.2.2.2.1[Int.toNat x.1.2.2.2.2.2.1]?).bind fun y3 =>
 bif (x.1.2.2.2.2.2.1 == 0) then
 ivop_Add_l0 k m (((), (), (), x.1.2.2.2.1, x.1.2.2.2.2.1, (IntKind.i64.wrap (x.1.2.2.2.2.2.1 + 1)), ()), (x.2.1, y3.2.1, y3.2.2, ()))
 else
 (arith_Add k x.2.2.1 y3.2.1 false).bind fun r4 =>
 (arith_Add k x.2.2.2.1 y3.2.2 true).bind fun r5 =>
 ivop_Add_l0 k m (((), (), (), x.1.2.2.2.1, x.1.2.2.2.2.1, (IntKind.i64.wrap (x.1.2.2.2.2.2.1 + 1)), ()), (x.2.1, r4.1, r5.1, ()))
 else none
 else
 some (Sum.inl (((), (), (), ()), (x.2.1, x.2.2.1, x.2.2.2.1, ())))
abbrev ivop_Add_l0_seg (k : Nat) : Seg := ⟨⟨0, 35, false, [], []⟩, 92, [.b, .s2, .s1, .s2, .s2, .s2], ivop_Add_l0_i, ivop_Add_l0_o, ivop_Add_l0 k k⟩
theorem ivop_Add_l0_seg.ok (k : Nat) : SegOK Tryz.prog (e36 k) (ivop_Add_l0_seg k) :=
 SegOK.loop (e36.ok k) (by kernel_rfl) (S := ivop_Add_l0_seg k) (c := atR (codeOf (e36 k) 92) [.l, .b, .s2, .s1, .s2, .s2, .s2]) (by kernel_rfl) (ivop_Add_l0 k) k rfl (fun _ => rfl) 8 .n trivial (fun k' x => by kernel_rfl)
def ivop_Add (k : Nat) (x0 : Ty.den T57) : Option (HL [T31]) :=
 (ivop_none k x0).bind fun r1 =>
 bif r1.1 then
 (iv_None k).bind fun r2 =>
 some (r2.1, ())
 else
 (ivop_Add_l0 k k (((), (), (), x0, (x0.length : Int), 0, ()), ((false, (0, false, 0, 0), 0, false, 0, 0), (0, false, 0, 0), (0, false, 0, 0), ()))).bind fun q6 =>
 Sum.elim (fun z7 =>
 (iv_Make k z7.2.2.1 z7.2.2.2.1).bind fun r8 =>
 some (r8.1, ()))
 (fun q6' =>
 none) q6
theorem ivop_Add.ok (k : Nat) : SpecOK Tryz.prog G0 92 ⟨[T57], [T31], fun x => ivop_Add k x.1⟩ :=
 evF_sound (E := (e36 k)) (fn := Tryz.f92) (e36.ok k) (by kernel_rfl) (by kernel_rfl) (by kernel_rfl) 8 (.two .n (.two .n (.two .n (.two (.two .n (.two (.use (ivop_Add_l0_seg k)) .n)) .n)))) ⟨trivial, ⟨trivial, ⟨trivial, ⟨⟨trivial, ⟨(ivop_Add_l0_seg.ok k), trivial⟩⟩, trivial⟩⟩⟩⟩ (fun xs => by kernel_rfl)
def e37 (k : Nat) : Env := (e36 k).add 92 ⟨[T57], [T31], fun x => ivop_Add k x.1⟩
theorem e37.ok (k : Nat) : (e37 k).OK Tryz.prog := (e36.ok k).add (ivop_Add.ok k)
def ivop_Neg (k : Nat) (x0 : Ty.den T31) : Option (HL [T31]) :=
 (ivop_none k [x0]).bind fun r1 =>
 bif r1.1 then
 (iv_None k).bind fun r2 =>
 some (r2.1, ())
 else
 (num_Neg k x0.2.2).bind fun r3 =>
 (num_Neg k x0.2.1).bind fun r4 =>
 (iv_Make k r3.1 r4.1).bind fun r5 =>
 some (r5.1, ())
theorem ivop_Neg.ok (k : Nat) : SpecOK Tryz.prog G0 93 ⟨[T31], [T31], fun x => ivop_Neg k x.1⟩ :=
 evF_sound (E := (e37 k)) (fn := Tryz.f93) (e37.ok k) (by kernel_rfl) (by kernel_rfl) (by kernel_rfl) 8 .n trivial (fun xs => by kernel_rfl)
def e38 (k : Nat) : Env := (e37 k).add 93 ⟨[T31], [T31], fun x => ivop_Neg k x.1⟩
theorem e38.ok (k : Nat) : (e38 k).OK Tryz.prog := (e37.ok k).add (ivop_Neg.ok k)
def ivop_Sub (k : Nat) (x0 : Ty.den T31) (x1 : Ty.den T31) : Option (HL [T31]) :=
 (ivop_Neg k x1).bind fun r1 =>
 (ivop_Add k [x0, r1.1]).bind fun r2 =>
 some (r2.1, ())
theorem ivop_Sub.ok (k : Nat) : SpecOK Tryz.prog G0 73 ⟨[T31, T31], [T31], fun x => ivop_Sub k x.1 x.2.1⟩ :=
 evF_sound (E := (e38 k)) (fn := Tryz.f73) (e38.ok k) (by kernel_rfl) (by kernel_rfl) (by kernel_rfl) 8 .n trivial (fun xs => by kernel_rfl)
def e39 (k : Nat) : Env := (e38 k).add 73 ⟨[T31, T31], [T31], fun x => ivop_Sub k x.1 x.2.1⟩
theorem e39.ok (k : Nat) : (e39 k).OK Tryz.prog := (e38.ok k).add (ivop_Sub.ok k)
def polar_positive (k : Nat) : Option (HL [T31]) :=
 (num_Infinite k false).bind fun r1 =>
 (iv_Make k (0, false, 0, 0) r1.1).bind fun r2 =>
 some (r2.1, ())
theorem polar_positive.ok (k : Nat) : SpecOK Tryz.prog G0 75 ⟨[], [T31], fun x => polar_positive k⟩ :=
 evF_sound (E := (e39 k)) (fn := Tryz.f75) (e39.ok k) (by kernel_rfl) (by kernel_rfl) (by kernel_rfl) 8 .n trivial (fun xs => by kernel_rfl)
def e40 (k : Nat) : Env := (e39 k).add 75 ⟨[], [T31], fun x => polar_positive k⟩
theorem e40.ok (k : Nat) : (e40 k).OK Tryz.prog := (e39.ok k).add (polar_positive.ok k)
def ivop_Abs (k : Nat) (x0 : Ty.den T31) : Option (HL [T31]) :=
 (ivop_none k [x0]).bind fun r1 =>
 bif r1.1 then
 (iv_None k).bind fun r2 =>
 some (r2.1, ())
 else
 (num_Sign k x0.2.1).bind fun r3 =>
 bif (decide (r3.1 >= 0)) then
 some (x0, ())
 else
 (num_Sign k x0.2.2).bind fun r4 =>
 bif (decide (r4.1 <= 0)) then
 (ivop_Neg k x0).bind fun r5 =>
 some (r5.1, ())
 else
 (num_Neg k x0.2.1).bind fun r6 =>
 (num_Most k [x0.2.2, r6.1]).bind fun r7 =>
 (iv_Make k (0, false, 0, 0) r7.1).bind fun r8 =>
 some (r8.1, ())
theorem ivop_Abs.ok (k : Nat) : SpecOK Tryz.prog G0 98 ⟨[T31], [T31], fun x => ivop_Abs k x.1⟩ :=
 evF_sound (E := (e40 k)) (fn := Tryz.f98) (e40.ok k) (by kernel_rfl) (by kernel_rfl) (by kernel_rfl) 8 .n trivial (fun xs => by kernel_rfl)
def e41 (k : Nat) : Env := (e40 k).add 98 ⟨[T31], [T31], fun x => ivop_Abs k x.1⟩
theorem e41.ok (k : Nat) : (e41 k).OK Tryz.prog := (e40.ok k).add (ivop_Abs.ok k)
def bits_Mul64 (k : Nat) (x0 : Ty.den (.int .u64)) (x1 : Ty.den (.int .u64)) : Option (HL [(.int .u64), (.int .u64)]) :=
 some ((IntKind.u64.wrap ((IntKind.u64.wrap ((IntKind.u64.wrap ((Int.fdiv x0 (2 ^ min (Int.toNat 32) IntKind.u64.bits)) * (Int.fdiv x1 (2 ^ min (Int.toNat 32) IntKind.u64.bits)))) + (Int.fdiv (IntKind.u64.wrap ((IntKind.u64.wrap ((Int.fdiv x0 (2 ^ min (Int.toNat 32) IntKind.u64.bits)) * (IntKind.u64.wrap (BitVec.toNat (BitVec.ofInt IntKind.u64.bits x1 &&& BitVec.ofInt IntKind.u64.bits 4294967295))))) + (Int.fdiv (IntKind.u64.wrap ((IntKind.u64.wrap (BitVec.toNat (BitVec.ofInt IntKind.u64.bits x0 &&& BitVec.ofInt IntKind.u64.bits 4294967295))) * (IntKind.u64.wrap (BitVec.toNat (BitVec.ofInt IntKind.u64.bits x1 &&& BitVec.ofInt IntKind.u64.bits 4294967295))))) (2 ^ min (Int.toNat 32) IntKind.u64.bits)))) (2 ^ min (Int.toNat 32) IntKind.u64.bits)))) + (Int.fdiv (IntKind.u64.wrap ((IntKind.u64.wrap (BitVec.toNat (BitVec.ofInt IntKind.u64.bits (IntKind.u64.wrap ((IntKind.u64.wrap ((Int.fdiv x0 (2 ^ min (Int.toNat 32) IntKind.u64.bits)) * (IntKind.u64.wrap (BitVec.toNat (BitVec.ofInt IntKind.u64.bits x1 &&& BitVec.ofInt IntKind.u64.bits 4294967295))))) + (Int.fdiv (IntKind.u64.wrap ((IntKind.u64.wrap (BitVec.toNat (BitVec.ofInt IntKind.u64.bits x0 &&& BitVec.ofInt IntKind.u64.bits 4294967295))) * (IntKind.u64.wrap (BitVec.toNat (BitVec.ofInt IntKind.u64.bits x1 &&& BitVec.ofInt IntKind.u64.bits 4294967295))))) (2 ^ min (Int.toNat 32) IntKind.u64.bits)))) &&& BitVec.ofInt IntKind.u64.bits 4294967295))) + (IntKind.u64.wrap ((IntKind.u64.wrap (BitVec.toNat (BitVec.ofInt IntKind.u64.bits x0 &&& BitVec.ofInt IntKind.u64.bits 4294967295))) * (Int.fdiv x1 (2 ^ min (Int.toNat 32) IntKind.u64.bits)))))) (2 ^ min (Int.toNat 32) IntKind.u64.bits)))), (IntKind.u64.wrap (x0 * x1)), ())
theorem bits_Mul64.ok (k : Nat) : SpecOK Tryz.prog G0 114 ⟨[(.int .u64), (.int .u64)], [(.int .u64), (.int .u64)], fun x => bits_Mul64 k x.1 x.2.1⟩ :=
 evF_sound (E := (e41 k)) (fn := Tryz.f114) (e41.ok k) (by kernel_rfl) (by kernel_rfl) (by kernel_rfl) 8 .n trivial (fun xs => by kernel_rfl)
def e42 (k : Nat) : Env := (e41 k).add 114 ⟨[(.int .u64), (.int .u64)], [(.int .u64), (.int .u64)], fun x => bits_Mul64 k x.1 x.2.1⟩
theorem e42.ok (k : Nat) : (e42 k).OK Tryz.prog := (e41.ok k).add (bits_Mul64.ok k)
def arith_Mul (k : Nat) (x0 : Ty.den T29) (x1 : Ty.den T29) (x2 : Ty.den .bool) : Option (HL [T29]) :=
 (arith_fair k x0).bind fun r1 =>
 (arith_fair k x1).bind fun r2 =>
 bif (r1.1.1 == 0) then
 some ((0, false, 0, 0), ())
 else
 bif (r2.1.1 == 0) then
 some ((0, false, 0, 0), ())
 else
 bif (r1.1.1 == 2) then
 (num_Infinite k (!(r1.1.2.1 == r2.1.2.1))).bind fun r3 =>
 some (r3.1, ())
 else
 bif (r2.1.1 == 2) then
 (num_Infinite k (!(r1.1.2.1 == r2.1.2.1))).bind fun r4 =>
 some (r4.1, ())
 else
 (bits_Mul64 k r1.1.2.2.1 r2.1.2.2.1).bind fun r5 =>
 bif (decide (r5.1 < 9223372036854775808)) then
 (num_Grow k (!(r1.1.2.1 == r2.1.2.1)) (IntKind.u64.wrap (BitVec.toNat (BitVec.ofInt IntKind.u64.bits (IntKind.u64.wrap (r5.1 * 2 ^ min (Int.toNat 1) IntKind.u64.bits)) ||| BitVec.ofInt IntKind.u64.bits (Int.fdiv r5.2.1 (2 ^ min (Int.toNat 63) IntKind.u64.bits))))) (IntKind.i64.wrap ((IntKind.i64.wrap ((IntKind.i64.wrap (r1.1.2.2.2 + r2.1.2.2.2)) + 64)) - 1)) ((IntKind.u64.wrap (r5.2.1 * 2 ^ min (Int.toNat 1) IntKind.u64.bits)) != 0) (!(x2 == (!(r1.1.2.1 == r2.1.2.1))))).bind fun r6 =>
 some (r6.1, ())
 else
 (num_Grow k (!(r1.1.2.1 == r2.1.2.1)) r5.1 (IntKind.i64.wrap ((IntKind.i64.wrap (r1.1.2.2.2 + r2.1.2.2.2)) + 64)) (r5.2.1 != 0) (!(x2 == (!(r1.1.2.1 == r2.1.2.1))))).bind fun r7 =>
 some (r7.1, ())
theorem arith_Mul.ok (k : Nat) : SpecOK Tryz.prog G0 99 ⟨[T29, T29, .bool], [T29], fun x => arith_Mul k x.1 x.2.1 x.2.2.1⟩ :=
 evF_sound (E := (e42 k)) (fn := Tryz.f99) (e42.ok k) (by kernel_rfl) (by kernel_rfl) (by kernel_rfl) 8 .n trivial (fun xs => by kernel_rfl)
def e43 (k : Nat) : Env := (e42 k).add 99 ⟨[T29, T29, .bool], [T29], fun x => arith_Mul k x.1 x.2.1 x.2.2.1⟩
theorem e43.ok (k : Nat) : (e43 k).OK Tryz.prog := (e42.ok k).add (arith_Mul.ok k)
def ivop_Sqr (k : Nat) (x0 : Ty.den T31) : Option (HL [T31]) :=
 (ivop_Abs k x0).bind fun r1 =>
 bif r1.1.1 then
 some (r1.1, ())
 else
 (arith_Mul k r1.1.2.1 r1.1.2.1 false).bind fun r2 =>
 (arith_Mul k r1.1.2.2 r1.1.2.2 true).bind fun r3 =>
 (iv_Make k r2.1 r3.1).bind fun r4 =>
 some (r4.1, ())
theorem ivop_Sqr.ok (k : Nat) : SpecOK Tryz.prog G0 78 ⟨[T31], [T31], fun x => ivop_Sqr k x.1⟩ :=
 evF_sound (E := (e43 k)) (fn := Tryz.f78) (e43.ok k) (by kernel_rfl) (by kernel_rfl) (by kernel_rfl) 8 .n trivial (fun xs => by kernel_rfl)
def e44 (k : Nat) : Env := (e43 k).add 78 ⟨[T31], [T31], fun x => ivop_Sqr k x.1⟩
theorem e44.ok (k : Nat) : (e44 k).OK Tryz.prog := (e43.ok k).add (ivop_Sqr.ok k)
def ivop_positive (k : Nat) : Option (HL [T31]) :=
 (num_Infinite k false).bind fun r1 =>
 (iv_Make k (0, false, 0, 0) r1.1).bind fun r2 =>
 some (r2.1, ())
theorem ivop_positive.ok (k : Nat) : SpecOK Tryz.prog G0 111 ⟨[], [T31], fun x => ivop_positive k⟩ :=
 evF_sound (E := (e44 k)) (fn := Tryz.f111) (e44.ok k) (by kernel_rfl) (by kernel_rfl) (by kernel_rfl) 8 .n trivial (fun xs => by kernel_rfl)
def e45 (k : Nat) : Env := (e44 k).add 111 ⟨[], [T31], fun x => ivop_positive k⟩
theorem e45.ok (k : Nat) : (e45 k).OK Tryz.prog := (e44.ok k).add (ivop_positive.ok k)
def quot_fair (k : Nat) (x0 : Ty.den T29) : Option (HL [T29]) :=
 (num_May k x0).bind fun r1 =>
 bif (!r1.1) then
 some ((0, false, 0, 0), ())
 else
 some (x0, ())
theorem quot_fair.ok (k : Nat) : SpecOK Tryz.prog G0 123 ⟨[T29], [T29], fun x => quot_fair k x.1⟩ :=
 evF_sound (E := (e45 k)) (fn := Tryz.f123) (e45.ok k) (by kernel_rfl) (by kernel_rfl) (by kernel_rfl) 8 .n trivial (fun xs => by kernel_rfl)
def e46 (k : Nat) : Env := (e45 k).add 123 ⟨[T29], [T29], fun x => quot_fair k x.1⟩
theorem e46.ok (k : Nat) : (e46 k).OK Tryz.prog := (e45.ok k).add (quot_fair.ok k)
abbrev nat_cut_l0_i : Mask := ⟨[(0, 0, (.v T154))], [], [], 0⟩
abbrev nat_cut_l0_o : List Out := [⟨.exit 0, ⟨[(0, 0, (.v T154))], [], [], 0⟩⟩]
def nat_cut_l0 (k : Nat) : Nat -> Mask.den nat_cut_l0_i -> Option (denS nat_cut_l0_o)
| 0, _ => none
| m + 1, x =>
 bif (decide ((x.1.1.length : Int) > 0)) then
 if 0 <= (IntKind.i64.wrap ((x.1.1.length : Int) - 1)) then (x.1.1[Int.toNat (IntKind.i64.wrap ((x.1.1.length : Int) - 1))]?).bind fun y1 =>
 bif (y1 == 0) then
 if (0 : Int) <= 0 /\ 0 <= (IntKind.i64.wrap ((x.1.1.length : Int) - 1)) /\ (IntKind.i64.wrap ((x.1.1.length : Int) - 1)) <= (x.1.1.length : Int) then
 nat_cut_l0 k m (((List.drop (Int.toNat 0) (List.take (Int.toNat (IntKind.i64.wrap ((x.1.1.length : Int) - 1))) x.1.1)), ()), ())
 else none
 else
 some (Sum.inl ((x.1.1, ()), ()))
 else none
 else
 some (Sum.inl ((x.1.1, ()), ()))
abbrev nat_cut_l0_seg (k : Nat) : Seg := ⟨⟨0, 21, false, [], []⟩, 134, [.b, .s1, .s2], nat_cut_l0_i, nat_cut_l0_o, nat_cut_l0 k k⟩
theorem nat_cut_l0_seg.ok (k : Nat) : SegOK Tryz.prog (e46 k) (nat_cut_l0_seg k) :=
 SegOK.loop (e46.ok k) (by kernel_rfl) (S := nat_cut_l0_seg k) (c := atR (codeOf (e46 k) 134) [.l, .b, .s1, .s2]) (by kernel_rfl) (nat_cut_l0 k) k rfl (fun _ => rfl) 8 .n trivial (fun k' x => by kernel_rfl)
def nat_cut (k : Nat) (x0 : Ty.den T154) : Option (HL [T154]) :=
 (nat_cut_l0 k k ((x0, ()), ())).bind fun q2 =>
 Sum.elim (fun z3 =>
 some (z3.1.1, ()))
 (fun q2' =>
 none) q2
theorem nat_cut.ok (k : Nat) : SpecOK Tryz.prog G0 134 ⟨[T154], [T154], fun x => nat_cut k x.1⟩ :=
 evF_sound (E := (e46 k)) (fn := Tryz.f134) (e46.ok k) (by kernel_rfl) (by kernel_rfl) (by kernel_rfl) 8 (.two .n (.two (.two (.use (nat_cut_l0_seg k)) .n) .n)) ⟨trivial, ⟨⟨(nat_cut_l0_seg.ok k), trivial⟩, trivial⟩⟩ (fun xs => by kernel_rfl)
def e47 (k : Nat) : Env := (e46 k).add 134 ⟨[T154], [T154], fun x => nat_cut k x.1⟩
theorem e47.ok (k : Nat) : (e47 k).OK Tryz.prog := (e46.ok k).add (nat_cut.ok k)
abbrev nat_Shl_l0_i : Mask := ⟨[(0, 5, (.v (.int .i64))), (0, 6, (.v (.int .i64))), (0, 7, (.k (.arr 35 0))), (0, 36, (.v T154)), (0, 37, (.v (.int .i64))), (0, 38, (.v (.int .i64)))], [(35, .arr 161 (.int .u32))], [], 0⟩
abbrev nat_Shl_l0_o : List Out := [⟨.exit 1, ⟨[(0, 7, (.k (.arr 35 0)))], [(35, .arr 161 (.int .u32))], [], 0⟩⟩]
def nat_Shl_l0 (k : Nat) : Nat -> Mask.den nat_Shl_l0_i -> Option (denS nat_Shl_l0_o)
| 0, _ => none
| m + 1, x =>
 bif (decide (x.1.2.2.2.2.2.1 < x.1.2.2.2.2.1)) then
 if 0 <= x.1.2.2.2.2.2.1 then (x.1.2.2.2.1[Int.toNat x.1.2.2.2.2.2.1]?).bind fun y2 =>
 if x.1.2.1 < 0 then none else
 if 0 <= (IntKind.i64.wrap (x.1.2.2.2.2.2.1 + x.1.1)) then (x.2.1[Int.toNat (IntKind.i64.wrap (x.1.2.2.2.2.2.1 + x.1.1))]?).bind fun _ =>
 (x.2.1[(Int.toNat (IntKind.i64.wrap (x.1.2.2.2.2.2.1 + x.1.1)))]?).bind fun y4 =>
 if 0 <= (IntKind.i64.wrap (x.1.2.2.2.2.2.1 + x.1.1)) then (x.2.1[Int.toNat (IntKind.i64.wrap (x.1.2.2.2.2.2.1 + x.1.1))]?).bind fun _ =>
 (x.2.1[(Int.toNat (IntKind.i64.wrap (x.1.2.2.2.2.2.1 + x.1.1)))]?).bind fun y6 =>
 if 0 <= (IntKind.i64.wrap ((IntKind.i64.wrap (x.1.2.2.2.2.2.1 + x.1.1)) + 1)) then ((x.2.1.set (Int.toNat (IntKind.i64.wrap (x.1.2.2.2.2.2.1 + x.1.1))) (IntKind.u32.wrap (BitVec.toNat (BitVec.ofInt IntKind.u32.bits y4 ||| BitVec.ofInt IntKind.u32.bits (IntKind.u32.wrap (IntKind.u64.wrap ((IntKind.u64.wrap y2) * 2 ^ min (Int.toNat x.1.2.1) IntKind.u64.bits)))))))[Int.toNat (IntKind.i64.wrap ((IntKind.i64.wrap (x.1.2.2.2.2.2.1 + x.1.1)) + 1))]?).bind fun _ =>
 ((x.2.1.set (Int.toNat (IntKind.i64.wrap (x.1.2.2.2.2.2.1 + x.1.1))) (IntKind.u32.wrap (BitVec.toNat (BitVec.ofInt IntKind.u32.bits y4 ||| BitVec.ofInt IntKind.u32.bits (IntKind.u32.wrap (IntKind.u64.wrap ((IntKind.u64.wrap y2) * 2 ^ min (Int.toNat x.1.2.1) IntKind.u64.bits)))))))[(Int.toNat (IntKind.i64.wrap ((IntKind.i64.wrap (x.1.2.2.2.2.2.1 + x.1.1)) + 1)))]?).bind fun y8 =>
 if 0 <= (IntKind.i64.wrap ((IntKind.i64.wrap (x.1.2.2.2.2.2.1 + x.1.1)) + 1)) then ((x.2.1.set (Int.toNat (IntKind.i64.wrap (x.1.2.2.2.2.2.1 + x.1.1))) (IntKind.u32.wrap (BitVec.toNat (BitVec.ofInt IntKind.u32.bits y4 ||| BitVec.ofInt IntKind.u32.bits (IntKind.u32.wrap (IntKind.u64.wrap ((IntKind.u64.wrap y2) * 2 ^ min (Int.toNat x.1.2.1) IntKind.u64.bits)))))))[Int.toNat (IntKind.i64.wrap ((IntKind.i64.wrap (x.1.2.2.2.2.2.1 + x.1.1)) + 1))]?).bind fun _ =>
 ((x.2.1.set (Int.toNat (IntKind.i64.wrap (x.1.2.2.2.2.2.1 + x.1.1))) (IntKind.u32.wrap (BitVec.toNat (BitVec.ofInt IntKind.u32.bits y4 ||| BitVec.ofInt IntKind.u32.bits (IntKind.u32.wrap (IntKind.u64.wrap ((IntKind.u64.wrap y2) * 2 ^ min (Int.toNat x.1.2.1) IntKind.u64.bits)))))))[(Int.toNat (IntKind.i64.wrap ((IntKind.i64.wrap (x.1.2.2.2.2.2.1 + x.1.1)) + 1)))]?).bind fun y10 =>
 nat_Shl_l0 k m ((x.1.1, x.1.2.1, (), x.1.2.2.2.1, x.1.2.2.2.2.1, (IntKind.i64.wrap (x.1.2.2.2.2.2.1 + 1)), ()), (((x.2.1.set (Int.toNat (IntKind.i64.wrap (x.1.2.2.2.2.2.1 + x.1.1))) (IntKind.u32.wrap (BitVec.toNat (BitVec.ofInt IntKind.u32.bits y4 ||| BitVec.ofInt IntKind.u32.bits (IntKind.u32.wrap (IntKind.u64.wrap ((IntKind.u64.wrap y2) * 2 ^ min (Int.toNat x.1.2.1) IntKind.u64.bits))))))).set (Int.toNat (IntKind.i64.wrap ((IntKind.i64.wrap (x.1.2.2.2.2.2.1 + x.1.1)) + 1))) (IntKind.u32.wrap (BitVec.toNat (BitVec.ofInt IntKind.u32.bits y8 ||| BitVec.ofInt IntKind.u32.bits (IntKind.u32.wrap (Int.fdiv (IntKind.u64.wrap ((IntKind.u64.wrap y2) * 2 ^ min (Int.toNat x.1.2.1) IntKind.u64.bits)) (2 ^ min (Int.toNat 32) IntKind.u64.bits))))))), ()))
 else none
 else none
 else none
 else none
 else none
 else
 some (Sum.inl (((), ()), (x.2.1, ())))
abbrev nat_Shl_l0_seg (k : Nat) : Seg := ⟨⟨0, 72, false, [], []⟩, 125, [.b, .s2, .s1, .s2, .s2, .s2, .s2, .s2], nat_Shl_l0_i, nat_Shl_l0_o, nat_Shl_l0 k k⟩
theorem nat_Shl_l0_seg.ok (k : Nat) : SegOK Tryz.prog (e47 k) (nat_Shl_l0_seg k) :=
 SegOK.loop (e47.ok k) (by kernel_rfl) (S := nat_Shl_l0_seg k) (c := atR (codeOf (e47 k) 125) [.l, .b, .s2, .s1, .s2, .s2, .s2, .s2, .s2]) (by kernel_rfl) (nat_Shl_l0 k) k rfl (fun _ => rfl) 8 .n trivial (fun k' x => by kernel_rfl)
def nat_Shl (k : Nat) (x0 : Ty.den T154) (x1 : Ty.den (.int .i64)) : Option (HL [T154]) :=
 (nat_cut k x0).bind fun r1 =>
 bif (decide (x1 < 1)) then
 if r1.1.length * 4 <= 140737488355328 then
 some (r1.1, ())
 else none
 else
 bif (decide (x1 > 16777216)) then
 some ([], ())
 else
 bif ((r1.1.length : Int) == 0) then
 some ([], ())
 else
 if (IntKind.i64.wrap ((IntKind.i64.wrap ((r1.1.length : Int) + (IntKind.i64.wrap (Int.tdiv x1 32)))) + 1)) = (IntKind.i64.wrap ((IntKind.i64.wrap ((r1.1.length : Int) + (IntKind.i64.wrap (Int.tdiv x1 32)))) + 1)) /\ 0 <= (IntKind.i64.wrap ((IntKind.i64.wrap ((r1.1.length : Int) + (IntKind.i64.wrap (Int.tdiv x1 32)))) + 1)) /\ Int.toNat (IntKind.i64.wrap ((IntKind.i64.wrap ((r1.1.length : Int) + (IntKind.i64.wrap (Int.tdiv x1 32)))) + 1)) * 4 <= 140737488355328 then
 (nat_Shl_l0 k k (((IntKind.i64.wrap (Int.tdiv x1 32)), (Int.tmod x1 32), (), r1.1, (r1.1.length : Int), 0, ()), ((List.replicate (Int.toNat (IntKind.i64.wrap ((IntKind.i64.wrap ((r1.1.length : Int) + (IntKind.i64.wrap (Int.tdiv x1 32)))) + 1))) (0 : Int)), ()))).bind fun q11 =>
 Sum.elim (fun z12 =>
 (nat_cut k z12.2.1).bind fun r13 =>
 some (r13.1, ()))
 (fun q11' =>
 none) q11
 else none
theorem nat_Shl.ok (k : Nat) : SpecOK Tryz.prog G0 125 ⟨[T154, (.int .i64)], [T154], fun x => nat_Shl k x.1 x.2.1⟩ :=
 evF_sound (E := (e47 k)) (fn := Tryz.f125) (e47.ok k) (by kernel_rfl) (by kernel_rfl) (by kernel_rfl) 8 (.two .n (.two .n (.two .n (.two .n (.two .n (.two (.two .n (.two (.use (nat_Shl_l0_seg k)) .n)) (.two (.own 1 .n) .n))))))) ⟨trivial, ⟨trivial, ⟨trivial, ⟨trivial, ⟨trivial, ⟨⟨trivial, ⟨(nat_Shl_l0_seg.ok k), trivial⟩⟩, ⟨trivial, trivial⟩⟩⟩⟩⟩⟩⟩ (fun xs => by kernel_rfl)
def e48 (k : Nat) : Env := (e47 k).add 125 ⟨[T154, (.int .i64)], [T154], fun x => nat_Shl k x.1 x.2.1⟩
theorem e48.ok (k : Nat) : (e48 k).OK Tryz.prog := (e47.ok k).add (nat_Shl.ok k)
def bits_Len32 (k : Nat) (x0 : Ty.den (.int .u32)) : Option (HL [(.int .i64)]) :=
 bif (decide (x0 >= 65536)) then
 bif (decide ((Int.fdiv x0 (2 ^ min (Int.toNat 16) IntKind.u32.bits)) >= 256)) then
 if 0 <= (IntKind.u8.wrap (Int.fdiv (Int.fdiv x0 (2 ^ min (Int.toNat 16) IntKind.u32.bits)) (2 ^ min (Int.toNat 8) IntKind.u32.bits))) then (bytes0[Int.toNat (IntKind.u8.wrap (Int.fdiv (Int.fdiv x0 (2 ^ min (Int.toNat 16) IntKind.u32.bits)) (2 ^ min (Int.toNat 8) IntKind.u32.bits)))]?).bind fun y1 =>
 some ((IntKind.i64.wrap ((IntKind.i64.wrap (16 + 8)) + (IntKind.i64.wrap (y1.toNat : Int)))), ())
 else none
 else
 if 0 <= (IntKind.u8.wrap (Int.fdiv x0 (2 ^ min (Int.toNat 16) IntKind.u32.bits))) then (bytes0[Int.toNat (IntKind.u8.wrap (Int.fdiv x0 (2 ^ min (Int.toNat 16) IntKind.u32.bits)))]?).bind fun y2 =>
 some ((IntKind.i64.wrap (16 + (IntKind.i64.wrap (y2.toNat : Int)))), ())
 else none
 else
 bif (decide (x0 >= 256)) then
 if 0 <= (IntKind.u8.wrap (Int.fdiv x0 (2 ^ min (Int.toNat 8) IntKind.u32.bits))) then (bytes0[Int.toNat (IntKind.u8.wrap (Int.fdiv x0 (2 ^ min (Int.toNat 8) IntKind.u32.bits)))]?).bind fun y3 =>
 some ((IntKind.i64.wrap ((IntKind.i64.wrap (0 + 8)) + (IntKind.i64.wrap (y3.toNat : Int)))), ())
 else none
 else
 if 0 <= (IntKind.u8.wrap x0) then (bytes0[Int.toNat (IntKind.u8.wrap x0)]?).bind fun y4 =>
 some ((IntKind.i64.wrap (0 + (IntKind.i64.wrap (y4.toNat : Int)))), ())
 else none
theorem bits_Len32.ok (k : Nat) : SpecOK Tryz.prog G0 144 ⟨[(.int .u32)], [(.int .i64)], fun x => bits_Len32 k x.1⟩ :=
 evF_sound (E := (e48 k)) (fn := Tryz.f144) (e48.ok k) (by kernel_rfl) (by kernel_rfl) (by kernel_rfl) 8 .n trivial (fun xs => by kernel_rfl)
def e49 (k : Nat) : Env := (e48 k).add 144 ⟨[(.int .u32)], [(.int .i64)], fun x => bits_Len32 k x.1⟩
theorem e49.ok (k : Nat) : (e49 k).OK Tryz.prog := (e48.ok k).add (bits_Len32.ok k)
def nat_Len (k : Nat) (x0 : Ty.den T154) : Option (HL [(.int .i64)]) :=
 (nat_cut k x0).bind fun r1 =>
 bif ((r1.1.length : Int) == 0) then
 some (0, ())
 else
 if 0 <= (IntKind.i64.wrap ((r1.1.length : Int) - 1)) then (r1.1[Int.toNat (IntKind.i64.wrap ((r1.1.length : Int) - 1))]?).bind fun y2 =>
 (bits_Len32 k y2).bind fun r3 =>
 some ((IntKind.i64.wrap ((IntKind.i64.wrap (32 * (IntKind.i64.wrap ((r1.1.length : Int) - 1)))) + r3.1)), ())
 else none
theorem nat_Len.ok (k : Nat) : SpecOK Tryz.prog G0 135 ⟨[T154], [(.int .i64)], fun x => nat_Len k x.1⟩ :=
 evF_sound (E := (e49 k)) (fn := Tryz.f135) (e49.ok k) (by kernel_rfl) (by kernel_rfl) (by kernel_rfl) 8 .n trivial (fun xs => by kernel_rfl)
def e50 (k : Nat) : Env := (e49 k).add 135 ⟨[T154], [(.int .i64)], fun x => nat_Len k x.1⟩
theorem e50.ok (k : Nat) : (e50 k).OK Tryz.prog := (e49.ok k).add (nat_Len.ok k)
abbrev nat_Shr_l0_i : Mask := ⟨[(0, 0, (.v T154)), (0, 5, (.v (.int .i64))), (0, 6, (.v (.int .i64))), (0, 7, (.k (.arr 31 0))), (0, 33, (.v (.int .i64))), (0, 34, (.v (.int .i64)))], [(31, .arr 161 (.int .u32))], [], 0⟩
abbrev nat_Shr_l0_o : List Out := [⟨.exit 1, ⟨[(0, 7, (.k (.arr 31 0)))], [(31, .arr 161 (.int .u32))], [], 0⟩⟩]
def nat_Shr_l0 (k : Nat) : Nat -> Mask.den nat_Shr_l0_i -> Option (denS nat_Shr_l0_o)
| 0, _ => none
| m + 1, x =>
 bif (decide (x.1.2.2.2.2.2.1 < x.1.2.2.2.2.1)) then
 if 0 <= (IntKind.i64.wrap (x.1.2.2.2.2.2.1 + x.1.2.1)) then (x.1.1[Int.toNat (IntKind.i64.wrap (x.1.2.2.2.2.2.1 + x.1.2.1))]?).bind fun y2 =>
 bif (decide ((IntKind.i64.wrap ((IntKind.i64.wrap (x.1.2.2.2.2.2.1 + x.1.2.1)) + 1)) < (x.1.1.length : Int))) then
 if 0 <= (IntKind.i64.wrap ((IntKind.i64.wrap (x.1.2.2.2.2.2.1 + x.1.2.1)) + 1)) then (x.1.1[Int.toNat (IntKind.i64.wrap ((IntKind.i64.wrap (x.1.2.2.2.2.2.1 + x.1.2.1)) + 1))]?).bind fun y3 =>
 if x.1.2.2.1 < 0 then none else
 if 0 <= x.1.2.2.2.2.2.1 then (x.2.1[Int.toNat x.1.2.2.2.2.2.1]?).bind fun _ =>
 (x.2.1[(Int.toNat x.1.2.2.2.2.2.1)]?).bind fun y5 =>
 nat_Shr_l0 k m ((x.1.1, x.1.2.1, x.1.2.2.1, (), x.1.2.2.2.2.1, (IntKind.i64.wrap (x.1.2.2.2.2.2.1 + 1)), ()), ((x.2.1.set (Int.toNat x.1.2.2.2.2.2.1) (IntKind.u32.wrap (Int.fdiv (IntKind.u64.wrap (BitVec.toNat (BitVec.ofInt IntKind.u64.bits (IntKind.u64.wrap y2) ||| BitVec.ofInt IntKind.u64.bits (IntKind.u64.wrap ((IntKind.u64.wrap y3) * 2 ^ min (Int.toNat 32) IntKind.u64.bits))))) (2 ^ min (Int.toNat x.1.2.2.1) IntKind.u64.bits)))), ()))
 else none
 else none
 else
 if x.1.2.2.1 < 0 then none else
 if 0 <= x.1.2.2.2.2.2.1 then (x.2.1[Int.toNat x.1.2.2.2.2.2.1]?).bind fun _ =>
 (x.2.1[(Int.toNat x.1.2.2.2.2.2.1)]?).bind fun y7 =>
 nat_Shr_l0 k m ((x.1.1, x.1.2.1, x.1.2.2.1, (), x.1.2.2.2.2.1, (IntKind.i64.wrap (x.1.2.2.2.2.2.1 + 1)), ()), ((x.2.1.set (Int.toNat x.1.2.2.2.2.2.1) (IntKind.u32.wrap (Int.fdiv (IntKind.u64.wrap y2) (2 ^ min (Int.toNat x.1.2.2.1) IntKind.u64.bits)))), ()))
 else none
 else none
 else
 some (Sum.inl (((), ()), (x.2.1, ())))
abbrev nat_Shr_l0_seg (k : Nat) : Seg := ⟨⟨0, 72, false, [], []⟩, 137, [.b, .s2, .s1, .s2, .s2, .s2, .s2, .s2], nat_Shr_l0_i, nat_Shr_l0_o, nat_Shr_l0 k k⟩
theorem nat_Shr_l0_seg.ok (k : Nat) : SegOK Tryz.prog (e50 k) (nat_Shr_l0_seg k) :=
 SegOK.loop (e50.ok k) (by kernel_rfl) (S := nat_Shr_l0_seg k) (c := atR (codeOf (e50 k) 137) [.l, .b, .s2, .s1, .s2, .s2, .s2, .s2, .s2]) (by kernel_rfl) (nat_Shr_l0 k) k rfl (fun _ => rfl) 8 .n trivial (fun k' x => by kernel_rfl)
def nat_Shr (k : Nat) (x0 : Ty.den T154) (x1 : Ty.den (.int .i64)) : Option (HL [T154]) :=
 (nat_cut k x0).bind fun r1 =>
 bif (decide (x1 < 1)) then
 if r1.1.length * 4 <= 140737488355328 then
 some (r1.1, ())
 else none
 else
 bif (decide (x1 >= (IntKind.i64.wrap (32 * (r1.1.length : Int))))) then
 some ([], ())
 else
 if (IntKind.i64.wrap ((r1.1.length : Int) - (IntKind.i64.wrap (Int.tdiv x1 32)))) = (IntKind.i64.wrap ((r1.1.length : Int) - (IntKind.i64.wrap (Int.tdiv x1 32)))) /\ 0 <= (IntKind.i64.wrap ((r1.1.length : Int) - (IntKind.i64.wrap (Int.tdiv x1 32)))) /\ Int.toNat (IntKind.i64.wrap ((r1.1.length : Int) - (IntKind.i64.wrap (Int.tdiv x1 32)))) * 4 <= 140737488355328 then
 (nat_Shr_l0 k k ((r1.1, (IntKind.i64.wrap (Int.tdiv x1 32)), (Int.tmod x1 32), (), ((List.replicate (Int.toNat (IntKind.i64.wrap ((r1.1.length : Int) - (IntKind.i64.wrap (Int.tdiv x1 32))))) (0 : Int)).length : Int), 0, ()), ((List.replicate (Int.toNat (IntKind.i64.wrap ((r1.1.length : Int) - (IntKind.i64.wrap (Int.tdiv x1 32))))) (0 : Int)), ()))).bind fun q8 =>
 Sum.elim (fun z9 =>
 (nat_cut k z9.2.1).bind fun r10 =>
 some (r10.1, ()))
 (fun q8' =>
 none) q8
 else none
theorem nat_Shr.ok (k : Nat) : SpecOK Tryz.prog G0 137 ⟨[T154, (.int .i64)], [T154], fun x => nat_Shr k x.1 x.2.1⟩ :=
 evF_sound (E := (e50 k)) (fn := Tryz.f137) (e50.ok k) (by kernel_rfl) (by kernel_rfl) (by kernel_rfl) 8 (.two .n (.two .n (.two .n (.two .n (.two .n (.two (.two .n (.two (.use (nat_Shr_l0_seg k)) .n)) (.two (.own 1 .n) .n))))))) ⟨trivial, ⟨trivial, ⟨trivial, ⟨trivial, ⟨trivial, ⟨⟨trivial, ⟨(nat_Shr_l0_seg.ok k), trivial⟩⟩, ⟨trivial, trivial⟩⟩⟩⟩⟩⟩⟩ (fun xs => by kernel_rfl)
def e51 (k : Nat) : Env := (e50 k).add 137 ⟨[T154, (.int .i64)], [T154], fun x => nat_Shr k x.1 x.2.1⟩
theorem e51.ok (k : Nat) : (e51 k).OK Tryz.prog := (e50.ok k).add (nat_Shr.ok k)
abbrev nat_Cmp_l0_i : Mask := ⟨[(0, 0, (.v T154)), (0, 1, (.v T154)), (0, 24, (.v (.int .i64))), (0, 25, (.v (.int .i64)))], [], [], 0⟩
abbrev nat_Cmp_l0_o : List Out := [⟨.ret, ⟨[(0, 4, (.v (.int .i64)))], [], [], 0⟩⟩, ⟨.exit 1, ⟨[], [], [], 0⟩⟩]
def nat_Cmp_l0 (k : Nat) : Nat -> Mask.den nat_Cmp_l0_i -> Option (denS nat_Cmp_l0_o)
| 0, _ => none
| m + 1, x =>
 bif (decide (x.1.2.2.2.1 < x.1.2.2.1)) then
 if 0 <= (IntKind.i64.wrap ((IntKind.i64.wrap ((x.1.1.length : Int) - 1)) - x.1.2.2.2.1)) then (x.1.1[Int.toNat (IntKind.i64.wrap ((IntKind.i64.wrap ((x.1.1.length : Int) - 1)) - x.1.2.2.2.1))]?).bind fun y3 =>
 if 0 <= (IntKind.i64.wrap ((IntKind.i64.wrap ((x.1.1.length : Int) - 1)) - x.1.2.2.2.1)) then (x.1.2.1[Int.toNat (IntKind.i64.wrap ((IntKind.i64.wrap ((x.1.1.length : Int) - 1)) - x.1.2.2.2.1))]?).bind fun y4 =>
 bif (decide (y3 < y4)) then
 some (Sum.inl (((-1), ()), ()))
 else
 if 0 <= (IntKind.i64.wrap ((IntKind.i64.wrap ((x.1.1.length : Int) - 1)) - x.1.2.2.2.1)) then (x.1.1[Int.toNat (IntKind.i64.wrap ((IntKind.i64.wrap ((x.1.1.length : Int) - 1)) - x.1.2.2.2.1))]?).bind fun y5 =>
 if 0 <= (IntKind.i64.wrap ((IntKind.i64.wrap ((x.1.1.length : Int) - 1)) - x.1.2.2.2.1)) then (x.1.2.1[Int.toNat (IntKind.i64.wrap ((IntKind.i64.wrap ((x.1.1.length : Int) - 1)) - x.1.2.2.2.1))]?).bind fun y6 =>
 bif (decide (y5 > y6)) then
 some (Sum.inl ((1, ()), ()))
 else
 nat_Cmp_l0 k m ((x.1.1, x.1.2.1, x.1.2.2.1, (IntKind.i64.wrap (x.1.2.2.2.1 + 1)), ()), ())
 else none
 else none
 else none
 else none
 else
 some (Sum.inr (Sum.inl ((), ())))
abbrev nat_Cmp_l0_seg (k : Nat) : Seg := ⟨⟨0, 54, false, [], []⟩, 139, [.b, .s2, .s1, .s2, .s2, .s2], nat_Cmp_l0_i, nat_Cmp_l0_o, nat_Cmp_l0 k k⟩
theorem nat_Cmp_l0_seg.ok (k : Nat) : SegOK Tryz.prog (e51 k) (nat_Cmp_l0_seg k) :=
 SegOK.loop (e51.ok k) (by kernel_rfl) (S := nat_Cmp_l0_seg k) (c := atR (codeOf (e51 k) 139) [.l, .b, .s2, .s1, .s2, .s2, .s2]) (by kernel_rfl) (nat_Cmp_l0 k) k rfl (fun _ => rfl) 8 .n trivial (fun k' x => by kernel_rfl)
def nat_Cmp (k : Nat) (x0 : Ty.den T154) (x1 : Ty.den T154) : Option (HL [(.int .i64)]) :=
 (nat_cut k x0).bind fun r1 =>
 (nat_cut k x1).bind fun r2 =>
 bif (decide ((r1.1.length : Int) < (r2.1.length : Int))) then
 some ((-1), ())
 else
 bif (decide ((r1.1.length : Int) > (r2.1.length : Int))) then
 some (1, ())
 else
 (nat_Cmp_l0 k k ((r1.1, r2.1, (r1.1.length : Int), 0, ()), ())).bind fun q7 =>
 Sum.elim (fun z8 =>
 some (z8.1.1, ()))
 (fun q7' =>
 Sum.elim (fun z9 =>
 some (0, ()))
 (fun q7'' =>
 none) q7') q7
theorem nat_Cmp.ok (k : Nat) : SpecOK Tryz.prog G0 139 ⟨[T154, T154], [(.int .i64)], fun x => nat_Cmp k x.1 x.2.1⟩ :=
 evF_sound (E := (e51 k)) (fn := Tryz.f139) (e51.ok k) (by kernel_rfl) (by kernel_rfl) (by kernel_rfl) 8 (.two .n (.two .n (.two .n (.two (.two .n (.two (.use (nat_Cmp_l0_seg k)) .n)) .n)))) ⟨trivial, ⟨trivial, ⟨trivial, ⟨⟨trivial, ⟨(nat_Cmp_l0_seg.ok k), trivial⟩⟩, trivial⟩⟩⟩⟩ (fun xs => by kernel_rfl)
def e52 (k : Nat) : Env := (e51 k).add 139 ⟨[T154, T154], [(.int .i64)], fun x => nat_Cmp k x.1 x.2.1⟩
theorem e52.ok (k : Nat) : (e52 k).OK Tryz.prog := (e51.ok k).add (nat_Cmp.ok k)
def bits_Div32 (k : Nat) (x0 : Ty.den (.int .u32)) (x1 : Ty.den (.int .u32)) (x2 : Ty.den (.int .u32)) : Option (HL [(.int .u32), (.int .u32)]) :=
 bif (x2 != 0) then
 bif (decide (x2 <= x0)) then
 none
 else
 if (IntKind.u64.wrap x2) = 0 then none else
 if (IntKind.u64.wrap x2) = 0 then none else
 some ((IntKind.u32.wrap (IntKind.u64.wrap (Int.tdiv (IntKind.u64.wrap (BitVec.toNat (BitVec.ofInt IntKind.u64.bits (IntKind.u64.wrap ((IntKind.u64.wrap x0) * 2 ^ min (Int.toNat 32) IntKind.u64.bits)) ||| BitVec.ofInt IntKind.u64.bits (IntKind.u64.wrap x1)))) (IntKind.u64.wrap x2)))), (IntKind.u32.wrap (Int.tmod (IntKind.u64.wrap (BitVec.toNat (BitVec.ofInt IntKind.u64.bits (IntKind.u64.wrap ((IntKind.u64.wrap x0) * 2 ^ min (Int.toNat 32) IntKind.u64.bits)) ||| BitVec.ofInt IntKind.u64.bits (IntKind.u64.wrap x1)))) (IntKind.u64.wrap x2))), ())
 else
 if (IntKind.u64.wrap x2) = 0 then none else
 if (IntKind.u64.wrap x2) = 0 then none else
 some ((IntKind.u32.wrap (IntKind.u64.wrap (Int.tdiv (IntKind.u64.wrap (BitVec.toNat (BitVec.ofInt IntKind.u64.bits (IntKind.u64.wrap ((IntKind.u64.wrap x0) * 2 ^ min (Int.toNat 32) IntKind.u64.bits)) ||| BitVec.ofInt IntKind.u64.bits (IntKind.u64.wrap x1)))) (IntKind.u64.wrap x2)))), (IntKind.u32.wrap (Int.tmod (IntKind.u64.wrap (BitVec.toNat (BitVec.ofInt IntKind.u64.bits (IntKind.u64.wrap ((IntKind.u64.wrap x0) * 2 ^ min (Int.toNat 32) IntKind.u64.bits)) ||| BitVec.ofInt IntKind.u64.bits (IntKind.u64.wrap x1)))) (IntKind.u64.wrap x2))), ())
theorem bits_Div32.ok (k : Nat) : SpecOK Tryz.prog G0 151 ⟨[(.int .u32), (.int .u32), (.int .u32)], [(.int .u32), (.int .u32)], fun x => bits_Div32 k x.1 x.2.1 x.2.2.1⟩ :=
 evF_sound (E := (e52 k)) (fn := Tryz.f151) (e52.ok k) (by kernel_rfl) (by kernel_rfl) (by kernel_rfl) 8 .n trivial (fun xs => by kernel_rfl)
def e53 (k : Nat) : Env := (e52 k).add 151 ⟨[(.int .u32), (.int .u32), (.int .u32)], [(.int .u32), (.int .u32)], fun x => bits_Div32 k x.1 x.2.1 x.2.2.1⟩
theorem e53.ok (k : Nat) : (e53 k).OK Tryz.prog := (e52.ok k).add (bits_Div32.ok k)
abbrev nat_short_l0_i : Mask := ⟨[(0, 0, (.v T154)), (0, 1, (.v (.int .u32))), (0, 4, (.k (.arr 11 0))), (0, 6, (.v (.int .u32))), (0, 13, (.v (.int .i64))), (0, 14, (.v (.int .i64)))], [(11, .arr 161 (.int .u32))], [], 0⟩
abbrev nat_short_l0_o : List Out := [⟨.exit 0, ⟨[(0, 4, (.k (.arr 11 0))), (0, 6, (.v (.int .u32)))], [(11, .arr 161 (.int .u32))], [], 0⟩⟩]
def nat_short_l0 (k : Nat) : Nat -> Mask.den nat_short_l0_i -> Option (denS nat_short_l0_o)
| 0, _ => none
| m + 1, x =>
 bif (decide (x.1.2.2.2.2.2.1 < x.1.2.2.2.2.1)) then
 if 0 <= (IntKind.i64.wrap ((IntKind.i64.wrap ((x.1.1.length : Int) - 1)) - x.1.2.2.2.2.2.1)) then (x.1.1[Int.toNat (IntKind.i64.wrap ((IntKind.i64.wrap ((x.1.1.length : Int) - 1)) - x.1.2.2.2.2.2.1))]?).bind fun y1 =>
 (bits_Div32 k x.1.2.2.2.1 y1 x.1.2.1).bind fun r2 =>
 if 0 <= (IntKind.i64.wrap ((IntKind.i64.wrap ((x.1.1.length : Int) - 1)) - x.1.2.2.2.2.2.1)) then (x.2.1[Int.toNat (IntKind.i64.wrap ((IntKind.i64.wrap ((x.1.1.length : Int) - 1)) - x.1.2.2.2.2.2.1))]?).bind fun _ =>
 (x.2.1[(Int.toNat (IntKind.i64.wrap ((IntKind.i64.wrap ((x.1.1.length : Int) - 1)) - x.1.2.2.2.2.2.1)))]?).bind fun y4 =>
 nat_short_l0 k m ((x.1.1, x.1.2.1, (), r2.2.1, x.1.2.2.2.2.1, (IntKind.i64.wrap (x.1.2.2.2.2.2.1 + 1)), ()), ((x.2.1.set (Int.toNat (IntKind.i64.wrap ((IntKind.i64.wrap ((x.1.1.length : Int) - 1)) - x.1.2.2.2.2.2.1))) r2.1), ()))
 else none
 else none
 else
 some (Sum.inl (((), x.1.2.2.2.1, ()), (x.2.1, ())))
abbrev nat_short_l0_seg (k : Nat) : Seg := ⟨⟨0, 41, false, [], []⟩, 145, [.b, .s2, .s1, .s2, .s2, .s2], nat_short_l0_i, nat_short_l0_o, nat_short_l0 k k⟩
theorem nat_short_l0_seg.ok (k : Nat) : SegOK Tryz.prog (e53 k) (nat_short_l0_seg k) :=
 SegOK.loop (e53.ok k) (by kernel_rfl) (S := nat_short_l0_seg k) (c := atR (codeOf (e53 k) 145) [.l, .b, .s2, .s1, .s2, .s2, .s2]) (by kernel_rfl) (nat_short_l0 k) k rfl (fun _ => rfl) 8 .n trivial (fun k' x => by kernel_rfl)
def nat_short (k : Nat) (x0 : Ty.den T154) (x1 : Ty.den (.int .u32)) : Option (HL [T154, T154]) :=
 if (x0.length : Int) = (x0.length : Int) /\ 0 <= (x0.length : Int) /\ Int.toNat (x0.length : Int) * 4 <= 140737488355328 then
 (nat_short_l0 k k ((x0, x1, (), 0, (x0.length : Int), 0, ()), ((List.replicate (Int.toNat (x0.length : Int)) (0 : Int)), ()))).bind fun q5 =>
 Sum.elim (fun z6 =>
 (nat_cut k z6.2.1).bind fun r7 =>
 (nat_cut k [z6.1.2.1]).bind fun r8 =>
 some (r7.1, r8.1, ()))
 (fun q5' =>
 none) q5
 else none
theorem nat_short.ok (k : Nat) : SpecOK Tryz.prog G0 145 ⟨[T154, (.int .u32)], [T154, T154], fun x => nat_short k x.1 x.2.1⟩ :=
 evF_sound (E := (e53 k)) (fn := Tryz.f145) (e53.ok k) (by kernel_rfl) (by kernel_rfl) (by kernel_rfl) 8 (.two .n (.two .n (.two .n (.two (.two .n (.two (.use (nat_short_l0_seg k)) .n)) (.two (.own 1 .n) .n))))) ⟨trivial, ⟨trivial, ⟨trivial, ⟨⟨trivial, ⟨(nat_short_l0_seg.ok k), trivial⟩⟩, ⟨trivial, trivial⟩⟩⟩⟩⟩ (fun xs => by kernel_rfl)
def e54 (k : Nat) : Env := (e53 k).add 145 ⟨[T154, (.int .u32)], [T154, T154], fun x => nat_short k x.1 x.2.1⟩
theorem e54.ok (k : Nat) : (e54 k).OK Tryz.prog := (e53.ok k).add (nat_short.ok k)
def bits_LeadingZeros32 (k : Nat) (x0 : Ty.den (.int .u32)) : Option (HL [(.int .i64)]) :=
 (bits_Len32 k x0).bind fun r1 =>
 some ((IntKind.i64.wrap (32 - r1.1)), ())
theorem bits_LeadingZeros32.ok (k : Nat) : SpecOK Tryz.prog G0 146 ⟨[(.int .u32)], [(.int .i64)], fun x => bits_LeadingZeros32 k x.1⟩ :=
 evF_sound (E := (e54 k)) (fn := Tryz.f146) (e54.ok k) (by kernel_rfl) (by kernel_rfl) (by kernel_rfl) 8 .n trivial (fun xs => by kernel_rfl)
def e55 (k : Nat) : Env := (e54 k).add 146 ⟨[(.int .u32)], [(.int .i64)], fun x => bits_LeadingZeros32 k x.1⟩
theorem e55.ok (k : Nat) : (e55 k).OK Tryz.prog := (e54.ok k).add (bits_LeadingZeros32.ok k)
abbrev nat_guess_l0_i : Mask := ⟨[(0, 2, (.v (.int .u32))), (0, 3, (.v (.int .u32))), (0, 4, (.v (.int .u32))), (0, 12, (.v (.int .u64))), (0, 13, (.v (.int .u64)))], [], [], 0⟩
abbrev nat_guess_l0_o : List Out := [⟨.exit 0, ⟨[(0, 12, (.v (.int .u64)))], [], [], 0⟩⟩]
def nat_guess_l0 (k : Nat) : Nat -> Mask.den nat_guess_l0_i -> Option (denS nat_guess_l0_o)
| 0, _ => none
| m + 1, x =>
 bif (decide (x.1.2.2.2.1 > 4294967295)) then
 bif (decide ((IntKind.u64.wrap (x.1.2.2.2.2.1 + (IntKind.u64.wrap x.1.2.1))) > 4294967295)) then
 some (Sum.inl (((IntKind.u64.wrap (x.1.2.2.2.1 - 1)), ()), ()))
 else
 nat_guess_l0 k m ((x.1.1, x.1.2.1, x.1.2.2.1, (IntKind.u64.wrap (x.1.2.2.2.1 - 1)), (IntKind.u64.wrap (x.1.2.2.2.2.1 + (IntKind.u64.wrap x.1.2.1))), ()), ())
 else
 bif (decide ((IntKind.u64.wrap (x.1.2.2.2.1 * (IntKind.u64.wrap x.1.2.2.1))) > (IntKind.u64.wrap (BitVec.toNat (BitVec.ofInt IntKind.u64.bits (IntKind.u64.wrap (x.1.2.2.2.2.1 * 2 ^ min (Int.toNat 32) IntKind.u64.bits)) ||| BitVec.ofInt IntKind.u64.bits (IntKind.u64.wrap x.1.1)))))) then
 bif (decide ((IntKind.u64.wrap (x.1.2.2.2.2.1 + (IntKind.u64.wrap x.1.2.1))) > 4294967295)) then
 some (Sum.inl (((IntKind.u64.wrap (x.1.2.2.2.1 - 1)), ()), ()))
 else
 nat_guess_l0 k m ((x.1.1, x.1.2.1, x.1.2.2.1, (IntKind.u64.wrap (x.1.2.2.2.1 - 1)), (IntKind.u64.wrap (x.1.2.2.2.2.1 + (IntKind.u64.wrap x.1.2.1))), ()), ())
 else
 some (Sum.inl ((x.1.2.2.2.1, ()), ()))
abbrev nat_guess_l0_seg (k : Nat) : Seg := ⟨⟨0, 52, false, [], []⟩, 147, [.b, .s1, .s2, .s2, .s2], nat_guess_l0_i, nat_guess_l0_o, nat_guess_l0 k k⟩
theorem nat_guess_l0_seg.ok (k : Nat) : SegOK Tryz.prog (e55 k) (nat_guess_l0_seg k) :=
 SegOK.loop (e55.ok k) (by kernel_rfl) (S := nat_guess_l0_seg k) (c := atR (codeOf (e55 k) 147) [.l, .b, .s1, .s2, .s2, .s2]) (by kernel_rfl) (nat_guess_l0 k) k rfl (fun _ => rfl) 8 .n trivial (fun k' x => by kernel_rfl)
def nat_guess (k : Nat) (x0 : Ty.den (.int .u32)) (x1 : Ty.den (.int .u32)) (x2 : Ty.den (.int .u32)) (x3 : Ty.den (.int .u32)) (x4 : Ty.den (.int .u32)) : Option (HL [(.int .u32)]) :=
 if (IntKind.u64.wrap x3) = 0 then none else
 if (IntKind.u64.wrap x3) = 0 then none else
 (nat_guess_l0 k k ((x2, x3, x4, (IntKind.u64.wrap (Int.tdiv (IntKind.u64.wrap (BitVec.toNat (BitVec.ofInt IntKind.u64.bits (IntKind.u64.wrap ((IntKind.u64.wrap x0) * 2 ^ min (Int.toNat 32) IntKind.u64.bits)) ||| BitVec.ofInt IntKind.u64.bits (IntKind.u64.wrap x1)))) (IntKind.u64.wrap x3))), (Int.tmod (IntKind.u64.wrap (BitVec.toNat (BitVec.ofInt IntKind.u64.bits (IntKind.u64.wrap ((IntKind.u64.wrap x0) * 2 ^ min (Int.toNat 32) IntKind.u64.bits)) ||| BitVec.ofInt IntKind.u64.bits (IntKind.u64.wrap x1)))) (IntKind.u64.wrap x3)), ()), ())).bind fun q1 =>
 Sum.elim (fun z2 =>
 some ((IntKind.u32.wrap z2.1.1), ()))
 (fun q1' =>
 none) q1
theorem nat_guess.ok (k : Nat) : SpecOK Tryz.prog G0 147 ⟨[(.int .u32), (.int .u32), (.int .u32), (.int .u32), (.int .u32)], [(.int .u32)], fun x => nat_guess k x.1 x.2.1 x.2.2.1 x.2.2.2.1 x.2.2.2.2.1⟩ :=
 evF_sound (E := (e55 k)) (fn := Tryz.f147) (e55.ok k) (by kernel_rfl) (by kernel_rfl) (by kernel_rfl) 8 (.two .n (.two .n (.two .n (.two (.two (.use (nat_guess_l0_seg k)) .n) .n)))) ⟨trivial, ⟨trivial, ⟨trivial, ⟨⟨(nat_guess_l0_seg.ok k), trivial⟩, trivial⟩⟩⟩⟩ (fun xs => by kernel_rfl)
def e56 (k : Nat) : Env := (e55 k).add 147 ⟨[(.int .u32), (.int .u32), (.int .u32), (.int .u32), (.int .u32)], [(.int .u32)], fun x => nat_guess k x.1 x.2.1 x.2.2.1 x.2.2.2.1 x.2.2.2.2.1⟩
theorem e56.ok (k : Nat) : (e56 k).OK Tryz.prog := (e55.ok k).add (nat_guess.ok k)
def bits_Sub32 (k : Nat) (x0 : Ty.den (.int .u32)) (x1 : Ty.den (.int .u32)) (x2 : Ty.den (.int .u32)) : Option (HL [(.int .u32), (.int .u32)]) :=
 some ((IntKind.u32.wrap ((IntKind.u32.wrap (x0 - x1)) - x2)), (Int.fdiv (IntKind.u32.wrap (BitVec.toNat (BitVec.ofInt IntKind.u32.bits (IntKind.u32.wrap (BitVec.toNat (BitVec.ofInt IntKind.u32.bits (IntKind.u32.wrap (BitVec.toNat (BitVec.ofInt IntKind.u32.bits (if IntKind.u32.signed then -1 else IntKind.u32.max) ^^^ BitVec.ofInt IntKind.u32.bits x0))) &&& BitVec.ofInt IntKind.u32.bits x1))) ||| BitVec.ofInt IntKind.u32.bits (IntKind.u32.wrap (BitVec.toNat (BitVec.ofInt IntKind.u32.bits (IntKind.u32.wrap (BitVec.toNat (BitVec.ofInt IntKind.u32.bits (if IntKind.u32.signed then -1 else IntKind.u32.max) ^^^ BitVec.ofInt IntKind.u32.bits (IntKind.u32.wrap (BitVec.toNat (BitVec.ofInt IntKind.u32.bits x0 ^^^ BitVec.ofInt IntKind.u32.bits x1)))))) &&& BitVec.ofInt IntKind.u32.bits (IntKind.u32.wrap ((IntKind.u32.wrap (x0 - x1)) - x2)))))))) (2 ^ min (Int.toNat 31) IntKind.u32.bits)), ())
theorem bits_Sub32.ok (k : Nat) : SpecOK Tryz.prog G0 152 ⟨[(.int .u32), (.int .u32), (.int .u32)], [(.int .u32), (.int .u32)], fun x => bits_Sub32 k x.1 x.2.1 x.2.2.1⟩ :=
 evF_sound (E := (e56 k)) (fn := Tryz.f152) (e56.ok k) (by kernel_rfl) (by kernel_rfl) (by kernel_rfl) 8 .n trivial (fun xs => by kernel_rfl)
def e57 (k : Nat) : Env := (e56 k).add 152 ⟨[(.int .u32), (.int .u32), (.int .u32)], [(.int .u32), (.int .u32)], fun x => bits_Sub32 k x.1 x.2.1 x.2.2.1⟩
theorem e57.ok (k : Nat) : (e57 k).OK Tryz.prog := (e56.ok k).add (bits_Sub32.ok k)
def bits_Add32 (k : Nat) (x0 : Ty.den (.int .u32)) (x1 : Ty.den (.int .u32)) (x2 : Ty.den (.int .u32)) : Option (HL [(.int .u32), (.int .u32)]) :=
 some ((IntKind.u32.wrap (IntKind.u64.wrap ((IntKind.u64.wrap ((IntKind.u64.wrap x0) + (IntKind.u64.wrap x1))) + (IntKind.u64.wrap x2)))), (IntKind.u32.wrap (Int.fdiv (IntKind.u64.wrap ((IntKind.u64.wrap ((IntKind.u64.wrap x0) + (IntKind.u64.wrap x1))) + (IntKind.u64.wrap x2))) (2 ^ min (Int.toNat 32) IntKind.u64.bits))), ())
theorem bits_Add32.ok (k : Nat) : SpecOK Tryz.prog G0 150 ⟨[(.int .u32), (.int .u32), (.int .u32)], [(.int .u32), (.int .u32)], fun x => bits_Add32 k x.1 x.2.1 x.2.2.1⟩ :=
 evF_sound (E := (e57 k)) (fn := Tryz.f150) (e57.ok k) (by kernel_rfl) (by kernel_rfl) (by kernel_rfl) 8 .n trivial (fun xs => by kernel_rfl)
def e58 (k : Nat) : Env := (e57 k).add 150 ⟨[(.int .u32), (.int .u32), (.int .u32)], [(.int .u32), (.int .u32)], fun x => bits_Add32 k x.1 x.2.1 x.2.2.1⟩
theorem e58.ok (k : Nat) : (e58 k).OK Tryz.prog := (e57.ok k).add (bits_Add32.ok k)
abbrev nat_Div_l3_i : Mask := ⟨[(0, 0, (.v T154)), (0, 1, (.v T154)), (0, 9, (.v (.int .i64))), (0, 10, (.v T154)), (513, 5, (.v (.int .i64))), (513, 6, (.v (.int .i64))), (513, 7, (.k (.arr 2101283 0))), (513, 36, (.v T154)), (513, 37, (.v (.int .i64))), (513, 38, (.v (.int .i64)))], [(2101283, .arr 161 (.int .u32))], [], 0⟩
abbrev nat_Div_l3_o : List Out := [⟨.exit 1, ⟨[(0, 0, (.v T154)), (0, 1, (.v T154)), (0, 9, (.v (.int .i64))), (0, 10, (.v T154)), (513, 7, (.k (.arr 2101283 0)))], [(2101283, .arr 161 (.int .u32))], [], 0⟩⟩]
def nat_Div_l3 (k : Nat) : Nat -> Mask.den nat_Div_l3_i -> Option (denS nat_Div_l3_o)
| 0, _ => none
| m + 1, x =>
 bif (decide (x.1.2.2.2.2.2.2.2.2.2.1 < x.1.2.2.2.2.2.2.2.2.1)) then
 if 0 <= x.1.2.2.2.2.2.2.2.2.2.1 then (x.1.2.2.2.2.2.2.2.1[Int.toNat x.1.2.2.2.2.2.2.2.2.2.1]?).bind fun y51 =>
 if x.1.2.2.2.2.2.1 < 0 then none else
 if 0 <= (IntKind.i64.wrap (x.1.2.2.2.2.2.2.2.2.2.1 + x.1.2.2.2.2.1)) then (x.2.1[Int.toNat (IntKind.i64.wrap (x.1.2.2.2.2.2.2.2.2.2.1 + x.1.2.2.2.2.1))]?).bind fun _ =>
 (x.2.1[(Int.toNat (IntKind.i64.wrap (x.1.2.2.2.2.2.2.2.2.2.1 + x.1.2.2.2.2.1)))]?).bind fun y53 =>
 if 0 <= (IntKind.i64.wrap (x.1.2.2.2.2.2.2.2.2.2.1 + x.1.2.2.2.2.1)) then (x.2.1[Int.toNat (IntKind.i64.wrap (x.1.2.2.2.2.2.2.2.2.2.1 + x.1.2.2.2.2.1))]?).bind fun _ =>
 (x.2.1[(Int.toNat (IntKind.i64.wrap (x.1.2.2.2.2.2.2.2.2.2.1 + x.1.2.2.2.2.1)))]?).bind fun y55 =>
 if 0 <= (IntKind.i64.wrap ((IntKind.i64.wrap (x.1.2.2.2.2.2.2.2.2.2.1 + x.1.2.2.2.2.1)) + 1)) then ((x.2.1.set (Int.toNat (IntKind.i64.wrap (x.1.2.2.2.2.2.2.2.2.2.1 + x.1.2.2.2.2.1))) (IntKind.u32.wrap (BitVec.toNat (BitVec.ofInt IntKind.u32.bits y53 ||| BitVec.ofInt IntKind.u32.bits (IntKind.u32.wrap (IntKind.u64.wrap ((IntKind.u64.wrap y51) * 2 ^ min (Int.toNat x.1.2.2.2.2.2.1) IntKind.u64.bits)))))))[Int.toNat (IntKind.i64.wrap ((IntKind.i64.wrap (x.1.2.2.2.2.2.2.2.2.2.1 + x.1.2.2.2.2.1)) + 1))]?).bind fun _ =>
 ((x.2.1.set (Int.toNat (IntKind.i64.wrap (x.1.2.2.2.2.2.2.2.2.2.1 + x.1.2.2.2.2.1))) (IntKind.u32.wrap (BitVec.toNat (BitVec.ofInt IntKind.u32.bits y53 ||| BitVec.ofInt IntKind.u32.bits (IntKind.u32.wrap (IntKind.u64.wrap ((IntKind.u64.wrap y51) * 2 ^ min (Int.toNat x.1.2.2.2.2.2.1) IntKind.u64.bits)))))))[(Int.toNat (IntKind.i64.wrap ((IntKind.i64.wrap (x.1.2.2.2.2.2.2.2.2.2.1 + x.1.2.2.2.2.1)) + 1)))]?).bind fun y57 =>
 if 0 <= (IntKind.i64.wrap ((IntKind.i64.wrap (x.1.2.2.2.2.2.2.2.2.2.1 + x.1.2.2.2.2.1)) + 1)) then ((x.2.1.set (Int.toNat (IntKind.i64.wrap (x.1.2.2.2.2.2.2.2.2.2.1 + x.1.2.2.2.2.1))) (IntKind.u32.wrap (BitVec.toNat (BitVec.ofInt IntKind.u32.bits y53 ||| BitVec.ofInt IntKind.u32.bits (IntKind.u32.wrap (IntKind.u64.wrap ((IntKind.u64.wrap y51) * 2 ^ min (Int.toNat x.1.2.2.2.2.2.1) IntKind.u64.bits)))))))[Int.toNat (IntKind.i64.wrap ((IntKind.i64.wrap (x.1.2.2.2.2.2.2.2.2.2.1 + x.1.2.2.2.2.1)) + 1))]?).bind fun _ =>
 ((x.2.1.set (Int.toNat (IntKind.i64.wrap (x.1.2.2.2.2.2.2.2.2.2.1 + x.1.2.2.2.2.1))) (IntKind.u32.wrap (BitVec.toNat (BitVec.ofInt IntKind.u32.bits y53 ||| BitVec.ofInt IntKind.u32.bits (IntKind.u32.wrap (IntKind.u64.wrap ((IntKind.u64.wrap y51) * 2 ^ min (Int.toNat x.1.2.2.2.2.2.1) IntKind.u64.bits)))))))[(Int.toNat (IntKind.i64.wrap ((IntKind.i64.wrap (x.1.2.2.2.2.2.2.2.2.2.1 + x.1.2.2.2.2.1)) + 1)))]?).bind fun y59 =>
 nat_Div_l3 k m ((x.1.1, x.1.2.1, x.1.2.2.1, x.1.2.2.2.1, x.1.2.2.2.2.1, x.1.2.2.2.2.2.1, (), x.1.2.2.2.2.2.2.2.1, x.1.2.2.2.2.2.2.2.2.1, (IntKind.i64.wrap (x.1.2.2.2.2.2.2.2.2.2.1 + 1)), ()), (((x.2.1.set (Int.toNat (IntKind.i64.wrap (x.1.2.2.2.2.2.2.2.2.2.1 + x.1.2.2.2.2.1))) (IntKind.u32.wrap (BitVec.toNat (BitVec.ofInt IntKind.u32.bits y53 ||| BitVec.ofInt IntKind.u32.bits (IntKind.u32.wrap (IntKind.u64.wrap ((IntKind.u64.wrap y51) * 2 ^ min (Int.toNat x.1.2.2.2.2.2.1) IntKind.u64.bits))))))).set (Int.toNat (IntKind.i64.wrap ((IntKind.i64.wrap (x.1.2.2.2.2.2.2.2.2.2.1 + x.1.2.2.2.2.1)) + 1))) (IntKind.u32.wrap (BitVec.toNat (BitVec.ofInt IntKind.u32.bits y57 ||| BitVec.ofInt IntKind.u32.bits (IntKind.u32.wrap (Int.fdiv (IntKind.u64.wrap ((IntKind.u64.wrap y51) * 2 ^ min (Int.toNat x.1.2.2.2.2.2.1) IntKind.u64.bits)) (2 ^ min (Int.toNat 32) IntKind.u64.bits))))))), ()))
 else none
 else none
 else none
 else none
 else none
 else
 some (Sum.inl ((x.1.1, x.1.2.1, x.1.2.2.1, x.1.2.2.2.1, (), ()), (x.2.1, ())))
abbrev nat_Div_l3_seg (k : Nat) : Seg := ⟨⟨513, 72, false, [0], []⟩, 125, [.b, .s2, .s1, .s2, .s2, .s2, .s2, .s2], nat_Div_l3_i, nat_Div_l3_o, nat_Div_l3 k k⟩
theorem nat_Div_l3_seg.ok (k : Nat) : SegOK Tryz.prog (e58 k) (nat_Div_l3_seg k) :=
 SegOK.loop (e58.ok k) (by kernel_rfl) (S := nat_Div_l3_seg k) (c := atR (codeOf (e58 k) 125) [.l, .b, .s2, .s1, .s2, .s2, .s2, .s2, .s2]) (by kernel_rfl) (nat_Div_l3 k) k rfl (fun _ => rfl) 8 .n trivial (fun k' x => by kernel_rfl)
abbrev nat_Div_l4_i : Mask := ⟨[(0, 0, (.v T154)), (0, 1, (.v T154)), (0, 9, (.v (.int .i64))), (0, 10, (.v T154)), (516, 0, (.k (.arr 2101283 0)))], [(2101283, .arr 161 (.int .u32))], [], 0⟩
abbrev nat_Div_l4_o : List Out := [⟨.exit 0, ⟨[(0, 0, (.v T154)), (0, 1, (.v T154)), (0, 9, (.v (.int .i64))), (0, 10, (.v T154)), (516, 0, (.k (.arr 2101283 0)))], [(2101283, .arr 161 (.int .u32))], [], 0⟩⟩]
def nat_Div_l4 (k : Nat) : Nat -> Mask.den nat_Div_l4_i -> Option (denS nat_Div_l4_o)
| 0, _ => none
| m + 1, x =>
 bif (decide ((x.2.1.length : Int) > 0)) then
 if 0 <= (IntKind.i64.wrap ((x.2.1.length : Int) - 1)) then (x.2.1[Int.toNat (IntKind.i64.wrap ((x.2.1.length : Int) - 1))]?).bind fun _ =>
 (x.2.1[(Int.toNat (IntKind.i64.wrap ((x.2.1.length : Int) - 1)))]?).bind fun y66 =>
 bif (y66 == 0) then
 if (0 : Int) <= (IntKind.i64.wrap ((x.2.1.length : Int) - 1)) /\ (IntKind.i64.wrap ((x.2.1.length : Int) - 1)) <= (x.2.1.length : Int) then
 nat_Div_l4 k m ((x.1.1, x.1.2.1, x.1.2.2.1, x.1.2.2.2.1, (), ()), ((List.take (Int.toNat (IntKind.i64.wrap ((x.2.1.length : Int) - 1))) x.2.1), ()))
 else none
 else
 some (Sum.inl ((x.1.1, x.1.2.1, x.1.2.2.1, x.1.2.2.2.1, (), ()), (x.2.1, ())))
 else none
 else
 some (Sum.inl ((x.1.1, x.1.2.1, x.1.2.2.1, x.1.2.2.2.1, (), ()), (x.2.1, ())))
abbrev nat_Div_l4_seg (k : Nat) : Seg := ⟨⟨516, 21, false, [513, 0], []⟩, 134, [.b, .s1, .s2], nat_Div_l4_i, nat_Div_l4_o, nat_Div_l4 k k⟩
theorem nat_Div_l4_seg.ok (k : Nat) : SegOK Tryz.prog (e58 k) (nat_Div_l4_seg k) :=
 SegOK.loop (e58.ok k) (by kernel_rfl) (S := nat_Div_l4_seg k) (c := atR (codeOf (e58 k) 134) [.l, .b, .s1, .s2]) (by kernel_rfl) (nat_Div_l4 k) k rfl (fun _ => rfl) 8 (.two .n (.two (.sp 4 .n) .n)) ⟨trivial, ⟨trivial, trivial⟩⟩ (fun k' x => by kernel_rfl)
abbrev nat_Div_l1_i : Mask := ⟨[(0, 9, (.v (.int .i64))), (0, 10, (.v T154)), (0, 11, (.k (.arr 58 0))), (0, 12, (.k (.arr 71 0))), (0, 14, (.v (.int .i64))), (0, 16, (.v (.int .u32))), (0, 73, (.v (.int .i64))), (0, 74, (.v (.int .i64))), (2, 0, (.k (.arr 58 0))), (2, 1, (.v T154)), (2, 2, (.v (.int .u32))), (2, 3, (.v (.int .i64))), (2, 9, (.v (.int .u32))), (2, 10, (.v (.int .u64))), (2, 14, (.v T154)), (2, 15, (.v (.int .i64))), (2, 16, (.v (.int .i64)))], [(58, .arr 161 (.int .u32)), (71, .arr 161 (.int .u32))], [], 0⟩
abbrev nat_Div_l1_o : List Out := [⟨.exit 0, ⟨[(0, 9, (.v (.int .i64))), (0, 10, (.v T154)), (0, 11, (.k (.arr 58 0))), (0, 12, (.k (.arr 71 0))), (0, 14, (.v (.int .i64))), (0, 16, (.v (.int .u32))), (0, 73, (.v (.int .i64))), (0, 74, (.v (.int .i64))), (2, 0, (.k (.arr 58 0))), (2, 1, (.v T154)), (2, 3, (.v (.int .i64))), (2, 9, (.v (.int .u32))), (2, 10, (.v (.int .u64)))], [(58, .arr 161 (.int .u32)), (71, .arr 161 (.int .u32))], [], 0⟩⟩]
def nat_Div_l1 (k : Nat) : Nat -> Mask.den nat_Div_l1_i -> Option (denS nat_Div_l1_o)
| 0, _ => none
| m + 1, x =>
 bif (decide (x.1.2.2.2.2.2.2.2.2.2.2.2.2.2.2.2.2.1 < x.1.2.2.2.2.2.2.2.2.2.2.2.2.2.2.2.1)) then
 if 0 <= x.1.2.2.2.2.2.2.2.2.2.2.2.2.2.2.2.2.1 then (x.1.2.2.2.2.2.2.2.2.2.2.2.2.2.2.1[Int.toNat x.1.2.2.2.2.2.2.2.2.2.2.2.2.2.2.2.2.1]?).bind fun y19 =>
 if 0 <= (IntKind.i64.wrap (x.1.2.2.2.2.2.2.2.2.2.2.2.1 + x.1.2.2.2.2.2.2.2.2.2.2.2.2.2.2.2.2.1)) then (x.2.1[Int.toNat (IntKind.i64.wrap (x.1.2.2.2.2.2.2.2.2.2.2.2.1 + x.1.2.2.2.2.2.2.2.2.2.2.2.2.2.2.2.2.1))]?).bind fun _ =>
 (x.2.1[(Int.toNat (IntKind.i64.wrap (x.1.2.2.2.2.2.2.2.2.2.2.2.1 + x.1.2.2.2.2.2.2.2.2.2.2.2.2.2.2.2.2.1)))]?).bind fun y21 =>
 (bits_Sub32 k y21 (IntKind.u32.wrap (IntKind.u64.wrap ((IntKind.u64.wrap ((IntKind.u64.wrap y19) * (IntKind.u64.wrap x.1.2.2.2.2.2.2.2.2.2.2.1))) + x.1.2.2.2.2.2.2.2.2.2.2.2.2.2.1))) x.1.2.2.2.2.2.2.2.2.2.2.2.2.1).bind fun r22 =>
 if 0 <= (IntKind.i64.wrap (x.1.2.2.2.2.2.2.2.2.2.2.2.1 + x.1.2.2.2.2.2.2.2.2.2.2.2.2.2.2.2.2.1)) then (x.2.1[Int.toNat (IntKind.i64.wrap (x.1.2.2.2.2.2.2.2.2.2.2.2.1 + x.1.2.2.2.2.2.2.2.2.2.2.2.2.2.2.2.2.1))]?).bind fun _ =>
 (x.2.1[(Int.toNat (IntKind.i64.wrap (x.1.2.2.2.2.2.2.2.2.2.2.2.1 + x.1.2.2.2.2.2.2.2.2.2.2.2.2.2.2.2.2.1)))]?).bind fun y24 =>
 nat_Div_l1 k m ((x.1.1, x.1.2.1, (), (), x.1.2.2.2.2.1, x.1.2.2.2.2.2.1, x.1.2.2.2.2.2.2.1, x.1.2.2.2.2.2.2.2.1, (), x.1.2.2.2.2.2.2.2.2.2.1, x.1.2.2.2.2.2.2.2.2.2.2.1, x.1.2.2.2.2.2.2.2.2.2.2.2.1, r22.2.1, (Int.fdiv (IntKind.u64.wrap ((IntKind.u64.wrap ((IntKind.u64.wrap y19) * (IntKind.u64.wrap x.1.2.2.2.2.2.2.2.2.2.2.1))) + x.1.2.2.2.2.2.2.2.2.2.2.2.2.2.1)) (2 ^ min (Int.toNat 32) IntKind.u64.bits)), x.1.2.2.2.2.2.2.2.2.2.2.2.2.2.2.1, x.1.2.2.2.2.2.2.2.2.2.2.2.2.2.2.2.1, (IntKind.i64.wrap (x.1.2.2.2.2.2.2.2.2.2.2.2.2.2.2.2.2.1 + 1)), ()), ((x.2.1.set (Int.toNat (IntKind.i64.wrap (x.1.2.2.2.2.2.2.2.2.2.2.2.1 + x.1.2.2.2.2.2.2.2.2.2.2.2.2.2.2.2.2.1))) r22.1), x.2.2.1, ()))
 else none
 else none
 else none
 else
 some (Sum.inl ((x.1.1, x.1.2.1, (), (), x.1.2.2.2.2.1, x.1.2.2.2.2.2.1, x.1.2.2.2.2.2.2.1, x.1.2.2.2.2.2.2.2.1, (), x.1.2.2.2.2.2.2.2.2.2.1, x.1.2.2.2.2.2.2.2.2.2.2.2.1, x.1.2.2.2.2.2.2.2.2.2.2.2.2.1, x.1.2.2.2.2.2.2.2.2.2.2.2.2.2.1, ()), (x.2.1, x.2.2.1, ())))
abbrev nat_Div_l1_seg (k : Nat) : Seg := ⟨⟨2, 71, false, [0], []⟩, 148, [.b, .s2, .s1, .s2, .s2], nat_Div_l1_i, nat_Div_l1_o, nat_Div_l1 k k⟩
theorem nat_Div_l1_seg.ok (k : Nat) : SegOK Tryz.prog (e58 k) (nat_Div_l1_seg k) :=
 SegOK.loop (e58.ok k) (by kernel_rfl) (S := nat_Div_l1_seg k) (c := atR (codeOf (e58 k) 148) [.l, .b, .s2, .s1, .s2, .s2]) (by kernel_rfl) (nat_Div_l1 k) k rfl (fun _ => rfl) 8 .n trivial (fun k' x => by kernel_rfl)
abbrev nat_Div_l2_i : Mask := ⟨[(0, 9, (.v (.int .i64))), (0, 10, (.v T154)), (0, 11, (.k (.arr 58 0))), (0, 12, (.k (.arr 71 0))), (0, 14, (.v (.int .i64))), (0, 16, (.v (.int .u32))), (0, 73, (.v (.int .i64))), (0, 74, (.v (.int .i64))), (3, 0, (.k (.arr 58 0))), (3, 1, (.v T154)), (3, 2, (.v (.int .i64))), (3, 6, (.v (.int .u32))), (3, 9, (.v T154)), (3, 10, (.v (.int .i64))), (3, 11, (.v (.int .i64)))], [(58, .arr 161 (.int .u32)), (71, .arr 161 (.int .u32))], [], 0⟩
abbrev nat_Div_l2_o : List Out := [⟨.exit 0, ⟨[(0, 9, (.v (.int .i64))), (0, 10, (.v T154)), (0, 11, (.k (.arr 58 0))), (0, 12, (.k (.arr 71 0))), (0, 14, (.v (.int .i64))), (0, 16, (.v (.int .u32))), (0, 73, (.v (.int .i64))), (0, 74, (.v (.int .i64))), (3, 0, (.k (.arr 58 0))), (3, 1, (.v T154)), (3, 2, (.v (.int .i64))), (3, 6, (.v (.int .u32)))], [(58, .arr 161 (.int .u32)), (71, .arr 161 (.int .u32))], [], 0⟩⟩]
def nat_Div_l2 (k : Nat) : Nat -> Mask.den nat_Div_l2_i -> Option (denS nat_Div_l2_o)
| 0, _ => none
| m + 1, x =>
 bif (decide (x.1.2.2.2.2.2.2.2.2.2.2.2.2.2.2.1 < x.1.2.2.2.2.2.2.2.2.2.2.2.2.2.1)) then
 if 0 <= x.1.2.2.2.2.2.2.2.2.2.2.2.2.2.2.1 then (x.1.2.2.2.2.2.2.2.2.2.2.2.2.1[Int.toNat x.1.2.2.2.2.2.2.2.2.2.2.2.2.2.2.1]?).bind fun y32 =>
 if 0 <= (IntKind.i64.wrap (x.1.2.2.2.2.2.2.2.2.2.2.1 + x.1.2.2.2.2.2.2.2.2.2.2.2.2.2.2.1)) then (x.2.1[Int.toNat (IntKind.i64.wrap (x.1.2.2.2.2.2.2.2.2.2.2.1 + x.1.2.2.2.2.2.2.2.2.2.2.2.2.2.2.1))]?).bind fun _ =>
 (x.2.1[(Int.toNat (IntKind.i64.wrap (x.1.2.2.2.2.2.2.2.2.2.2.1 + x.1.2.2.2.2.2.2.2.2.2.2.2.2.2.2.1)))]?).bind fun y34 =>
 (bits_Add32 k y34 y32 x.1.2.2.2.2.2.2.2.2.2.2.2.1).bind fun r35 =>
 if 0 <= (IntKind.i64.wrap (x.1.2.2.2.2.2.2.2.2.2.2.1 + x.1.2.2.2.2.2.2.2.2.2.2.2.2.2.2.1)) then (x.2.1[Int.toNat (IntKind.i64.wrap (x.1.2.2.2.2.2.2.2.2.2.2.1 + x.1.2.2.2.2.2.2.2.2.2.2.2.2.2.2.1))]?).bind fun _ =>
 (x.2.1[(Int.toNat (IntKind.i64.wrap (x.1.2.2.2.2.2.2.2.2.2.2.1 + x.1.2.2.2.2.2.2.2.2.2.2.2.2.2.2.1)))]?).bind fun y37 =>
 nat_Div_l2 k m ((x.1.1, x.1.2.1, (), (), x.1.2.2.2.2.1, x.1.2.2.2.2.2.1, x.1.2.2.2.2.2.2.1, x.1.2.2.2.2.2.2.2.1, (), x.1.2.2.2.2.2.2.2.2.2.1, x.1.2.2.2.2.2.2.2.2.2.2.1, r35.2.1, x.1.2.2.2.2.2.2.2.2.2.2.2.2.1, x.1.2.2.2.2.2.2.2.2.2.2.2.2.2.1, (IntKind.i64.wrap (x.1.2.2.2.2.2.2.2.2.2.2.2.2.2.2.1 + 1)), ()), ((x.2.1.set (Int.toNat (IntKind.i64.wrap (x.1.2.2.2.2.2.2.2.2.2.2.1 + x.1.2.2.2.2.2.2.2.2.2.2.2.2.2.2.1))) r35.1), x.2.2.1, ()))
 else none
 else none
 else none
 else
 some (Sum.inl ((x.1.1, x.1.2.1, (), (), x.1.2.2.2.2.1, x.1.2.2.2.2.2.1, x.1.2.2.2.2.2.2.1, x.1.2.2.2.2.2.2.2.1, (), x.1.2.2.2.2.2.2.2.2.2.1, x.1.2.2.2.2.2.2.2.2.2.2.1, x.1.2.2.2.2.2.2.2.2.2.2.2.1, ()), (x.2.1, x.2.2.1, ())))
abbrev nat_Div_l2_seg (k : Nat) : Seg := ⟨⟨3, 44, false, [0], []⟩, 149, [.b, .s2, .s1, .s2], nat_Div_l2_i, nat_Div_l2_o, nat_Div_l2 k k⟩
theorem nat_Div_l2_seg.ok (k : Nat) : SegOK Tryz.prog (e58 k) (nat_Div_l2_seg k) :=
 SegOK.loop (e58.ok k) (by kernel_rfl) (S := nat_Div_l2_seg k) (c := atR (codeOf (e58 k) 149) [.l, .b, .s2, .s1, .s2]) (by kernel_rfl) (nat_Div_l2 k) k rfl (fun _ => rfl) 8 .n trivial (fun k' x => by kernel_rfl)
abbrev nat_Div_l0_i : Mask := ⟨[(0, 9, (.v (.int .i64))), (0, 10, (.v T154)), (0, 11, (.k (.arr 58 0))), (0, 12, (.k (.arr 71 0))), (0, 73, (.v (.int .i64))), (0, 74, (.v (.int .i64)))], [(58, .arr 161 (.int .u32)), (71, .arr 161 (.int .u32))], [], 0⟩
abbrev nat_Div_l0_o : List Out := [⟨.exit 1, ⟨[(0, 9, (.v (.int .i64))), (0, 11, (.k (.arr 58 0))), (0, 12, (.k (.arr 71 0)))], [(58, .arr 161 (.int .u32)), (71, .arr 161 (.int .u32))], [], 0⟩⟩]
def nat_Div_l0 (k : Nat) : Nat -> Mask.den nat_Div_l0_i -> Option (denS nat_Div_l0_o)
| 0, _ => none
| m + 1, x =>
 bif (decide (x.1.2.2.2.2.2.1 < x.1.2.2.2.2.1)) then
 if 0 <= (IntKind.i64.wrap ((IntKind.i64.wrap ((IntKind.i64.wrap ((x.2.2.1.length : Int) - 1)) - x.1.2.2.2.2.2.1)) + (x.1.2.1.length : Int))) then (x.2.1[Int.toNat (IntKind.i64.wrap ((IntKind.i64.wrap ((IntKind.i64.wrap ((x.2.2.1.length : Int) - 1)) - x.1.2.2.2.2.2.1)) + (x.1.2.1.length : Int)))]?).bind fun _ =>
 (x.2.1[(Int.toNat (IntKind.i64.wrap ((IntKind.i64.wrap ((IntKind.i64.wrap ((x.2.2.1.length : Int) - 1)) - x.1.2.2.2.2.2.1)) + (x.1.2.1.length : Int))))]?).bind fun y11 =>
 if 0 <= (IntKind.i64.wrap ((IntKind.i64.wrap ((IntKind.i64.wrap ((IntKind.i64.wrap ((x.2.2.1.length : Int) - 1)) - x.1.2.2.2.2.2.1)) + (x.1.2.1.length : Int))) - 1)) then (x.2.1[Int.toNat (IntKind.i64.wrap ((IntKind.i64.wrap ((IntKind.i64.wrap ((IntKind.i64.wrap ((x.2.2.1.length : Int) - 1)) - x.1.2.2.2.2.2.1)) + (x.1.2.1.length : Int))) - 1))]?).bind fun _ =>
 (x.2.1[(Int.toNat (IntKind.i64.wrap ((IntKind.i64.wrap ((IntKind.i64.wrap ((IntKind.i64.wrap ((x.2.2.1.length : Int) - 1)) - x.1.2.2.2.2.2.1)) + (x.1.2.1.length : Int))) - 1)))]?).bind fun y13 =>
 if 0 <= (IntKind.i64.wrap ((IntKind.i64.wrap ((IntKind.i64.wrap ((IntKind.i64.wrap ((x.2.2.1.length : Int) - 1)) - x.1.2.2.2.2.2.1)) + (x.1.2.1.length : Int))) - 2)) then (x.2.1[Int.toNat (IntKind.i64.wrap ((IntKind.i64.wrap ((IntKind.i64.wrap ((IntKind.i64.wrap ((x.2.2.1.length : Int) - 1)) - x.1.2.2.2.2.2.1)) + (x.1.2.1.length : Int))) - 2))]?).bind fun _ =>
 (x.2.1[(Int.toNat (IntKind.i64.wrap ((IntKind.i64.wrap ((IntKind.i64.wrap ((IntKind.i64.wrap ((x.2.2.1.length : Int) - 1)) - x.1.2.2.2.2.2.1)) + (x.1.2.1.length : Int))) - 2)))]?).bind fun y15 =>
 if 0 <= (IntKind.i64.wrap ((x.1.2.1.length : Int) - 1)) then (x.1.2.1[Int.toNat (IntKind.i64.wrap ((x.1.2.1.length : Int) - 1))]?).bind fun y16 =>
 if 0 <= (IntKind.i64.wrap ((x.1.2.1.length : Int) - 2)) then (x.1.2.1[Int.toNat (IntKind.i64.wrap ((x.1.2.1.length : Int) - 2))]?).bind fun y17 =>
 (nat_guess k y11 y13 y15 y16 y17).bind fun r18 =>
 (nat_Div_l1 k k ((x.1.1, x.1.2.1, (), (), (IntKind.i64.wrap ((IntKind.i64.wrap ((x.2.2.1.length : Int) - 1)) - x.1.2.2.2.2.2.1)), r18.1, x.1.2.2.2.2.1, x.1.2.2.2.2.2.1, (), x.1.2.1, r18.1, (IntKind.i64.wrap ((IntKind.i64.wrap ((x.2.2.1.length : Int) - 1)) - x.1.2.2.2.2.2.1)), 0, 0, x.1.2.1, (x.1.2.1.length : Int), 0, ()), (x.2.1, x.2.2.1, ()))).bind fun q25 =>
 Sum.elim (fun z26 =>
 if 0 <= (IntKind.i64.wrap (z26.1.2.2.2.2.2.2.2.2.2.2.1 + (z26.1.2.2.2.2.2.2.2.2.2.1.length : Int))) then (z26.2.1[Int.toNat (IntKind.i64.wrap (z26.1.2.2.2.2.2.2.2.2.2.2.1 + (z26.1.2.2.2.2.2.2.2.2.2.1.length : Int)))]?).bind fun _ =>
 (z26.2.1[(Int.toNat (IntKind.i64.wrap (z26.1.2.2.2.2.2.2.2.2.2.2.1 + (z26.1.2.2.2.2.2.2.2.2.2.1.length : Int))))]?).bind fun y28 =>
 (bits_Sub32 k y28 (IntKind.u32.wrap z26.1.2.2.2.2.2.2.2.2.2.2.2.2.1) z26.1.2.2.2.2.2.2.2.2.2.2.2.1).bind fun r29 =>
 if 0 <= (IntKind.i64.wrap (z26.1.2.2.2.2.2.2.2.2.2.2.1 + (z26.1.2.2.2.2.2.2.2.2.2.1.length : Int))) then (z26.2.1[Int.toNat (IntKind.i64.wrap (z26.1.2.2.2.2.2.2.2.2.2.2.1 + (z26.1.2.2.2.2.2.2.2.2.2.1.length : Int)))]?).bind fun _ =>
 (z26.2.1[(Int.toNat (IntKind.i64.wrap (z26.1.2.2.2.2.2.2.2.2.2.2.1 + (z26.1.2.2.2.2.2.2.2.2.2.1.length : Int))))]?).bind fun y31 =>
 bif (r29.2.1 != 0) then
 (nat_Div_l2 k k ((z26.1.1, z26.1.2.1, (), (), z26.1.2.2.2.2.1, (IntKind.u32.wrap (z26.1.2.2.2.2.2.1 - 1)), z26.1.2.2.2.2.2.2.1, z26.1.2.2.2.2.2.2.2.1, (), z26.1.2.1, z26.1.2.2.2.2.1, 0, z26.1.2.1, (z26.1.2.1.length : Int), 0, ()), ((z26.2.1.set (Int.toNat (IntKind.i64.wrap (z26.1.2.2.2.2.2.2.2.2.2.2.1 + (z26.1.2.2.2.2.2.2.2.2.2.1.length : Int)))) r29.1), z26.2.2.1, ()))).bind fun q38 =>
 Sum.elim (fun z41 =>
 if 0 <= (IntKind.i64.wrap (z41.1.2.2.2.2.2.2.2.2.2.2.1 + (z41.1.2.2.2.2.2.2.2.2.2.1.length : Int))) then (z41.2.1[Int.toNat (IntKind.i64.wrap (z41.1.2.2.2.2.2.2.2.2.2.2.1 + (z41.1.2.2.2.2.2.2.2.2.2.1.length : Int)))]?).bind fun _ =>
 (z41.2.1[(Int.toNat (IntKind.i64.wrap (z41.1.2.2.2.2.2.2.2.2.2.2.1 + (z41.1.2.2.2.2.2.2.2.2.2.1.length : Int))))]?).bind fun y43 =>
 if 0 <= (IntKind.i64.wrap (z41.1.2.2.2.2.2.2.2.2.2.2.1 + (z41.1.2.2.2.2.2.2.2.2.2.1.length : Int))) then (z41.2.1[Int.toNat (IntKind.i64.wrap (z41.1.2.2.2.2.2.2.2.2.2.2.1 + (z41.1.2.2.2.2.2.2.2.2.2.1.length : Int)))]?).bind fun _ =>
 (z41.2.1[(Int.toNat (IntKind.i64.wrap (z41.1.2.2.2.2.2.2.2.2.2.2.1 + (z41.1.2.2.2.2.2.2.2.2.2.1.length : Int))))]?).bind fun y45 =>
 if 0 <= z41.1.2.2.2.2.1 then (z41.2.2.1[Int.toNat z41.1.2.2.2.2.1]?).bind fun _ =>
 (z41.2.2.1[(Int.toNat z41.1.2.2.2.2.1)]?).bind fun y47 =>
 nat_Div_l0 k m ((z41.1.1, z41.1.2.1, (), (), z41.1.2.2.2.2.2.2.1, (IntKind.i64.wrap (z41.1.2.2.2.2.2.2.2.1 + 1)), ()), ((z41.2.1.set (Int.toNat (IntKind.i64.wrap (z41.1.2.2.2.2.2.2.2.2.2.2.1 + (z41.1.2.2.2.2.2.2.2.2.2.1.length : Int)))) (IntKind.u32.wrap (y43 + z41.1.2.2.2.2.2.2.2.2.2.2.2.1))), (z41.2.2.1.set (Int.toNat z41.1.2.2.2.2.1) z41.1.2.2.2.2.2.1), ()))
 else none
 else none
 else none)
 (fun q38' =>
 none) q38
 else
 if 0 <= z26.1.2.2.2.2.1 then (z26.2.2.1[Int.toNat z26.1.2.2.2.2.1]?).bind fun _ =>
 (z26.2.2.1[(Int.toNat z26.1.2.2.2.2.1)]?).bind fun y40 =>
 nat_Div_l0 k m ((z26.1.1, z26.1.2.1, (), (), z26.1.2.2.2.2.2.2.1, (IntKind.i64.wrap (z26.1.2.2.2.2.2.2.2.1 + 1)), ()), ((z26.2.1.set (Int.toNat (IntKind.i64.wrap (z26.1.2.2.2.2.2.2.2.2.2.2.1 + (z26.1.2.2.2.2.2.2.2.2.2.1.length : Int)))) r29.1), (z26.2.2.1.set (Int.toNat z26.1.2.2.2.2.1) z26.1.2.2.2.2.2.1), ()))
 else none
 else none
 else none)
 (fun q25' =>
 none) q25
 else none
 else none
 else none
 else none
 else none
 else
 some (Sum.inl ((x.1.1, (), (), ()), (x.2.1, x.2.2.1, ())))
abbrev nat_Div_l0_seg (k : Nat) : Seg := ⟨⟨0, 134, false, [], []⟩, 136, [.b, .s2, .s1, .s2, .s2, .s2, .s2, .s2, .s2, .s2], nat_Div_l0_i, nat_Div_l0_o, nat_Div_l0 k k⟩
theorem nat_Div_l0_seg.ok (k : Nat) : SegOK Tryz.prog (e58 k) (nat_Div_l0_seg k) :=
 SegOK.loop (e58.ok k) (by kernel_rfl) (S := nat_Div_l0_seg k) (c := atR (codeOf (e58 k) 136) [.l, .b, .s2, .s1, .s2, .s2, .s2, .s2, .s2, .s2, .s2]) (by kernel_rfl) (nat_Div_l0 k) k rfl (fun _ => rfl) 8 (.two .n (.two .n (.two (.two (.two .n (.two .n (.two .n (.two .n (.two (.two (.call 4 2 (.two .n (.two .n (.two (.two .n (.two (.use (nat_Div_l1_seg k)) .n)) .n))) .n) (.two (.two .n (.call 3 3 (.two .n (.two (.two .n (.two (.use (nat_Div_l2_seg k)) .n)) .n)) .n)) .n)) .n))))) .n) .n))) ⟨trivial, ⟨trivial, ⟨⟨⟨trivial, ⟨trivial, ⟨trivial, ⟨trivial, ⟨⟨⟨⟨trivial, ⟨trivial, ⟨⟨trivial, ⟨(nat_Div_l1_seg.ok k), trivial⟩⟩, trivial⟩⟩⟩, trivial⟩, ⟨⟨trivial, ⟨⟨trivial, ⟨⟨trivial, ⟨(nat_Div_l2_seg.ok k), trivial⟩⟩, trivial⟩⟩, trivial⟩⟩, trivial⟩⟩, trivial⟩⟩⟩⟩⟩, trivial⟩, trivial⟩⟩⟩ (fun k' x => by kernel_rfl)
def nat_Div (k : Nat) (x0 : Ty.den T154) (x1 : Ty.den T154) : Option (HL [T154, T154, .bool]) :=
 (nat_cut k x0).bind fun r1 =>
 (nat_cut k x1).bind fun r2 =>
 bif ((r2.1.length : Int) == 0) then
 some ([], [], false, ())
 else
 (nat_Cmp k r1.1 r2.1).bind fun r3 =>
 bif (decide (r3.1 < 0)) then
 if r1.1.length * 4 <= 140737488355328 then
 some ([], r1.1, true, ())
 else none
 else
 bif ((r2.1.length : Int) == 1) then
 if 0 <= 0 then (r2.1[Int.toNat 0]?).bind fun y4 =>
 (nat_short k r1.1 y4).bind fun r5 =>
 some (r5.1, r5.2.1, true, ())
 else none
 else
 if 0 <= (IntKind.i64.wrap ((r2.1.length : Int) - 1)) then (r2.1[Int.toNat (IntKind.i64.wrap ((r2.1.length : Int) - 1))]?).bind fun y6 =>
 (bits_LeadingZeros32 k y6).bind fun r7 =>
 (nat_Shl k r2.1 r7.1).bind fun r8 =>
 (nat_cut k r1.1).bind fun r9 =>
 bif (decide (r7.1 < 1)) then
 if r9.1.length * 4 <= 140737488355328 then
 if (r9.1.length + [0, 0].length) * 4 <= 140737488355328 then
 if (0 : Int) <= (IntKind.i64.wrap ((r1.1.length : Int) + 1)) /\ (IntKind.i64.wrap ((r1.1.length : Int) + 1)) <= ((r9.1 ++ [0, 0]).length : Int) then
 if (IntKind.i64.wrap ((IntKind.i64.wrap ((r1.1.length : Int) - (r2.1.length : Int))) + 1)) = (IntKind.i64.wrap ((IntKind.i64.wrap ((r1.1.length : Int) - (r2.1.length : Int))) + 1)) /\ 0 <= (IntKind.i64.wrap ((IntKind.i64.wrap ((r1.1.length : Int) - (r2.1.length : Int))) + 1)) /\ Int.toNat (IntKind.i64.wrap ((IntKind.i64.wrap ((r1.1.length : Int) - (r2.1.length : Int))) + 1)) * 4 <= 140737488355328 then
 (nat_Div_l0 k k ((r7.1, r8.1, (), (), ((List.replicate (Int.toNat (IntKind.i64.wrap ((IntKind.i64.wrap ((r1.1.length : Int) - (r2.1.length : Int))) + 1))) (0 : Int)).length : Int), 0, ()), ((List.take (Int.toNat (IntKind.i64.wrap ((r1.1.length : Int) + 1))) (r9.1 ++ [0, 0])), (List.replicate (Int.toNat (IntKind.i64.wrap ((IntKind.i64.wrap ((r1.1.length : Int) - (r2.1.length : Int))) + 1))) (0 : Int)), ()))).bind fun q48 =>
 Sum.elim (fun z61 =>
 (nat_cut k z61.2.2.1).bind fun r62 =>
 (nat_Shr k z61.2.1 z61.1.1).bind fun r63 =>
 some (r62.1, r63.1, true, ()))
 (fun q48' =>
 none) q48
 else none
 else none
 else none
 else none
 else
 bif (decide (r7.1 > 16777216)) then
 if [0, 0].length * 4 <= 140737488355328 then
 if (0 : Int) <= (IntKind.i64.wrap ((r1.1.length : Int) + 1)) /\ (IntKind.i64.wrap ((r1.1.length : Int) + 1)) <= ([0, 0].length : Int) then
 if (IntKind.i64.wrap ((IntKind.i64.wrap ((r1.1.length : Int) - (r2.1.length : Int))) + 1)) = (IntKind.i64.wrap ((IntKind.i64.wrap ((r1.1.length : Int) - (r2.1.length : Int))) + 1)) /\ 0 <= (IntKind.i64.wrap ((IntKind.i64.wrap ((r1.1.length : Int) - (r2.1.length : Int))) + 1)) /\ Int.toNat (IntKind.i64.wrap ((IntKind.i64.wrap ((r1.1.length : Int) - (r2.1.length : Int))) + 1)) * 4 <= 140737488355328 then
 none
 else none
 else none
 else none
 else
 bif ((r9.1.length : Int) == 0) then
 if [0, 0].length * 4 <= 140737488355328 then
 if (0 : Int) <= (IntKind.i64.wrap ((r1.1.length : Int) + 1)) /\ (IntKind.i64.wrap ((r1.1.length : Int) + 1)) <= ([0, 0].length : Int) then
 if (IntKind.i64.wrap ((IntKind.i64.wrap ((r1.1.length : Int) - (r2.1.length : Int))) + 1)) = (IntKind.i64.wrap ((IntKind.i64.wrap ((r1.1.length : Int) - (r2.1.length : Int))) + 1)) /\ 0 <= (IntKind.i64.wrap ((IntKind.i64.wrap ((r1.1.length : Int) - (r2.1.length : Int))) + 1)) /\ Int.toNat (IntKind.i64.wrap ((IntKind.i64.wrap ((r1.1.length : Int) - (r2.1.length : Int))) + 1)) * 4 <= 140737488355328 then
 none
 else none
 else none
 else none
 else
 if (IntKind.i64.wrap ((IntKind.i64.wrap ((r9.1.length : Int) + (IntKind.i64.wrap (Int.tdiv r7.1 32)))) + 1)) = (IntKind.i64.wrap ((IntKind.i64.wrap ((r9.1.length : Int) + (IntKind.i64.wrap (Int.tdiv r7.1 32)))) + 1)) /\ 0 <= (IntKind.i64.wrap ((IntKind.i64.wrap ((r9.1.length : Int) + (IntKind.i64.wrap (Int.tdiv r7.1 32)))) + 1)) /\ Int.toNat (IntKind.i64.wrap ((IntKind.i64.wrap ((r9.1.length : Int) + (IntKind.i64.wrap (Int.tdiv r7.1 32)))) + 1)) * 4 <= 140737488355328 then
 (nat_Div_l3 k k ((r1.1, r2.1, r7.1, r8.1, (IntKind.i64.wrap (Int.tdiv r7.1 32)), (Int.tmod r7.1 32), (), r9.1, (r9.1.length : Int), 0, ()), ((List.replicate (Int.toNat (IntKind.i64.wrap ((IntKind.i64.wrap ((r9.1.length : Int) + (IntKind.i64.wrap (Int.tdiv r7.1 32)))) + 1))) (0 : Int)), ()))).bind fun q60 =>
 Sum.elim (fun z64 =>
 (nat_Div_l4 k k ((z64.1.1, z64.1.2.1, z64.1.2.2.1, z64.1.2.2.2.1, (), ()), (z64.2.1, ()))).bind fun q67 =>
 Sum.elim (fun z68 =>
 if (z68.2.1.length + [0, 0].length) * 4 <= 140737488355328 then
 if (0 : Int) <= (IntKind.i64.wrap ((z68.1.1.length : Int) + 1)) /\ (IntKind.i64.wrap ((z68.1.1.length : Int) + 1)) <= ((z68.2.1 ++ [0, 0]).length : Int) then
 if (IntKind.i64.wrap ((IntKind.i64.wrap ((z68.1.1.length : Int) - (z68.1.2.1.length : Int))) + 1)) = (IntKind.i64.wrap ((IntKind.i64.wrap ((z68.1.1.length : Int) - (z68.1.2.1.length : Int))) + 1)) /\ 0 <= (IntKind.i64.wrap ((IntKind.i64.wrap ((z68.1.1.length : Int) - (z68.1.2.1.length : Int))) + 1)) /\ Int.toNat (IntKind.i64.wrap ((IntKind.i64.wrap ((z68.1.1.length : Int) - (z68.1.2.1.length : Int))) + 1)) * 4 <= 140737488355328 then
 (nat_Div_l0 k k ((z68.1.2.2.1, z68.1.2.2.2.1, (), (), ((List.replicate (Int.toNat (IntKind.i64.wrap ((IntKind.i64.wrap ((z68.1.1.length : Int) - (z68.1.2.1.length : Int))) + 1))) (0 : Int)).length : Int), 0, ()), ((List.take (Int.toNat (IntKind.i64.wrap ((z68.1.1.length : Int) + 1))) (z68.2.1 ++ [0, 0])), (List.replicate (Int.toNat (IntKind.i64.wrap ((IntKind.i64.wrap ((z68.1.1.length : Int) - (z68.1.2.1.length : Int))) + 1))) (0 : Int)), ()))).bind fun q69 =>
 Sum.elim (fun z70 =>
 (nat_cut k z70.2.2.1).bind fun r71 =>
 (nat_Shr k z70.2.1 z70.1.1).bind fun r72 =>
 some (r71.1, r72.1, true, ()))
 (fun q69' =>
 none) q69
 else none
 else none
 else none)
 (fun q67' =>
 none) q67)
 (fun q60' =>
 none) q60
 else none
 else none
theorem nat_Div.ok (k : Nat) : SpecOK Tryz.prog G0 136 ⟨[T154, T154], [T154, T154, .bool], fun x => nat_Div k x.1 x.2.1⟩ :=
 evF_sound (E := (e58 k)) (fn := Tryz.f136) (e58.ok k) (by kernel_rfl) (by kernel_rfl) (by kernel_rfl) 8 (.two .n (.two .n (.two .n (.two .n (.two .n (.two (.call 2 513 (.two .n (.two .n (.two .n (.two .n (.two .n (.two (.two .n (.two (.use (nat_Div_l3_seg k)) .n)) (.two (.call 1 516 (.two .n (.two (.two (.use (nat_Div_l4_seg k)) .n) .n)) .n) .n))))))) (.sp 8 .n)) (.two .n (.two (.two .n (.two (.use (nat_Div_l0_seg k)) .n)) (.two (.own 1 (.own 4 .n)) .n))))))))) ⟨trivial, ⟨trivial, ⟨trivial, ⟨trivial, ⟨trivial, ⟨⟨⟨trivial, ⟨trivial, ⟨trivial, ⟨trivial, ⟨trivial, ⟨⟨trivial, ⟨(nat_Div_l3_seg.ok k), trivial⟩⟩, ⟨⟨⟨trivial, ⟨⟨(nat_Div_l4_seg.ok k), trivial⟩, trivial⟩⟩, trivial⟩, trivial⟩⟩⟩⟩⟩⟩⟩, trivial⟩, ⟨trivial, ⟨⟨trivial, ⟨(nat_Div_l0_seg.ok k), trivial⟩⟩, ⟨trivial, trivial⟩⟩⟩⟩⟩⟩⟩⟩⟩ (fun xs => by kernel_rfl)
def e59 (k : Nat) : Env := (e58 k).add 136 ⟨[T154, T154], [T154, T154, .bool], fun x => nat_Div k x.1 x.2.1⟩
theorem e59.ok (k : Nat) : (e59 k).OK Tryz.prog := (e58.ok k).add (nat_Div.ok k)
abbrev nat_Add_l0_i : Mask := ⟨[(0, 0, (.v T154)), (0, 1, (.v T154)), (0, 5, (.k (.arr 19 0))), (0, 6, (.v (.int .u32))), (0, 21, (.v (.int .i64))), (0, 22, (.v (.int .i64)))], [(19, .arr 161 (.int .u32))], [], 0⟩
abbrev nat_Add_l0_o : List Out := [⟨.exit 0, ⟨[(0, 0, (.v T154)), (0, 5, (.k (.arr 19 0))), (0, 6, (.v (.int .u32)))], [(19, .arr 161 (.int .u32))], [], 0⟩⟩]
def nat_Add_l0 (k : Nat) : Nat -> Mask.den nat_Add_l0_i -> Option (denS nat_Add_l0_o)
| 0, _ => none
| m + 1, x =>
 bif (decide (x.1.2.2.2.2.2.1 < x.1.2.2.2.2.1)) then
 bif (decide (x.1.2.2.2.2.2.1 < (x.1.2.1.length : Int))) then
 if 0 <= x.1.2.2.2.2.2.1 then (x.1.2.1[Int.toNat x.1.2.2.2.2.2.1]?).bind fun y1 =>
 if 0 <= x.1.2.2.2.2.2.1 then (x.1.1[Int.toNat x.1.2.2.2.2.2.1]?).bind fun y2 =>
 (bits_Add32 k y2 y1 x.1.2.2.2.1).bind fun r3 =>
 if 0 <= x.1.2.2.2.2.2.1 then (x.2.1[Int.toNat x.1.2.2.2.2.2.1]?).bind fun _ =>
 (x.2.1[(Int.toNat x.1.2.2.2.2.2.1)]?).bind fun y5 =>
 nat_Add_l0 k m ((x.1.1, x.1.2.1, (), r3.2.1, x.1.2.2.2.2.1, (IntKind.i64.wrap (x.1.2.2.2.2.2.1 + 1)), ()), ((x.2.1.set (Int.toNat x.1.2.2.2.2.2.1) r3.1), ()))
 else none
 else none
 else none
 else
 if 0 <= x.1.2.2.2.2.2.1 then (x.1.1[Int.toNat x.1.2.2.2.2.2.1]?).bind fun y6 =>
 (bits_Add32 k y6 0 x.1.2.2.2.1).bind fun r7 =>
 if 0 <= x.1.2.2.2.2.2.1 then (x.2.1[Int.toNat x.1.2.2.2.2.2.1]?).bind fun _ =>
 (x.2.1[(Int.toNat x.1.2.2.2.2.2.1)]?).bind fun y9 =>
 nat_Add_l0 k m ((x.1.1, x.1.2.1, (), r7.2.1, x.1.2.2.2.2.1, (IntKind.i64.wrap (x.1.2.2.2.2.2.1 + 1)), ()), ((x.2.1.set (Int.toNat x.1.2.2.2.2.2.1) r7.1), ()))
 else none
 else none
 else
 some (Sum.inl ((x.1.1, (), x.1.2.2.2.1, ()), (x.2.1, ())))
abbrev nat_Add_l0_seg (k : Nat) : Seg := ⟨⟨0, 54, false, [], []⟩, 138, [.b, .s2, .s1, .s2, .s2, .s2, .s2], nat_Add_l0_i, nat_Add_l0_o, nat_Add_l0 k k⟩
theorem nat_Add_l0_seg.ok (k : Nat) : SegOK Tryz.prog (e59 k) (nat_Add_l0_seg k) :=
 SegOK.loop (e59.ok k) (by kernel_rfl) (S := nat_Add_l0_seg k) (c := atR (codeOf (e59 k) 138) [.l, .b, .s2, .s1, .s2, .s2, .s2, .s2]) (by kernel_rfl) (nat_Add_l0 k) k rfl (fun _ => rfl) 8 .n trivial (fun k' x => by kernel_rfl)
def nat_Add (k : Nat) (x0 : Ty.den T154) (x1 : Ty.den T154) : Option (HL [T154]) :=
 bif (decide ((x0.length : Int) < (x1.length : Int))) then
 if (IntKind.i64.wrap ((x1.length : Int) + 1)) = (IntKind.i64.wrap ((x1.length : Int) + 1)) /\ 0 <= (IntKind.i64.wrap ((x1.length : Int) + 1)) /\ Int.toNat (IntKind.i64.wrap ((x1.length : Int) + 1)) * 4 <= 140737488355328 then
 (nat_Add_l0 k k ((x1, x0, (), 0, (x1.length : Int), 0, ()), ((List.replicate (Int.toNat (IntKind.i64.wrap ((x1.length : Int) + 1))) (0 : Int)), ()))).bind fun q10 =>
 Sum.elim (fun z12 =>
 if 0 <= (z12.1.1.length : Int) then (z12.2.1[Int.toNat (z12.1.1.length : Int)]?).bind fun _ =>
 (z12.2.1[(Int.toNat (z12.1.1.length : Int))]?).bind fun y14 =>
 (nat_cut k (z12.2.1.set (Int.toNat (z12.1.1.length : Int)) z12.1.2.2.1)).bind fun r15 =>
 some (r15.1, ())
 else none)
 (fun q10' =>
 none) q10
 else none
 else
 if (IntKind.i64.wrap ((x0.length : Int) + 1)) = (IntKind.i64.wrap ((x0.length : Int) + 1)) /\ 0 <= (IntKind.i64.wrap ((x0.length : Int) + 1)) /\ Int.toNat (IntKind.i64.wrap ((x0.length : Int) + 1)) * 4 <= 140737488355328 then
 (nat_Add_l0 k k ((x0, x1, (), 0, (x0.length : Int), 0, ()), ((List.replicate (Int.toNat (IntKind.i64.wrap ((x0.length : Int) + 1))) (0 : Int)), ()))).bind fun q11 =>
 Sum.elim (fun z16 =>
 if 0 <= (z16.1.1.length : Int) then (z16.2.1[Int.toNat (z16.1.1.length : Int)]?).bind fun _ =>
 (z16.2.1[(Int.toNat (z16.1.1.length : Int))]?).bind fun y18 =>
 (nat_cut k (z16.2.1.set (Int.toNat (z16.1.1.length : Int)) z16.1.2.2.1)).bind fun r19 =>
 some (r19.1, ())
 else none)
 (fun q11' =>
 none) q11
 else none
theorem nat_Add.ok (k : Nat) : SpecOK Tryz.prog G0 138 ⟨[T154, T154], [T154], fun x => nat_Add k x.1 x.2.1⟩ :=
 evF_sound (E := (e59 k)) (fn := Tryz.f138) (e59.ok k) (by kernel_rfl) (by kernel_rfl) (by kernel_rfl) 8 (.two .n (.two .n (.two .n (.two .n (.two (.two .n (.two (.use (nat_Add_l0_seg k)) .n)) (.two .n (.two (.own 1 .n) .n))))))) ⟨trivial, ⟨trivial, ⟨trivial, ⟨trivial, ⟨⟨trivial, ⟨(nat_Add_l0_seg.ok k), trivial⟩⟩, ⟨trivial, ⟨trivial, trivial⟩⟩⟩⟩⟩⟩⟩ (fun xs => by kernel_rfl)
def e60 (k : Nat) : Env := (e59 k).add 138 ⟨[T154, T154], [T154], fun x => nat_Add k x.1 x.2.1⟩
theorem e60.ok (k : Nat) : (e60 k).OK Tryz.prog := (e59.ok k).add (nat_Add.ok k)
abbrev nat_Mul_l1_i : Mask := ⟨[(0, 1, (.v T154)), (0, 5, (.k (.arr 17 0))), (0, 6, (.v (.int .i64))), (0, 7, (.v (.int .u32))), (0, 8, (.v (.int .u64))), (0, 18, (.v T154)), (0, 19, (.v (.int .i64))), (0, 20, (.v (.int .i64))), (0, 25, (.v T154)), (0, 26, (.v (.int .i64))), (0, 27, (.v (.int .i64)))], [(17, .arr 161 (.int .u32))], [], 0⟩
abbrev nat_Mul_l1_o : List Out := [⟨.exit 2, ⟨[(0, 1, (.v T154)), (0, 5, (.k (.arr 17 0))), (0, 6, (.v (.int .i64))), (0, 8, (.v (.int .u64))), (0, 18, (.v T154)), (0, 19, (.v (.int .i64))), (0, 20, (.v (.int .i64)))], [(17, .arr 161 (.int .u32))], [], 0⟩⟩]
def nat_Mul_l1 (k : Nat) : Nat -> Mask.den nat_Mul_l1_i -> Option (denS nat_Mul_l1_o)
| 0, _ => none
| m + 1, x =>
 bif (decide (x.1.2.2.2.2.2.2.2.2.2.2.1 < x.1.2.2.2.2.2.2.2.2.2.1)) then
 if 0 <= x.1.2.2.2.2.2.2.2.2.2.2.1 then (x.1.2.2.2.2.2.2.2.2.1[Int.toNat x.1.2.2.2.2.2.2.2.2.2.2.1]?).bind fun y2 =>
 if 0 <= (IntKind.i64.wrap (x.1.2.2.1 + x.1.2.2.2.2.2.2.2.2.2.2.1)) then (x.2.1[Int.toNat (IntKind.i64.wrap (x.1.2.2.1 + x.1.2.2.2.2.2.2.2.2.2.2.1))]?).bind fun _ =>
 (x.2.1[(Int.toNat (IntKind.i64.wrap (x.1.2.2.1 + x.1.2.2.2.2.2.2.2.2.2.2.1)))]?).bind fun y4 =>
 if 0 <= (IntKind.i64.wrap (x.1.2.2.1 + x.1.2.2.2.2.2.2.2.2.2.2.1)) then (x.2.1[Int.toNat (IntKind.i64.wrap (x.1.2.2.1 + x.1.2.2.2.2.2.2.2.2.2.2.1))]?).bind fun _ =>
 (x.2.1[(Int.toNat (IntKind.i64.wrap (x.1.2.2.1 + x.1.2.2.2.2.2.2.2.2.2.2.1)))]?).bind fun y6 =>
 nat_Mul_l1 k m ((x.1.1, (), x.1.2.2.1, x.1.2.2.2.1, (Int.fdiv (IntKind.u64.wrap ((IntKind.u64.wrap ((IntKind.u64.wrap ((IntKind.u64.wrap x.1.2.2.2.1) * (IntKind.u64.wrap y2))) + (IntKind.u64.wrap y4))) + x.1.2.2.2.2.1)) (2 ^ min (Int.toNat 32) IntKind.u64.bits)), x.1.2.2.2.2.2.1, x.1.2.2.2.2.2.2.1, x.1.2.2.2.2.2.2.2.1, x.1.2.2.2.2.2.2.2.2.1, x.1.2.2.2.2.2.2.2.2.2.1, (IntKind.i64.wrap (x.1.2.2.2.2.2.2.2.2.2.2.1 + 1)), ()), ((x.2.1.set (Int.toNat (IntKind.i64.wrap (x.1.2.2.1 + x.1.2.2.2.2.2.2.2.2.2.2.1))) (IntKind.u32.wrap (IntKind.u64.wrap ((IntKind.u64.wrap ((IntKind.u64.wrap ((IntKind.u64.wrap x.1.2.2.2.1) * (IntKind.u64.wrap y2))) + (IntKind.u64.wrap y4))) + x.1.2.2.2.2.1)))), ()))
 else none
 else none
 else none
 else
 some (Sum.inl ((x.1.1, (), x.1.2.2.1, x.1.2.2.2.2.1, x.1.2.2.2.2.2.1, x.1.2.2.2.2.2.2.1, x.1.2.2.2.2.2.2.2.1, ()), (x.2.1, ())))
abbrev nat_Mul_l1_seg (k : Nat) : Seg := ⟨⟨0, 68, false, [], []⟩, 140, [.b, .s2, .s1, .s2, .s2, .b, .s1, .s2, .s2, .l, .b, .s2, .s1, .s2, .s2], nat_Mul_l1_i, nat_Mul_l1_o, nat_Mul_l1 k k⟩
theorem nat_Mul_l1_seg.ok (k : Nat) : SegOK Tryz.prog (e60 k) (nat_Mul_l1_seg k) :=
 SegOK.loop (e60.ok k) (by kernel_rfl) (S := nat_Mul_l1_seg k) (c := atR (codeOf (e60 k) 140) [.l, .b, .s2, .s1, .s2, .s2, .b, .s1, .s2, .s2, .l, .b, .s2, .s1, .s2, .s2]) (by kernel_rfl) (nat_Mul_l1 k) k rfl (fun _ => rfl) 8 .n trivial (fun k' x => by kernel_rfl)
abbrev nat_Mul_l0_i : Mask := ⟨[(0, 1, (.v T154)), (0, 5, (.k (.arr 17 0))), (0, 18, (.v T154)), (0, 19, (.v (.int .i64))), (0, 20, (.v (.int .i64)))], [(17, .arr 161 (.int .u32))], [], 0⟩
abbrev nat_Mul_l0_o : List Out := [⟨.exit 0, ⟨[(0, 5, (.k (.arr 17 0)))], [(17, .arr 161 (.int .u32))], [], 0⟩⟩]
def nat_Mul_l0 (k : Nat) : Nat -> Mask.den nat_Mul_l0_i -> Option (denS nat_Mul_l0_o)
| 0, _ => none
| m + 1, x =>
 bif (decide (x.1.2.2.2.2.1 < x.1.2.2.2.1)) then
 if 0 <= x.1.2.2.2.2.1 then (x.1.2.2.1[Int.toNat x.1.2.2.2.2.1]?).bind fun y1 =>
 (nat_Mul_l1 k k ((x.1.1, (), x.1.2.2.2.2.1, y1, 0, x.1.2.2.1, x.1.2.2.2.1, x.1.2.2.2.2.1, x.1.1, (x.1.1.length : Int), 0, ()), (x.2.1, ()))).bind fun q7 =>
 Sum.elim (fun z8 =>
 if 0 <= (IntKind.i64.wrap (z8.1.2.2.1 + (z8.1.1.length : Int))) then (z8.2.1[Int.toNat (IntKind.i64.wrap (z8.1.2.2.1 + (z8.1.1.length : Int)))]?).bind fun _ =>
 (z8.2.1[(Int.toNat (IntKind.i64.wrap (z8.1.2.2.1 + (z8.1.1.length : Int))))]?).bind fun y10 =>
 nat_Mul_l0 k m ((z8.1.1, (), z8.1.2.2.2.2.1, z8.1.2.2.2.2.2.1, (IntKind.i64.wrap (z8.1.2.2.2.2.2.2.1 + 1)), ()), ((z8.2.1.set (Int.toNat (IntKind.i64.wrap (z8.1.2.2.1 + (z8.1.1.length : Int)))) (IntKind.u32.wrap z8.1.2.2.2.1)), ()))
 else none)
 (fun q7' =>
 none) q7
 else none
 else
 some (Sum.inl (((), ()), (x.2.1, ())))
abbrev nat_Mul_l0_seg (k : Nat) : Seg := ⟨⟨0, 68, false, [], []⟩, 140, [.b, .s2, .s1, .s2, .s2], nat_Mul_l0_i, nat_Mul_l0_o, nat_Mul_l0 k k⟩
theorem nat_Mul_l0_seg.ok (k : Nat) : SegOK Tryz.prog (e60 k) (nat_Mul_l0_seg k) :=
 SegOK.loop (e60.ok k) (by kernel_rfl) (S := nat_Mul_l0_seg k) (c := atR (codeOf (e60 k) 140) [.l, .b, .s2, .s1, .s2, .s2]) (by kernel_rfl) (nat_Mul_l0 k) k rfl (fun _ => rfl) 8 (.two .n (.two .n (.two (.two (.two .n (.two .n (.two (.two .n (.two (.use (nat_Mul_l1_seg k)) .n)) .n))) .n) .n))) ⟨trivial, ⟨trivial, ⟨⟨⟨trivial, ⟨trivial, ⟨⟨trivial, ⟨(nat_Mul_l1_seg.ok k), trivial⟩⟩, trivial⟩⟩⟩, trivial⟩, trivial⟩⟩⟩ (fun k' x => by kernel_rfl)
def nat_Mul (k : Nat) (x0 : Ty.den T154) (x1 : Ty.den T154) : Option (HL [T154]) :=
 if (IntKind.i64.wrap ((x0.length : Int) + (x1.length : Int))) = (IntKind.i64.wrap ((x0.length : Int) + (x1.length : Int))) /\ 0 <= (IntKind.i64.wrap ((x0.length : Int) + (x1.length : Int))) /\ Int.toNat (IntKind.i64.wrap ((x0.length : Int) + (x1.length : Int))) * 4 <= 140737488355328 then
 (nat_Mul_l0 k k ((x1, (), x0, (x0.length : Int), 0, ()), ((List.replicate (Int.toNat (IntKind.i64.wrap ((x0.length : Int) + (x1.length : Int)))) (0 : Int)), ()))).bind fun q11 =>
 Sum.elim (fun z12 =>
 (nat_cut k z12.2.1).bind fun r13 =>
 some (r13.1, ()))
 (fun q11' =>
 none) q11
 else none
theorem nat_Mul.ok (k : Nat) : SpecOK Tryz.prog G0 140 ⟨[T154, T154], [T154], fun x => nat_Mul k x.1 x.2.1⟩ :=
 evF_sound (E := (e60 k)) (fn := Tryz.f140) (e60.ok k) (by kernel_rfl) (by kernel_rfl) (by kernel_rfl) 8 (.two .n (.two .n (.two (.two .n (.two (.use (nat_Mul_l0_seg k)) .n)) (.two (.own 1 .n) .n)))) ⟨trivial, ⟨trivial, ⟨⟨trivial, ⟨(nat_Mul_l0_seg.ok k), trivial⟩⟩, ⟨trivial, trivial⟩⟩⟩⟩ (fun xs => by kernel_rfl)
def e61 (k : Nat) : Env := (e60 k).add 140 ⟨[T154, T154], [T154], fun x => nat_Mul k x.1 x.2.1⟩
theorem e61.ok (k : Nat) : (e61 k).OK Tryz.prog := (e60.ok k).add (nat_Mul.ok k)
abbrev nat_Root_l0_i : Mask := ⟨[(0, 0, (.v T154))], [], [], 0⟩
abbrev nat_Root_l0_o : List Out := [⟨.ret, ⟨[(0, 2, (.v T154)), (0, 3, (.v .bool))], [], [], 0⟩⟩]
abbrev nat_Root_l0_j : Mask := ⟨[(0, 0, (.v T154)), (0, 5, (.v T154))], [], [], 0⟩
def nat_Root_l0_g (k : Nat) : Nat -> Mask.den nat_Root_l0_j -> Option (denS nat_Root_l0_o)
| 0, _ => none
| m + 1, x =>
 (nat_Div k x.1.1 x.1.2.1).bind fun r10 =>
 (nat_Add k x.1.2.1 r10.1).bind fun r11 =>
 (nat_Shr k r11.1 1).bind fun r12 =>
 (nat_Cmp k r12.1 x.1.2.1).bind fun r13 =>
 bif (decide (r13.1 < 0)) then
 nat_Root_l0_g k m ((x.1.1, r12.1, ()), ())
 else
 (nat_Mul k x.1.2.1 x.1.2.1).bind fun r14 =>
 (nat_Cmp k r14.1 x.1.1).bind fun r15 =>
 some (Sum.inl ((x.1.2.1, (r15.1 == 0), ()), ()))
def nat_Root_l0 (k : Nat) (x : Mask.den nat_Root_l0_i) : Option (denS nat_Root_l0_o) :=
 (nat_cut k x.1.1).bind fun r1 =>
 bif ((r1.1.length : Int) == 0) then
 some (Sum.inl (([], true, ()), ()))
 else
 (nat_Len k r1.1).bind fun r2 =>
 (nat_Shl k [1] (IntKind.i64.wrap (Int.tdiv (IntKind.i64.wrap (r2.1 + 1)) 2))).bind fun r3 =>
 (nat_Div k r1.1 r3.1).bind fun r4 =>
 (nat_Add k r3.1 r4.1).bind fun r5 =>
 (nat_Shr k r5.1 1).bind fun r6 =>
 (nat_Cmp k r6.1 r3.1).bind fun r7 =>
 bif (decide (r7.1 < 0)) then
 nat_Root_l0_g k k ((r1.1, r6.1, ()), ())
 else
 (nat_Mul k r3.1 r3.1).bind fun r8 =>
 (nat_Cmp k r8.1 r1.1).bind fun r9 =>
 some (Sum.inl ((r3.1, (r9.1 == 0), ()), ()))
abbrev nat_Root_l0_seg (k : Nat) : Seg := ⟨⟨0, 40, false, [], []⟩, 124, [.s2], nat_Root_l0_i, nat_Root_l0_o, nat_Root_l0 k⟩
theorem nat_Root_l0_seg.ok (k : Nat) : SegOK Tryz.prog (e61 k) (nat_Root_l0_seg k) :=
 SegOK.scope (e61.ok k) (by kernel_rfl) (S := nat_Root_l0_seg k) (c := atR (codeOf (e61 k) 124) [.l, .s2]) (x := atR (codeOf (e61 k) 124) [.s2, .s2, .s2, .s2, .s2, .l, .s2]) (l := 0) (by kernel_rfl) (p := [.s2, .s2, .s2, .s2, .s2, .l, .s2]) rfl (by kernel_rfl) nat_Root_l0_j (nat_Root_l0_g k) k (fun _ => rfl) 8 .n .n trivial trivial (fun x => by kernel_rfl) (fun k' x => by kernel_rfl)
def nat_Root (k : Nat) (x0 : Ty.den T154) : Option (HL [T154, .bool]) :=
 (nat_Root_l0 k ((x0, ()), ())).bind fun q16 =>
 Sum.elim (fun z17 =>
 some (z17.1.1, z17.1.2.1, ()))
 (fun q16' =>
 none) q16
theorem nat_Root.ok (k : Nat) : SpecOK Tryz.prog G0 124 ⟨[T154], [T154, .bool], fun x => nat_Root k x.1⟩ :=
 evF_sound (E := (e61 k)) (fn := Tryz.f124) (e61.ok k) (by kernel_rfl) (by kernel_rfl) (by kernel_rfl) 8 (.two .n (.use (nat_Root_l0_seg k))) ⟨trivial, (nat_Root_l0_seg.ok k)⟩ (fun xs => by kernel_rfl)
def e62 (k : Nat) : Env := (e61 k).add 124 ⟨[T154], [T154, .bool], fun x => nat_Root k x.1⟩
theorem e62.ok (k : Nat) : (e62 k).OK Tryz.prog := (e61.ok k).add (nat_Root.ok k)
def quot_limbs (k : Nat) (x0 : Ty.den (.int .u64)) : Option (HL [T154]) :=
 some ([(IntKind.u32.wrap x0), (IntKind.u32.wrap (Int.fdiv x0 (2 ^ min (Int.toNat 32) IntKind.u64.bits)))], ())
theorem quot_limbs.ok (k : Nat) : SpecOK Tryz.prog G0 126 ⟨[(.int .u64)], [T154], fun x => quot_limbs k x.1⟩ :=
 evF_sound (E := (e62 k)) (fn := Tryz.f126) (e62.ok k) (by kernel_rfl) (by kernel_rfl) (by kernel_rfl) 8 .n trivial (fun xs => by kernel_rfl)
def e63 (k : Nat) : Env := (e62 k).add 126 ⟨[(.int .u64)], [T154], fun x => quot_limbs k x.1⟩
theorem e63.ok (k : Nat) : (e63 k).OK Tryz.prog := (e62.ok k).add (quot_limbs.ok k)
abbrev quot_word_l0_i : Mask := ⟨[(0, 3, (.v (.int .u64))), (0, 6, (.v T154)), (0, 7, (.v (.int .i64))), (0, 8, (.v (.int .i64)))], [], [], 0⟩
abbrev quot_word_l0_o : List Out := [⟨.exit 0, ⟨[(0, 3, (.v (.int .u64)))], [], [], 0⟩⟩]
def quot_word_l0 (k : Nat) : Nat -> Mask.den quot_word_l0_i -> Option (denS quot_word_l0_o)
| 0, _ => none
| m + 1, x =>
 bif (decide (x.1.2.2.2.1 < x.1.2.2.1)) then
 if 0 <= x.1.2.2.2.1 then (x.1.2.1[Int.toNat x.1.2.2.2.1]?).bind fun y1 =>
 if (IntKind.i64.wrap (32 * x.1.2.2.2.1)) < 0 then none else
 quot_word_l0 k m (((IntKind.u64.wrap (BitVec.toNat (BitVec.ofInt IntKind.u64.bits x.1.1 ||| BitVec.ofInt IntKind.u64.bits (IntKind.u64.wrap ((IntKind.u64.wrap y1) * 2 ^ min (Int.toNat (IntKind.i64.wrap (32 * x.1.2.2.2.1))) IntKind.u64.bits))))), x.1.2.1, x.1.2.2.1, (IntKind.i64.wrap (x.1.2.2.2.1 + 1)), ()), ())
 else none
 else
 some (Sum.inl ((x.1.1, ()), ()))
abbrev quot_word_l0_seg (k : Nat) : Seg := ⟨⟨0, 22, false, [], []⟩, 127, [.b, .s2, .s1, .s2, .s2], quot_word_l0_i, quot_word_l0_o, quot_word_l0 k k⟩
theorem quot_word_l0_seg.ok (k : Nat) : SegOK Tryz.prog (e63 k) (quot_word_l0_seg k) :=
 SegOK.loop (e63.ok k) (by kernel_rfl) (S := quot_word_l0_seg k) (c := atR (codeOf (e63 k) 127) [.l, .b, .s2, .s1, .s2, .s2]) (by kernel_rfl) (quot_word_l0 k) k rfl (fun _ => rfl) 8 .n trivial (fun k' x => by kernel_rfl)
def quot_word (k : Nat) (x0 : Ty.den T154) : Option (HL [(.int .u64)]) :=
 (quot_word_l0 k k ((0, x0, (x0.length : Int), 0, ()), ())).bind fun q2 =>
 Sum.elim (fun z3 =>
 some (z3.1.1, ()))
 (fun q2' =>
 none) q2
theorem quot_word.ok (k : Nat) : SpecOK Tryz.prog G0 127 ⟨[T154], [(.int .u64)], fun x => quot_word k x.1⟩ :=
 evF_sound (E := (e63 k)) (fn := Tryz.f127) (e63.ok k) (by kernel_rfl) (by kernel_rfl) (by kernel_rfl) 8 (.two .n (.two .n (.two (.two .n (.two (.use (quot_word_l0_seg k)) .n)) .n))) ⟨trivial, ⟨trivial, ⟨⟨trivial, ⟨(quot_word_l0_seg.ok k), trivial⟩⟩, trivial⟩⟩⟩ (fun xs => by kernel_rfl)
def e64 (k : Nat) : Env := (e63 k).add 127 ⟨[T154], [(.int .u64)], fun x => quot_word k x.1⟩
theorem e64.ok (k : Nat) : (e64 k).OK Tryz.prog := (e63.ok k).add (quot_word.ok k)
def quot_Root (k : Nat) (x0 : Ty.den T29) (x1 : Ty.den .bool) : Option (HL [T29, .bool]) :=
 (quot_fair k x0).bind fun r1 =>
 bif (r1.1.1 != 0) then
 bif r1.1.2.1 then
 some ((0, false, 0, 0), false, ())
 else
 bif (r1.1.1 != 1) then
 some (r1.1, true, ())
 else
 bif ((IntKind.i64.wrap (BitVec.toNat (BitVec.ofInt IntKind.i64.bits r1.1.2.2.2 &&& BitVec.ofInt IntKind.i64.bits 1))) != 0) then
 (quot_limbs k r1.1.2.2.1).bind fun r2 =>
 (nat_Shl k r2.1 (IntKind.i64.wrap (64 - 1))).bind fun r3 =>
 (nat_Root k r3.1).bind fun r4 =>
 (quot_word k r4.1).bind fun r5 =>
 (num_Grow k false r5.1 (IntKind.i64.wrap (Int.tdiv (IntKind.i64.wrap (r1.1.2.2.2 - (IntKind.i64.wrap (64 - 1)))) 2)) (!r4.2.1) x1).bind fun r6 =>
 some (r6.1, true, ())
 else
 (quot_limbs k r1.1.2.2.1).bind fun r7 =>
 (nat_Shl k r7.1 64).bind fun r8 =>
 (nat_Root k r8.1).bind fun r9 =>
 (quot_word k r9.1).bind fun r10 =>
 (num_Grow k false r10.1 (IntKind.i64.wrap (Int.tdiv (IntKind.i64.wrap (r1.1.2.2.2 - 64)) 2)) (!r9.2.1) x1).bind fun r11 =>
 some (r11.1, true, ())
 else
 bif (r1.1.1 != 1) then
 some (r1.1, true, ())
 else
 bif ((IntKind.i64.wrap (BitVec.toNat (BitVec.ofInt IntKind.i64.bits r1.1.2.2.2 &&& BitVec.ofInt IntKind.i64.bits 1))) != 0) then
 (quot_limbs k r1.1.2.2.1).bind fun r12 =>
 (nat_Shl k r12.1 (IntKind.i64.wrap (64 - 1))).bind fun r13 =>
 (nat_Root k r13.1).bind fun r14 =>
 (quot_word k r14.1).bind fun r15 =>
 (num_Grow k false r15.1 (IntKind.i64.wrap (Int.tdiv (IntKind.i64.wrap (r1.1.2.2.2 - (IntKind.i64.wrap (64 - 1)))) 2)) (!r14.2.1) x1).bind fun r16 =>
 some (r16.1, true, ())
 else
 (quot_limbs k r1.1.2.2.1).bind fun r17 =>
 (nat_Shl k r17.1 64).bind fun r18 =>
 (nat_Root k r18.1).bind fun r19 =>
 (quot_word k r19.1).bind fun r20 =>
 (num_Grow k false r20.1 (IntKind.i64.wrap (Int.tdiv (IntKind.i64.wrap (r1.1.2.2.2 - 64)) 2)) (!r19.2.1) x1).bind fun r21 =>
 some (r21.1, true, ())
theorem quot_Root.ok (k : Nat) : SpecOK Tryz.prog G0 112 ⟨[T29, .bool], [T29, .bool], fun x => quot_Root k x.1 x.2.1⟩ :=
 evF_sound (E := (e64 k)) (fn := Tryz.f112) (e64.ok k) (by kernel_rfl) (by kernel_rfl) (by kernel_rfl) 8 .n trivial (fun xs => by kernel_rfl)
def e65 (k : Nat) : Env := (e64 k).add 112 ⟨[T29, .bool], [T29, .bool], fun x => quot_Root k x.1 x.2.1⟩
theorem e65.ok (k : Nat) : (e65 k).OK Tryz.prog := (e64.ok k).add (quot_Root.ok k)
def ivop_Root (k : Nat) (x0 : Ty.den T31) : Option (HL [T31]) :=
 (ivop_positive k).bind fun r1 =>
 (iv_Meet k [x0, r1.1]).bind fun r2 =>
 bif r2.1.1 then
 some (r2.1, ())
 else
 (quot_Root k r2.1.2.1 false).bind fun r3 =>
 (quot_Root k r2.1.2.2 true).bind fun r4 =>
 (iv_Make k r3.1 r4.1).bind fun r5 =>
 some (r5.1, ())
theorem ivop_Root.ok (k : Nat) : SpecOK Tryz.prog G0 97 ⟨[T31], [T31], fun x => ivop_Root k x.1⟩ :=
 evF_sound (E := (e65 k)) (fn := Tryz.f97) (e65.ok k) (by kernel_rfl) (by kernel_rfl) (by kernel_rfl) 8 .n trivial (fun xs => by kernel_rfl)
def e66 (k : Nat) : Env := (e65 k).add 97 ⟨[T31], [T31], fun x => ivop_Root k x.1⟩
theorem e66.ok (k : Nat) : (e66 k).OK Tryz.prog := (e65.ok k).add (ivop_Root.ok k)
def polar_far (k : Nat) (x0 : Ty.den T31) (x1 : Ty.den T31) : Option (HL [T31]) :=
 (ivop_Sqr k x0).bind fun r1 =>
 (ivop_Sqr k x1).bind fun r2 =>
 (ivop_Add k [r1.1, r2.1]).bind fun r3 =>
 (ivop_Root k r3.1).bind fun r4 =>
 some (r4.1, ())
theorem polar_far.ok (k : Nat) : SpecOK Tryz.prog G0 76 ⟨[T31, T31], [T31], fun x => polar_far k x.1 x.2.1⟩ :=
 evF_sound (E := (e66 k)) (fn := Tryz.f76) (e66.ok k) (by kernel_rfl) (by kernel_rfl) (by kernel_rfl) 8 .n trivial (fun xs => by kernel_rfl)
def e67 (k : Nat) : Env := (e66 k).add 76 ⟨[T31, T31], [T31], fun x => polar_far k x.1 x.2.1⟩
theorem e67.ok (k : Nat) : (e67 k).OK Tryz.prog := (e66.ok k).add (polar_far.ok k)
def back_Plus (k : Nat) (x0 : Ty.den T31) (x1 : Ty.den T31) (x2 : Ty.den T31) : Option (HL [T31, T31]) :=
 (ivop_Sub k x0 x2).bind fun r1 =>
 (iv_Meet k [x1, r1.1]).bind fun r2 =>
 (ivop_Sub k x0 r2.1).bind fun r3 =>
 (iv_Meet k [x2, r3.1]).bind fun r4 =>
 some (r2.1, r4.1, ())
theorem back_Plus.ok (k : Nat) : SpecOK Tryz.prog G0 77 ⟨[T31, T31, T31], [T31, T31], fun x => back_Plus k x.1 x.2.1 x.2.2.1⟩ :=
 evF_sound (E := (e67 k)) (fn := Tryz.f77) (e67.ok k) (by kernel_rfl) (by kernel_rfl) (by kernel_rfl) 8 .n trivial (fun xs => by kernel_rfl)
def e68 (k : Nat) : Env := (e67 k).add 77 ⟨[T31, T31, T31], [T31, T31], fun x => back_Plus k x.1 x.2.1 x.2.2.1⟩
theorem e68.ok (k : Nat) : (e68 k).OK Tryz.prog := (e67.ok k).add (back_Plus.ok k)
def back_Minus (k : Nat) (x0 : Ty.den T31) (x1 : Ty.den T31) (x2 : Ty.den T31) : Option (HL [T31, T31]) :=
 (ivop_Add k [x0, x2]).bind fun r1 =>
 (iv_Meet k [x1, r1.1]).bind fun r2 =>
 (ivop_Sub k r2.1 x0).bind fun r3 =>
 (iv_Meet k [x2, r3.1]).bind fun r4 =>
 some (r2.1, r4.1, ())
theorem back_Minus.ok (k : Nat) : SpecOK Tryz.prog G0 79 ⟨[T31, T31, T31], [T31, T31], fun x => back_Minus k x.1 x.2.1 x.2.2.1⟩ :=
 evF_sound (E := (e68 k)) (fn := Tryz.f79) (e68.ok k) (by kernel_rfl) (by kernel_rfl) (by kernel_rfl) 8 .n trivial (fun xs => by kernel_rfl)
def e69 (k : Nat) : Env := (e68 k).add 79 ⟨[T31, T31, T31], [T31, T31], fun x => back_Minus k x.1 x.2.1 x.2.2.1⟩
theorem e69.ok (k : Nat) : (e69 k).OK Tryz.prog := (e68.ok k).add (back_Minus.ok k)
def iv_Hull (k : Nat) (x0 : Ty.den T57) : Option (HL [T31]) :=
 (iv_ends k x0).bind fun r1 =>
 bif ((r1.1.length : Int) == 0) then
 (iv_None k).bind fun r2 =>
 some (r2.1, ())
 else
 (num_Least k r1.1).bind fun r3 =>
 (num_Most k r1.2.1).bind fun r4 =>
 (iv_Make k r3.1 r4.1).bind fun r5 =>
 some (r5.1, ())
theorem iv_Hull.ok (k : Nat) : SpecOK Tryz.prog G0 100 ⟨[T57], [T31], fun x => iv_Hull k x.1⟩ :=
 evF_sound (E := (e69 k)) (fn := Tryz.f100) (e69.ok k) (by kernel_rfl) (by kernel_rfl) (by kernel_rfl) 8 .n trivial (fun xs => by kernel_rfl)
def e70 (k : Nat) : Env := (e69 k).add 100 ⟨[T57], [T31], fun x => iv_Hull k x.1⟩
theorem e70.ok (k : Nat) : (e70 k).OK Tryz.prog := (e69.ok k).add (iv_Hull.ok k)
def back_Sqr (k : Nat) (x0 : Ty.den T31) (x1 : Ty.den T31) : Option (HL [T31]) :=
 (ivop_Root k x0).bind fun r1 =>
 (iv_Meet k [x1, r1.1]).bind fun r2 =>
 (ivop_Neg k r1.1).bind fun r3 =>
 (iv_Meet k [x1, r3.1]).bind fun r4 =>
 (iv_Hull k [r2.1, r4.1]).bind fun r5 =>
 some (r5.1, ())
theorem back_Sqr.ok (k : Nat) : SpecOK Tryz.prog G0 80 ⟨[T31, T31], [T31], fun x => back_Sqr k x.1 x.2.1⟩ :=
 evF_sound (E := (e70 k)) (fn := Tryz.f80) (e70.ok k) (by kernel_rfl) (by kernel_rfl) (by kernel_rfl) 8 .n trivial (fun xs => by kernel_rfl)
def e71 (k : Nat) : Env := (e70 k).add 80 ⟨[T31, T31], [T31], fun x => back_Sqr k x.1 x.2.1⟩
theorem e71.ok (k : Nat) : (e71 k).OK Tryz.prog := (e70.ok k).add (back_Sqr.ok k)
def box_none (k : Nat) (x0 : Ty.den T31) : Option (HL [.bool]) :=
 bif x0.1 then
 some (true, ())
 else
 (iv_May k x0).bind fun r1 =>
 some ((!r1.1), ())
theorem box_none.ok (k : Nat) : SpecOK Tryz.prog G0 116 ⟨[T31], [.bool], fun x => box_none k x.1⟩ :=
 evF_sound (E := (e71 k)) (fn := Tryz.f116) (e71.ok k) (by kernel_rfl) (by kernel_rfl) (by kernel_rfl) 8 .n trivial (fun xs => by kernel_rfl)
def e72 (k : Nat) : Env := (e71 k).add 116 ⟨[T31], [.bool], fun x => box_none k x.1⟩
theorem e72.ok (k : Nat) : (e72 k).OK Tryz.prog := (e71.ok k).add (box_none.ok k)
abbrev box_Empty_l0_i : Mask := ⟨[(2, 0, (.v T57)), (2, 1, (.k (.clo 116 .nl))), (2, 7, (.v (.int .i64))), (2, 8, (.v (.int .i64)))], [], [], 0⟩
abbrev box_Empty_l0_o : List Out := [⟨.ret, ⟨[(2, 4, (.v (.int .i64)))], [], [], 0⟩⟩, ⟨.exit 0, ⟨[], [], [], 0⟩⟩]
def box_Empty_l0 (k : Nat) : Nat -> Mask.den box_Empty_l0_i -> Option (denS box_Empty_l0_o)
| 0, _ => none
| m + 1, x =>
 bif (decide (x.1.2.2.2.1 < x.1.2.2.1)) then
 if 0 <= x.1.2.2.2.1 then (x.1.1[Int.toNat x.1.2.2.2.1]?).bind fun y1 =>
 (box_none k y1).bind fun r2 =>
 bif r2.1 then
 some (Sum.inl ((x.1.2.2.2.1, ()), ()))
 else
 box_Empty_l0 k m ((x.1.1, (), x.1.2.2.1, (IntKind.i64.wrap (x.1.2.2.2.1 + 1)), ()), ())
 else none
 else
 some (Sum.inr (Sum.inl ((), ())))
abbrev box_Empty_l0_seg (k : Nat) : Seg := ⟨⟨2, 19, false, [1, 0], []⟩, 105, [.b, .s2, .s1, .s2], box_Empty_l0_i, box_Empty_l0_o, box_Empty_l0 k k⟩
theorem box_Empty_l0_seg.ok (k : Nat) : SegOK Tryz.prog (e72 k) (box_Empty_l0_seg k) :=
 SegOK.loop (e72.ok k) (by kernel_rfl) (S := box_Empty_l0_seg k) (c := atR (codeOf (e72 k) 105) [.l, .b, .s2, .s1, .s2]) (by kernel_rfl) (box_Empty_l0 k) k rfl (fun _ => rfl) 8 .n trivial (fun k' x => by kernel_rfl)
def box_Empty (k : Nat) (x0 : Ty.den T57) : Option (HL [.bool]) :=
 (box_Empty_l0 k k ((x0, (), (x0.length : Int), 0, ()), ())).bind fun q3 =>
 Sum.elim (fun z4 =>
 some ((decide (z4.1.1 >= 0)), ()))
 (fun q3' =>
 Sum.elim (fun z5 =>
 some (false, ()))
 (fun q3'' =>
 none) q3') q3
theorem box_Empty.ok (k : Nat) : SpecOK Tryz.prog G0 101 ⟨[T57], [.bool], fun x => box_Empty k x.1⟩ :=
 evF_sound (E := (e72 k)) (fn := Tryz.f101) (e72.ok k) (by kernel_rfl) (by kernel_rfl) (by kernel_rfl) 8 (.two .n (.two (.call 1 1 (.two .n (.two (.call 2 2 (.two .n (.two (.two .n (.two (.use (box_Empty_l0_seg k)) .n)) .n)) .n) .n)) .n) .n)) ⟨trivial, ⟨⟨⟨trivial, ⟨⟨⟨trivial, ⟨⟨trivial, ⟨(box_Empty_l0_seg.ok k), trivial⟩⟩, trivial⟩⟩, trivial⟩, trivial⟩⟩, trivial⟩, trivial⟩⟩ (fun xs => by kernel_rfl)
def e73 (k : Nat) : Env := (e72 k).add 101 ⟨[T57], [.bool], fun x => box_Empty k x.1⟩
theorem e73.ok (k : Nat) : (e73 k).OK Tryz.prog := (e72.ok k).add (box_Empty.ok k)
def bits_Mul32 (k : Nat) (x0 : Ty.den (.int .u32)) (x1 : Ty.den (.int .u32)) : Option (HL [(.int .u32), (.int .u32)]) :=
 some ((IntKind.u32.wrap (Int.fdiv (IntKind.u64.wrap ((IntKind.u64.wrap x0) * (IntKind.u64.wrap x1))) (2 ^ min (Int.toNat 32) IntKind.u64.bits))), (IntKind.u32.wrap (IntKind.u64.wrap ((IntKind.u64.wrap x0) * (IntKind.u64.wrap x1)))), ())
theorem bits_Mul32.ok (k : Nat) : SpecOK Tryz.prog G0 129 ⟨[(.int .u32), (.int .u32)], [(.int .u32), (.int .u32)], fun x => bits_Mul32 k x.1 x.2.1⟩ :=
 evF_sound (E := (e73 k)) (fn := Tryz.f129) (e73.ok k) (by kernel_rfl) (by kernel_rfl) (by kernel_rfl) 8 .n trivial (fun xs => by kernel_rfl)
def e74 (k : Nat) : Env := (e73 k).add 129 ⟨[(.int .u32), (.int .u32)], [(.int .u32), (.int .u32)], fun x => bits_Mul32 k x.1 x.2.1⟩
theorem e74.ok (k : Nat) : (e74 k).OK Tryz.prog := (e73.ok k).add (bits_Mul32.ok k)
def bits_Mul (k : Nat) (x0 : Ty.den (.int .u64)) (x1 : Ty.den (.int .u64)) : Option (HL [(.int .u64), (.int .u64)]) :=
 (bits_Mul64 k x0 x1).bind fun r1 =>
 some (r1.1, r1.2.1, ())
theorem bits_Mul.ok (k : Nat) : SpecOK Tryz.prog G0 117 ⟨[(.int .u64), (.int .u64)], [(.int .u64), (.int .u64)], fun x => bits_Mul k x.1 x.2.1⟩ :=
 evF_sound (E := (e74 k)) (fn := Tryz.f117) (e74.ok k) (by kernel_rfl) (by kernel_rfl) (by kernel_rfl) 8 .n trivial (fun xs => by kernel_rfl)
def e75 (k : Nat) : Env := (e74 k).add 117 ⟨[(.int .u64), (.int .u64)], [(.int .u64), (.int .u64)], fun x => bits_Mul k x.1 x.2.1⟩
theorem e75.ok (k : Nat) : (e75 k).OK Tryz.prog := (e74.ok k).add (bits_Mul.ok k)
def box_Fair (k : Nat) (x0 : Ty.den T57) : Option (HL [T57]) :=
 (box_Empty k x0).bind fun r1 =>
 bif r1.1 then
 (iv_None k).bind fun r2 =>
 (w_Repeat k [r2.1] (x0.length : Int)).bind fun r3 =>
 some (r3.1, ())
 else
 if x0.length * 72 <= 140737488355328 then
 some (x0, ())
 else none
theorem box_Fair.ok (k : Nat) : SpecOK Tryz.prog G0 81 ⟨[T57], [T57], fun x => box_Fair k x.1⟩ :=
 evF_sound (E := (e75 k)) (fn := Tryz.f81) (e75.ok k) (by kernel_rfl) (by kernel_rfl) (by kernel_rfl) 8 .n trivial (fun xs => by kernel_rfl)
def e76 (k : Nat) : Env := (e75 k).add 81 ⟨[T57], [T57], fun x => box_Fair k x.1⟩
theorem e76.ok (k : Nat) : (e76 k).OK Tryz.prog := (e75.ok k).add (box_Fair.ok k)
def polar_Distance (k : Nat) (x0 : Ty.den T57) : Option (HL [T57]) :=
 bif ((x0.length : Int) != 5) then
 some ([], ())
 else
 (nestV T31 4 x0).bind fun y1 =>
 (ivop_Sub k y1.1 y1.2.2.1).bind fun r2 =>
 (ivop_Sub k y1.2.1 y1.2.2.2.1).bind fun r3 =>
 (polar_positive k).bind fun r4 =>
 (polar_far k r2.1 r3.1).bind fun r5 =>
 (iv_Meet k [y1.2.2.2.2, r4.1, r5.1]).bind fun r6 =>
 (ivop_Sqr k r6.1).bind fun r7 =>
 (ivop_Sqr k r2.1).bind fun r8 =>
 (ivop_Sqr k r3.1).bind fun r9 =>
 (back_Plus k r7.1 r8.1 r9.1).bind fun r10 =>
 (back_Sqr k r10.1 r2.1).bind fun r11 =>
 (back_Minus k r11.1 y1.1 y1.2.2.1).bind fun r12 =>
 (back_Sqr k r10.2.1 r3.1).bind fun r13 =>
 (back_Minus k r13.1 y1.2.1 y1.2.2.2.1).bind fun r14 =>
 (box_Fair k [r12.1, r14.1, r12.2.1, r14.2.1, r6.1]).bind fun r15 =>
 some (r15.1, ())
theorem polar_Distance.ok (k : Nat) : SpecOK Tryz.prog G0 48 ⟨[T57], [T57], fun x => polar_Distance k x.1⟩ :=
 evF_sound (E := (e76 k)) (fn := Tryz.f48) (e76.ok k) (by kernel_rfl) (by kernel_rfl) (by kernel_rfl) 8 (.two .n (.two .n (.two (.sp 1 .n) (.two .n (.two .n (.two .n (.two .n (.two .n (.two (.sp 0 .n) .n))))))))) ⟨trivial, ⟨trivial, ⟨trivial, ⟨trivial, ⟨trivial, ⟨trivial, ⟨trivial, ⟨trivial, ⟨trivial, trivial⟩⟩⟩⟩⟩⟩⟩⟩⟩ (fun xs => by kernel_rfl)
def e77 (k : Nat) : Env := (e76 k).add 48 ⟨[T57], [T57], fun x => polar_Distance k x.1⟩
theorem e77.ok (k : Nat) : (e77 k).OK Tryz.prog := (e76.ok k).add (polar_Distance.ok k)
def tube_Gate (k : Nat) (x0 : Ty.den T45) (x1 : Ty.den (.int .i64)) : Option (HL [T31]) :=
 (tube_May k x0).bind fun r1 =>
 bif (!r1.1) then
 (iv_None k).bind fun r2 =>
 some (r2.1, ())
 else
 bif (decide (x1 < 0)) then
 (iv_None k).bind fun r3 =>
 some (r3.1, ())
 else
 bif (decide (x1 > (x0.2.2.length : Int))) then
 (iv_None k).bind fun r4 =>
 some (r4.1, ())
 else
 bif (x1 == 0) then
 some (x0.2.1, ())
 else
 if 0 <= (IntKind.i64.wrap (x1 - 1)) then (x0.2.2[Int.toNat (IntKind.i64.wrap (x1 - 1))]?).bind fun y5 =>
 some (y5.2.2, ())
 else none
theorem tube_Gate.ok (k : Nat) : SpecOK Tryz.prog G0 49 ⟨[T45, (.int .i64)], [T31], fun x => tube_Gate k x.1 x.2.1⟩ :=
 evF_sound (E := (e77 k)) (fn := Tryz.f49) (e77.ok k) (by kernel_rfl) (by kernel_rfl) (by kernel_rfl) 8 .n trivial (fun xs => by kernel_rfl)
def e78 (k : Nat) : Env := (e77 k).add 49 ⟨[T45, (.int .i64)], [T31], fun x => tube_Gate k x.1 x.2.1⟩
theorem e78.ok (k : Nat) : (e78 k).OK Tryz.prog := (e77.ok k).add (tube_Gate.ok k)
abbrev api_Slice_l0_i : Mask := ⟨[(0, 0, (.v T44)), (0, 1, (.v T44)), (0, 12, (.v (.int .i64))), (0, 13, (.v (.int .i64)))], [], [], 0⟩
abbrev api_Slice_l0_o : List Out := [⟨.ret, ⟨[(0, 4, (.v .bool))], [], [], 0⟩⟩, ⟨.exit 0, ⟨[], [], [], 0⟩⟩]
def api_Slice_l0 (k : Nat) : Nat -> Mask.den api_Slice_l0_i -> Option (denS api_Slice_l0_o)
| 0, _ => none
| m + 1, x =>
 bif (decide (x.1.2.2.2.1 < x.1.2.2.1)) then
 if 0 <= x.1.2.2.2.1 then (x.1.1[Int.toNat x.1.2.2.2.1]?).bind fun y1 =>
 if 0 <= x.1.2.2.2.1 then (x.1.2.1[Int.toNat x.1.2.2.2.1]?).bind fun y2 =>
 bif (!(beqT T77 y1 y2)) then
 some (Sum.inl ((false, ()), ()))
 else
 api_Slice_l0 k m ((x.1.1, x.1.2.1, x.1.2.2.1, (IntKind.i64.wrap (x.1.2.2.2.1 + 1)), ()), ())
 else none
 else none
 else
 some (Sum.inr (Sum.inl ((), ())))
abbrev api_Slice_l0_seg (k : Nat) : Seg := ⟨⟨0, 26, false, [], []⟩, 82, [.b, .s2, .s1, .s2, .s2], api_Slice_l0_i, api_Slice_l0_o, api_Slice_l0 k k⟩
theorem api_Slice_l0_seg.ok (k : Nat) : SegOK Tryz.prog (e78 k) (api_Slice_l0_seg k) :=
 SegOK.loop (e78.ok k) (by kernel_rfl) (S := api_Slice_l0_seg k) (c := atR (codeOf (e78 k) 82) [.l, .b, .s2, .s1, .s2, .s2]) (by kernel_rfl) (api_Slice_l0 k) k rfl (fun _ => rfl) 8 .n trivial (fun k' x => by kernel_rfl)
def api_Slice (k : Nat) (x0 : Ty.den T44) (x1 : Ty.den T44) : Option (HL [.bool]) :=
 bif ((x0.length : Int) != (x1.length : Int)) then
 some (false, ())
 else
 (api_Slice_l0 k k ((x0, x1, (x0.length : Int), 0, ()), ())).bind fun q3 =>
 Sum.elim (fun z4 =>
 some (z4.1.1, ()))
 (fun q3' =>
 Sum.elim (fun z5 =>
 some (true, ()))
 (fun q3'' =>
 none) q3') q3
theorem api_Slice.ok (k : Nat) : SpecOK Tryz.prog G0 82 ⟨[T44, T44], [.bool], fun x => api_Slice k x.1 x.2.1⟩ :=
 evF_sound (E := (e78 k)) (fn := Tryz.f82) (e78.ok k) (by kernel_rfl) (by kernel_rfl) (by kernel_rfl) 8 (.two .n (.two .n (.two (.two .n (.two (.use (api_Slice_l0_seg k)) .n)) .n))) ⟨trivial, ⟨trivial, ⟨⟨trivial, ⟨(api_Slice_l0_seg.ok k), trivial⟩⟩, trivial⟩⟩⟩ (fun xs => by kernel_rfl)
def e79 (k : Nat) : Env := (e78 k).add 82 ⟨[T44, T44], [.bool], fun x => api_Slice k x.1 x.2.1⟩
theorem e79.ok (k : Nat) : (e79 k).OK Tryz.prog := (e78.ok k).add (api_Slice.ok k)
def engine_same (k : Nat) (x0 : Ty.den T45) (x1 : Ty.den T45) : Option (HL [.bool]) :=
 bif (beqT T31 x0.2.1 x1.2.1) then
 (api_Slice k x0.2.2 x1.2.2).bind fun r1 =>
 some (r1.1, ())
 else
 some (false, ())
theorem engine_same.ok (k : Nat) : SpecOK Tryz.prog G0 50 ⟨[T45, T45], [.bool], fun x => engine_same k x.1 x.2.1⟩ :=
 evF_sound (E := (e79 k)) (fn := Tryz.f50) (e79.ok k) (by kernel_rfl) (by kernel_rfl) (by kernel_rfl) 8 .n trivial (fun xs => by kernel_rfl)
def e80 (k : Nat) : Env := (e79 k).add 50 ⟨[T45, T45], [.bool], fun x => engine_same k x.1 x.2.1⟩
theorem e80.ok (k : Nat) : (e80 k).OK Tryz.prog := (e79.ok k).add (engine_same.ok k)
def num_Of (k : Nat) (x0 : Ty.den (.int .i64)) : Option (HL [T29]) :=
 bif (decide (x0 < 0)) then
 (bits_LeadingZeros64 k (IntKind.u64.wrap (0 - (IntKind.u64.wrap x0)))).bind fun r1 =>
 bif ((IntKind.u64.wrap (0 - (IntKind.u64.wrap x0))) == 0) then
 some ((0, false, 0, 0), ())
 else
 if r1.1 < 0 then none else
 some ((1, (decide (x0 < 0)), (IntKind.u64.wrap ((IntKind.u64.wrap (0 - (IntKind.u64.wrap x0))) * 2 ^ min (Int.toNat r1.1) IntKind.u64.bits)), (IntKind.i64.wrap (0 - r1.1))), ())
 else
 (bits_LeadingZeros64 k (IntKind.u64.wrap x0)).bind fun r2 =>
 bif ((IntKind.u64.wrap x0) == 0) then
 some ((0, false, 0, 0), ())
 else
 if r2.1 < 0 then none else
 some ((1, (decide (x0 < 0)), (IntKind.u64.wrap ((IntKind.u64.wrap x0) * 2 ^ min (Int.toNat r2.1) IntKind.u64.bits)), (IntKind.i64.wrap (0 - r2.1))), ())
theorem num_Of.ok (k : Nat) : SpecOK Tryz.prog G0 20 ⟨[(.int .i64)], [T29], fun x => num_Of k x.1⟩ :=
 evF_sound (E := (e80 k)) (fn := Tryz.f20) (e80.ok k) (by kernel_rfl) (by kernel_rfl) (by kernel_rfl) 8 .n trivial (fun xs => by kernel_rfl)
def e81 (k : Nat) : Env := (e80 k).add 20 ⟨[(.int .i64)], [T29], fun x => num_Of k x.1⟩
theorem e81.ok (k : Nat) : (e81 k).OK Tryz.prog := (e80.ok k).add (num_Of.ok k)
def peloruslaw08_Of (k : Nat) (x0 : Ty.den (.int .i64)) (x1 : Ty.den (.int .i64)) : Option (HL [T31]) :=
 (num_Of k x0).bind fun r1 =>
 (num_Of k x1).bind fun r2 =>
 (iv_Make k r1.1 r2.1).bind fun r3 =>
 some (r3.1, ())
theorem peloruslaw08_Of.ok (k : Nat) : SpecOK Tryz.prog G0 18 ⟨[(.int .i64), (.int .i64)], [T31], fun x => peloruslaw08_Of k x.1 x.2.1⟩ :=
 evF_sound (E := (e81 k)) (fn := Tryz.f18) (e81.ok k) (by kernel_rfl) (by kernel_rfl) (by kernel_rfl) 8 .n trivial (fun xs => by kernel_rfl)
def e82 (k : Nat) : Env := (e81 k).add 18 ⟨[(.int .i64), (.int .i64)], [T31], fun x => peloruslaw08_Of k x.1 x.2.1⟩
theorem e82.ok (k : Nat) : (e82 k).OK Tryz.prog := (e81.ok k).add (peloruslaw08_Of.ok k)
abbrev tube_At_l0_i : Mask := ⟨[(0, 2, (.k (.ptr 2 0 0))), (0, 3, (.k (.ptr 3 0 0))), (0, 4, (.k (.ptr 4 0 0))), (2, 0, (.k (.yld 0))), (2, 1, (.k (.ptr 2101249 0 0))), (2, 3, (.k (.ptr 8195 0 0))), (2, 14, (.v (.int .i64))), (2, 15, (.v (.int .i64)))], [(2, .cells (.v T45)), (3, .cells (.v T29)), (4, .cells (.v T31)), (8195, .cells (.pr (.v T29) (.v T31))), (2101249, .cells (.v T45))], [], 1⟩
abbrev tube_At_l0_o : List Out := [⟨.ret, ⟨[(0, 2, (.k (.ptr 2 0 0))), (0, 3, (.k (.ptr 3 0 0))), (0, 4, (.k (.ptr 4 0 0)))], [(2, .cells (.v T45)), (3, .cells (.v T29)), (4, .cells (.v T31))], [(0, .ret)], 1⟩⟩, ⟨.exit 0, ⟨[(0, 2, (.k (.ptr 2 0 0))), (0, 3, (.k (.ptr 3 0 0))), (0, 4, (.k (.ptr 4 0 0)))], [(2, .cells (.v T45)), (3, .cells (.v T29)), (4, .cells (.v T31))], [], 1⟩⟩]
def tube_At_l0 (k : Nat) : Nat -> Mask.den tube_At_l0_i -> Option (denS tube_At_l0_o)
| 0, _ => none
| m + 1, x =>
 bif (decide (x.1.2.2.2.2.2.2.2.1 < x.1.2.2.2.2.2.2.1)) then
 bif (decide (x.1.2.2.2.2.2.2.2.1 > 0)) then
 if 0 <= (IntKind.i64.wrap (x.1.2.2.2.2.2.2.2.1 - 1)) then (x.2.2.2.2.2.1.2.2[Int.toNat (IntKind.i64.wrap (x.1.2.2.2.2.2.2.2.1 - 1))]?).bind fun y3 =>
 (iv_Meet k [y3.2.2, y3.2.1]).bind fun r4 =>
 bif (decide (x.1.2.2.2.2.2.2.2.1 < (x.2.2.2.2.2.1.2.2.length : Int))) then
 if 0 <= x.1.2.2.2.2.2.2.2.1 then (x.2.2.2.2.2.1.2.2[Int.toNat x.1.2.2.2.2.2.2.2.1]?).bind fun y5 =>
 (iv_Meet k [r4.1, y5.2.1]).bind fun r6 =>
 (num_Cmp k x.2.2.1 y3.1).bind fun r7 =>
 bif (r7.1 == 0) then
 some (Sum.inl (((), (), (), ()), (x.2.1, x.2.2.1, r6.1, ())))
 else
 tube_At_l0 k m (((), (), (), (), (), (), x.1.2.2.2.2.2.2.1, (IntKind.i64.wrap (x.1.2.2.2.2.2.2.2.1 + 1)), ()), (x.2.1, x.2.2.1, x.2.2.2.1, (y3.1, r6.1), x.2.2.2.2.2.1, ()))
 else none
 else
 (num_Cmp k x.2.2.1 y3.1).bind fun r8 =>
 bif (r8.1 == 0) then
 some (Sum.inl (((), (), (), ()), (x.2.1, x.2.2.1, r4.1, ())))
 else
 tube_At_l0 k m (((), (), (), (), (), (), x.1.2.2.2.2.2.2.1, (IntKind.i64.wrap (x.1.2.2.2.2.2.2.2.1 + 1)), ()), (x.2.1, x.2.2.1, x.2.2.2.1, (y3.1, r4.1), x.2.2.2.2.2.1, ()))
 else none
 else
 bif (decide (x.1.2.2.2.2.2.2.2.1 < (x.2.2.2.2.2.1.2.2.length : Int))) then
 if 0 <= x.1.2.2.2.2.2.2.2.1 then (x.2.2.2.2.2.1.2.2[Int.toNat x.1.2.2.2.2.2.2.2.1]?).bind fun y9 =>
 (iv_Meet k [x.2.2.2.2.1.2, y9.2.1]).bind fun r10 =>
 (num_Cmp k x.2.2.1 x.2.2.2.2.1.1).bind fun r11 =>
 bif (r11.1 == 0) then
 some (Sum.inl (((), (), (), ()), (x.2.1, x.2.2.1, r10.1, ())))
 else
 tube_At_l0 k m (((), (), (), (), (), (), x.1.2.2.2.2.2.2.1, (IntKind.i64.wrap (x.1.2.2.2.2.2.2.2.1 + 1)), ()), (x.2.1, x.2.2.1, x.2.2.2.1, (x.2.2.2.2.1.1, r10.1), x.2.2.2.2.2.1, ()))
 else none
 else
 (num_Cmp k x.2.2.1 x.2.2.2.2.1.1).bind fun r12 =>
 bif (r12.1 == 0) then
 some (Sum.inl (((), (), (), ()), (x.2.1, x.2.2.1, x.2.2.2.2.1.2, ())))
 else
 tube_At_l0 k m (((), (), (), (), (), (), x.1.2.2.2.2.2.2.1, (IntKind.i64.wrap (x.1.2.2.2.2.2.2.2.1 + 1)), ()), (x.2.1, x.2.2.1, x.2.2.2.1, (x.2.2.2.2.1.1, x.2.2.2.2.1.2), x.2.2.2.2.2.1, ()))
 else
 some (Sum.inr (Sum.inl (((), (), (), ()), (x.2.1, x.2.2.1, x.2.2.2.1, ()))))
abbrev tube_At_l0_seg (k : Nat) : Seg := ⟨⟨2, 57, false, [0], [⟨0, 0, 43, 36, [.b, .s2, .s1, .s2, .s2]⟩]⟩, 86, [.b, .s2, .s2], tube_At_l0_i, tube_At_l0_o, tube_At_l0 k k⟩
theorem tube_At_l0_seg.ok (k : Nat) : SegOK Tryz.prog (e82 k) (tube_At_l0_seg k) :=
 SegOK.loop (e82.ok k) (by kernel_rfl) (S := tube_At_l0_seg k) (c := atR (codeOf (e82 k) 86) [.l, .b, .s2, .s2]) (by kernel_rfl) (tube_At_l0 k) k rfl (fun _ => rfl) 8 (.two .n (.two .n (.two (.two (.two .n (.two .n (.two .n (.two (.call 3 3 .n .n) .n)))) .n) .n))) ⟨trivial, ⟨trivial, ⟨⟨⟨trivial, ⟨trivial, ⟨trivial, ⟨⟨trivial, trivial⟩, trivial⟩⟩⟩⟩, trivial⟩, trivial⟩⟩⟩ (fun k' x => by kernel_rfl)
abbrev tube_At_l1_i : Mask := ⟨[(0, 2, (.k (.ptr 2 0 0))), (0, 3, (.k (.ptr 3 0 0))), (0, 4, (.k (.ptr 4 0 0))), (4, 0, (.v T44)), (4, 1, (.k (.clo 66 (.pr (.ptr 3 0 0) .nl)))), (4, 7, (.v (.int .i64))), (4, 8, (.v (.int .i64)))], [(2, .cells (.v T45)), (3, .cells (.v T29)), (4, .cells (.v T31))], [], 1⟩
abbrev tube_At_l1_o : List Out := [⟨.ret, ⟨[(0, 2, (.k (.ptr 2 0 0))), (0, 3, (.k (.ptr 3 0 0))), (0, 4, (.k (.ptr 4 0 0))), (4, 4, (.v (.int .i64)))], [(2, .cells (.v T45)), (3, .cells (.v T29)), (4, .cells (.v T31))], [], 1⟩⟩, ⟨.exit 0, ⟨[(0, 2, (.k (.ptr 2 0 0))), (0, 3, (.k (.ptr 3 0 0))), (0, 4, (.k (.ptr 4 0 0)))], [(2, .cells (.v T45)), (3, .cells (.v T29)), (4, .cells (.v T31))], [], 1⟩⟩]
def tube_At_l1 (k : Nat) : Nat -> Mask.den tube_At_l1_i -> Option (denS tube_At_l1_o)
| 0, _ => none
| m + 1, x =>
 bif (decide (x.1.2.2.2.2.2.2.1 < x.1.2.2.2.2.2.1)) then
 if 0 <= x.1.2.2.2.2.2.2.1 then (x.1.2.2.2.1[Int.toNat x.1.2.2.2.2.2.2.1]?).bind fun y16 =>
 (num_Cmp k x.2.2.1 y16.1).bind fun r17 =>
 bif (decide (r17.1 < 0)) then
 some (Sum.inl (((), (), (), x.1.2.2.2.2.2.2.1, ()), (x.2.1, x.2.2.1, x.2.2.2.1, ())))
 else
 tube_At_l1 k m (((), (), (), x.1.2.2.2.1, (), x.1.2.2.2.2.2.1, (IntKind.i64.wrap (x.1.2.2.2.2.2.2.1 + 1)), ()), (x.2.1, x.2.2.1, x.2.2.2.1, ()))
 else none
 else
 some (Sum.inr (Sum.inl (((), (), (), ()), (x.2.1, x.2.2.1, x.2.2.2.1, ()))))
abbrev tube_At_l1_seg (k : Nat) : Seg := ⟨⟨4, 19, false, [0], []⟩, 65, [.b, .s2, .s1, .s2], tube_At_l1_i, tube_At_l1_o, tube_At_l1 k k⟩
theorem tube_At_l1_seg.ok (k : Nat) : SegOK Tryz.prog (e82 k) (tube_At_l1_seg k) :=
 SegOK.loop (e82.ok k) (by kernel_rfl) (S := tube_At_l1_seg k) (c := atR (codeOf (e82 k) 65) [.l, .b, .s2, .s1, .s2]) (by kernel_rfl) (tube_At_l1 k) k rfl (fun _ => rfl) 8 (.two .n (.two .n (.two (.two (.two .n (.two (.call 5 5 .n .n) .n)) .n) .n))) ⟨trivial, ⟨trivial, ⟨⟨⟨trivial, ⟨⟨trivial, trivial⟩, trivial⟩⟩, trivial⟩, trivial⟩⟩⟩ (fun k' x => by kernel_rfl)
def tube_At (k : Nat) (x0 : Ty.den T45) (x1 : Ty.den T29) : Option (HL [T31]) :=
 (tube_May k x0).bind fun r1 =>
 bif (!r1.1) then
 (iv_None k).bind fun r2 =>
 some (r2.1, ())
 else
 (tube_At_l0 k k (((), (), (), (), (), (), (IntKind.i64.wrap ((x0.2.2.length : Int) + 1)), 0, ()), (x0, x1, (false, (0, false, 0, 0), 0, false, 0, 0), (x0.1, x0.2.1), x0, ()))).bind fun q13 =>
 Sum.elim (fun z14 =>
 some (z14.2.2.2.1, ()))
 (fun q13' =>
 Sum.elim (fun z15 =>
 (tube_At_l1 k k (((), (), (), z15.2.1.2.2, (), (z15.2.1.2.2.length : Int), 0, ()), (z15.2.1, z15.2.2.1, z15.2.2.2.1, ()))).bind fun q18 =>
 Sum.elim (fun z19 =>
 bif (decide (z19.1.2.2.2.1 < 0)) then
 (iv_All k).bind fun r20 =>
 some (r20.1, ())
 else
 (num_Cmp k z19.2.2.1 z19.2.1.1).bind fun r21 =>
 bif (decide (r21.1 < 0)) then
 (iv_All k).bind fun r22 =>
 some (r22.1, ())
 else
 if 0 <= z19.1.2.2.2.1 then (z19.2.1.2.2[Int.toNat z19.1.2.2.2.1]?).bind fun y23 =>
 some (y23.2.1, ())
 else none)
 (fun q18' =>
 Sum.elim (fun z24 =>
 (iv_All k).bind fun r25 =>
 some (r25.1, ()))
 (fun q18'' =>
 none) q18') q18)
 (fun q13'' =>
 none) q13') q13
theorem tube_At.ok (k : Nat) : SpecOK Tryz.prog G0 36 ⟨[T45, T29], [T31], fun x => tube_At k x.1 x.2.1⟩ :=
 evF_sound (E := (e82 k)) (fn := Tryz.f36) (e82.ok k) (by kernel_rfl) (by kernel_rfl) (by kernel_rfl) 8 (.two .n (.two .n (.two (.two (.call 1 513 .n .n) (.two (.rf 0 2 (.two .n (.two .n (.two (.use (tube_At_l0_seg k)) .n)))) .n)) (.two (.call 3 4 (.two .n (.two (.two .n (.two (.use (tube_At_l1_seg k)) .n)) .n)) .n) .n)))) ⟨trivial, ⟨trivial, ⟨⟨⟨trivial, trivial⟩, ⟨⟨trivial, ⟨trivial, ⟨(tube_At_l0_seg.ok k), trivial⟩⟩⟩, trivial⟩⟩, ⟨⟨⟨trivial, ⟨⟨trivial, ⟨(tube_At_l1_seg.ok k), trivial⟩⟩, trivial⟩⟩, trivial⟩, trivial⟩⟩⟩⟩ (fun xs => by kernel_rfl)
def e83 (k : Nat) : Env := (e82 k).add 36 ⟨[T45, T29], [T31], fun x => tube_At k x.1 x.2.1⟩
theorem e83.ok (k : Nat) : (e83 k).OK Tryz.prog := (e82.ok k).add (tube_At.ok k)
abbrev engine_Engine_gate_s_l0_i : Mask := ⟨[(1, 0, (.k (.arr 53248024 0))), (1, 1, (.k (.clo 69 (.pr (.ptr 53248003 0 0) .nl)))), (1, 7, (.v (.int .i64))), (1, 8, (.v (.int .i64))), (999, 0, (.k (.ptr 2101250 0 0)))], [(2101250, .cells (.v (.pair (.pair T58 T58) (.pair .bool (.pair T22 T22))))), (53248003, .cells (.v T29)), (53248024, .arr 78 T77)], [], 0⟩
abbrev engine_Engine_gate_s_l0_o : List Out := [⟨.ret, ⟨[(1, 4, (.v (.int .i64))), (999, 0, (.k (.ptr 2101250 0 0)))], [(2101250, .cells (.v (.pair (.pair T58 T58) (.pair .bool (.pair T22 T22)))))], [], 0⟩⟩, ⟨.exit 0, ⟨[(999, 0, (.k (.ptr 2101250 0 0)))], [(2101250, .cells (.v (.pair (.pair T58 T58) (.pair .bool (.pair T22 T22)))))], [], 0⟩⟩]
def engine_Engine_gate_s_l0 (k : Nat) : Nat -> Mask.den engine_Engine_gate_s_l0_i -> Option (denS engine_Engine_gate_s_l0_o)
| 0, _ => none
| m + 1, x =>
 bif (decide (x.1.2.2.2.1 < x.1.2.2.1)) then
 if 0 <= x.1.2.2.2.1 then (x.2.2.2.1[Int.toNat x.1.2.2.2.1]?).bind fun _ =>
 (x.2.2.2.1[(Int.toNat x.1.2.2.2.1)]?).bind fun y2 =>
 bif (beqT T29 y2.1 x.2.2.1) then
 some (Sum.inl ((x.1.2.2.2.1, (), ()), (x.2.1, ())))
 else
 engine_Engine_gate_s_l0 k m (((), (), x.1.2.2.1, (IntKind.i64.wrap (x.1.2.2.2.1 + 1)), (), ()), (x.2.1, x.2.2.1, x.2.2.2.1, ()))
 else none
 else
 some (Sum.inr (Sum.inl (((), ()), (x.2.1, ()))))
abbrev engine_Engine_gate_s_l0_seg (k : Nat) : Seg := ⟨⟨1, 19, false, [13000, 999], []⟩, 65, [.b, .s2, .s1, .s2], engine_Engine_gate_s_l0_i, engine_Engine_gate_s_l0_o, engine_Engine_gate_s_l0 k k⟩
theorem engine_Engine_gate_s_l0_seg.ok (k : Nat) : SegOK Tryz.prog (e83 k) (engine_Engine_gate_s_l0_seg k) :=
 SegOK.loop (e83.ok k) (by kernel_rfl) (S := engine_Engine_gate_s_l0_seg k) (c := atR (codeOf (e83 k) 65) [.l, .b, .s2, .s1, .s2]) (by kernel_rfl) (engine_Engine_gate_s_l0 k) k rfl (fun _ => rfl) 8 (.two .n (.two .n (.two (.two (.two .n (.two (.call 5 2 .n .n) .n)) .n) .n))) ⟨trivial, ⟨trivial, ⟨⟨⟨trivial, ⟨⟨trivial, trivial⟩, trivial⟩⟩, trivial⟩, trivial⟩⟩⟩ (fun k' x => by kernel_rfl)
abbrev engine_Engine_gate_s_i : Mask := ⟨[(999, 0, (.k (.ptr 2101250 0 0))), (13000, 0, (.k (.ptr 2101250 0 0))), (13000, 1, (.v T29))], [(2101250, .cells (.v (.pair (.pair T58 T58) (.pair .bool (.pair T22 T22)))))], [], 0⟩
abbrev engine_Engine_gate_s_o : List Out := [⟨.ret, ⟨[(999, 0, (.k (.ptr 2101250 0 0))), (13000, 4, (.v (.int .i64)))], [(2101250, .cells (.v (.pair (.pair T58 T58) (.pair .bool (.pair T22 T22)))))], [], 0⟩⟩]
def engine_Engine_gate_s (k : Nat) (x : Mask.den engine_Engine_gate_s_i) : Option (denS engine_Engine_gate_s_o) :=
 bif (!x.2.1.2.1) then
 some (Sum.inl (((), (-1), ()), (x.2.1, ())))
 else
 bif (beqT T29 x.2.1.1.1.1.1 x.1.2.2.1) then
 some (Sum.inl (((), 0, ()), (x.2.1, ())))
 else
 if ([(x.2.1.1.1.1.1, (false, (0, false, 0, 0), 0, false, 0, 0), false, (0, false, 0, 0), 0, false, 0, 0)].length + x.2.1.1.1.1.2.2.length) * 176 <= 140737488355328 then
 (engine_Engine_gate_s_l0 k k (((), (), (([(x.2.1.1.1.1.1, (false, (0, false, 0, 0), 0, false, 0, 0), false, (0, false, 0, 0), 0, false, 0, 0)] ++ x.2.1.1.1.1.2.2).length : Int), 0, (), ()), (x.2.1, x.1.2.2.1, ([(x.2.1.1.1.1.1, (false, (0, false, 0, 0), 0, false, 0, 0), false, (0, false, 0, 0), 0, false, 0, 0)] ++ x.2.1.1.1.1.2.2), ()))).bind fun q3 =>
 Sum.elim (fun z4 =>
 some (Sum.inl (((), z4.1.1, ()), (z4.2.1, ()))))
 (fun q3' =>
 Sum.elim (fun z5 =>
 some (Sum.inl (((), (-1), ()), (z5.2.1, ()))))
 (fun q3'' =>
 none) q3') q3
 else none
abbrev engine_Engine_gate_s_seg (k : Nat) : Seg := ⟨⟨13000, 30, false, [999], []⟩, 40, [], engine_Engine_gate_s_i, engine_Engine_gate_s_o, engine_Engine_gate_s k⟩
theorem engine_Engine_gate_s_seg.ok (k : Nat) : SegOK Tryz.prog (e83 k) (engine_Engine_gate_s_seg k) :=
 SegOK.of (e83.ok k) (by kernel_rfl) (S := engine_Engine_gate_s_seg k) 8 (.two .n (.two .n (.two .n (.two .n (.two (.own 3 (.call 8 1 (.two .n (.two (.two .n (.two (.use (engine_Engine_gate_s_l0_seg k)) .n)) .n)) .n)) .n))))) ⟨trivial, ⟨trivial, ⟨trivial, ⟨trivial, ⟨⟨⟨trivial, ⟨⟨trivial, ⟨(engine_Engine_gate_s_l0_seg.ok k), trivial⟩⟩, trivial⟩⟩, trivial⟩, trivial⟩⟩⟩⟩⟩ (fun x => by kernel_rfl)
def codec_may (k : Nat) (x0 : Ty.den T33) : Option (HL [.bool]) :=
 bif (decide (x0.1 >= 0)) then
 bif (decide (x0.1 <= 3)) then
 (num_May k x0.2.1).bind fun r1 =>
 bif r1.1 then
 (iv_May k x0.2.2.1).bind fun r2 =>
 bif r2.1 then
 (iv_May k x0.2.2.2.1).bind fun r3 =>
 bif r3.1 then
 (iv_May k x0.2.2.2.2).bind fun r4 =>
 some (r4.1, ())
 else
 some (false, ())
 else
 some (false, ())
 else
 some (false, ())
 else
 some (false, ())
 else
 some (false, ())
theorem codec_may.ok (k : Nat) : SpecOK Tryz.prog G0 24 ⟨[T33], [.bool], fun x => codec_may k x.1⟩ :=
 evF_sound (E := (e83 k)) (fn := Tryz.f24) (e83.ok k) (by kernel_rfl) (by kernel_rfl) (by kernel_rfl) 8 .n trivial (fun xs => by kernel_rfl)
def e84 (k : Nat) : Env := (e83 k).add 24 ⟨[T33], [.bool], fun x => codec_may k x.1⟩
theorem e84.ok (k : Nat) : (e84 k).OK Tryz.prog := (e83.ok k).add (codec_may.ok k)
def codec_sign (k : Nat) (x0 : Ty.den (.int .u8)) (x1 : Ty.den .bool) : Option (HL [(.int .u8)]) :=
 bif x1 then
 some ((IntKind.u8.wrap (x0 + 1)), ())
 else
 some (x0, ())
theorem codec_sign.ok (k : Nat) : SpecOK Tryz.prog G0 52 ⟨[(.int .u8), .bool], [(.int .u8)], fun x => codec_sign k x.1 x.2.1⟩ :=
 evF_sound (E := (e84 k)) (fn := Tryz.f52) (e84.ok k) (by kernel_rfl) (by kernel_rfl) (by kernel_rfl) 8 .n trivial (fun xs => by kernel_rfl)
def e85 (k : Nat) : Env := (e84 k).add 52 ⟨[(.int .u8), .bool], [(.int .u8)], fun x => codec_sign k x.1 x.2.1⟩
theorem e85.ok (k : Nat) : (e85 k).OK Tryz.prog := (e84.ok k).add (codec_sign.ok k)
abbrev codec_writer_word_s_l0_i : Mask := ⟨[(999, 0, (.k (.ptr 4 0 0))), (16000, 0, (.k (.ptr 4 0 0))), (16000, 1, (.v (.int .u64))), (16000, 2, (.v (.int .i64))), (16000, 7, (.v (.int .i64))), (16000, 8, (.v (.int .i64)))], [(4, .cells (.k (.arr 25 0))), (25, .arr 5 (.int .u8))], [], 0⟩
abbrev codec_writer_word_s_l0_o : List Out := [⟨.exit 0, ⟨[(999, 0, (.k (.ptr 4 0 0)))], [(4, .cells (.k (.arr 25 0))), (25, .arr 5 (.int .u8))], [], 0⟩⟩]
def codec_writer_word_s_l0 (k : Nat) : Nat -> Mask.den codec_writer_word_s_l0_i -> Option (denS codec_writer_word_s_l0_o)
| 0, _ => none
| m + 1, x =>
 bif (decide (x.1.2.2.2.2.2.1 < x.1.2.2.2.2.1)) then
 if (IntKind.i64.wrap (8 * (IntKind.i64.wrap ((IntKind.i64.wrap (x.1.2.2.2.1 - 1)) - x.1.2.2.2.2.2.1)))) < 0 then none else
 if (x.2.2.1.length + [(IntKind.u8.wrap (Int.fdiv x.1.2.2.1 (2 ^ min (Int.toNat (IntKind.i64.wrap (8 * (IntKind.i64.wrap ((IntKind.i64.wrap (x.1.2.2.2.1 - 1)) - x.1.2.2.2.2.2.1))))) IntKind.u64.bits)))].length) * 1 <= 140737488355328 then
 codec_writer_word_s_l0 k m (((), (), x.1.2.2.1, x.1.2.2.2.1, x.1.2.2.2.2.1, (IntKind.i64.wrap (x.1.2.2.2.2.2.1 + 1)), ()), ((), (x.2.2.1 ++ [(IntKind.u8.wrap (Int.fdiv x.1.2.2.1 (2 ^ min (Int.toNat (IntKind.i64.wrap (8 * (IntKind.i64.wrap ((IntKind.i64.wrap (x.1.2.2.2.1 - 1)) - x.1.2.2.2.2.2.1))))) IntKind.u64.bits)))]), ()))
 else none
 else
 some (Sum.inl (((), ()), ((), x.2.2.1, ())))
abbrev codec_writer_word_s_l0_seg (k : Nat) : Seg := ⟨⟨16000, 29, false, [999], []⟩, 53, [.b, .s2], codec_writer_word_s_l0_i, codec_writer_word_s_l0_o, codec_writer_word_s_l0 k k⟩
theorem codec_writer_word_s_l0_seg.ok (k : Nat) : SegOK Tryz.prog (e85 k) (codec_writer_word_s_l0_seg k) :=
 SegOK.loop (e85.ok k) (by kernel_rfl) (S := codec_writer_word_s_l0_seg k) (c := atR (codeOf (e85 k) 53) [.l, .b, .s2]) (by kernel_rfl) (codec_writer_word_s_l0 k) k rfl (fun _ => rfl) 8 .n trivial (fun k' x => by kernel_rfl)
abbrev codec_writer_word_s_i : Mask := ⟨[(999, 0, (.k (.ptr 4 0 0))), (999, 1, (.k (.arr 25 0))), (16000, 0, (.k (.ptr 4 0 0))), (16000, 1, (.v (.int .u64))), (16000, 2, (.v (.int .i64)))], [(4, .cells (.k (.arr 25 0))), (25, .arr 5 (.int .u8))], [], 0⟩
abbrev codec_writer_word_s_o : List Out := [⟨.nor, ⟨[(999, 0, (.k (.ptr 4 0 0)))], [(4, .cells (.k (.arr 25 0))), (25, .arr 5 (.int .u8))], [], 0⟩⟩]
def codec_writer_word_s (k : Nat) (x : Mask.den codec_writer_word_s_i) : Option (denS codec_writer_word_s_o) :=
 (codec_writer_word_s_l0 k k (((), (), x.1.2.2.2.1, x.1.2.2.2.2.1, x.1.2.2.2.2.1, 0, ()), ((), x.2.2.1, ()))).bind fun q1 =>
 Sum.elim (fun z2 =>
 some (Sum.inl (((), ()), ((), z2.2.2.1, ()))))
 (fun q1' =>
 none) q1
abbrev codec_writer_word_s_seg (k : Nat) : Seg := ⟨⟨16000, 29, false, [999], []⟩, 53, [], codec_writer_word_s_i, codec_writer_word_s_o, codec_writer_word_s k⟩
theorem codec_writer_word_s_seg.ok (k : Nat) : SegOK Tryz.prog (e85 k) (codec_writer_word_s_seg k) :=
 SegOK.of (e85.ok k) (by kernel_rfl) (S := codec_writer_word_s_seg k) 8 (.two .n (.two (.use (codec_writer_word_s_l0_seg k)) .n)) ⟨trivial, ⟨(codec_writer_word_s_l0_seg.ok k), trivial⟩⟩ (fun x => by kernel_rfl)
abbrev codec_writer_num_s_i : Mask := ⟨[(999, 0, (.k (.ptr 4 0 0))), (999, 1, (.k (.arr 25 0))), (15000, 0, (.k (.ptr 4 0 0))), (15000, 1, (.v T29))], [(4, .cells (.k (.arr 25 0))), (25, .arr 5 (.int .u8))], [], 0⟩
abbrev codec_writer_num_s_o : List Out := [⟨.nor, ⟨[(999, 0, (.k (.ptr 4 0 0)))], [(4, .cells (.k (.arr 25 0))), (25, .arr 5 (.int .u8))], [], 0⟩⟩]
def codec_writer_num_s (k : Nat) (x : Mask.den codec_writer_num_s_i) : Option (denS codec_writer_num_s_o) :=
 bif (x.1.2.2.2.1.1 == 0) then
 if (x.2.2.1.length + [0].length) * 1 <= 140737488355328 then
 some (Sum.inl (((), ()), ((), (x.2.2.1 ++ [0]), ())))
 else none
 else
 bif (x.1.2.2.2.1.1 == 2) then
 (codec_sign k 1 x.1.2.2.2.1.2.1).bind fun r1 =>
 if (x.2.2.1.length + [r1.1].length) * 1 <= 140737488355328 then
 some (Sum.inl (((), ()), ((), (x.2.2.1 ++ [r1.1]), ())))
 else none
 else
 (codec_sign k 3 x.1.2.2.2.1.2.1).bind fun r2 =>
 if (x.2.2.1.length + [r2.1].length) * 1 <= 140737488355328 then
 (codec_writer_word_s k (((), (), (), x.1.2.2.2.1.2.2.1, 8, ()), ((), (x.2.2.1 ++ [r2.1]), ()))).bind fun q3 =>
 Sum.elim (fun z4 =>
 (codec_writer_word_s k (((), (), (), (IntKind.u64.wrap (IntKind.i64.wrap (x.1.2.2.2.1.2.2.2 + 1048576))), 4, ()), ((), z4.2.2.1, ()))).bind fun q5 =>
 Sum.elim (fun z6 =>
 some (Sum.inl (((), ()), ((), z6.2.2.1, ()))))
 (fun q5' =>
 none) q5)
 (fun q3' =>
 none) q3
 else none
abbrev codec_writer_num_s_seg (k : Nat) : Seg := ⟨⟨15000, 53, false, [999], []⟩, 25, [], codec_writer_num_s_i, codec_writer_num_s_o, codec_writer_num_s k⟩
theorem codec_writer_num_s_seg.ok (k : Nat) : SegOK Tryz.prog (e85 k) (codec_writer_num_s_seg k) :=
 SegOK.of (e85.ok k) (by kernel_rfl) (S := codec_writer_num_s_seg k) 8 (.two .n (.two .n (.two (.two .n (.two .n (.two .n (.two .n (.two .n (.two (.seg 3 (codec_writer_word_s_seg k) [] [] .n) (.seg 5 (codec_writer_word_s_seg k) [] [] .n))))))) .n))) ⟨trivial, ⟨trivial, ⟨⟨trivial, ⟨trivial, ⟨trivial, ⟨trivial, ⟨trivial, ⟨⟨(codec_writer_word_s_seg.ok k).env rfl rfl, trivial⟩, ⟨(codec_writer_word_s_seg.ok k).env rfl rfl, trivial⟩⟩⟩⟩⟩⟩⟩, trivial⟩⟩⟩ (fun x => by kernel_rfl)
abbrev codec_writer_iv_s_l0_i : Mask := ⟨[(999, 0, (.k (.ptr 4 0 0))), (17000, 0, (.k (.ptr 4 0 0))), (17000, 6, (.v T57)), (17000, 7, (.v (.int .i64))), (17000, 8, (.v (.int .i64)))], [(4, .cells (.k (.arr 25 0))), (25, .arr 5 (.int .u8))], [], 0⟩
abbrev codec_writer_iv_s_l0_o : List Out := [⟨.exit 0, ⟨[(999, 0, (.k (.ptr 4 0 0)))], [(4, .cells (.k (.arr 25 0))), (25, .arr 5 (.int .u8))], [], 0⟩⟩]
def codec_writer_iv_s_l0 (k : Nat) : Nat -> Mask.den codec_writer_iv_s_l0_i -> Option (denS codec_writer_iv_s_l0_o)
| 0, _ => none
| m + 1, x =>
 bif (decide (x.1.2.2.2.2.1 < x.1.2.2.2.1)) then
 if 0 <= x.1.2.2.2.2.1 then (x.1.2.2.1[Int.toNat x.1.2.2.2.2.1]?).bind fun y2 =>
 bif y2.1 then
 if (x.2.2.1.length + [0].length) * 1 <= 140737488355328 then
 codec_writer_iv_s_l0 k m (((), (), x.1.2.2.1, x.1.2.2.2.1, (IntKind.i64.wrap (x.1.2.2.2.2.1 + 1)), ()), ((), (x.2.2.1 ++ [0]), ()))
 else none
 else
 if (x.2.2.1.length + [1].length) * 1 <= 140737488355328 then
 (codec_writer_num_s k (((), (), (), y2.2.1, ()), ((), (x.2.2.1 ++ [1]), ()))).bind fun q3 =>
 Sum.elim (fun z4 =>
 (codec_writer_num_s k (((), (), (), y2.2.2, ()), ((), z4.2.2.1, ()))).bind fun q5 =>
 Sum.elim (fun z6 =>
 codec_writer_iv_s_l0 k m (((), (), x.1.2.2.1, x.1.2.2.2.1, (IntKind.i64.wrap (x.1.2.2.2.2.1 + 1)), ()), ((), z6.2.2.1, ())))
 (fun q5' =>
 none) q5)
 (fun q3' =>
 none) q3
 else none
 else none
 else
 some (Sum.inl (((), ()), ((), x.2.2.1, ())))
abbrev codec_writer_iv_s_l0_seg (k : Nat) : Seg := ⟨⟨17000, 41, false, [999], []⟩, 26, [.b, .s2], codec_writer_iv_s_l0_i, codec_writer_iv_s_l0_o, codec_writer_iv_s_l0 k k⟩
theorem codec_writer_iv_s_l0_seg.ok (k : Nat) : SegOK Tryz.prog (e85 k) (codec_writer_iv_s_l0_seg k) :=
 SegOK.loop (e85.ok k) (by kernel_rfl) (S := codec_writer_iv_s_l0_seg k) (c := atR (codeOf (e85 k) 26) [.l, .b, .s2]) (by kernel_rfl) (codec_writer_iv_s_l0 k) k rfl (fun _ => rfl) 8 (.two .n (.two .n (.two (.two (.two .n (.two .n (.two .n (.two (.seg 3 (codec_writer_num_s_seg k) [] [] .n) (.seg 3 (codec_writer_num_s_seg k) [] [] .n))))) .n) .n))) ⟨trivial, ⟨trivial, ⟨⟨⟨trivial, ⟨trivial, ⟨trivial, ⟨⟨(codec_writer_num_s_seg.ok k).env rfl rfl, trivial⟩, ⟨(codec_writer_num_s_seg.ok k).env rfl rfl, trivial⟩⟩⟩⟩⟩, trivial⟩, trivial⟩⟩⟩ (fun k' x => by kernel_rfl)
abbrev codec_writer_iv_s_i : Mask := ⟨[(999, 0, (.k (.ptr 4 0 0))), (999, 1, (.k (.arr 25 0))), (17000, 0, (.k (.ptr 4 0 0))), (17000, 1, (.v T57))], [(4, .cells (.k (.arr 25 0))), (25, .arr 5 (.int .u8))], [], 0⟩
abbrev codec_writer_iv_s_o : List Out := [⟨.nor, ⟨[(999, 0, (.k (.ptr 4 0 0)))], [(4, .cells (.k (.arr 25 0))), (25, .arr 5 (.int .u8))], [], 0⟩⟩]
def codec_writer_iv_s (k : Nat) (x : Mask.den codec_writer_iv_s_i) : Option (denS codec_writer_iv_s_o) :=
 (codec_writer_iv_s_l0 k k (((), (), x.1.2.2.2.1, (x.1.2.2.2.1.length : Int), 0, ()), ((), x.2.2.1, ()))).bind fun q7 =>
 Sum.elim (fun z8 =>
 some (Sum.inl (((), ()), ((), z8.2.2.1, ()))))
 (fun q7' =>
 none) q7
abbrev codec_writer_iv_s_seg (k : Nat) : Seg := ⟨⟨17000, 41, false, [999], []⟩, 26, [], codec_writer_iv_s_i, codec_writer_iv_s_o, codec_writer_iv_s k⟩
theorem codec_writer_iv_s_seg.ok (k : Nat) : SegOK Tryz.prog (e85 k) (codec_writer_iv_s_seg k) :=
 SegOK.of (e85.ok k) (by kernel_rfl) (S := codec_writer_iv_s_seg k) 8 (.two .n (.two (.use (codec_writer_iv_s_l0_seg k)) .n)) ⟨trivial, ⟨(codec_writer_iv_s_l0_seg.ok k), trivial⟩⟩ (fun x => by kernel_rfl)
abbrev codec_Encode_l0_i : Mask := ⟨[(0, 4, (.k (.ptr 4 0 0))), (0, 10, (.v T22)), (0, 11, (.v (.int .i64))), (0, 12, (.v (.int .i64)))], [(4, .cells (.k (.arr 25 0))), (25, .arr 5 (.int .u8))], [], 0⟩
abbrev codec_Encode_l0_o : List Out := [⟨.ret, ⟨[(0, 2, (.v T35)), (0, 3, (.v (.int .i64)))], [], [], 0⟩⟩, ⟨.exit 0, ⟨[(0, 4, (.k (.ptr 4 0 0)))], [(4, .cells (.k (.arr 25 0))), (25, .arr 5 (.int .u8))], [], 0⟩⟩]
def codec_Encode_l0 (k : Nat) : Nat -> Mask.den codec_Encode_l0_i -> Option (denS codec_Encode_l0_o)
| 0, _ => none
| m + 1, x =>
 bif (decide (x.1.2.2.2.1 < x.1.2.2.1)) then
 if 0 <= x.1.2.2.2.1 then (x.1.2.1[Int.toNat x.1.2.2.2.1]?).bind fun y3 =>
 (codec_may k y3).bind fun r4 =>
 bif (!r4.1) then
 some (Sum.inl (([], 1, ()), ()))
 else
 if (x.2.2.1.length + [(IntKind.u8.wrap y3.1)].length) * 1 <= 140737488355328 then
 (codec_writer_num_s k (((), (), (), y3.2.1, ()), ((), (x.2.2.1 ++ [(IntKind.u8.wrap y3.1)]), ()))).bind fun q5 =>
 Sum.elim (fun z6 =>
 (codec_writer_iv_s k (((), (), (), [y3.2.2.1, y3.2.2.2.1, y3.2.2.2.2], ()), ((), z6.2.2.1, ()))).bind fun q7 =>
 Sum.elim (fun z8 =>
 codec_Encode_l0 k m (((), x.1.2.1, x.1.2.2.1, (IntKind.i64.wrap (x.1.2.2.2.1 + 1)), ()), ((), z8.2.2.1, ())))
 (fun q7' =>
 none) q7)
 (fun q5' =>
 none) q5
 else none
 else none
 else
 some (Sum.inr (Sum.inl (((), ()), ((), x.2.2.1, ()))))
abbrev codec_Encode_l0_seg (k : Nat) : Seg := ⟨⟨0, 41, false, [], []⟩, 7, [.b, .s2, .s1, .s2, .s2, .s2], codec_Encode_l0_i, codec_Encode_l0_o, codec_Encode_l0 k k⟩
theorem codec_Encode_l0_seg.ok (k : Nat) : SegOK Tryz.prog (e85 k) (codec_Encode_l0_seg k) :=
 SegOK.loop (e85.ok k) (by kernel_rfl) (S := codec_Encode_l0_seg k) (c := atR (codeOf (e85 k) 7) [.l, .b, .s2, .s1, .s2, .s2, .s2]) (by kernel_rfl) (codec_Encode_l0 k) k rfl (fun _ => rfl) 8 (.two .n (.two .n (.two (.two (.two .n (.two .n (.two .n (.two (.seg 2 (codec_writer_num_s_seg k) [] [] .n) (.seg 7 (codec_writer_iv_s_seg k) [] [] .n))))) .n) .n))) ⟨trivial, ⟨trivial, ⟨⟨⟨trivial, ⟨trivial, ⟨trivial, ⟨⟨(codec_writer_num_s_seg.ok k).env rfl rfl, trivial⟩, ⟨(codec_writer_iv_s_seg.ok k).env rfl rfl, trivial⟩⟩⟩⟩⟩, trivial⟩, trivial⟩⟩⟩ (fun k' x => by kernel_rfl)
def codec_Encode (k : Nat) (x0 : Ty.den T22) : Option (HL [T35, (.int .i64)]) :=
 bif (decide ((x0.length : Int) > 256)) then
 some ([], 3, ())
 else
 (codec_Encode_l0 k k (((), x0, (x0.length : Int), 0, ()), ((), [], ()))).bind fun q9 =>
 Sum.elim (fun z10 =>
 some (z10.1.1, z10.1.2.1, ()))
 (fun q9' =>
 Sum.elim (fun z11 =>
 some (z11.2.2.1, 0, ()))
 (fun q9'' =>
 none) q9') q9
theorem codec_Encode.ok (k : Nat) : SpecOK Tryz.prog G0 7 ⟨[T22], [T35, (.int .i64)], fun x => codec_Encode k x.1⟩ :=
 evF_sound (E := (e85 k)) (fn := Tryz.f7) (e85.ok k) (by kernel_rfl) (by kernel_rfl) (by kernel_rfl) 8 (.two .n (.two .n (.two (.sp 0 .n) (.two (.two .n (.two (.use (codec_Encode_l0_seg k)) .n)) .n)))) ⟨trivial, ⟨trivial, ⟨trivial, ⟨⟨trivial, ⟨(codec_Encode_l0_seg.ok k), trivial⟩⟩, trivial⟩⟩⟩⟩ (fun xs => by kernel_rfl)
def e86 (k : Nat) : Env := (e85 k).add 7 ⟨[T22], [T35, (.int .i64)], fun x => codec_Encode k x.1⟩
theorem e86.ok (k : Nat) : (e86 k).OK Tryz.prog := (e85.ok k).add (codec_Encode.ok k)
abbrev codec_rest_take_s_i : Mask := ⟨[(999, 0, (.k (.ptr 4 0 0))), (18000, 0, (.k (.ptr 4 0 0))), (18000, 1, (.v (.int .i64)))], [(4, .cells (.v T69))], [], 0⟩
abbrev codec_rest_take_s_o : List Out := [⟨.ret, ⟨[(999, 0, (.k (.ptr 4 0 0))), (18000, 4, (.v T35))], [(4, .cells (.v T69))], [], 0⟩⟩]
def codec_rest_take_s (k : Nat) (x : Mask.den codec_rest_take_s_i) : Option (denS codec_rest_take_s_o) :=
 bif (decide ((x.2.1.1.length : Int) < x.1.2.2.1)) then
 if x.1.2.2.1 = x.1.2.2.1 /\ 0 <= x.1.2.2.1 /\ Int.toNat x.1.2.2.1 * 1 <= 140737488355328 then
 some (Sum.inl (((), (List.replicate (Int.toNat x.1.2.2.1) (0 : Int)), ()), ((x.2.1.1, true), ())))
 else none
 else
 if (0 : Int) <= x.1.2.2.1 /\ x.1.2.2.1 <= x.1.2.2.1 /\ x.1.2.2.1 <= (x.2.1.1.length : Int) then
 if (0 : Int) <= x.1.2.2.1 /\ x.1.2.2.1 <= (x.2.1.1.length : Int) /\ (x.2.1.1.length : Int) <= (x.2.1.1.length : Int) then
 some (Sum.inl (((), (List.take (Int.toNat x.1.2.2.1) x.2.1.1), ()), (((List.drop (Int.toNat x.1.2.2.1) (List.take (Int.toNat (x.2.1.1.length : Int)) x.2.1.1)), x.2.1.2), ())))
 else none
 else none
abbrev codec_rest_take_s_seg (k : Nat) : Seg := ⟨⟨18000, 35, false, [999], []⟩, 28, [], codec_rest_take_s_i, codec_rest_take_s_o, codec_rest_take_s k⟩
theorem codec_rest_take_s_seg.ok (k : Nat) : SegOK Tryz.prog (e86 k) (codec_rest_take_s_seg k) :=
 SegOK.of (e86.ok k) (by kernel_rfl) (S := codec_rest_take_s_seg k) 8 .n trivial (fun x => by kernel_rfl)
abbrev codec_rest_word_s_l0_i : Mask := ⟨[(999, 0, (.k (.ptr 4 0 0))), (20000, 5, (.v (.int .u64))), (20000, 10, (.v T35)), (20000, 11, (.v (.int .i64))), (20000, 12, (.v (.int .i64)))], [(4, .cells (.v T69))], [], 0⟩
abbrev codec_rest_word_s_l0_o : List Out := [⟨.exit 0, ⟨[(999, 0, (.k (.ptr 4 0 0))), (20000, 5, (.v (.int .u64)))], [(4, .cells (.v T69))], [], 0⟩⟩]
def codec_rest_word_s_l0 (k : Nat) : Nat -> Mask.den codec_rest_word_s_l0_i -> Option (denS codec_rest_word_s_l0_o)
| 0, _ => none
| m + 1, x =>
 bif (decide (x.1.2.2.2.2.1 < x.1.2.2.2.1)) then
 if 0 <= x.1.2.2.2.2.1 then (x.1.2.2.1[Int.toNat x.1.2.2.2.2.1]?).bind fun y3 =>
 codec_rest_word_s_l0 k m (((), (IntKind.u64.wrap (BitVec.toNat (BitVec.ofInt IntKind.u64.bits (IntKind.u64.wrap (x.1.2.1 * 2 ^ min (Int.toNat 8) IntKind.u64.bits)) ||| BitVec.ofInt IntKind.u64.bits (IntKind.u64.wrap y3)))), x.1.2.2.1, x.1.2.2.2.1, (IntKind.i64.wrap (x.1.2.2.2.2.1 + 1)), ()), (x.2.1, ()))
 else none
 else
 some (Sum.inl (((), x.1.2.1, ()), (x.2.1, ())))
abbrev codec_rest_word_s_l0_seg (k : Nat) : Seg := ⟨⟨20000, 23, false, [999], []⟩, 55, [.b, .s2, .s1, .s2, .s2], codec_rest_word_s_l0_i, codec_rest_word_s_l0_o, codec_rest_word_s_l0 k k⟩
theorem codec_rest_word_s_l0_seg.ok (k : Nat) : SegOK Tryz.prog (e86 k) (codec_rest_word_s_l0_seg k) :=
 SegOK.loop (e86.ok k) (by kernel_rfl) (S := codec_rest_word_s_l0_seg k) (c := atR (codeOf (e86 k) 55) [.l, .b, .s2, .s1, .s2, .s2]) (by kernel_rfl) (codec_rest_word_s_l0 k) k rfl (fun _ => rfl) 8 .n trivial (fun k' x => by kernel_rfl)
abbrev codec_rest_word_s_i : Mask := ⟨[(999, 0, (.k (.ptr 4 0 0))), (20000, 0, (.k (.ptr 4 0 0))), (20000, 1, (.v (.int .i64)))], [(4, .cells (.v T69))], [], 0⟩
abbrev codec_rest_word_s_o : List Out := [⟨.ret, ⟨[(999, 0, (.k (.ptr 4 0 0))), (20000, 4, (.v (.int .u64)))], [(4, .cells (.v T69))], [], 0⟩⟩]
def codec_rest_word_s (k : Nat) (x : Mask.den codec_rest_word_s_i) : Option (denS codec_rest_word_s_o) :=
 (codec_rest_take_s k (((), (), x.1.2.2.1, ()), (x.2.1, ()))).bind fun q1 =>
 Sum.elim (fun z2 =>
 (codec_rest_word_s_l0 k k (((), 0, z2.1.2.1, (z2.1.2.1.length : Int), 0, ()), (z2.2.1, ()))).bind fun q4 =>
 Sum.elim (fun z5 =>
 some (Sum.inl (((), z5.1.2.1, ()), (z5.2.1, ()))))
 (fun q4' =>
 none) q4)
 (fun q1' =>
 none) q1
abbrev codec_rest_word_s_seg (k : Nat) : Seg := ⟨⟨20000, 23, false, [999], []⟩, 55, [], codec_rest_word_s_i, codec_rest_word_s_o, codec_rest_word_s k⟩
theorem codec_rest_word_s_seg.ok (k : Nat) : SegOK Tryz.prog (e86 k) (codec_rest_word_s_seg k) :=
 SegOK.of (e86.ok k) (by kernel_rfl) (S := codec_rest_word_s_seg k) 8 (.two .n (.two .n (.two (.two (.seg 2 (codec_rest_take_s_seg k) [] [] .n) (.two (.use (codec_rest_word_s_l0_seg k)) .n)) .n))) ⟨trivial, ⟨trivial, ⟨⟨⟨(codec_rest_take_s_seg.ok k).env rfl rfl, trivial⟩, ⟨(codec_rest_word_s_l0_seg.ok k), trivial⟩⟩, trivial⟩⟩⟩ (fun x => by kernel_rfl)
abbrev codec_rest_check_s_i : Mask := ⟨[(999, 0, (.k (.ptr 4 0 0))), (21000, 0, (.k (.ptr 4 0 0))), (21000, 1, (.v .bool))], [(4, .cells (.v T69))], [], 0⟩
abbrev codec_rest_check_s_o : List Out := [⟨.nor, ⟨[(999, 0, (.k (.ptr 4 0 0)))], [(4, .cells (.v T69))], [], 0⟩⟩]
def codec_rest_check_s (k : Nat) (x : Mask.den codec_rest_check_s_i) : Option (denS codec_rest_check_s_o) :=
 bif x.2.1.2 then
 some (Sum.inl (((), ()), ((x.2.1.1, true), ())))
 else
 some (Sum.inl (((), ()), ((x.2.1.1, (!x.1.2.2.1)), ())))
abbrev codec_rest_check_s_seg (k : Nat) : Seg := ⟨⟨21000, 15, false, [999], []⟩, 56, [], codec_rest_check_s_i, codec_rest_check_s_o, codec_rest_check_s k⟩
theorem codec_rest_check_s_seg.ok (k : Nat) : SegOK Tryz.prog (e86 k) (codec_rest_check_s_seg k) :=
 SegOK.of (e86.ok k) (by kernel_rfl) (S := codec_rest_check_s_seg k) 8 .n trivial (fun x => by kernel_rfl)
abbrev codec_reader_num_s_i : Mask := ⟨[(999, 0, (.k (.ptr 4 0 0))), (19000, 0, (.k (.ptr 4 0 0)))], [(4, .cells (.v T69))], [], 0⟩
abbrev codec_reader_num_s_o : List Out := [⟨.ret, ⟨[(999, 0, (.k (.ptr 4 0 0))), (19000, 2, (.k (.ptr 77824002 0 0)))], [(4, .cells (.v T69)), (77824002, .cells (.v T29))], [], 0⟩⟩]
def codec_reader_num_s (k : Nat) (x : Mask.den codec_reader_num_s_i) : Option (denS codec_reader_num_s_o) :=
 (codec_rest_take_s k (((), (), 1, ()), (x.2.1, ()))).bind fun q1 =>
 Sum.elim (fun z2 =>
 if 0 <= 0 then (z2.1.2.1[Int.toNat 0]?).bind fun y3 =>
 bif (y3 == 0) then
 some (Sum.inl (((), (), ()), (z2.2.1, (0, false, 0, 0), ())))
 else
 bif (y3 == 1) then
 bif (y3 == 1) then
 (num_Infinite k (y3 == 2)).bind fun r4 =>
 some (Sum.inl (((), (), ()), (z2.2.1, r4.1, ())))
 else
 bif (y3 == 3) then
 bif (y3 == 3) then
 (codec_rest_word_s k (((), (), 8, ()), (z2.2.1, ()))).bind fun q5 =>
 Sum.elim (fun z14 =>
 (codec_rest_word_s k (((), (), 4, ()), (z14.2.1, ()))).bind fun q15 =>
 Sum.elim (fun z16 =>
 (num_May k (1, (y3 == 4), z14.1.2.1, (IntKind.i64.wrap ((IntKind.i64.wrap z16.1.2.1) - 1048576)))).bind fun r17 =>
 (codec_rest_check_s k (((), (), r17.1, ()), (z16.2.1, ()))).bind fun q18 =>
 Sum.elim (fun z19 =>
 some (Sum.inl (((), (), ()), (z19.2.1, (1, (y3 == 4), z14.1.2.1, (IntKind.i64.wrap ((IntKind.i64.wrap z16.1.2.1) - 1048576))), ()))))
 (fun q18' =>
 none) q18)
 (fun q15' =>
 none) q15)
 (fun q5' =>
 none) q5
 else
 (codec_rest_check_s k (((), (), false, ()), (z2.2.1, ()))).bind fun q6 =>
 Sum.elim (fun z20 =>
 some (Sum.inl (((), (), ()), (z20.2.1, (0, false, 0, 0), ()))))
 (fun q6' =>
 none) q6
 else
 bif (y3 == 4) then
 (codec_rest_word_s k (((), (), 8, ()), (z2.2.1, ()))).bind fun q7 =>
 Sum.elim (fun z21 =>
 (codec_rest_word_s k (((), (), 4, ()), (z21.2.1, ()))).bind fun q22 =>
 Sum.elim (fun z23 =>
 (num_May k (1, (y3 == 4), z21.1.2.1, (IntKind.i64.wrap ((IntKind.i64.wrap z23.1.2.1) - 1048576)))).bind fun r24 =>
 (codec_rest_check_s k (((), (), r24.1, ()), (z23.2.1, ()))).bind fun q25 =>
 Sum.elim (fun z26 =>
 some (Sum.inl (((), (), ()), (z26.2.1, (1, (y3 == 4), z21.1.2.1, (IntKind.i64.wrap ((IntKind.i64.wrap z23.1.2.1) - 1048576))), ()))))
 (fun q25' =>
 none) q25)
 (fun q22' =>
 none) q22)
 (fun q7' =>
 none) q7
 else
 (codec_rest_check_s k (((), (), false, ()), (z2.2.1, ()))).bind fun q8 =>
 Sum.elim (fun z27 =>
 some (Sum.inl (((), (), ()), (z27.2.1, (0, false, 0, 0), ()))))
 (fun q8' =>
 none) q8
 else
 bif (y3 == 2) then
 (num_Infinite k (y3 == 2)).bind fun r9 =>
 some (Sum.inl (((), (), ()), (z2.2.1, r9.1, ())))
 else
 bif (y3 == 3) then
 bif (y3 == 3) then
 (codec_rest_word_s k (((), (), 8, ()), (z2.2.1, ()))).bind fun q10 =>
 Sum.elim (fun z28 =>
 (codec_rest_word_s k (((), (), 4, ()), (z28.2.1, ()))).bind fun q29 =>
 Sum.elim (fun z30 =>
 (num_May k (1, (y3 == 4), z28.1.2.1, (IntKind.i64.wrap ((IntKind.i64.wrap z30.1.2.1) - 1048576)))).bind fun r31 =>
 (codec_rest_check_s k (((), (), r31.1, ()), (z30.2.1, ()))).bind fun q32 =>
 Sum.elim (fun z33 =>
 some (Sum.inl (((), (), ()), (z33.2.1, (1, (y3 == 4), z28.1.2.1, (IntKind.i64.wrap ((IntKind.i64.wrap z30.1.2.1) - 1048576))), ()))))
 (fun q32' =>
 none) q32)
 (fun q29' =>
 none) q29)
 (fun q10' =>
 none) q10
 else
 (codec_rest_check_s k (((), (), false, ()), (z2.2.1, ()))).bind fun q11 =>
 Sum.elim (fun z34 =>
 some (Sum.inl (((), (), ()), (z34.2.1, (0, false, 0, 0), ()))))
 (fun q11' =>
 none) q11
 else
 bif (y3 == 4) then
 (codec_rest_word_s k (((), (), 8, ()), (z2.2.1, ()))).bind fun q12 =>
 Sum.elim (fun z35 =>
 (codec_rest_word_s k (((), (), 4, ()), (z35.2.1, ()))).bind fun q36 =>
 Sum.elim (fun z37 =>
 (num_May k (1, (y3 == 4), z35.1.2.1, (IntKind.i64.wrap ((IntKind.i64.wrap z37.1.2.1) - 1048576)))).bind fun r38 =>
 (codec_rest_check_s k (((), (), r38.1, ()), (z37.2.1, ()))).bind fun q39 =>
 Sum.elim (fun z40 =>
 some (Sum.inl (((), (), ()), (z40.2.1, (1, (y3 == 4), z35.1.2.1, (IntKind.i64.wrap ((IntKind.i64.wrap z37.1.2.1) - 1048576))), ()))))
 (fun q39' =>
 none) q39)
 (fun q36' =>
 none) q36)
 (fun q12' =>
 none) q12
 else
 (codec_rest_check_s k (((), (), false, ()), (z2.2.1, ()))).bind fun q13 =>
 Sum.elim (fun z41 =>
 some (Sum.inl (((), (), ()), (z41.2.1, (0, false, 0, 0), ()))))
 (fun q13' =>
 none) q13
 else none)
 (fun q1' =>
 none) q1
abbrev codec_reader_num_s_seg (k : Nat) : Seg := ⟨⟨19000, 49, false, [999], []⟩, 29, [], codec_reader_num_s_i, codec_reader_num_s_o, codec_reader_num_s k⟩
theorem codec_reader_num_s_seg.ok (k : Nat) : SegOK Tryz.prog (e86 k) (codec_reader_num_s_seg k) :=
 SegOK.of (e86.ok k) (by kernel_rfl) (S := codec_reader_num_s_seg k) 8 (.two .n (.two (.two (.seg 3 (codec_rest_take_s_seg k) [] [] .n) (.two .n (.two (.two .n (.two .n (.two .n (.two .n (.two .n (.two (.two (.seg 5 (codec_rest_word_s_seg k) [] [] .n) (.two (.seg 3 (codec_rest_word_s_seg k) [] [] .n) (.two (.seg 5 (codec_rest_check_s_seg k) [] [] .n) .n))) (.seg 3 (codec_rest_check_s_seg k) [] [] .n))))))) .n))) .n)) ⟨trivial, ⟨⟨⟨(codec_rest_take_s_seg.ok k).env rfl rfl, trivial⟩, ⟨trivial, ⟨⟨trivial, ⟨trivial, ⟨trivial, ⟨trivial, ⟨trivial, ⟨⟨⟨(codec_rest_word_s_seg.ok k).env rfl rfl, trivial⟩, ⟨⟨(codec_rest_word_s_seg.ok k).env rfl rfl, trivial⟩, ⟨⟨(codec_rest_check_s_seg.ok k).env rfl rfl, trivial⟩, trivial⟩⟩⟩, ⟨(codec_rest_check_s_seg.ok k).env rfl rfl, trivial⟩⟩⟩⟩⟩⟩⟩, trivial⟩⟩⟩, trivial⟩⟩ (fun x => by kernel_rfl)
abbrev codec_reader_iv_s_i : Mask := ⟨[(999, 0, (.k (.ptr 4 0 0))), (22000, 0, (.k (.ptr 4 0 0)))], [(4, .cells (.v T69))], [], 0⟩
abbrev codec_reader_iv_s_o : List Out := [⟨.ret, ⟨[(999, 0, (.k (.ptr 4 0 0))), (22000, 2, (.k (.ptr 90112002 0 0)))], [(4, .cells (.v T69)), (90112002, .cells (.v T31))], [], 0⟩⟩]
def codec_reader_iv_s (k : Nat) (x : Mask.den codec_reader_iv_s_i) : Option (denS codec_reader_iv_s_o) :=
 (codec_rest_take_s k (((), (), 1, ()), (x.2.1, ()))).bind fun q1 =>
 Sum.elim (fun z2 =>
 if 0 <= 0 then (z2.1.2.1[Int.toNat 0]?).bind fun y3 =>
 bif (y3 == 0) then
 (iv_None k).bind fun r4 =>
 some (Sum.inl (((), (), ()), (z2.2.1, r4.1, ())))
 else
 bif (y3 == 1) then
 (codec_reader_num_s k (((), (), ()), (z2.2.1, ()))).bind fun q5 =>
 Sum.elim (fun z7 =>
 (codec_reader_num_s k (((), (), ()), (z7.2.1, ()))).bind fun q8 =>
 Sum.elim (fun z9 =>
 (iv_May k (false, z7.2.2.1, z9.2.2.1)).bind fun r10 =>
 (codec_rest_check_s k (((), (), r10.1, ()), (z9.2.1, ()))).bind fun q11 =>
 Sum.elim (fun z12 =>
 some (Sum.inl (((), (), ()), (z12.2.1, (false, z7.2.2.1, z9.2.2.1), ()))))
 (fun q11' =>
 none) q11)
 (fun q8' =>
 none) q8)
 (fun q5' =>
 none) q5
 else
 (codec_rest_check_s k (((), (), false, ()), (z2.2.1, ()))).bind fun q6 =>
 Sum.elim (fun z13 =>
 (codec_reader_num_s k (((), (), ()), (z13.2.1, ()))).bind fun q14 =>
 Sum.elim (fun z15 =>
 (codec_reader_num_s k (((), (), ()), (z15.2.1, ()))).bind fun q16 =>
 Sum.elim (fun z17 =>
 (iv_May k (false, z15.2.2.1, z17.2.2.1)).bind fun r18 =>
 (codec_rest_check_s k (((), (), r18.1, ()), (z17.2.1, ()))).bind fun q19 =>
 Sum.elim (fun z20 =>
 some (Sum.inl (((), (), ()), (z20.2.1, (false, z15.2.2.1, z17.2.2.1), ()))))
 (fun q19' =>
 none) q19)
 (fun q16' =>
 none) q16)
 (fun q14' =>
 none) q14)
 (fun q6' =>
 none) q6
 else none)
 (fun q1' =>
 none) q1
abbrev codec_reader_iv_s_seg (k : Nat) : Seg := ⟨⟨22000, 32, false, [999], []⟩, 30, [], codec_reader_iv_s_i, codec_reader_iv_s_o, codec_reader_iv_s k⟩
theorem codec_reader_iv_s_seg.ok (k : Nat) : SegOK Tryz.prog (e86 k) (codec_reader_iv_s_seg k) :=
 SegOK.of (e86.ok k) (by kernel_rfl) (S := codec_reader_iv_s_seg k) 8 (.two .n (.two .n (.two (.two (.seg 3 (codec_rest_take_s_seg k) [] [] .n) (.two (.two (.two (.two .n (.seg 3 (codec_rest_check_s_seg k) [] [] .n)) .n) (.two (.two (.seg 1 (codec_reader_num_s_seg k) [] [] .n) (.two (.seg 1 (codec_reader_num_s_seg k) [(77824002, 900000000)] [] .n) (.seg 5 (codec_rest_check_s_seg k) [] [] .n))) .n)) .n)) .n))) ⟨trivial, ⟨trivial, ⟨⟨⟨(codec_rest_take_s_seg.ok k).env rfl rfl, trivial⟩, ⟨⟨⟨⟨trivial, ⟨(codec_rest_check_s_seg.ok k).env rfl rfl, trivial⟩⟩, trivial⟩, ⟨⟨⟨(codec_reader_num_s_seg.ok k).env rfl rfl, trivial⟩, ⟨⟨(codec_reader_num_s_seg.ok k).env rfl rfl, trivial⟩, ⟨(codec_rest_check_s_seg.ok k).env rfl rfl, trivial⟩⟩⟩, trivial⟩⟩, trivial⟩⟩, trivial⟩⟩⟩ (fun x => by kernel_rfl)
abbrev codec_Decode_l0_i : Mask := ⟨[(0, 4, (.k (.ptr 4 0 0))), (0, 5, (.k (.arr 43 0)))], [(4, .cells (.v T69)), (43, .arr 34 T33)], [], 0⟩
abbrev codec_Decode_l0_o : List Out := [⟨.ret, ⟨[(0, 2, (.v T22)), (0, 3, (.v (.int .i64)))], [], [], 0⟩⟩, ⟨.exit 0, ⟨[(0, 5, (.k (.arr 43 0)))], [(43, .arr 34 T33)], [], 0⟩⟩]
def codec_Decode_l0 (k : Nat) : Nat -> Mask.den codec_Decode_l0_i -> Option (denS codec_Decode_l0_o)
| 0, _ => none
| m + 1, x =>
 bif (decide ((x.2.1.1.length : Int) > 0)) then
 bif ((x.2.2.1.length : Int) == 256) then
 some (Sum.inl (([], 3, ()), ()))
 else
 (codec_rest_take_s k (((), (), 1, ()), (x.2.1, ()))).bind fun q25 =>
 Sum.elim (fun z26 =>
 if 0 <= 0 then (z26.1.2.1[Int.toNat 0]?).bind fun y27 =>
 (codec_reader_num_s k (((), (), ()), (z26.2.1, ()))).bind fun q28 =>
 Sum.elim (fun z29 =>
 (codec_reader_iv_s k (((), (), ()), (z29.2.1, ()))).bind fun q30 =>
 Sum.elim (fun z31 =>
 (codec_reader_iv_s k (((), (), ()), (z31.2.1, ()))).bind fun q32 =>
 Sum.elim (fun z33 =>
 (codec_reader_iv_s k (((), (), ()), (z33.2.1, ()))).bind fun q34 =>
 Sum.elim (fun z35 =>
 bif z35.2.1.2 then
 some (Sum.inl (([], 2, ()), ()))
 else
 (codec_may k ((IntKind.i64.wrap y27), z29.2.2.1, z31.2.2.1, z33.2.2.1, z35.2.2.1)).bind fun r36 =>
 bif (!r36.1) then
 some (Sum.inl (([], 2, ()), ()))
 else
 if (x.2.2.1.length + [((IntKind.i64.wrap y27), z29.2.2.1, z31.2.2.1, z33.2.2.1, z35.2.2.1)].length) * 256 <= 140737488355328 then
 codec_Decode_l0 k m (((), (), ()), (z35.2.1, (x.2.2.1 ++ [((IntKind.i64.wrap y27), z29.2.2.1, z31.2.2.1, z33.2.2.1, z35.2.2.1)]), ()))
 else none)
 (fun q34' =>
 none) q34)
 (fun q32' =>
 none) q32)
 (fun q30' =>
 none) q30)
 (fun q28' =>
 none) q28
 else none)
 (fun q25' =>
 none) q25
 else
 some (Sum.inr (Sum.inl (((), ()), (x.2.2.1, ()))))
abbrev codec_Decode_l0_seg (k : Nat) : Seg := ⟨⟨0, 45, false, [], []⟩, 9, [.b, .s1, .s2, .s2, .s2], codec_Decode_l0_i, codec_Decode_l0_o, codec_Decode_l0 k k⟩
theorem codec_Decode_l0_seg.ok (k : Nat) : SegOK Tryz.prog (e86 k) (codec_Decode_l0_seg k) :=
 SegOK.loop (e86.ok k) (by kernel_rfl) (S := codec_Decode_l0_seg k) (c := atR (codeOf (e86 k) 9) [.l, .b, .s1, .s2, .s2, .s2]) (by kernel_rfl) (codec_Decode_l0 k) k rfl (fun _ => rfl) 8 (.two .n (.two (.two .n (.two (.seg 1 (codec_rest_take_s_seg k) [] [] .n) (.two (.seg 0 (codec_reader_num_s_seg k) [] [] .n) (.two (.seg 0 (codec_reader_iv_s_seg k) [] [] (.seg 1 (codec_reader_iv_s_seg k) [(90112002, 900000000)] [] (.seg 2 (codec_reader_iv_s_seg k) [(90112002, 900000001)] [] .n))) .n)))) .n)) ⟨trivial, ⟨⟨trivial, ⟨⟨(codec_rest_take_s_seg.ok k).env rfl rfl, trivial⟩, ⟨⟨(codec_reader_num_s_seg.ok k).env rfl rfl, trivial⟩, ⟨⟨(codec_reader_iv_s_seg.ok k).env rfl rfl, ⟨(codec_reader_iv_s_seg.ok k).env rfl rfl, ⟨(codec_reader_iv_s_seg.ok k).env rfl rfl, trivial⟩⟩⟩, trivial⟩⟩⟩⟩, trivial⟩⟩ (fun k' x => by kernel_rfl)
def codec_Decode (k : Nat) (x0 : Ty.den T35) : Option (HL [T22, (.int .i64)]) :=
 (codec_Decode_l0 k k (((), (), ()), ((x0, false), [], ()))).bind fun q37 =>
 Sum.elim (fun z38 =>
 some (z38.1.1, z38.1.2.1, ()))
 (fun q37' =>
 Sum.elim (fun z39 =>
 some (z39.2.1, 0, ()))
 (fun q37'' =>
 none) q37') q37
theorem codec_Decode.ok (k : Nat) : SpecOK Tryz.prog G0 9 ⟨[T35], [T22, (.int .i64)], fun x => codec_Decode k x.1⟩ :=
 evF_sound (E := (e86 k)) (fn := Tryz.f9) (e86.ok k) (by kernel_rfl) (by kernel_rfl) (by kernel_rfl) 8 (.two .n (.two .n (.two .n (.two (.two (.use (codec_Decode_l0_seg k)) .n) .n)))) ⟨trivial, ⟨trivial, ⟨trivial, ⟨⟨(codec_Decode_l0_seg.ok k), trivial⟩, trivial⟩⟩⟩⟩ (fun xs => by kernel_rfl)
def e87 (k : Nat) : Env := (e86 k).add 9 ⟨[T35], [T22, (.int .i64)], fun x => codec_Decode k x.1⟩
theorem e87.ok (k : Nat) : (e87 k).OK Tryz.prog := (e86.ok k).add (codec_Decode.ok k)
abbrev codec_EncodeTube_l0_i : Mask := ⟨[(0, 4, (.k (.ptr 4 0 0))), (0, 24, (.v T44)), (0, 25, (.v (.int .i64))), (0, 26, (.v (.int .i64)))], [(4, .cells (.k (.arr 14 0))), (14, .arr 5 (.int .u8))], [], 0⟩
abbrev codec_EncodeTube_l0_o : List Out := [⟨.exit 0, ⟨[(0, 4, (.k (.ptr 4 0 0)))], [(4, .cells (.k (.arr 14 0))), (14, .arr 5 (.int .u8))], [], 0⟩⟩]
def codec_EncodeTube_l0 (k : Nat) : Nat -> Mask.den codec_EncodeTube_l0_i -> Option (denS codec_EncodeTube_l0_o)
| 0, _ => none
| m + 1, x =>
 bif (decide (x.1.2.2.2.1 < x.1.2.2.1)) then
 if 0 <= x.1.2.2.2.1 then (x.1.2.1[Int.toNat x.1.2.2.2.1]?).bind fun y6 =>
 (codec_writer_num_s k (((), (), (), y6.1, ()), ((), x.2.2.1, ()))).bind fun q7 =>
 Sum.elim (fun z8 =>
 (codec_writer_iv_s k (((), (), (), [y6.2.1, y6.2.2], ()), ((), z8.2.2.1, ()))).bind fun q9 =>
 Sum.elim (fun z10 =>
 codec_EncodeTube_l0 k m (((), x.1.2.1, x.1.2.2.1, (IntKind.i64.wrap (x.1.2.2.2.1 + 1)), ()), ((), z10.2.2.1, ())))
 (fun q9' =>
 none) q9)
 (fun q7' =>
 none) q7
 else none
 else
 some (Sum.inl (((), ()), ((), x.2.2.1, ())))
abbrev codec_EncodeTube_l0_seg (k : Nat) : Seg := ⟨⟨0, 42, false, [], []⟩, 11, [.b, .s2, .s1, .s2, .s2, .s2, .s2, .s2], codec_EncodeTube_l0_i, codec_EncodeTube_l0_o, codec_EncodeTube_l0 k k⟩
theorem codec_EncodeTube_l0_seg.ok (k : Nat) : SegOK Tryz.prog (e87 k) (codec_EncodeTube_l0_seg k) :=
 SegOK.loop (e87.ok k) (by kernel_rfl) (S := codec_EncodeTube_l0_seg k) (c := atR (codeOf (e87 k) 11) [.l, .b, .s2, .s1, .s2, .s2, .s2, .s2, .s2]) (by kernel_rfl) (codec_EncodeTube_l0 k) k rfl (fun _ => rfl) 8 (.two .n (.two .n (.two (.two (.two .n (.two (.seg 2 (codec_writer_num_s_seg k) [(14, 25)] [] .n) (.seg 5 (codec_writer_iv_s_seg k) [(14, 25)] [] .n))) .n) .n))) ⟨trivial, ⟨trivial, ⟨⟨⟨trivial, ⟨⟨(codec_writer_num_s_seg.ok k).env rfl rfl, trivial⟩, ⟨(codec_writer_iv_s_seg.ok k).env rfl rfl, trivial⟩⟩⟩, trivial⟩, trivial⟩⟩⟩ (fun k' x => by kernel_rfl)
def codec_EncodeTube (k : Nat) (x0 : Ty.den T45) : Option (HL [T35, (.int .i64)]) :=
 (tube_May k x0).bind fun r1 =>
 bif (!r1.1) then
 some ([], 1, ())
 else
 (codec_writer_num_s k (((), (), (), x0.1, ()), ((), [(IntKind.u8.wrap (x0.2.2.length : Int))], ()))).bind fun q2 =>
 Sum.elim (fun z3 =>
 (codec_writer_iv_s k (((), (), (), [x0.2.1], ()), ((), z3.2.2.1, ()))).bind fun q4 =>
 Sum.elim (fun z5 =>
 (codec_EncodeTube_l0 k k (((), x0.2.2, (x0.2.2.length : Int), 0, ()), ((), z5.2.2.1, ()))).bind fun q11 =>
 Sum.elim (fun z12 =>
 some (z12.2.2.1, 0, ()))
 (fun q11' =>
 none) q11)
 (fun q4' =>
 none) q4)
 (fun q2' =>
 none) q2
theorem codec_EncodeTube.ok (k : Nat) : SpecOK Tryz.prog G0 11 ⟨[T45], [T35, (.int .i64)], fun x => codec_EncodeTube k x.1⟩ :=
 evF_sound (E := (e87 k)) (fn := Tryz.f11) (e87.ok k) (by kernel_rfl) (by kernel_rfl) (by kernel_rfl) 8 (.two .n (.two .n (.two (.own 4 (.sp 5 (.sp 6 (.sp 7 .n)))) (.two (.seg 2 (codec_writer_num_s_seg k) [(14, 25)] [] .n) (.two (.seg 3 (codec_writer_iv_s_seg k) [(14, 25)] [] .n) (.two (.two .n (.two (.use (codec_EncodeTube_l0_seg k)) .n)) .n)))))) ⟨trivial, ⟨trivial, ⟨trivial, ⟨⟨(codec_writer_num_s_seg.ok k).env rfl rfl, trivial⟩, ⟨⟨(codec_writer_iv_s_seg.ok k).env rfl rfl, trivial⟩, ⟨⟨trivial, ⟨(codec_EncodeTube_l0_seg.ok k), trivial⟩⟩, trivial⟩⟩⟩⟩⟩⟩ (fun xs => by kernel_rfl)
def e88 (k : Nat) : Env := (e87 k).add 11 ⟨[T45], [T35, (.int .i64)], fun x => codec_EncodeTube k x.1⟩
theorem e88.ok (k : Nat) : (e88 k).OK Tryz.prog := (e87.ok k).add (codec_EncodeTube.ok k)
def engine_copied (k : Nat) (x0 : Ty.den T45) : Option (HL [T45]) :=
 if x0.2.2.length * 176 <= 140737488355328 then
 some (x0, ())
 else none
theorem engine_copied.ok (k : Nat) : SpecOK Tryz.prog G0 32 ⟨[T45], [T45], fun x => engine_copied k x.1⟩ :=
 evF_sound (E := (e88 k)) (fn := Tryz.f32) (e88.ok k) (by kernel_rfl) (by kernel_rfl) (by kernel_rfl) 8 .n trivial (fun xs => by kernel_rfl)
def e89 (k : Nat) : Env := (e88 k).add 32 ⟨[T45], [T45], fun x => engine_copied k x.1⟩
theorem e89.ok (k : Nat) : (e89 k).OK Tryz.prog := (e88.ok k).add (engine_copied.ok k)
abbrev codec_DecodeTube_l0_i : Mask := ⟨[(0, 2, (.k (.ptr 2 0 0))), (0, 4, (.k (.ptr 4 0 0))), (0, 6, (.k (.ptr 6 0 0))), (0, 20, (.v (.int .i64))), (0, 21, (.v (.int .i64)))], [(2, .cells (.pr (.v T29) (.pr (.v T31) (.v T44)))), (4, .cells (.v T69)), (6, .cells (.pr (.v T29) (.pr (.v T31) (.k (.arr 33 0))))), (33, .arr 78 T77)], [], 0⟩
abbrev codec_DecodeTube_l0_o : List Out := [⟨.exit 0, ⟨[(0, 2, (.k (.ptr 2 0 0))), (0, 4, (.k (.ptr 4 0 0))), (0, 6, (.k (.ptr 6 0 0)))], [(2, .cells (.pr (.v T29) (.pr (.v T31) (.v T44)))), (4, .cells (.v T69)), (6, .cells (.pr (.v T29) (.pr (.v T31) (.k (.arr 33 0))))), (33, .arr 78 T77)], [], 0⟩⟩]
def codec_DecodeTube_l0 (k : Nat) : Nat -> Mask.den codec_DecodeTube_l0_i -> Option (denS codec_DecodeTube_l0_o)
| 0, _ => none
| m + 1, x =>
 bif (decide (x.1.2.2.2.2.1 < x.1.2.2.2.1)) then
 (codec_reader_num_s k (((), (), ()), (x.2.2.1, ()))).bind fun q14 =>
 Sum.elim (fun z15 =>
 (codec_reader_iv_s k (((), (), ()), (z15.2.1, ()))).bind fun q16 =>
 Sum.elim (fun z17 =>
 (codec_reader_iv_s k (((), (), ()), (z17.2.1, ()))).bind fun q18 =>
 Sum.elim (fun z19 =>
 if (x.2.2.2.2.1.length + [(z15.2.2.1, z17.2.2.1, z19.2.2.1)].length) * 176 <= 140737488355328 then
 codec_DecodeTube_l0 k m (((), (), (), x.1.2.2.2.1, (IntKind.i64.wrap (x.1.2.2.2.2.1 + 1)), ()), ((x.2.1.1, (x.2.1.2.1, x.2.1.2.2)), z19.2.1, (x.2.2.2.1.1, (x.2.2.2.1.2.1, ())), (x.2.2.2.2.1 ++ [(z15.2.2.1, z17.2.2.1, z19.2.2.1)]), ()))
 else none)
 (fun q18' =>
 none) q18)
 (fun q16' =>
 none) q16)
 (fun q14' =>
 none) q14
 else
 some (Sum.inl (((), (), (), ()), ((x.2.1.1, (x.2.1.2.1, x.2.1.2.2)), x.2.2.1, (x.2.2.2.1.1, (x.2.2.2.1.2.1, ())), x.2.2.2.2.1, ())))
abbrev codec_DecodeTube_l0_seg (k : Nat) : Seg := ⟨⟨0, 53, false, [], []⟩, 13, [.b, .s2, .s1, .s2, .s2, .s2, .s2, .s2], codec_DecodeTube_l0_i, codec_DecodeTube_l0_o, codec_DecodeTube_l0 k k⟩
theorem codec_DecodeTube_l0_seg.ok (k : Nat) : SegOK Tryz.prog (e89 k) (codec_DecodeTube_l0_seg k) :=
 SegOK.loop (e89.ok k) (by kernel_rfl) (S := codec_DecodeTube_l0_seg k) (c := atR (codeOf (e89 k) 13) [.l, .b, .s2, .s1, .s2, .s2, .s2, .s2, .s2]) (by kernel_rfl) (codec_DecodeTube_l0 k) k rfl (fun _ => rfl) 8 (.two .n (.two .n (.two (.two (.two (.seg 0 (codec_reader_num_s_seg k) [] [] .n) (.two (.seg 0 (codec_reader_iv_s_seg k) [] [] .n) (.two (.seg 0 (codec_reader_iv_s_seg k) [(90112002, 900000000)] [] .n) .n))) .n) .n))) ⟨trivial, ⟨trivial, ⟨⟨⟨⟨(codec_reader_num_s_seg.ok k).env rfl rfl, trivial⟩, ⟨⟨(codec_reader_iv_s_seg.ok k).env rfl rfl, trivial⟩, ⟨⟨(codec_reader_iv_s_seg.ok k).env rfl rfl, trivial⟩, trivial⟩⟩⟩, trivial⟩, trivial⟩⟩⟩ (fun k' x => by kernel_rfl)
def codec_DecodeTube (k : Nat) (x0 : Ty.den T35) : Option (HL [T45, (.int .i64)]) :=
 (codec_rest_take_s k (((), (), 1, ()), ((x0, false), ()))).bind fun q1 =>
 Sum.elim (fun z2 =>
 if 0 <= 0 then (z2.1.2.1[Int.toNat 0]?).bind fun y3 =>
 (codec_reader_num_s k (((), (), ()), (z2.2.1, ()))).bind fun q4 =>
 Sum.elim (fun z5 =>
 (codec_reader_iv_s k (((), (), ()), (z5.2.1, ()))).bind fun q6 =>
 Sum.elim (fun z7 =>
 (codec_DecodeTube_l0 k k (((), (), (), (IntKind.i64.wrap y3), 0, ()), (((0, false, 0, 0), ((false, (0, false, 0, 0), 0, false, 0, 0), [])), z7.2.1, (z5.2.2.1, (z7.2.2.1, ())), [], ()))).bind fun q20 =>
 Sum.elim (fun z21 =>
 bif z21.2.2.1.2 then
 some (((0, false, 0, 0), (false, (0, false, 0, 0), 0, false, 0, 0), []), 2, ())
 else
 bif (decide ((z21.2.2.1.1.length : Int) > 0)) then
 some (((0, false, 0, 0), (false, (0, false, 0, 0), 0, false, 0, 0), []), 2, ())
 else
 (tube_May k (z21.2.2.2.1.1, z21.2.2.2.1.2.1, z21.2.2.2.2.1)).bind fun r22 =>
 bif (!r22.1) then
 some (((0, false, 0, 0), (false, (0, false, 0, 0), 0, false, 0, 0), []), 2, ())
 else
 some ((z21.2.2.2.1.1, z21.2.2.2.1.2.1, z21.2.2.2.2.1), 0, ()))
 (fun q20' =>
 none) q20)
 (fun q6' =>
 none) q6)
 (fun q4' =>
 none) q4
 else none)
 (fun q1' =>
 none) q1
theorem codec_DecodeTube.ok (k : Nat) : SpecOK Tryz.prog G0 13 ⟨[T35], [T45, (.int .i64)], fun x => codec_DecodeTube k x.1⟩ :=
 evF_sound (E := (e89 k)) (fn := Tryz.f13) (e89.ok k) (by kernel_rfl) (by kernel_rfl) (by kernel_rfl) 8 (.two .n (.two .n (.two (.seg 1 (codec_rest_take_s_seg k) [] [] .n) (.two (.seg 0 (codec_reader_num_s_seg k) [] [] .n) (.two (.seg 0 (codec_reader_iv_s_seg k) [] [] .n) (.two (.two .n (.two (.use (codec_DecodeTube_l0_seg k)) .n)) .n)))))) ⟨trivial, ⟨trivial, ⟨⟨(codec_rest_take_s_seg.ok k).env rfl rfl, trivial⟩, ⟨⟨(codec_reader_num_s_seg.ok k).env rfl rfl, trivial⟩, ⟨⟨(codec_reader_iv_s_seg.ok k).env rfl rfl, trivial⟩, ⟨⟨trivial, ⟨(codec_DecodeTube_l0_seg.ok k), trivial⟩⟩, trivial⟩⟩⟩⟩⟩⟩ (fun xs => by kernel_rfl)
def e90 (k : Nat) : Env := (e89 k).add 13 ⟨[T35], [T45, (.int .i64)], fun x => codec_DecodeTube k x.1⟩
theorem e90.ok (k : Nat) : (e90 k).OK Tryz.prog := (e89.ok k).add (codec_DecodeTube.ok k)
abbrev pelorusref17_Same_l0_i : Mask := ⟨[(0, 2, (.k (.ptr 2 0 0))), (0, 3, (.k (.ptr 3 0 0))), (0, 5, (.v (.int .i64)))], [(2, .cells (.v T45)), (3, .cells (.v T45))], [], 0⟩
abbrev pelorusref17_Same_l0_o : List Out := [⟨.ret, ⟨[(0, 4, (.v .bool))], [], [], 0⟩⟩, ⟨.exit 0, ⟨[], [], [], 0⟩⟩]
def pelorusref17_Same_l0 (k : Nat) : Nat -> Mask.den pelorusref17_Same_l0_i -> Option (denS pelorusref17_Same_l0_o)
| 0, _ => none
| m + 1, x =>
 bif (decide (x.1.2.2.1 < (x.2.1.2.2.length : Int))) then
 if 0 <= x.1.2.2.1 then (x.2.1.2.2[Int.toNat x.1.2.2.1]?).bind fun y1 =>
 if 0 <= x.1.2.2.1 then (x.2.2.1.2.2[Int.toNat x.1.2.2.1]?).bind fun y2 =>
 bif (!(beqT T77 y1 y2)) then
 some (Sum.inl ((false, ()), ()))
 else
 pelorusref17_Same_l0 k m (((), (), (IntKind.i64.wrap (x.1.2.2.1 + 1)), ()), (x.2.1, x.2.2.1, ()))
 else none
 else none
 else
 some (Sum.inr (Sum.inl ((), ())))
abbrev pelorusref17_Same_l0_seg (k : Nat) : Seg := ⟨⟨0, 45, false, [], []⟩, 14, [.b, .s2, .s1, .s2, .s2], pelorusref17_Same_l0_i, pelorusref17_Same_l0_o, pelorusref17_Same_l0 k k⟩
theorem pelorusref17_Same_l0_seg.ok (k : Nat) : SegOK Tryz.prog (e90 k) (pelorusref17_Same_l0_seg k) :=
 SegOK.loop (e90.ok k) (by kernel_rfl) (S := pelorusref17_Same_l0_seg k) (c := atR (codeOf (e90 k) 14) [.l, .b, .s2, .s1, .s2, .s2]) (by kernel_rfl) (pelorusref17_Same_l0 k) k rfl (fun _ => rfl) 8 .n trivial (fun k' x => by kernel_rfl)
def pelorusref17_Same (k : Nat) (x0 : Ty.den T45) (x1 : Ty.den T45) : Option (HL [.bool]) :=
 bif (!(beqT T29 x0.1 x1.1)) then
 some (false, ())
 else
 bif (!(beqT T31 x0.2.1 x1.2.1)) then
 some (false, ())
 else
 bif ((x0.2.2.length : Int) != (x1.2.2.length : Int)) then
 some (false, ())
 else
 (pelorusref17_Same_l0 k k (((), (), 0, ()), (x0, x1, ()))).bind fun q3 =>
 Sum.elim (fun z4 =>
 some (z4.1.1, ()))
 (fun q3' =>
 Sum.elim (fun z5 =>
 some (true, ()))
 (fun q3'' =>
 none) q3') q3
theorem pelorusref17_Same.ok (k : Nat) : SpecOK Tryz.prog G0 14 ⟨[T45, T45], [.bool], fun x => pelorusref17_Same k x.1 x.2.1⟩ :=
 evF_sound (E := (e90 k)) (fn := Tryz.f14) (e90.ok k) (by kernel_rfl) (by kernel_rfl) (by kernel_rfl) 8 (.two .n (.two .n (.two (.two .n (.two (.use (pelorusref17_Same_l0_seg k)) .n)) .n))) ⟨trivial, ⟨trivial, ⟨⟨trivial, ⟨(pelorusref17_Same_l0_seg.ok k), trivial⟩⟩, trivial⟩⟩⟩ (fun xs => by kernel_rfl)
def e91 (k : Nat) : Env := (e90 k).add 14 ⟨[T45, T45], [.bool], fun x => pelorusref17_Same k x.1 x.2.1⟩
theorem e91.ok (k : Nat) : (e91 k).OK Tryz.prog := (e90.ok k).add (pelorusref17_Same.ok k)
abbrev pelorusref23_Same_l0_i : Mask := ⟨[(0, 0, (.v T22)), (0, 1, (.v T22)), (0, 5, (.v (.int .i64)))], [], [], 0⟩
abbrev pelorusref23_Same_l0_o : List Out := [⟨.ret, ⟨[(0, 4, (.v .bool))], [], [], 0⟩⟩, ⟨.exit 0, ⟨[], [], [], 0⟩⟩]
def pelorusref23_Same_l0 (k : Nat) : Nat -> Mask.den pelorusref23_Same_l0_i -> Option (denS pelorusref23_Same_l0_o)
| 0, _ => none
| m + 1, x =>
 bif (decide (x.1.2.2.1 < (x.1.1.length : Int))) then
 if 0 <= x.1.2.2.1 then (x.1.1[Int.toNat x.1.2.2.1]?).bind fun y1 =>
 if 0 <= x.1.2.2.1 then (x.1.2.1[Int.toNat x.1.2.2.1]?).bind fun y2 =>
 bif (!(beqT T33 y1 y2)) then
 some (Sum.inl ((false, ()), ()))
 else
 pelorusref23_Same_l0 k m ((x.1.1, x.1.2.1, (IntKind.i64.wrap (x.1.2.2.1 + 1)), ()), ())
 else none
 else none
 else
 some (Sum.inr (Sum.inl ((), ())))
abbrev pelorusref23_Same_l0_seg (k : Nat) : Seg := ⟨⟨0, 26, false, [], []⟩, 16, [.b, .s2, .s1, .s2, .s2], pelorusref23_Same_l0_i, pelorusref23_Same_l0_o, pelorusref23_Same_l0 k k⟩
theorem pelorusref23_Same_l0_seg.ok (k : Nat) : SegOK Tryz.prog (e91 k) (pelorusref23_Same_l0_seg k) :=
 SegOK.loop (e91.ok k) (by kernel_rfl) (S := pelorusref23_Same_l0_seg k) (c := atR (codeOf (e91 k) 16) [.l, .b, .s2, .s1, .s2, .s2]) (by kernel_rfl) (pelorusref23_Same_l0 k) k rfl (fun _ => rfl) 8 .n trivial (fun k' x => by kernel_rfl)
def pelorusref23_Same (k : Nat) (x0 : Ty.den T22) (x1 : Ty.den T22) : Option (HL [.bool]) :=
 bif ((x0.length : Int) != (x1.length : Int)) then
 some (false, ())
 else
 (pelorusref23_Same_l0 k k ((x0, x1, 0, ()), ())).bind fun q3 =>
 Sum.elim (fun z4 =>
 some (z4.1.1, ()))
 (fun q3' =>
 Sum.elim (fun z5 =>
 some (true, ()))
 (fun q3'' =>
 none) q3') q3
theorem pelorusref23_Same.ok (k : Nat) : SpecOK Tryz.prog G0 16 ⟨[T22, T22], [.bool], fun x => pelorusref23_Same k x.1 x.2.1⟩ :=
 evF_sound (E := (e91 k)) (fn := Tryz.f16) (e91.ok k) (by kernel_rfl) (by kernel_rfl) (by kernel_rfl) 8 (.two .n (.two .n (.two (.two .n (.two (.use (pelorusref23_Same_l0_seg k)) .n)) .n))) ⟨trivial, ⟨trivial, ⟨⟨trivial, ⟨(pelorusref23_Same_l0_seg.ok k), trivial⟩⟩, trivial⟩⟩⟩ (fun xs => by kernel_rfl)
def e92 (k : Nat) : Env := (e91 k).add 16 ⟨[T22, T22], [.bool], fun x => pelorusref23_Same k x.1 x.2.1⟩
theorem e92.ok (k : Nat) : (e92 k).OK Tryz.prog := (e91.ok k).add (pelorusref23_Same.ok k)
def tube_Empty_1 (k : Nat) (x0 : Ty.den T77) : Option (HL [.bool]) :=
 bif x0.2.1.1 then
 some (true, ())
 else
 some (x0.2.2.1, ())
theorem tube_Empty_1.ok (k : Nat) : SpecOK Tryz.prog G0 60 ⟨[T77], [.bool], fun x => tube_Empty_1 k x.1⟩ :=
 evF_sound (E := (e92 k)) (fn := Tryz.f60) (e92.ok k) (by kernel_rfl) (by kernel_rfl) (by kernel_rfl) 8 .n trivial (fun xs => by kernel_rfl)
def e93 (k : Nat) : Env := (e92 k).add 60 ⟨[T77], [.bool], fun x => tube_Empty_1 k x.1⟩
theorem e93.ok (k : Nat) : (e93 k).OK Tryz.prog := (e92.ok k).add (tube_Empty_1.ok k)
def flow_Contract_1 (k : Nat) (x0 : Ty.den T31) : Option (HL [.bool]) :=
 (iv_May k x0).bind fun r1 =>
 some ((!r1.1), ())
theorem flow_Contract_1.ok (k : Nat) : SpecOK Tryz.prog G0 89 ⟨[T31], [.bool], fun x => flow_Contract_1 k x.1⟩ :=
 evF_sound (E := (e93 k)) (fn := Tryz.f89) (e93.ok k) (by kernel_rfl) (by kernel_rfl) (by kernel_rfl) 8 .n trivial (fun xs => by kernel_rfl)
def e94 (k : Nat) : Env := (e93 k).add 89 ⟨[T31], [.bool], fun x => flow_Contract_1 k x.1⟩
theorem e94.ok (k : Nat) : (e94 k).OK Tryz.prog := (e93.ok k).add (flow_Contract_1.ok k)
def tube_New (k : Nat) (x0 : Ty.den T29) (x1 : Ty.den T31) : Option (HL [T45, (.int .i64)]) :=
 (tube_May k (x0, x1, [])).bind fun r1 =>
 bif (!r1.1) then
 some (((0, false, 0, 0), (false, (0, false, 0, 0), 0, false, 0, 0), []), 1, ())
 else
 some ((x0, x1, []), 0, ())
theorem tube_New.ok (k : Nat) : SpecOK Tryz.prog G0 43 ⟨[T29, T31], [T45, (.int .i64)], fun x => tube_New k x.1 x.2.1⟩ :=
 evF_sound (E := (e94 k)) (fn := Tryz.f43) (e94.ok k) (by kernel_rfl) (by kernel_rfl) (by kernel_rfl) 8 .n trivial (fun xs => by kernel_rfl)
def e95 (k : Nat) : Env := (e94 k).add 43 ⟨[T29, T31], [T45, (.int .i64)], fun x => tube_New k x.1 x.2.1⟩
theorem e95.ok (k : Nat) : (e95 k).OK Tryz.prog := (e94.ok k).add (tube_New.ok k)
def ivop_Mul (k : Nat) (x0 : Ty.den T31) (x1 : Ty.den T31) : Option (HL [T31]) :=
 (ivop_none k [x0, x1]).bind fun r1 =>
 bif r1.1 then
 (iv_None k).bind fun r2 =>
 some (r2.1, ())
 else
 (arith_Mul k x0.2.1 x1.2.1 false).bind fun r3 =>
 (arith_Mul k x0.2.1 x1.2.2 false).bind fun r4 =>
 (arith_Mul k x0.2.2 x1.2.1 false).bind fun r5 =>
 (arith_Mul k x0.2.2 x1.2.2 false).bind fun r6 =>
 (num_Least k [r3.1, r4.1, r5.1, r6.1]).bind fun r7 =>
 (arith_Mul k x0.2.1 x1.2.1 true).bind fun r8 =>
 (arith_Mul k x0.2.1 x1.2.2 true).bind fun r9 =>
 (arith_Mul k x0.2.2 x1.2.1 true).bind fun r10 =>
 (arith_Mul k x0.2.2 x1.2.2 true).bind fun r11 =>
 (num_Most k [r8.1, r9.1, r10.1, r11.1]).bind fun r12 =>
 (iv_Make k r7.1 r12.1).bind fun r13 =>
 some (r13.1, ())
theorem ivop_Mul.ok (k : Nat) : SpecOK Tryz.prog G0 108 ⟨[T31, T31], [T31], fun x => ivop_Mul k x.1 x.2.1⟩ :=
 evF_sound (E := (e95 k)) (fn := Tryz.f108) (e95.ok k) (by kernel_rfl) (by kernel_rfl) (by kernel_rfl) 8 (.two .n (.two .n (.two (.call 2 1 (.two .n (.two .n (.two (.call 1 514 .n (.call 4 515 .n .n)) .n))) .n) .n))) ⟨trivial, ⟨trivial, ⟨⟨⟨trivial, ⟨trivial, ⟨⟨trivial, ⟨trivial, trivial⟩⟩, trivial⟩⟩⟩, trivial⟩, trivial⟩⟩⟩ (fun xs => by kernel_rfl)
def e96 (k : Nat) : Env := (e95 k).add 108 ⟨[T31, T31], [T31], fun x => ivop_Mul k x.1 x.2.1⟩
theorem e96.ok (k : Nat) : (e96 k).OK Tryz.prog := (e95.ok k).add (ivop_Mul.ok k)
def flow_when (k : Nat) (x0 : Ty.den T45) (x1 : Ty.den (.int .i64)) : Option (HL [T29]) :=
 bif (x1 == 0) then
 some (x0.1, ())
 else
 if 0 <= (IntKind.i64.wrap (x1 - 1)) then (x0.2.2[Int.toNat (IntKind.i64.wrap (x1 - 1))]?).bind fun y1 =>
 some (y1.1, ())
 else none
theorem flow_when.ok (k : Nat) : SpecOK Tryz.prog G0 118 ⟨[T45, (.int .i64)], [T29], fun x => flow_when k x.1 x.2.1⟩ :=
 evF_sound (E := (e96 k)) (fn := Tryz.f118) (e96.ok k) (by kernel_rfl) (by kernel_rfl) (by kernel_rfl) 8 .n trivial (fun xs => by kernel_rfl)
def e97 (k : Nat) : Env := (e96 k).add 118 ⟨[T45, (.int .i64)], [T29], fun x => flow_when k x.1 x.2.1⟩
theorem e97.ok (k : Nat) : (e97 k).OK Tryz.prog := (e96.ok k).add (flow_when.ok k)
def arith_Sub (k : Nat) (x0 : Ty.den T29) (x1 : Ty.den T29) (x2 : Ty.den .bool) : Option (HL [T29]) :=
 (num_Neg k x1).bind fun r1 =>
 (arith_Add k x0 r1.1 x2).bind fun r2 =>
 some (r2.1, ())
theorem arith_Sub.ok (k : Nat) : SpecOK Tryz.prog G0 119 ⟨[T29, T29, .bool], [T29], fun x => arith_Sub k x.1 x.2.1 x.2.2.1⟩ :=
 evF_sound (E := (e97 k)) (fn := Tryz.f119) (e97.ok k) (by kernel_rfl) (by kernel_rfl) (by kernel_rfl) 8 .n trivial (fun xs => by kernel_rfl)
def e98 (k : Nat) : Env := (e97 k).add 119 ⟨[T29, T29, .bool], [T29], fun x => arith_Sub k x.1 x.2.1 x.2.2.1⟩
theorem e98.ok (k : Nat) : (e98 k).OK Tryz.prog := (e97.ok k).add (arith_Sub.ok k)
abbrev tube_Empty_l0_i : Mask := ⟨[(0, 12, (.v .bool)), (2, 0, (.v T44)), (2, 1, (.k (.clo 60 .nl))), (2, 7, (.v (.int .i64))), (2, 8, (.v (.int .i64)))], [], [], 0⟩
abbrev tube_Empty_l0_o : List Out := [⟨.ret, ⟨[(0, 12, (.v .bool)), (2, 4, (.v (.int .i64)))], [], [], 0⟩⟩, ⟨.exit 0, ⟨[(0, 12, (.v .bool))], [], [], 0⟩⟩]
def tube_Empty_l0 (k : Nat) : Nat -> Mask.den tube_Empty_l0_i -> Option (denS tube_Empty_l0_o)
| 0, _ => none
| m + 1, x =>
 bif (decide (x.1.2.2.2.2.1 < x.1.2.2.2.1)) then
 if 0 <= x.1.2.2.2.2.1 then (x.1.2.1[Int.toNat x.1.2.2.2.2.1]?).bind fun y2 =>
 (tube_Empty_1 k y2).bind fun r3 =>
 bif r3.1 then
 some (Sum.inl ((x.1.1, x.1.2.2.2.2.1, ()), ()))
 else
 tube_Empty_l0 k m ((x.1.1, x.1.2.1, (), x.1.2.2.2.1, (IntKind.i64.wrap (x.1.2.2.2.2.1 + 1)), ()), ())
 else none
 else
 some (Sum.inr (Sum.inl ((x.1.1, ()), ())))
abbrev tube_Empty_l0_seg (k : Nat) : Seg := ⟨⟨2, 19, false, [1, 0], []⟩, 65, [.b, .s2, .s1, .s2], tube_Empty_l0_i, tube_Empty_l0_o, tube_Empty_l0 k k⟩
theorem tube_Empty_l0_seg.ok (k : Nat) : SegOK Tryz.prog (e98 k) (tube_Empty_l0_seg k) :=
 SegOK.loop (e98.ok k) (by kernel_rfl) (S := tube_Empty_l0_seg k) (c := atR (codeOf (e98 k) 65) [.l, .b, .s2, .s1, .s2]) (by kernel_rfl) (tube_Empty_l0 k) k rfl (fun _ => rfl) 8 .n trivial (fun k' x => by kernel_rfl)
def tube_Empty (k : Nat) (x0 : Ty.den T45) : Option (HL [.bool]) :=
 (tube_May k x0).bind fun r1 =>
 bif (!r1.1) then
 some (true, ())
 else
 bif x0.2.1.1 then
 some (true, ())
 else
 (tube_Empty_l0 k k ((false, x0.2.2, (), (x0.2.2.length : Int), 0, ()), ())).bind fun q4 =>
 Sum.elim (fun z5 =>
 bif z5.1.1 then
 some (true, ())
 else
 some ((decide (z5.1.2.1 >= 0)), ()))
 (fun q4' =>
 Sum.elim (fun z6 =>
 bif z6.1.1 then
 some (true, ())
 else
 some (false, ()))
 (fun q4'' =>
 none) q4') q4
theorem tube_Empty.ok (k : Nat) : SpecOK Tryz.prog G0 33 ⟨[T45], [.bool], fun x => tube_Empty k x.1⟩ :=
 evF_sound (E := (e98 k)) (fn := Tryz.f33) (e98.ok k) (by kernel_rfl) (by kernel_rfl) (by kernel_rfl) 8 (.two .n (.two .n (.two (.call 12 1 (.two .n (.two (.call 2 2 (.two .n (.two (.two .n (.two (.use (tube_Empty_l0_seg k)) .n)) .n)) .n) .n)) .n) .n))) ⟨trivial, ⟨trivial, ⟨⟨⟨trivial, ⟨⟨⟨trivial, ⟨⟨trivial, ⟨(tube_Empty_l0_seg.ok k), trivial⟩⟩, trivial⟩⟩, trivial⟩, trivial⟩⟩, trivial⟩, trivial⟩⟩⟩ (fun xs => by kernel_rfl)
def e99 (k : Nat) : Env := (e98 k).add 33 ⟨[T45], [.bool], fun x => tube_Empty k x.1⟩
theorem e99.ok (k : Nat) : (e99 k).OK Tryz.prog := (e98.ok k).add (tube_Empty.ok k)
abbrev tube_Fit_l0_i : Mask := ⟨[(0, 2, (.k (.ptr 2 0 0))), (0, 3, (.k (.ptr 3 0 0))), (2, 0, (.k (.yld 0))), (2, 1, (.k (.ptr 2101249 0 0))), (2, 3, (.k (.ptr 8195 0 0))), (2, 14, (.v (.int .i64))), (2, 15, (.v (.int .i64)))], [(2, .cells (.pr (.v T29) (.pr (.v T31) (.v T44)))), (3, .cells (.pr (.v T29) (.pr (.v T31) (.k (.arr 13 0))))), (13, .arr 78 T77), (8195, .cells (.pr (.v T29) (.v T31))), (2101249, .cells (.v T45))], [], 1⟩
abbrev tube_Fit_l0_o : List Out := [⟨.exit 0, ⟨[(0, 2, (.k (.ptr 2 0 0))), (0, 3, (.k (.ptr 3 0 0)))], [(2, .cells (.pr (.v T29) (.pr (.v T31) (.v T44)))), (3, .cells (.pr (.v T29) (.pr (.v T31) (.k (.arr 13 0))))), (13, .arr 78 T77)], [], 1⟩⟩]
def tube_Fit_l0 (k : Nat) : Nat -> Mask.den tube_Fit_l0_i -> Option (denS tube_Fit_l0_o)
| 0, _ => none
| m + 1, x =>
 bif (decide (x.1.2.2.2.2.2.2.1 < x.1.2.2.2.2.2.1)) then
 bif (decide (x.1.2.2.2.2.2.2.1 > 0)) then
 if 0 <= (IntKind.i64.wrap (x.1.2.2.2.2.2.2.1 - 1)) then (x.2.2.2.2.2.1.2.2[Int.toNat (IntKind.i64.wrap (x.1.2.2.2.2.2.2.1 - 1))]?).bind fun y2 =>
 (iv_Meet k [y2.2.2, y2.2.1]).bind fun r3 =>
 bif (decide (x.1.2.2.2.2.2.2.1 < (x.2.2.2.2.2.1.2.2.length : Int))) then
 if 0 <= x.1.2.2.2.2.2.2.1 then (x.2.2.2.2.2.1.2.2[Int.toNat x.1.2.2.2.2.2.2.1]?).bind fun y4 =>
 (iv_Meet k [r3.1, y4.2.1]).bind fun r5 =>
 bif (x.1.2.2.2.2.2.2.1 == 0) then
 tube_Fit_l0 k m (((), (), (), (), (), x.1.2.2.2.2.2.1, (IntKind.i64.wrap (x.1.2.2.2.2.2.2.1 + 1)), ()), ((x.2.1.1, (x.2.1.2.1, x.2.1.2.2)), (x.2.2.1.1, (r5.1, ())), x.2.2.2.1, (y2.1, r5.1), x.2.2.2.2.2.1, ()))
 else
 if 0 <= (IntKind.i64.wrap (x.1.2.2.2.2.2.2.1 - 1)) then (x.2.2.2.1[Int.toNat (IntKind.i64.wrap (x.1.2.2.2.2.2.2.1 - 1))]?).bind fun _ =>
 (x.2.2.2.1[(Int.toNat (IntKind.i64.wrap (x.1.2.2.2.2.2.2.1 - 1)))]?).bind fun y7 =>
 tube_Fit_l0 k m (((), (), (), (), (), x.1.2.2.2.2.2.1, (IntKind.i64.wrap (x.1.2.2.2.2.2.2.1 + 1)), ()), ((x.2.1.1, (x.2.1.2.1, x.2.1.2.2)), (x.2.2.1.1, (x.2.2.1.2.1, ())), (x.2.2.2.1.set (Int.toNat (IntKind.i64.wrap (x.1.2.2.2.2.2.2.1 - 1))) (y7.1, y7.2.1, r5.1)), (y2.1, r5.1), x.2.2.2.2.2.1, ()))
 else none
 else none
 else
 bif (x.1.2.2.2.2.2.2.1 == 0) then
 tube_Fit_l0 k m (((), (), (), (), (), x.1.2.2.2.2.2.1, (IntKind.i64.wrap (x.1.2.2.2.2.2.2.1 + 1)), ()), ((x.2.1.1, (x.2.1.2.1, x.2.1.2.2)), (x.2.2.1.1, (r3.1, ())), x.2.2.2.1, (y2.1, r3.1), x.2.2.2.2.2.1, ()))
 else
 if 0 <= (IntKind.i64.wrap (x.1.2.2.2.2.2.2.1 - 1)) then (x.2.2.2.1[Int.toNat (IntKind.i64.wrap (x.1.2.2.2.2.2.2.1 - 1))]?).bind fun _ =>
 (x.2.2.2.1[(Int.toNat (IntKind.i64.wrap (x.1.2.2.2.2.2.2.1 - 1)))]?).bind fun y9 =>
 tube_Fit_l0 k m (((), (), (), (), (), x.1.2.2.2.2.2.1, (IntKind.i64.wrap (x.1.2.2.2.2.2.2.1 + 1)), ()), ((x.2.1.1, (x.2.1.2.1, x.2.1.2.2)), (x.2.2.1.1, (x.2.2.1.2.1, ())), (x.2.2.2.1.set (Int.toNat (IntKind.i64.wrap (x.1.2.2.2.2.2.2.1 - 1))) (y9.1, y9.2.1, r3.1)), (y2.1, r3.1), x.2.2.2.2.2.1, ()))
 else none
 else none
 else
 bif (decide (x.1.2.2.2.2.2.2.1 < (x.2.2.2.2.2.1.2.2.length : Int))) then
 if 0 <= x.1.2.2.2.2.2.2.1 then (x.2.2.2.2.2.1.2.2[Int.toNat x.1.2.2.2.2.2.2.1]?).bind fun y10 =>
 (iv_Meet k [x.2.2.2.2.1.2, y10.2.1]).bind fun r11 =>
 bif (x.1.2.2.2.2.2.2.1 == 0) then
 tube_Fit_l0 k m (((), (), (), (), (), x.1.2.2.2.2.2.1, (IntKind.i64.wrap (x.1.2.2.2.2.2.2.1 + 1)), ()), ((x.2.1.1, (x.2.1.2.1, x.2.1.2.2)), (x.2.2.1.1, (r11.1, ())), x.2.2.2.1, (x.2.2.2.2.1.1, r11.1), x.2.2.2.2.2.1, ()))
 else
 if 0 <= (IntKind.i64.wrap (x.1.2.2.2.2.2.2.1 - 1)) then (x.2.2.2.1[Int.toNat (IntKind.i64.wrap (x.1.2.2.2.2.2.2.1 - 1))]?).bind fun _ =>
 (x.2.2.2.1[(Int.toNat (IntKind.i64.wrap (x.1.2.2.2.2.2.2.1 - 1)))]?).bind fun y13 =>
 tube_Fit_l0 k m (((), (), (), (), (), x.1.2.2.2.2.2.1, (IntKind.i64.wrap (x.1.2.2.2.2.2.2.1 + 1)), ()), ((x.2.1.1, (x.2.1.2.1, x.2.1.2.2)), (x.2.2.1.1, (x.2.2.1.2.1, ())), (x.2.2.2.1.set (Int.toNat (IntKind.i64.wrap (x.1.2.2.2.2.2.2.1 - 1))) (y13.1, y13.2.1, r11.1)), (x.2.2.2.2.1.1, r11.1), x.2.2.2.2.2.1, ()))
 else none
 else none
 else
 bif (x.1.2.2.2.2.2.2.1 == 0) then
 tube_Fit_l0 k m (((), (), (), (), (), x.1.2.2.2.2.2.1, (IntKind.i64.wrap (x.1.2.2.2.2.2.2.1 + 1)), ()), ((x.2.1.1, (x.2.1.2.1, x.2.1.2.2)), (x.2.2.1.1, (x.2.2.2.2.1.2, ())), x.2.2.2.1, (x.2.2.2.2.1.1, x.2.2.2.2.1.2), x.2.2.2.2.2.1, ()))
 else
 if 0 <= (IntKind.i64.wrap (x.1.2.2.2.2.2.2.1 - 1)) then (x.2.2.2.1[Int.toNat (IntKind.i64.wrap (x.1.2.2.2.2.2.2.1 - 1))]?).bind fun _ =>
 (x.2.2.2.1[(Int.toNat (IntKind.i64.wrap (x.1.2.2.2.2.2.2.1 - 1)))]?).bind fun y15 =>
 tube_Fit_l0 k m (((), (), (), (), (), x.1.2.2.2.2.2.1, (IntKind.i64.wrap (x.1.2.2.2.2.2.2.1 + 1)), ()), ((x.2.1.1, (x.2.1.2.1, x.2.1.2.2)), (x.2.2.1.1, (x.2.2.1.2.1, ())), (x.2.2.2.1.set (Int.toNat (IntKind.i64.wrap (x.1.2.2.2.2.2.2.1 - 1))) (y15.1, y15.2.1, x.2.2.2.2.1.2)), (x.2.2.2.2.1.1, x.2.2.2.2.1.2), x.2.2.2.2.2.1, ()))
 else none
 else
 some (Sum.inl (((), (), ()), ((x.2.1.1, (x.2.1.2.1, x.2.1.2.2)), (x.2.2.1.1, (x.2.2.1.2.1, ())), x.2.2.2.1, ())))
abbrev tube_Fit_l0_seg (k : Nat) : Seg := ⟨⟨2, 57, false, [0], [⟨0, 0, 37, 88, [.b, .s2, .s1, .s2, .s2, .s2, .s2]⟩]⟩, 86, [.b, .s2, .s2], tube_Fit_l0_i, tube_Fit_l0_o, tube_Fit_l0 k k⟩
theorem tube_Fit_l0_seg.ok (k : Nat) : SegOK Tryz.prog (e99 k) (tube_Fit_l0_seg k) :=
 SegOK.loop (e99.ok k) (by kernel_rfl) (S := tube_Fit_l0_seg k) (c := atR (codeOf (e99 k) 86) [.l, .b, .s2, .s2]) (by kernel_rfl) (tube_Fit_l0 k) k rfl (fun _ => rfl) 8 (.two .n (.two .n (.two (.two (.two .n (.two .n (.two .n (.two (.call 3 3 .n .n) .n)))) .n) .n))) ⟨trivial, ⟨trivial, ⟨⟨⟨trivial, ⟨trivial, ⟨trivial, ⟨⟨trivial, trivial⟩, trivial⟩⟩⟩⟩, trivial⟩, trivial⟩⟩⟩ (fun k' x => by kernel_rfl)
def tube_Fit (k : Nat) (x0 : Ty.den T45) : Option (HL [T45]) :=
 (tube_May k x0).bind fun r1 =>
 bif (!r1.1) then
 some (x0, ())
 else
 if x0.2.2.length * 176 <= 140737488355328 then
 (tube_Fit_l0 k k (((), (), (), (), (), (IntKind.i64.wrap ((x0.2.2.length : Int) + 1)), 0, ()), (((0, false, 0, 0), ((false, (0, false, 0, 0), 0, false, 0, 0), [])), (x0.1, (x0.2.1, ())), x0.2.2, (x0.1, x0.2.1), x0, ()))).bind fun q16 =>
 Sum.elim (fun z17 =>
 (tube_Empty k (z17.2.2.1.1, z17.2.2.1.2.1, z17.2.2.2.1)).bind fun r18 =>
 bif r18.1 then
 (tube_void k (z17.2.2.1.1, z17.2.2.1.2.1, z17.2.2.2.1)).bind fun r19 =>
 some (r19.1, ())
 else
 some ((z17.2.2.1.1, z17.2.2.1.2.1, z17.2.2.2.1), ()))
 (fun q16' =>
 none) q16
 else none
theorem tube_Fit.ok (k : Nat) : SpecOK Tryz.prog G0 88 ⟨[T45], [T45], fun x => tube_Fit k x.1⟩ :=
 evF_sound (E := (e99 k)) (fn := Tryz.f88) (e99.ok k) (by kernel_rfl) (by kernel_rfl) (by kernel_rfl) 8 (.two .n (.two .n (.two .n (.two .n (.two (.two (.call 1 513 .n .n) (.two (.rf 0 2 (.two .n (.two .n (.two (.use (tube_Fit_l0_seg k)) .n)))) .n)) (.two (.two .n (.two (.two (.own 1 .n) .n) .n)) .n)))))) ⟨trivial, ⟨trivial, ⟨trivial, ⟨trivial, ⟨⟨⟨trivial, trivial⟩, ⟨⟨trivial, ⟨trivial, ⟨(tube_Fit_l0_seg.ok k), trivial⟩⟩⟩, trivial⟩⟩, ⟨⟨trivial, ⟨⟨trivial, trivial⟩, trivial⟩⟩, trivial⟩⟩⟩⟩⟩⟩ (fun xs => by kernel_rfl)
def e100 (k : Nat) : Env := (e99 k).add 88 ⟨[T45], [T45], fun x => tube_Fit k x.1⟩
theorem e100.ok (k : Nat) : (e100 k).OK Tryz.prog := (e99.ok k).add (tube_Fit.ok k)
def tube_Set (k : Nat) (x0 : Ty.den T45) (x1 : Ty.den (.int .i64)) (x2 : Ty.den T31) : Option (HL [T45, (.int .i64)]) :=
 (tube_May k x0).bind fun r1 =>
 bif (!r1.1) then
 some (((0, false, 0, 0), (false, (0, false, 0, 0), 0, false, 0, 0), []), 1, ())
 else
 (iv_May k x2).bind fun r2 =>
 bif (!r2.1) then
 some (((0, false, 0, 0), (false, (0, false, 0, 0), 0, false, 0, 0), []), 1, ())
 else
 bif (decide (x1 < 0)) then
 some (((0, false, 0, 0), (false, (0, false, 0, 0), 0, false, 0, 0), []), 7, ())
 else
 bif (decide (x1 > (x0.2.2.length : Int))) then
 some (((0, false, 0, 0), (false, (0, false, 0, 0), 0, false, 0, 0), []), 7, ())
 else
 bif (x1 == 0) then
 (iv_Meet k [x0.2.1, x2]).bind fun r3 =>
 (tube_Fit k (x0.1, r3.1, x0.2.2)).bind fun r4 =>
 some (r4.1, 0, ())
 else
 if x0.2.2.length * 176 <= 140737488355328 then
 if 0 <= (IntKind.i64.wrap (x1 - 1)) then (x0.2.2[Int.toNat (IntKind.i64.wrap (x1 - 1))]?).bind fun _ =>
 (x0.2.2[(Int.toNat (IntKind.i64.wrap (x1 - 1)))]?).bind fun y6 =>
 (iv_Meet k [y6.2.2, x2]).bind fun r7 =>
 (x0.2.2[(Int.toNat (IntKind.i64.wrap (x1 - 1)))]?).bind fun y8 =>
 (tube_Fit k (x0.1, x0.2.1, (x0.2.2.set (Int.toNat (IntKind.i64.wrap (x1 - 1))) (y8.1, y8.2.1, r7.1)))).bind fun r9 =>
 some (r9.1, 0, ())
 else none
 else none
theorem tube_Set.ok (k : Nat) : SpecOK Tryz.prog G0 71 ⟨[T45, (.int .i64), T31], [T45, (.int .i64)], fun x => tube_Set k x.1 x.2.1 x.2.2.1⟩ :=
 evF_sound (E := (e100 k)) (fn := Tryz.f71) (e100.ok k) (by kernel_rfl) (by kernel_rfl) (by kernel_rfl) 8 (.two .n (.two .n (.two .n (.two .n (.two .n (.two (.own 1 .n) .n)))))) ⟨trivial, ⟨trivial, ⟨trivial, ⟨trivial, ⟨trivial, ⟨trivial, trivial⟩⟩⟩⟩⟩⟩ (fun xs => by kernel_rfl)
def e101 (k : Nat) : Env := (e100 k).add 71 ⟨[T45, (.int .i64), T31], [T45, (.int .i64)], fun x => tube_Set k x.1 x.2.1 x.2.2.1⟩
theorem e101.ok (k : Nat) : (e101 k).OK Tryz.prog := (e100.ok k).add (tube_Set.ok k)
abbrev engine_Engine_gate_s1_l0_i : Mask := ⟨[(1, 0, (.k (.arr 102400024 0))), (1, 1, (.k (.clo 69 (.pr (.ptr 102400003 0 0) .nl)))), (1, 7, (.v (.int .i64))), (1, 8, (.v (.int .i64))), (999, 0, (.k (.ptr 2101250 0 0))), (999, 1, (.k (.arr 3686402 0))), (999, 2, (.k (.arr 3686403 0))), (999, 3, (.k (.arr 45056030 0))), (999, 4, (.k (.arr 49152018 0)))], [(2101250, .cells (.pr (.pr (.pr (.v T45) (.k (.arr 3686402 0))) (.pr (.v T45) (.k (.arr 3686403 0)))) (.pr (.v .bool) (.pr (.k (.arr 49152018 0)) (.k (.arr 45056030 0)))))), (3686402, .arr 32 T31), (3686403, .arr 32 T31), (45056030, .arr 34 T33), (49152018, .arr 34 T33), (102400003, .cells (.v T29)), (102400024, .arr 78 T77)], [], 0⟩
abbrev engine_Engine_gate_s1_l0_o : List Out := [⟨.ret, ⟨[(1, 4, (.v (.int .i64))), (999, 0, (.k (.ptr 2101250 0 0))), (999, 1, (.k (.arr 3686402 0))), (999, 2, (.k (.arr 3686403 0))), (999, 3, (.k (.arr 45056030 0))), (999, 4, (.k (.arr 49152018 0)))], [(2101250, .cells (.pr (.pr (.pr (.v T45) (.k (.arr 3686402 0))) (.pr (.v T45) (.k (.arr 3686403 0)))) (.pr (.v .bool) (.pr (.k (.arr 49152018 0)) (.k (.arr 45056030 0)))))), (3686402, .arr 32 T31), (3686403, .arr 32 T31), (45056030, .arr 34 T33), (49152018, .arr 34 T33)], [], 0⟩⟩, ⟨.exit 0, ⟨[(999, 0, (.k (.ptr 2101250 0 0))), (999, 1, (.k (.arr 3686402 0))), (999, 2, (.k (.arr 3686403 0))), (999, 3, (.k (.arr 45056030 0))), (999, 4, (.k (.arr 49152018 0)))], [(2101250, .cells (.pr (.pr (.pr (.v T45) (.k (.arr 3686402 0))) (.pr (.v T45) (.k (.arr 3686403 0)))) (.pr (.v .bool) (.pr (.k (.arr 49152018 0)) (.k (.arr 45056030 0)))))), (3686402, .arr 32 T31), (3686403, .arr 32 T31), (45056030, .arr 34 T33), (49152018, .arr 34 T33)], [], 0⟩⟩]
def engine_Engine_gate_s1_l0 (k : Nat) : Nat -> Mask.den engine_Engine_gate_s1_l0_i -> Option (denS engine_Engine_gate_s1_l0_o)
| 0, _ => none
| m + 1, x =>
 bif (decide (x.1.2.2.2.1 < x.1.2.2.1)) then
 if 0 <= x.1.2.2.2.1 then (x.2.2.2.2.2.2.2.1[Int.toNat x.1.2.2.2.1]?).bind fun _ =>
 (x.2.2.2.2.2.2.2.1[(Int.toNat x.1.2.2.2.1)]?).bind fun y2 =>
 bif (beqT T29 y2.1 x.2.2.2.2.2.2.1) then
 some (Sum.inl ((x.1.2.2.2.1, (), (), (), (), (), ()), ((((x.2.1.1.1.1, ()), (x.2.1.1.2.1, ())), (x.2.1.2.1, ((), ()))), x.2.2.1, x.2.2.2.1, x.2.2.2.2.1, x.2.2.2.2.2.1, ())))
 else
 engine_Engine_gate_s1_l0 k m (((), (), x.1.2.2.1, (IntKind.i64.wrap (x.1.2.2.2.1 + 1)), (), (), (), (), (), ()), ((((x.2.1.1.1.1, ()), (x.2.1.1.2.1, ())), (x.2.1.2.1, ((), ()))), x.2.2.1, x.2.2.2.1, x.2.2.2.2.1, x.2.2.2.2.2.1, x.2.2.2.2.2.2.1, x.2.2.2.2.2.2.2.1, ()))
 else none
 else
 some (Sum.inr (Sum.inl (((), (), (), (), (), ()), ((((x.2.1.1.1.1, ()), (x.2.1.1.2.1, ())), (x.2.1.2.1, ((), ()))), x.2.2.1, x.2.2.2.1, x.2.2.2.2.1, x.2.2.2.2.2.1, ()))))
abbrev engine_Engine_gate_s1_l0_seg (k : Nat) : Seg := ⟨⟨1, 19, false, [25000, 999], []⟩, 65, [.b, .s2, .s1, .s2], engine_Engine_gate_s1_l0_i, engine_Engine_gate_s1_l0_o, engine_Engine_gate_s1_l0 k k⟩
theorem engine_Engine_gate_s1_l0_seg.ok (k : Nat) : SegOK Tryz.prog (e101 k) (engine_Engine_gate_s1_l0_seg k) :=
 SegOK.loop (e101.ok k) (by kernel_rfl) (S := engine_Engine_gate_s1_l0_seg k) (c := atR (codeOf (e101 k) 65) [.l, .b, .s2, .s1, .s2]) (by kernel_rfl) (engine_Engine_gate_s1_l0 k) k rfl (fun _ => rfl) 8 (.two .n (.two .n (.two (.two (.two .n (.two (.call 5 2 .n .n) .n)) .n) .n))) ⟨trivial, ⟨trivial, ⟨⟨⟨trivial, ⟨⟨trivial, trivial⟩, trivial⟩⟩, trivial⟩, trivial⟩⟩⟩ (fun k' x => by kernel_rfl)
abbrev engine_Engine_gate_s1_i : Mask := ⟨[(999, 0, (.k (.ptr 2101250 0 0))), (999, 1, (.k (.arr 3686402 0))), (999, 2, (.k (.arr 3686403 0))), (999, 3, (.k (.arr 45056030 0))), (999, 4, (.k (.arr 49152018 0))), (25000, 0, (.k (.ptr 2101250 0 0))), (25000, 1, (.v T29))], [(2101250, .cells (.pr (.pr (.pr (.v T45) (.k (.arr 3686402 0))) (.pr (.v T45) (.k (.arr 3686403 0)))) (.pr (.v .bool) (.pr (.k (.arr 49152018 0)) (.k (.arr 45056030 0)))))), (3686402, .arr 32 T31), (3686403, .arr 32 T31), (45056030, .arr 34 T33), (49152018, .arr 34 T33)], [], 0⟩
abbrev engine_Engine_gate_s1_o : List Out := [⟨.ret, ⟨[(999, 0, (.k (.ptr 2101250 0 0))), (999, 1, (.k (.arr 3686402 0))), (999, 2, (.k (.arr 3686403 0))), (999, 3, (.k (.arr 45056030 0))), (999, 4, (.k (.arr 49152018 0))), (25000, 4, (.v (.int .i64)))], [(2101250, .cells (.pr (.pr (.pr (.v T45) (.k (.arr 3686402 0))) (.pr (.v T45) (.k (.arr 3686403 0)))) (.pr (.v .bool) (.pr (.k (.arr 49152018 0)) (.k (.arr 45056030 0)))))), (3686402, .arr 32 T31), (3686403, .arr 32 T31), (45056030, .arr 34 T33), (49152018, .arr 34 T33)], [], 0⟩⟩]
def engine_Engine_gate_s1 (k : Nat) (x : Mask.den engine_Engine_gate_s1_i) : Option (denS engine_Engine_gate_s1_o) :=
 bif (!x.2.1.2.1) then
 some (Sum.inl (((), (), (), (), (), (-1), ()), ((((x.2.1.1.1.1, ()), (x.2.1.1.2.1, ())), (x.2.1.2.1, ((), ()))), x.2.2.1, x.2.2.2.1, x.2.2.2.2.1, x.2.2.2.2.2.1, ())))
 else
 bif (beqT T29 x.2.1.1.1.1.1 x.1.2.2.2.2.2.2.1) then
 some (Sum.inl (((), (), (), (), (), 0, ()), ((((x.2.1.1.1.1, ()), (x.2.1.1.2.1, ())), (x.2.1.2.1, ((), ()))), x.2.2.1, x.2.2.2.1, x.2.2.2.2.1, x.2.2.2.2.2.1, ())))
 else
 if ([(x.2.1.1.1.1.1, (false, (0, false, 0, 0), 0, false, 0, 0), false, (0, false, 0, 0), 0, false, 0, 0)].length + x.2.1.1.1.1.2.2.length) * 176 <= 140737488355328 then
 (engine_Engine_gate_s1_l0 k k (((), (), (([(x.2.1.1.1.1.1, (false, (0, false, 0, 0), 0, false, 0, 0), false, (0, false, 0, 0), 0, false, 0, 0)] ++ x.2.1.1.1.1.2.2).length : Int), 0, (), (), (), (), (), ()), ((((x.2.1.1.1.1, ()), (x.2.1.1.2.1, ())), (x.2.1.2.1, ((), ()))), x.2.2.1, x.2.2.2.1, x.2.2.2.2.1, x.2.2.2.2.2.1, x.1.2.2.2.2.2.2.1, ([(x.2.1.1.1.1.1, (false, (0, false, 0, 0), 0, false, 0, 0), false, (0, false, 0, 0), 0, false, 0, 0)] ++ x.2.1.1.1.1.2.2), ()))).bind fun q3 =>
 Sum.elim (fun z4 =>
 some (Sum.inl (((), (), (), (), (), z4.1.1, ()), ((((z4.2.1.1.1.1, ()), (z4.2.1.1.2.1, ())), (z4.2.1.2.1, ((), ()))), z4.2.2.1, z4.2.2.2.1, z4.2.2.2.2.1, z4.2.2.2.2.2.1, ()))))
 (fun q3' =>
 Sum.elim (fun z5 =>
 some (Sum.inl (((), (), (), (), (), (-1), ()), ((((z5.2.1.1.1.1, ()), (z5.2.1.1.2.1, ())), (z5.2.1.2.1, ((), ()))), z5.2.2.1, z5.2.2.2.1, z5.2.2.2.2.1, z5.2.2.2.2.2.1, ()))))
 (fun q3'' =>
 none) q3') q3
 else none
abbrev engine_Engine_gate_s1_seg (k : Nat) : Seg := ⟨⟨25000, 30, false, [999], []⟩, 40, [], engine_Engine_gate_s1_i, engine_Engine_gate_s1_o, engine_Engine_gate_s1 k⟩
theorem engine_Engine_gate_s1_seg.ok (k : Nat) : SegOK Tryz.prog (e101 k) (engine_Engine_gate_s1_seg k) :=
 SegOK.of (e101.ok k) (by kernel_rfl) (S := engine_Engine_gate_s1_seg k) 8 (.two .n (.two .n (.two .n (.two .n (.two (.own 3 (.call 8 1 (.two .n (.two (.two .n (.two (.use (engine_Engine_gate_s1_l0_seg k)) .n)) .n)) .n)) .n))))) ⟨trivial, ⟨trivial, ⟨trivial, ⟨trivial, ⟨⟨⟨trivial, ⟨⟨trivial, ⟨(engine_Engine_gate_s1_l0_seg.ok k), trivial⟩⟩, trivial⟩⟩, trivial⟩, trivial⟩⟩⟩⟩⟩ (fun x => by kernel_rfl)
abbrev engine_Engine_both_s_i : Mask := ⟨[(999, 0, (.k (.ptr 2101250 0 0))), (999, 1, (.k (.arr 3686402 0))), (999, 2, (.k (.arr 3686403 0))), (999, 3, (.k (.arr 45056030 0))), (999, 4, (.k (.ptr 49152003 0 0))), (999, 5, (.k (.arr 49152018 0))), (14000, 0, (.k (.ptr 2101250 0 0))), (14000, 1, (.v T33)), (14000, 2, (.k (.clo 42 (.pr (.ptr 49152003 0 0) .nl))))], [(2101250, .cells (.pr (.pr (.pr (.v T45) (.k (.arr 3686402 0))) (.pr (.v T45) (.k (.arr 3686403 0)))) (.pr (.v .bool) (.pr (.k (.arr 49152018 0)) (.k (.arr 45056030 0)))))), (3686402, .arr 32 T31), (3686403, .arr 32 T31), (45056030, .arr 34 T33), (49152003, .cells (.v T33)), (49152018, .arr 34 T33)], [], 0⟩
abbrev engine_Engine_both_s_o : List Out := [⟨.nor, ⟨[(999, 0, (.k (.ptr 2101250 0 0))), (999, 1, (.k (.arr 3686402 0))), (999, 2, (.k (.arr 3686403 0))), (999, 3, (.k (.arr 45056030 0))), (999, 4, (.k (.ptr 49152003 0 0))), (999, 5, (.k (.arr 49152018 0)))], [(2101250, .cells (.pr (.pr (.pr (.v T45) (.k (.arr 3686402 0))) (.pr (.v T45) (.k (.arr 3686403 0)))) (.pr (.v .bool) (.pr (.k (.arr 49152018 0)) (.k (.arr 45056030 0)))))), (3686402, .arr 32 T31), (3686403, .arr 32 T31), (45056030, .arr 34 T33), (49152003, .cells (.v T33)), (49152018, .arr 34 T33)], [], 0⟩⟩]
def engine_Engine_both_s (k : Nat) (x : Mask.den engine_Engine_both_s_i) : Option (denS engine_Engine_both_s_o) :=
 (tube_New k x.2.2.2.2.2.1.2.1 x.1.2.2.2.2.2.2.2.1.2.2.1).bind fun r1 =>
 (tube_New k x.2.2.2.2.2.1.2.1 x.1.2.2.2.2.2.2.2.1.2.2.2.1).bind fun r2 =>
 some (Sum.inl (((), (), (), (), (), (), ()), ((((r1.1, ()), (r2.1, ())), (x.2.1.2.1, ((), ()))), x.2.2.1, x.2.2.2.1, x.2.2.2.2.1, x.2.2.2.2.2.1, x.2.2.2.2.2.2.1, ())))
abbrev engine_Engine_both_s_seg (k : Nat) : Seg := ⟨⟨14000, 22, false, [999], []⟩, 41, [], engine_Engine_both_s_i, engine_Engine_both_s_o, engine_Engine_both_s k⟩
theorem engine_Engine_both_s_seg.ok (k : Nat) : SegOK Tryz.prog (e101 k) (engine_Engine_both_s_seg k) :=
 SegOK.of (e101.ok k) (by kernel_rfl) (S := engine_Engine_both_s_seg k) 8 (.two .n (.two (.call 7 1 .n .n) (.call 7 2 .n .n))) ⟨trivial, ⟨⟨trivial, trivial⟩, ⟨trivial, trivial⟩⟩⟩ (fun x => by kernel_rfl)
abbrev engine_side_grows_s_i : Mask := ⟨[(999, 0, (.k (.ptr 2101250 0 0))), (999, 1, (.k (.arr 3686402 0))), (999, 2, (.k (.arr 3686403 0))), (999, 3, (.k (.arr 45056030 0))), (999, 4, (.k (.arr 49152018 0))), (24000, 0, (.k (.ptr 2101250 0 0))), (24000, 1, (.v T29)), (24000, 2, (.v T31))], [(2101250, .cells (.pr (.pr (.pr (.v T45) (.k (.arr 3686402 0))) (.pr (.v T45) (.k (.arr 3686403 0)))) (.pr (.v .bool) (.pr (.k (.arr 49152018 0)) (.k (.arr 45056030 0)))))), (3686402, .arr 32 T31), (3686403, .arr 32 T31), (45056030, .arr 34 T33), (49152018, .arr 34 T33)], [], 0⟩
abbrev engine_side_grows_s_o : List Out := [⟨.ret, ⟨[(999, 0, (.k (.ptr 2101250 0 0))), (999, 2, (.k (.arr 3686403 0))), (999, 3, (.k (.arr 45056030 0))), (999, 4, (.k (.arr 49152018 0))), (24000, 6, (.v (.int .i64)))], [(2101250, .cells (.pr (.pr (.pr (.v T45) (.k (.arr 3686402 0))) (.pr (.v T45) (.k (.arr 3686403 0)))) (.pr (.v .bool) (.pr (.k (.arr 49152018 0)) (.k (.arr 45056030 0)))))), (3686402, .arr 32 T31), (3686403, .arr 32 T31), (45056030, .arr 34 T33), (49152018, .arr 34 T33)], [], 0⟩⟩]
def engine_side_grows_s (k : Nat) (x : Mask.den engine_side_grows_s_i) : Option (denS engine_side_grows_s_o) :=
 (iv_All k).bind fun r1 =>
 (iv_All k).bind fun r2 =>
 (tube_Append k x.2.1.1.1.1 x.1.2.2.2.2.2.2.1 r1.1 r2.1).bind fun r3 =>
 bif (r3.2.1 == 0) then
 if (x.2.2.1.length + [x.1.2.2.2.2.2.2.2.1].length) * 72 <= 140737488355328 then
 some (Sum.inl (((), (), (), (), r3.2.1, ()), ((((r3.1, ()), (x.2.1.1.2.1, ())), (x.2.1.2.1, ((), ()))), (x.2.2.1 ++ [x.1.2.2.2.2.2.2.2.1]), x.2.2.2.1, x.2.2.2.2.1, x.2.2.2.2.2.1, ())))
 else none
 else
 some (Sum.inl (((), (), (), (), r3.2.1, ()), ((((x.2.1.1.1.1, ()), (x.2.1.1.2.1, ())), (x.2.1.2.1, ((), ()))), x.2.2.1, x.2.2.2.1, x.2.2.2.2.1, x.2.2.2.2.2.1, ())))
abbrev engine_side_grows_s_seg (k : Nat) : Seg := ⟨⟨24000, 37, false, [999], []⟩, 44, [], engine_side_grows_s_i, engine_side_grows_s_o, engine_side_grows_s k⟩
theorem engine_side_grows_s_seg.ok (k : Nat) : SegOK Tryz.prog (e101 k) (engine_side_grows_s_seg k) :=
 SegOK.of (e101.ok k) (by kernel_rfl) (S := engine_side_grows_s_seg k) 8 .n trivial (fun x => by kernel_rfl)
abbrev engine_side_set_s_i : Mask := ⟨[(999, 0, (.k (.ptr 2101250 0 0))), (999, 1, (.k (.arr 3686402 0))), (999, 2, (.k (.arr 3686403 0))), (999, 3, (.k (.arr 45056030 0))), (999, 4, (.k (.arr 49152018 0))), (27000, 0, (.k (.ptr 2101250 0 0))), (27000, 1, (.v (.int .i64))), (27000, 2, (.v T31))], [(2101250, .cells (.pr (.pr (.pr (.v T45) (.k (.arr 3686402 0))) (.pr (.v T45) (.k (.arr 3686403 0)))) (.pr (.v .bool) (.pr (.k (.arr 49152018 0)) (.k (.arr 45056030 0)))))), (3686402, .arr 32 T31), (3686403, .arr 32 T31), (45056030, .arr 34 T33), (49152018, .arr 34 T33)], [], 0⟩
abbrev engine_side_set_s_o : List Out := [⟨.nor, ⟨[(999, 0, (.k (.ptr 2101250 0 0))), (999, 1, (.k (.arr 3686402 0))), (999, 2, (.k (.arr 3686403 0))), (999, 3, (.k (.arr 45056030 0))), (999, 4, (.k (.arr 49152018 0)))], [(2101250, .cells (.pr (.pr (.pr (.v T45) (.k (.arr 3686402 0))) (.pr (.v T45) (.k (.arr 3686403 0)))) (.pr (.v .bool) (.pr (.k (.arr 49152018 0)) (.k (.arr 45056030 0)))))), (3686402, .arr 32 T31), (3686403, .arr 32 T31), (45056030, .arr 34 T33), (49152018, .arr 34 T33)], [], 0⟩⟩]
def engine_side_set_s (k : Nat) (x : Mask.den engine_side_set_s_i) : Option (denS engine_side_set_s_o) :=
 (tube_Set k x.2.1.1.1.1 x.1.2.2.2.2.2.2.1 x.1.2.2.2.2.2.2.2.1).bind fun r1 =>
 some (Sum.inl (((), (), (), (), (), ()), ((((r1.1, ()), (x.2.1.1.2.1, ())), (x.2.1.2.1, ((), ()))), x.2.2.1, x.2.2.2.1, x.2.2.2.2.1, x.2.2.2.2.2.1, ())))
abbrev engine_side_set_s_seg (k : Nat) : Seg := ⟨⟨27000, 19, false, [999], []⟩, 46, [], engine_side_set_s_i, engine_side_set_s_o, engine_side_set_s k⟩
theorem engine_side_set_s_seg.ok (k : Nat) : SegOK Tryz.prog (e101 k) (engine_side_set_s_seg k) :=
 SegOK.of (e101.ok k) (by kernel_rfl) (S := engine_side_set_s_seg k) 8 .n trivial (fun x => by kernel_rfl)
abbrev engine_side_set_s1_i : Mask := ⟨[(999, 0, (.k (.ptr 2101250 0 0))), (999, 1, (.k (.arr 3686402 0))), (999, 2, (.k (.arr 3686403 0))), (999, 3, (.k (.arr 45056030 0))), (999, 4, (.k (.arr 49152018 0))), (28000, 0, (.k (.ptr 2101250 0 15))), (28000, 1, (.v (.int .i64))), (28000, 2, (.v T31))], [(2101250, .cells (.pr (.pr (.pr (.v T45) (.k (.arr 3686402 0))) (.pr (.v T45) (.k (.arr 3686403 0)))) (.pr (.v .bool) (.pr (.k (.arr 49152018 0)) (.k (.arr 45056030 0)))))), (3686402, .arr 32 T31), (3686403, .arr 32 T31), (45056030, .arr 34 T33), (49152018, .arr 34 T33)], [], 0⟩
abbrev engine_side_set_s1_o : List Out := [⟨.nor, ⟨[(999, 0, (.k (.ptr 2101250 0 0))), (999, 1, (.k (.arr 3686402 0))), (999, 2, (.k (.arr 3686403 0))), (999, 3, (.k (.arr 45056030 0))), (999, 4, (.k (.arr 49152018 0)))], [(2101250, .cells (.pr (.pr (.pr (.v T45) (.k (.arr 3686402 0))) (.pr (.v T45) (.k (.arr 3686403 0)))) (.pr (.v .bool) (.pr (.k (.arr 49152018 0)) (.k (.arr 45056030 0)))))), (3686402, .arr 32 T31), (3686403, .arr 32 T31), (45056030, .arr 34 T33), (49152018, .arr 34 T33)], [], 0⟩⟩]
def engine_side_set_s1 (k : Nat) (x : Mask.den engine_side_set_s1_i) : Option (denS engine_side_set_s1_o) :=
 (tube_Set k x.2.1.1.2.1 x.1.2.2.2.2.2.2.1 x.1.2.2.2.2.2.2.2.1).bind fun r1 =>
 some (Sum.inl (((), (), (), (), (), ()), ((((x.2.1.1.1.1, ()), (r1.1, ())), (x.2.1.2.1, ((), ()))), x.2.2.1, x.2.2.2.1, x.2.2.2.2.1, x.2.2.2.2.2.1, ())))
abbrev engine_side_set_s1_seg (k : Nat) : Seg := ⟨⟨28000, 19, false, [999], []⟩, 46, [], engine_side_set_s1_i, engine_side_set_s1_o, engine_side_set_s1 k⟩
theorem engine_side_set_s1_seg.ok (k : Nat) : SegOK Tryz.prog (e101 k) (engine_side_set_s1_seg k) :=
 SegOK.of (e101.ok k) (by kernel_rfl) (S := engine_side_set_s1_seg k) 8 .n trivial (fun x => by kernel_rfl)
abbrev engine_Engine_both_s1_i : Mask := ⟨[(999, 0, (.k (.ptr 2101250 0 0))), (999, 1, (.k (.arr 3686402 0))), (999, 2, (.k (.arr 3686403 0))), (999, 3, (.k (.arr 45056030 0))), (999, 4, (.k (.ptr 49152005 0 0))), (999, 5, (.k (.arr 49152018 0))), (26000, 0, (.k (.ptr 2101250 0 0))), (26000, 1, (.v T33)), (26000, 2, (.k (.clo 45 (.pr (.ptr 49152005 0 0) .nl))))], [(2101250, .cells (.pr (.pr (.pr (.v T45) (.k (.arr 3686402 0))) (.pr (.v T45) (.k (.arr 3686403 0)))) (.pr (.v .bool) (.pr (.k (.arr 49152018 0)) (.k (.arr 45056030 0)))))), (3686402, .arr 32 T31), (3686403, .arr 32 T31), (45056030, .arr 34 T33), (49152005, .cells (.v (.int .i64))), (49152018, .arr 34 T33)], [], 0⟩
abbrev engine_Engine_both_s1_o : List Out := [⟨.nor, ⟨[(999, 0, (.k (.ptr 2101250 0 0))), (999, 1, (.k (.arr 3686402 0))), (999, 2, (.k (.arr 3686403 0))), (999, 3, (.k (.arr 45056030 0))), (999, 4, (.k (.ptr 49152005 0 0))), (999, 5, (.k (.arr 49152018 0)))], [(2101250, .cells (.pr (.pr (.pr (.v T45) (.k (.arr 3686402 0))) (.pr (.v T45) (.k (.arr 3686403 0)))) (.pr (.v .bool) (.pr (.k (.arr 49152018 0)) (.k (.arr 45056030 0)))))), (3686402, .arr 32 T31), (3686403, .arr 32 T31), (45056030, .arr 34 T33), (49152005, .cells (.v (.int .i64))), (49152018, .arr 34 T33)], [], 0⟩⟩]
def engine_Engine_both_s1 (k : Nat) (x : Mask.den engine_Engine_both_s1_i) : Option (denS engine_Engine_both_s1_o) :=
 (engine_side_set_s k (((), (), (), (), (), (), x.2.2.2.2.2.1, x.1.2.2.2.2.2.2.2.1.2.2.1, ()), ((((x.2.1.1.1.1, ()), (x.2.1.1.2.1, ())), (x.2.1.2.1, ((), ()))), x.2.2.1, x.2.2.2.1, x.2.2.2.2.1, x.2.2.2.2.2.2.1, ()))).bind fun q1 =>
 Sum.elim (fun z2 =>
 (engine_side_set_s1 k (((), (), (), (), (), (), x.2.2.2.2.2.1, x.1.2.2.2.2.2.2.2.1.2.2.2.1, ()), ((((z2.2.1.1.1.1, ()), (z2.2.1.1.2.1, ())), (z2.2.1.2.1, ((), ()))), z2.2.2.1, z2.2.2.2.1, z2.2.2.2.2.1, z2.2.2.2.2.2.1, ()))).bind fun q3 =>
 Sum.elim (fun z4 =>
 some (Sum.inl (((), (), (), (), (), (), ()), ((((z4.2.1.1.1.1, ()), (z4.2.1.1.2.1, ())), (z4.2.1.2.1, ((), ()))), z4.2.2.1, z4.2.2.2.1, z4.2.2.2.2.1, x.2.2.2.2.2.1, z4.2.2.2.2.2.1, ()))))
 (fun q3' =>
 none) q3)
 (fun q1' =>
 none) q1
abbrev engine_Engine_both_s1_seg (k : Nat) : Seg := ⟨⟨26000, 22, false, [999], []⟩, 41, [], engine_Engine_both_s1_i, engine_Engine_both_s1_o, engine_Engine_both_s1 k⟩
theorem engine_Engine_both_s1_seg.ok (k : Nat) : SegOK Tryz.prog (e101 k) (engine_Engine_both_s1_seg k) :=
 SegOK.of (e101.ok k) (by kernel_rfl) (S := engine_Engine_both_s1_seg k) 8 (.two .n (.two (.call 7 1 (.two .n (.seg 3 (engine_side_set_s_seg k) [] [] .n)) .n) (.call 7 2 (.two .n (.seg 3 (engine_side_set_s1_seg k) [] [] .n)) .n))) ⟨trivial, ⟨⟨⟨trivial, ⟨(engine_side_set_s_seg.ok k).env rfl rfl, trivial⟩⟩, trivial⟩, ⟨⟨trivial, ⟨(engine_side_set_s1_seg.ok k).env rfl rfl, trivial⟩⟩, trivial⟩⟩⟩ (fun x => by kernel_rfl)
abbrev engine_side_grows_s1_i : Mask := ⟨[(999, 0, (.k (.ptr 2101250 0 0))), (999, 1, (.k (.arr 3686402 0))), (999, 2, (.k (.arr 3686403 0))), (999, 3, (.k (.arr 45056030 0))), (999, 4, (.k (.arr 49152018 0))), (29000, 0, (.k (.ptr 2101250 0 15))), (29000, 1, (.v T29)), (29000, 2, (.v T31))], [(2101250, .cells (.pr (.pr (.pr (.v T45) (.k (.arr 3686402 0))) (.pr (.v T45) (.k (.arr 3686403 0)))) (.pr (.v .bool) (.pr (.k (.arr 49152018 0)) (.k (.arr 45056030 0)))))), (3686402, .arr 32 T31), (3686403, .arr 32 T31), (45056030, .arr 34 T33), (49152018, .arr 34 T33)], [], 0⟩
abbrev engine_side_grows_s1_o : List Out := [⟨.ret, ⟨[(999, 0, (.k (.ptr 2101250 0 0))), (999, 1, (.k (.arr 3686402 0))), (999, 3, (.k (.arr 45056030 0))), (999, 4, (.k (.arr 49152018 0))), (29000, 6, (.v (.int .i64)))], [(2101250, .cells (.pr (.pr (.pr (.v T45) (.k (.arr 3686402 0))) (.pr (.v T45) (.k (.arr 3686403 0)))) (.pr (.v .bool) (.pr (.k (.arr 49152018 0)) (.k (.arr 45056030 0)))))), (3686402, .arr 32 T31), (3686403, .arr 32 T31), (45056030, .arr 34 T33), (49152018, .arr 34 T33)], [], 0⟩⟩]
def engine_side_grows_s1 (k : Nat) (x : Mask.den engine_side_grows_s1_i) : Option (denS engine_side_grows_s1_o) :=
 (iv_All k).bind fun r1 =>
 (iv_All k).bind fun r2 =>
 (tube_Append k x.2.1.1.2.1 x.1.2.2.2.2.2.2.1 r1.1 r2.1).bind fun r3 =>
 bif (r3.2.1 == 0) then
 if (x.2.2.2.1.length + [x.1.2.2.2.2.2.2.2.1].length) * 72 <= 140737488355328 then
 some (Sum.inl (((), (), (), (), r3.2.1, ()), ((((x.2.1.1.1.1, ()), (r3.1, ())), (x.2.1.2.1, ((), ()))), x.2.2.1, (x.2.2.2.1 ++ [x.1.2.2.2.2.2.2.2.1]), x.2.2.2.2.1, x.2.2.2.2.2.1, ())))
 else none
 else
 some (Sum.inl (((), (), (), (), r3.2.1, ()), ((((x.2.1.1.1.1, ()), (x.2.1.1.2.1, ())), (x.2.1.2.1, ((), ()))), x.2.2.1, x.2.2.2.1, x.2.2.2.2.1, x.2.2.2.2.2.1, ())))
abbrev engine_side_grows_s1_seg (k : Nat) : Seg := ⟨⟨29000, 37, false, [999], []⟩, 44, [], engine_side_grows_s1_i, engine_side_grows_s1_o, engine_side_grows_s1 k⟩
theorem engine_side_grows_s1_seg.ok (k : Nat) : SegOK Tryz.prog (e101 k) (engine_side_grows_s1_seg k) :=
 SegOK.of (e101.ok k) (by kernel_rfl) (S := engine_side_grows_s1_seg k) 8 .n trivial (fun x => by kernel_rfl)
abbrev engine_Engine_take_s_i : Mask := ⟨[(999, 0, (.k (.ptr 2101250 0 0))), (999, 1, (.k (.arr 3686402 0))), (999, 2, (.k (.arr 3686403 0))), (999, 3, (.k (.arr 45056030 0))), (999, 4, (.k (.arr 49152018 0))), (12000, 0, (.k (.ptr 2101250 0 0))), (12000, 1, (.v T33))], [(2101250, .cells (.pr (.pr (.pr (.v T45) (.k (.arr 3686402 0))) (.pr (.v T45) (.k (.arr 3686403 0)))) (.pr (.v .bool) (.pr (.k (.arr 49152018 0)) (.k (.arr 45056030 0)))))), (3686402, .arr 32 T31), (3686403, .arr 32 T31), (45056030, .arr 34 T33), (49152018, .arr 34 T33)], [], 0⟩
abbrev engine_Engine_take_s_o : List Out := [⟨.ret, ⟨[(999, 0, (.k (.ptr 2101250 0 0))), (999, 3, (.k (.arr 45056030 0))), (12000, 4, (.v (.int .i64)))], [(2101250, .cells (.pr (.pr (.pr (.v T45) (.k (.arr 3686402 0))) (.pr (.v T45) (.k (.arr 3686403 0)))) (.pr (.v .bool) (.pr (.k (.arr 49152018 0)) (.k (.arr 45056030 0)))))), (3686402, .arr 32 T31), (3686403, .arr 32 T31), (45056030, .arr 34 T33), (49152018, .arr 34 T33)], [], 0⟩⟩]

end
end Go.Proofs.YtliiapjinminlaaGreat.Rf
