/- The list of the functions, and which of them only read. Written by program. -/
import Derived.Lib.Bytealg
import Derived.Test.YtoalfeglgioabaaGreatCode0
import Derived.Test.YtoalfeglgioabaaGreatCode1
set_option linter.all false
namespace Go.Proofs.YtoalfeglgioabaaGreat
open Go.Vse
open Go (BinOp IntKind UnOp)
noncomputable def purMask : Nat := 1526505580242582221355380959685565234130416016868507640
noncomputable def pur (i : Nat) : Bool := Nat.beq (Nat.mod (Nat.div purMask (Nat.pow 2 i)) 2) 1
noncomputable def fns : List (Nat × Go.Vse.Fn) := [(4, g4), (8, g8), (12, g12), (13, g13), (14, g14), (20, g20), (26, g26), (27, g27), (28, g28), (29, g29), (30, g30), (31, g31), (32, g32), (36, g36), (37, g37), (38, g38), (39, g39), (40, g40), (41, g41), (42, g42), (44, g44), (46, g46), (47, g47), (48, g48), (55, g55), (56, g56), (57, g57), (58, g58), (59, g59), (60, g60), (61, g61), (62, g62), (63, g63), (64, g64), (65, g65), (66, g66), (67, g67), (68, g68), (69, g69), (70, g70), (71, g71), (72, g72), (77, g77), (78, g78), (79, g79), (80, g80), (81, g81), (82, g82), (83, g83), (87, g87), (88, g88), (89, g89), (90, g90), (91, g91), (92, g92), (93, g93), (94, g94), (95, g95), (96, g96), (97, g97), (98, g98), (106, g106), (107, g107), (108, g108), (109, g109), (110, g110), (111, g111), (112, g112), (115, g115), (116, g116), (117, g117), (118, g118), (119, g119), (120, g120), (121, g121), (122, g122), (123, g123), (124, g124), (125, g125), (126, g126), (127, g127), (128, g128), (130, g130), (133, g133), (134, g134), (135, g135), (136, g136), (137, g137), (138, g138), (139, g139), (141, g141), (142, g142), (143, g143), (144, g144), (145, g145), (146, g146), (147, g147), (149, g149), (150, g150), (151, g151), (152, g152), (153, g153), (154, g154), (155, g155), (156, g156), (157, g157), (158, g158), (159, g159), (160, g160), (161, g161), (162, g162), (163, g163), (164, g164), (165, g165), (166, g166), (167, g167), (168, g168), (169, g169), (170, g170), (171, g171), (172, g172), (173, g173), (174, g174), (175, g175), (176, g176), (177, g177), (178, g178), (179, g179)]
noncomputable def lookF (l : List (Nat × Go.Vse.Fn)) (n : Nat) : Option Go.Vse.Fn :=
  @List.rec (Nat × Go.Vse.Fn) (fun _ => Option Go.Vse.Fn) none (fun p _ ih => @Bool.rec (fun _ => Option Go.Vse.Fn) ih (some p.2) (Nat.beq p.1 n)) l
noncomputable def extF (f : Nat) (args : List D) : Option F :=
  @Bool.rec (fun _ => Option F) none (match args with
    | [.f (.s a), .f (.s b)] => some (.i .i64 (Go.Lib.compareBytes a b))
    | _ => none) (Nat.beq f 129)
noncomputable def pr : Pr := { fn := lookF fns, ext := extF }
end Go.Proofs.YtoalfeglgioabaaGreat
