/- This text is one of those that prove the law CanonsizeKeeps of the given program, as its statement says it: true on every input that the statement covers. Its conditions are the statement's own. -/
import Derived.Test.YtepidhlkackjlaaDoorProg
import Derived.Laws.StructEq
import Derived.KernelRfl
import Derived.Test.YtepidhlkackjlaaDoorZCanonsizeKeeps1
import Derived.Test.YtepidhlkackjlaaDoorZCanonsizeKeeps2
set_option linter.unusedVariables false
set_option linter.unusedSimpArgs false
namespace Go.Proofs.YtepidhlkackjlaaDoor.E
def tis : List (Nat × TI) := [
  (1, ⟨1, false, none, none, none, false, false, [], [.pv (.v .nilFunc)], 0, false, false, []⟩),
  (2, ⟨1, false, none, none, (some .i64), false, false, [], [.pv (.v (.int .i64 0))], 0, false, false, []⟩),
  (3, ⟨1, false, none, none, (some .i64), false, false, [], [.pv (.v (.int .i64 0))], 0, false, false, []⟩),
  (4, ⟨1, false, none, none, none, true, false, [], [.pv (.v (.bool false))], 0, false, false, []⟩),
  (5, ⟨1, false, none, none, (some .u8), false, false, [], [.pv (.v (.int .u8 0))], 0, false, false, []⟩),
  (6, ⟨1, false, none, none, (some .u8), false, false, [], [.pv (.v (.int .u8 0))], 0, false, false, []⟩),
  (7, ⟨4, true, none, none, none, false, true, [(0, 2), (1, 3), (2, 4), (3, 6)], [.pv (.v (.int .i64 0)), .pv (.v (.int .i64 0)), .pv (.v (.bool false)), .pv (.v (.int .u8 0))], 0, false, false, [false, false, true, false]⟩),
  (8, ⟨4, true, none, none, none, false, true, [(0, 2), (1, 3), (2, 4), (3, 6)], [.pv (.v (.int .i64 0)), .pv (.v (.int .i64 0)), .pv (.v (.bool false)), .pv (.v (.int .u8 0))], 0, false, false, [false, false, true, false]⟩),
  (9, ⟨1, false, none, none, none, false, false, [], [.pv (.v (.string ⟨#[]⟩))], 0, true, false, []⟩),
  (10, ⟨1, false, none, none, none, false, false, [], [.pv (.v (.string ⟨#[]⟩))], 0, true, false, []⟩),
  (11, ⟨1, false, none, none, none, false, false, [], [.pv (.v (.string ⟨#[]⟩))], 0, true, false, []⟩),
  (12, ⟨1, false, none, none, (some .u64), false, false, [], [.pv (.v (.int .u64 0))], 0, false, false, []⟩),
  (13, ⟨2, true, none, none, none, false, false, [(0, 9), (1, 12)], [.pv (.v (.string ⟨#[]⟩)), .pv (.v (.int .u64 0))], 0, false, false, []⟩),
  (14, ⟨2, true, none, none, none, false, false, [(0, 9), (1, 12)], [.pv (.v (.string ⟨#[]⟩)), .pv (.v (.int .u64 0))], 0, false, false, []⟩),
  (15, ⟨1, false, none, none, none, false, false, [], [.dead], 0, false, false, []⟩),
  (16, ⟨1, false, none, none, none, false, false, [], [.dead], 0, false, false, []⟩),
  (17, ⟨1, false, none, none, none, false, false, [], [.dead], 0, false, false, []⟩),
  (18, ⟨1, true, none, none, none, false, false, [(0, 17)], [.dead], 0, false, false, []⟩),
  (19, ⟨1, true, none, none, none, false, false, [(0, 17)], [.dead], 0, false, false, []⟩),
  (20, ⟨1, false, none, none, none, false, false, [], [.pv (.v .nilIface)], 0, false, true, []⟩),
  (21, ⟨1, false, none, none, (some .i32), false, false, [], [.pv (.v (.int .i32 0))], 0, false, false, []⟩),
  (22, ⟨1, false, (some (40, 1, 24)), none, none, false, false, [], [.slu 40 1 []], 0, false, false, []⟩),
  (23, ⟨3, true, none, none, none, false, true, [(0, 3), (1, 3), (2, 3)], [.pv (.v (.int .i64 0)), .pv (.v (.int .i64 0)), .pv (.v (.int .i64 0))], 0, false, false, [false, false, false]⟩),
  (24, ⟨3, true, none, none, none, false, true, [(0, 3), (1, 3), (2, 3)], [.pv (.v (.int .i64 0)), .pv (.v (.int .i64 0)), .pv (.v (.int .i64 0))], 0, false, false, [false, false, false]⟩),
  (25, ⟨1, false, none, none, none, false, false, [], [.pv (.v .nilFunc)], 0, false, false, []⟩),
  (26, ⟨1, false, none, none, none, false, false, [], [.pv (.v .nilFunc)], 0, false, false, []⟩),
  (27, ⟨1, false, (some (5, 1, 1)), none, none, false, false, [], [.slu 5 1 []], 0, false, false, []⟩),
  (28, ⟨1, false, (some (30, 5, 72)), none, none, false, false, [], [.slu 30 5 []], 0, false, false, []⟩),
  (29, ⟨5, true, none, none, none, false, false, [(0, 3), (1, 3), (2, 3), (3, 27), (4, 28)], [.pv (.v (.int .i64 0)), .pv (.v (.int .i64 0)), .pv (.v (.int .i64 0)), .slu 5 1 [], .slu 30 5 []], 0, false, false, []⟩),
  (30, ⟨5, true, none, none, none, false, false, [(0, 3), (1, 3), (2, 3), (3, 27), (4, 28)], [.pv (.v (.int .i64 0)), .pv (.v (.int .i64 0)), .pv (.v (.int .i64 0)), .slu 5 1 [], .slu 30 5 []], 0, false, false, []⟩),
  (32, ⟨1, false, none, none, none, false, false, [], [.pv (.v .nilFunc)], 0, false, false, []⟩),
  (34, ⟨1, false, none, none, none, false, false, [], [.pv (.v .nilFunc)], 0, false, false, []⟩),
  (35, ⟨1, false, none, none, none, false, false, [], [.pv (.v .nilFunc)], 0, false, false, []⟩),
  (36, ⟨1, false, none, none, none, false, false, [], [.pv (.v .nilFunc)], 0, false, false, []⟩),
  (37, ⟨1, false, none, none, none, false, false, [], [.pv (.v .nilFunc)], 0, false, false, []⟩),
  (38, ⟨1, false, none, none, none, false, false, [], [.pv (.v .nilFunc)], 0, false, false, []⟩),
  (39, ⟨1, false, none, none, none, false, false, [], [.pv (.v .nilFunc)], 0, false, false, []⟩),
  (40, ⟨1, false, (some (50, 1, 8)), none, none, false, false, [], [.slu 50 1 []], 0, false, false, []⟩),
  (41, ⟨1, true, none, none, none, false, true, [(0, 3)], [.pv (.v (.int .i64 0))], 0, false, false, [false]⟩),
  (42, ⟨1, true, none, none, none, false, true, [(0, 3)], [.pv (.v (.int .i64 0))], 0, false, false, [false]⟩),
  (44, ⟨1, false, none, none, none, false, false, [], [.pv (.v .nilFunc)], 0, false, false, []⟩),
  (45, ⟨1, false, none, none, none, false, false, [], [.pv (.v .nilFunc)], 0, false, false, []⟩),
  (46, ⟨1, false, none, none, none, false, false, [], [.pv (.v .nilFunc)], 0, false, false, []⟩),
  (47, ⟨1, false, none, none, none, false, false, [], [.pv (.v .nilFunc)], 0, false, false, []⟩),
  (48, ⟨1, false, none, none, none, false, false, [], [.pv (.v .nilFunc)], 0, false, false, []⟩),
  (49, ⟨1, false, none, none, none, false, false, [], [.pv (.v .nilFunc)], 0, false, false, []⟩),
  (50, ⟨1, false, none, none, (some .u64), false, false, [], [.pv (.v (.int .u64 0))], 0, false, false, []⟩),
  (52, ⟨1, false, none, none, none, false, false, [], [.pv (.v .nilFunc)], 0, false, false, []⟩),
  (53, ⟨8, true, none, none, none, false, true, [(0, 3), (1, 3), (2, 3), (3, 3), (4, 3), (5, 3), (6, 3), (7, 3)], [.pv (.v (.int .i64 0)), .pv (.v (.int .i64 0)), .pv (.v (.int .i64 0)), .pv (.v (.int .i64 0)), .pv (.v (.int .i64 0)), .pv (.v (.int .i64 0)), .pv (.v (.int .i64 0)), .pv (.v (.int .i64 0))], 0, false, false, [false, false, false, false, false, false, false, false]⟩),
  (54, ⟨8, true, none, none, none, false, true, [(0, 3), (1, 3), (2, 3), (3, 3), (4, 3), (5, 3), (6, 3), (7, 3)], [.pv (.v (.int .i64 0)), .pv (.v (.int .i64 0)), .pv (.v (.int .i64 0)), .pv (.v (.int .i64 0)), .pv (.v (.int .i64 0)), .pv (.v (.int .i64 0)), .pv (.v (.int .i64 0)), .pv (.v (.int .i64 0))], 0, false, false, [false, false, false, false, false, false, false, false]⟩),
  (56, ⟨1, false, none, none, none, false, false, [], [.pv (.v .nilFunc)], 0, false, false, []⟩),
  (58, ⟨1, false, none, none, none, false, false, [], [.pv (.v .nilFunc)], 0, false, false, []⟩),
  (59, ⟨1, false, none, none, none, false, false, [], [.pv (.v .nilFunc)], 0, false, false, []⟩),
  (61, ⟨1, false, none, none, none, false, false, [], [.pv (.v .nilFunc)], 0, false, false, []⟩),
  (62, ⟨1, false, none, none, none, false, false, [], [.pv (.v .nilFunc)], 0, false, false, []⟩),
  (63, ⟨1, false, none, none, none, false, false, [], [.pv (.v .nilFunc)], 0, false, false, []⟩),
  (64, ⟨1, false, none, none, none, false, false, [], [.pv (.v .nilFunc)], 0, false, false, []⟩),
  (65, ⟨1, false, none, none, none, false, false, [], [.pv (.v .nilFunc)], 0, false, false, []⟩),
  (66, ⟨1, false, none, none, none, false, false, [], [.pv (.v .nilFunc)], 0, false, false, []⟩),
  (67, ⟨8, true, none, (some (8, 1)), none, false, false, [], [.pv (.v (.int .i64 0)), .pv (.v (.int .i64 0)), .pv (.v (.int .i64 0)), .pv (.v (.int .i64 0)), .pv (.v (.int .i64 0)), .pv (.v (.int .i64 0)), .pv (.v (.int .i64 0)), .pv (.v (.int .i64 0))], 3, false, false, []⟩),
  (69, ⟨1, false, none, none, none, false, false, [], [.pv (.v .nilFunc)], 0, false, false, []⟩),
  (70, ⟨1, false, none, none, none, false, false, [], [.pv (.v .nilFunc)], 0, false, false, []⟩),
  (71, ⟨1, false, none, none, none, false, false, [], [.pv (.v .nilFunc)], 0, false, false, []⟩),
  (72, ⟨1, false, none, none, (some .u32), false, false, [], [.pv (.v (.int .u32 0))], 0, false, false, []⟩),
  (73, ⟨10, true, none, none, none, false, true, [(0, 3), (1, 3), (2, 3), (3, 3), (4, 3), (5, 3), (6, 4), (7, 3), (8, 72), (9, 72)], [.pv (.v (.int .i64 0)), .pv (.v (.int .i64 0)), .pv (.v (.int .i64 0)), .pv (.v (.int .i64 0)), .pv (.v (.int .i64 0)), .pv (.v (.int .i64 0)), .pv (.v (.bool false)), .pv (.v (.int .i64 0)), .pv (.v (.int .u32 0)), .pv (.v (.int .u32 0))], 0, false, false, [false, false, false, false, false, false, true, false, false, false]⟩),
  (74, ⟨10, true, none, none, none, false, true, [(0, 3), (1, 3), (2, 3), (3, 3), (4, 3), (5, 3), (6, 4), (7, 3), (8, 72), (9, 72)], [.pv (.v (.int .i64 0)), .pv (.v (.int .i64 0)), .pv (.v (.int .i64 0)), .pv (.v (.int .i64 0)), .pv (.v (.int .i64 0)), .pv (.v (.int .i64 0)), .pv (.v (.bool false)), .pv (.v (.int .i64 0)), .pv (.v (.int .u32 0)), .pv (.v (.int .u32 0))], 0, false, false, [false, false, false, false, false, false, true, false, false, false]⟩),
  (75, ⟨1, false, none, none, none, false, false, [], [.pv (.v .nilFunc)], 0, false, false, []⟩),
  (76, ⟨1, false, none, none, none, false, false, [], [.pv (.v .nilFunc)], 0, false, false, []⟩),
  (77, ⟨1, false, none, none, none, false, false, [], [.pv (.v .nilFunc)], 0, false, false, []⟩),
  (78, ⟨1, false, none, none, none, false, false, [], [.pv (.v .nilFunc)], 0, false, false, []⟩),
  (79, ⟨1, false, none, none, none, false, false, [], [.pv (.v .nilFunc)], 0, false, false, []⟩),
  (80, ⟨1, false, none, none, none, false, false, [], [.pv (.v .nilFunc)], 0, false, false, []⟩),
  (81, ⟨1, false, none, none, none, false, false, [], [.pv (.v .nilFunc)], 0, false, false, []⟩),
  (82, ⟨4, true, none, none, none, false, false, [(0, 17), (1, 17), (2, 17), (3, 9)], [.dead, .dead, .dead, .pv (.v (.string ⟨#[]⟩))], 0, false, false, []⟩),
  (83, ⟨4, true, none, none, none, false, false, [(0, 17), (1, 17), (2, 17), (3, 9)], [.dead, .dead, .dead, .pv (.v (.string ⟨#[]⟩))], 0, false, false, []⟩),
  (84, ⟨0, true, none, (some (0, 1)), none, false, false, [], [], 16, false, false, []⟩),
  (85, ⟨0, true, none, none, none, false, false, [(0, 84)], [], 0, false, false, []⟩),
  (86, ⟨0, true, none, none, none, false, false, [(0, 84)], [], 0, false, false, []⟩),
  (87, ⟨1, false, none, none, none, false, false, [], [.pv (.v .nilFunc)], 0, false, false, []⟩),
  (88, ⟨1, false, none, none, (some .u8), false, false, [], [.pv (.v (.int .u8 0))], 0, false, false, []⟩),
  (89, ⟨1, false, none, none, (some .u8), false, false, [], [.pv (.v (.int .u8 0))], 0, false, false, []⟩),
  (90, ⟨1, false, none, none, none, false, false, [], [.pv (.v .nilFunc)], 0, false, false, []⟩),
  (91, ⟨1, false, none, none, none, false, false, [], [.dead], 0, false, false, []⟩),
  (92, ⟨1, false, none, none, (some .i32), false, false, [], [.pv (.v (.int .i32 0))], 0, false, false, []⟩),
  (93, ⟨1, false, none, none, (some .i32), false, false, [], [.pv (.v (.int .i32 0))], 0, false, false, []⟩),
  (94, ⟨11, true, none, none, none, false, false, [(0, 12), (1, 12), (2, 72), (3, 88), (4, 5), (5, 5), (6, 89), (7, 90), (8, 91), (9, 92), (10, 93)], [.pv (.v (.int .u64 0)), .pv (.v (.int .u64 0)), .pv (.v (.int .u32 0)), .pv (.v (.int .u8 0)), .pv (.v (.int .u8 0)), .pv (.v (.int .u8 0)), .pv (.v (.int .u8 0)), .pv (.v .nilFunc), .dead, .pv (.v (.int .i32 0)), .pv (.v (.int .i32 0))], 0, false, false, []⟩),
  (95, ⟨11, true, none, none, none, false, false, [(0, 12), (1, 12), (2, 72), (3, 88), (4, 5), (5, 5), (6, 89), (7, 90), (8, 91), (9, 92), (10, 93)], [.pv (.v (.int .u64 0)), .pv (.v (.int .u64 0)), .pv (.v (.int .u32 0)), .pv (.v (.int .u8 0)), .pv (.v (.int .u8 0)), .pv (.v (.int .u8 0)), .pv (.v (.int .u8 0)), .pv (.v .nilFunc), .dead, .pv (.v (.int .i32 0)), .pv (.v (.int .i32 0))], 0, false, false, []⟩),
  (96, ⟨1, false, none, none, none, false, false, [], [.dead], 0, false, false, []⟩)]
def env : Env := ⟨tis, [(0, .agg [.v (.int .i64 0), .v (.int .i64 1), .v (.int .i64 8), .v (.int .i64 16), .v (.int .i64 32), .v (.int .i64 64), .v (.int .i64 64), .v (.int .i64 0)])], [], [((12, 0), [1, 2, 3, 4]), ((14, 0), [2, 3, 5]), ((15, 0), [0, 3]), ((16, 0), [0, 5, 7, 12, 13, 15, 20, 22, 26]), ((18, 0), [1, 2, 3, 4, 5, 6]), ((18, 2), [1, 2, 4, 5, 7]), ((20, 0), [1, 3]), ((21, 0), [1, 3]), ((22, 0), [2, 3, 13, 14, 15]), ((22, 2), [2, 3, 13, 14, 15, 26, 27, 28]), ((23, 0), [4, 5, 9, 10, 11]), ((25, 0), [0, 1, 5]), ((29, 0), [0, 4, 6, 8, 10, 11, 13, 16, 17]), ((30, 0), [0, 1, 2, 3, 10, 11]), ((31, 0), [0, 1, 2, 7, 8]), ((31, 2), [0, 1, 2, 7, 8, 9, 10, 11, 12]), ((32, 0), [0, 3, 4]), ((32, 2), [0, 3, 4, 5, 6]), ((34, 0), [0, 3, 4]), ((35, 0), [0, 3, 4]), ((36, 0), [1, 3, 4]), ((37, 0), [1, 3, 4]), ((40, 0), [0, 1, 2, 8]), ((40, 2), [0, 1, 2, 8, 9]), ((48, 0), [0, 1, 2, 7, 8]), ((49, 0), [0, 3, 4])], [], [], [], []⟩
noncomputable def fns : List (Nat × Func) := [(3, Tryd.f3), (4, Tryd.f4), (5, Tryd.f5), (6, Tryd.f6), (7, Tryd.f7), (8, Tryd.f8), (9, Tryd.f9), (10, Tryd.f10), (11, Tryd.f11), (12, Tryd.f12), (13, Tryd.f13), (14, Tryd.f14), (15, Tryd.f15), (16, Tryd.f16), (17, Tryd.f17), (18, Tryd.f18), (19, Tryd.f19), (20, Tryd.f20), (21, Tryd.f21), (22, Tryd.f22), (23, Tryd.f23), (24, Tryd.f24), (25, Tryd.f25), (26, Tryd.f26), (27, Tryd.f27), (28, Tryd.f28), (29, Tryd.f29), (30, Tryd.f30), (31, Tryd.f31), (32, Tryd.f32), (33, Tryd.f33), (34, Tryd.f34), (35, Tryd.f35), (36, Tryd.f36), (37, Tryd.f37), (38, Tryd.f38), (39, Tryd.f39), (40, Tryd.f40), (41, Tryd.f41), (42, Tryd.f42), (43, Tryd.f43), (44, Tryd.f44), (45, Tryd.f45), (46, Tryd.f46), (47, Tryd.f47), (48, Tryd.f48), (49, Tryd.f49)]
noncomputable def ev : Cf := val env fns
theorem ev_eq {f : Nat} {fn : Func} (hf : find fns f = some fn) (hc : find env.cln f = none) (hd : find env.dfr f = none) (args : List AV) (H : Heap) : ev f args H = bodyV env ev fn f args H := val_eq hf hc hd args H
end Go.Proofs.YtepidhlkackjlaaDoor.E
set_option linter.unusedVariables false
namespace Go.Proofs.YtepidhlkackjlaaDoor.E
/-! The reading's table of types, checked. -/
def z1 : AV → Value → Bool
  | .pv (.v (.int k n)), .int k' n' => decide (k = k') && decide (n = n')
  | .pv (.v (.bool b)), .bool b' => b == b'
  | .pv (.v (.string s)), .string s' => s.data.toList.isEmpty && s'.data.toList.isEmpty
  | .pv (.v .nilFunc), .nilFunc => true
  | .pv (.v .nilIface), .nilIface => true
  | .slu _ sz [], .slice none 0 0 => decide (0 < sz)
  | .dead, v => v.oneCell'
  | _, _ => false
def zB : List AV → List Value → Bool
  | [], [] => true
  | a :: r, v :: q => z1 a v && zB r q
  | _, _ => false
section
variable (P : Program)
def infoE (e sz by_ : Nat) : Bool := match P.info? e with
  | some k => decide (k.size = sz) && decide (k.bytes = by_) && decide (0 < sz) && (match k.zero with | some z => decide (z.cells.size = sz) | none => false)
  | none => false
def eqF : List Field → Nat → List Bool → Bool
  | [], _, [] => true
  | f :: r, j, b :: q => !(f.name == "_") && decide (f.offset = j) && (match P.underlying f.type with | some (.int _) => !b | some .bool => b | _ => false) && eqF r (j + 1) q
  | _, _, _ => false
def tyB (t : Nat) (i : TI) : Bool := match P.info? t, P.underlying t with
  | some k, some d => decide (k.size = i.size) && (match k.zero with | some z => zB i.zero z.cells.toList | none => false) && decide (i.zero.length = i.size) &&
    (i.agg == aggD d) && (i.agg || decide (i.size = 1)) &&
    (match i.el with | none => true | some x => (match d with | .slice e => decide (e = x.1) && infoE P e x.2.1 x.2.2 | _ => false)) &&
    (match i.arr with | none => true | some x => (match d with | .array n e => decide (n = x.1) && decide (e = i.ae) && (match P.info? e with | some k => decide (k.size = x.2) | none => false) | _ => false)) &&
    (match i.int with | none => true | some k => (match d with | .int k' => decide (k = k') | _ => false)) &&
    (!i.bool || (match d with | .bool => true | _ => false)) && (!i.str || (match d with | .string => true | _ => false)) && (!i.ifc || (match d with | .interface _ => true | _ => false)) &&
    (i.fields.isEmpty || (match d with | .struct fs => decide (fs.toList.map (fun f => (f.offset, f.type)) = i.fields) | _ => false)) &&
    (!i.eq || ((match d with | .struct fs => eqF P fs.toList 0 i.tags | _ => false) && !P.stoodInHeld t && !P.eqGuardType P.depth t))
  | _, _ => false
end
section
variable {P : Program}
theorem z1_ok {a : AV} {v : Value} (h : z1 a v = true) : ZRel a v := by
  unfold z1 at h
  split at h
  · simp only [Bool.and_eq_true, decide_eq_true_eq] at h
    obtain ⟨rfl, rfl⟩ := h
    exact ⟨rfl, rfl⟩
  · simp only [beq_iff_eq] at h
    subst h
    exact ⟨rfl, rfl⟩
  · rename_i s s'
    simp only [Bool.and_eq_true, List.isEmpty_iff] at h
    obtain ⟨⟨d⟩⟩ := s
    obtain ⟨⟨d'⟩⟩ := s'
    simp only at h
    obtain ⟨rfl, rfl⟩ := h
    exact ⟨rfl, rfl⟩
  · exact ⟨rfl, rfl⟩
  · exact ⟨rfl, rfl⟩
  · exact ⟨rfl, of_decide_eq_true h⟩
  · exact h
  · cases h
theorem zB_ok : ∀ {as0 : List AV} {vs : List Value}, zB as0 vs = true → vs.length = as0.length ∧ ∀ (j : Nat) (a : AV) (x : Value), as0[j]? = some a → vs[j]? = some x → ZRel a x
  | [], [], _ => ⟨rfl, fun j a x h => by simp at h⟩
  | [], _ :: _, h => by simp [zB] at h
  | _ :: _, [], h => by simp [zB] at h
  | a :: r, v :: q, h => by
    simp only [zB, Bool.and_eq_true] at h
    obtain ⟨k1, k2⟩ := zB_ok h.2
    refine ⟨by simp [k1], fun j b x hb hx => ?_⟩
    cases j with
    | zero => simp at hb hx; subst hb; subst hx; exact z1_ok h.1
    | succ j => exact k2 j b x (by simpa using hb) (by simpa using hx)
theorem eqF_ok {w : World} {g : Nat → Option (Array Value)} {vs us : Array Value} {cs ds : List PV} (hc : PRep g (.agg cs) (.agg vs)) (hd : PRep g (.agg ds) (.agg us)) (d : Nat) : ∀ (fs : List Field) (j : Nat) (tags : List Bool) (z : Bool), eqF P fs j tags = true → eqCells tags (cs.drop j) (ds.drop j) = some z → (Op.eqFields (d + 1) vs us fs).run P w = .ok z w
  | [], j, tags, z, h, he => by
    cases tags with
    | cons b q => simp [eqF] at h
    | nil =>
      unfold eqCells at he
      split at he
      · simp at he; subst he; simp [Op.eqFields]
      · rename_i h1 _ _; cases h1
      · rename_i h1 _ _; cases h1
      · cases he
  | f :: r, j, [], z, h, he => by simp [eqF] at h
  | f :: r, j, b :: q, z, h, he => by
    simp only [eqF, Bool.and_eq_true, Bool.not_eq_true', decide_eq_true_eq] at h
    obtain ⟨⟨⟨hn, ho⟩, ht⟩, hr⟩ := h
    have hn' : f.name ≠ "_" := by intro e; rw [e] at hn; simp at hn
    have cellC : ∀ {cs : List PV} {vs : Array Value} {x : Value} {l : List PV}, PRep g (.agg cs) (.agg vs) → cs.drop j = .v x :: l → vs[j]? = some x ∧ cs.drop (j + 1) = l := fun {cs vs x l} hP hl => by
      cases hP with
      | agg h1 h2 h3 =>
        have hj : cs[j]? = some (.v x) := by have := congrArg (fun l => l[0]?) hl; simpa using this
        have hlt : j < vs.size := by rw [h1]; exact (List.getElem?_eq_some_iff.1 hj).1
        have := h3 j _ vs[j] hj (Array.getElem?_eq_getElem hlt)
        have e : vs[j] = x := by cases this; rfl
        refine ⟨by rw [Array.getElem?_eq_getElem hlt, e], ?_⟩
        have := congrArg (List.drop 1) hl
        simpa [List.drop_drop] using this
    have step : ∀ {a c : Value} {y zz : Bool}, vs[j]? = some a → us[j]? = some c → ((part f.type vs f.offset).run P w = .ok a w) → ((part f.type us f.offset).run P w = .ok c w) → (Op.equalIn (d + 1) f.type a c).run P w = .ok y w → (Op.eqFields (d + 1) vs us r).run P w = .ok zz w → (Op.eqFields (d + 1) vs us (f :: r)).run P w = .ok (y && zz) w := fun {a c y zz} _ _ h1 h2 h3 h4 => by
      rw [Op.eqFields]
      simp only [if_pos hn', Sem.run_bind, h1, h2, h3, Result.andThen_ok]
      cases y
      · simp
      · simpa using h4
    unfold eqCells at he
    split at he
    · rename_i h1 _ _; cases h1
    · rename_i tt k a l1 k' b' l2 e1 e2 e3
      cases e1
      split at he
      · rename_i hk
        subst hk
        obtain ⟨v1, d1⟩ := cellC hc e2
        obtain ⟨v2, d2⟩ := cellC hd e3
        cases hrec : eqCells q l1 l2 with
        | none => simp [hrec] at he
        | some zz =>
          simp only [hrec, Option.map_some, Option.some.injEq] at he
          subst he
          have ih := eqF_ok (w := w) hc hd d r (j + 1) q zz hr (by rw [d1, d2]; exact hrec)
          split at ht
          · rename_i kk hu
            refine step v1 v2 ?_ ?_ ?_ ih
            · simp [part, isAgg, run_underlying hu, ho, v1]
            · simp [part, isAgg, run_underlying hu, ho, v2]
            · simp [Op.equalIn, run_underlying hu]
          · cases ht
          · cases ht
      · cases he
    · rename_i tt a l1 b' l2 e1 e2 e3
      cases e1
      obtain ⟨v1, d1⟩ := cellC hc e2
      obtain ⟨v2, d2⟩ := cellC hd e3
      cases hrec : eqCells q l1 l2 with
      | none => simp [hrec] at he
      | some zz =>
        simp only [hrec, Option.map_some, Option.some.injEq] at he
        subst he
        have ih := eqF_ok (w := w) hc hd d r (j + 1) q zz hr (by rw [d1, d2]; exact hrec)
        split at ht
        · cases ht
        · rename_i hu
          refine step v1 v2 ?_ ?_ ?_ ih
          · simp [part, isAgg, run_underlying hu, ho, v1]
          · simp [part, isAgg, run_underlying hu, ho, v2]
          · simp [Op.equalIn, run_underlying hu]
        · cases ht
    · cases he
theorem infoE_ok {e sz by_ : Nat} (h : infoE P e sz by_ = true) : ∃ k z, P.info? e = some k ∧ k.size = sz ∧ k.bytes = by_ ∧ k.zero = some z ∧ z.cells.size = sz ∧ 0 < sz := by
  unfold infoE at h
  split at h
  · rename_i k hk
    simp only [Bool.and_eq_true, decide_eq_true_eq] at h
    obtain ⟨⟨⟨h1, h2⟩, h3⟩, h4⟩ := h
    split at h4
    · rename_i z hz; exact ⟨k, z, hk, h1, h2, hz, of_decide_eq_true h4, h3⟩
    · cases h4
  · cases h
theorem tyB_ok {t : Nat} {i : TI} (h : tyB P t i = true) : TyOk P t i := by
  unfold tyB at h
  split at h
  · rename_i k d hk hd
    simp only [Bool.and_eq_true] at h
    obtain ⟨⟨⟨⟨⟨⟨⟨⟨⟨⟨⟨⟨h1, h2⟩, h3⟩, h4⟩, h5⟩, h6⟩, h7⟩, h8⟩, h9⟩, h10⟩, h11⟩, h12⟩, h13⟩ := h
    refine ⟨?_, ⟨d, hd, by simpa using h4⟩, fun ha => ?_, fun x hx => ?_, fun x hx => ?_, fun k hk => ?_, fun hb => ?_, fun hb => ?_, fun hb => ?_, fun f x hx => ?_, fun hf => ?_, fun he => ?_⟩
    · split at h2
      · rename_i z hz
        obtain ⟨k1, k2⟩ := zB_ok h2
        exact ⟨k, z, hk, of_decide_eq_true h1, hz, by simpa using k1, of_decide_eq_true h3, fun j a x ha hx => k2 j a x ha (by simpa using hx)⟩
      · cases h2
    · rw [ha] at h5; simpa using h5
    · rw [hx] at h6
      simp only at h6
      split at h6
      · simp only [Bool.and_eq_true, decide_eq_true_eq] at h6
        obtain ⟨rfl, h6⟩ := h6
        exact ⟨hd, infoE_ok h6⟩
      · cases h6
    · rw [hx] at h7
      simp only at h7
      split at h7
      · simp only [Bool.and_eq_true, decide_eq_true_eq] at h7
        obtain ⟨⟨rfl, rfl⟩, h7⟩ := h7
        split at h7
        · rename_i ke hke; exact ⟨_, ke, hd, hke, of_decide_eq_true h7, rfl⟩
        · cases h7
      · cases h7
    · rw [hk] at h8
      simp only at h8
      split at h8
      · have := of_decide_eq_true h8; subst this; exact hd
      · cases h8
    · rw [hb] at h9
      simp only [Bool.not_true, Bool.false_or] at h9
      split at h9
      · exact hd
      · cases h9
    · rw [hb] at h10
      simp only [Bool.not_true, Bool.false_or] at h10
      split at h10
      · exact hd
      · cases h10
    · rw [hb] at h11
      simp only [Bool.not_true, Bool.false_or] at h11
      split at h11
      · exact ⟨_, hd⟩
      · cases h11
    · have hne : i.fields.isEmpty = false := by cases hi : i.fields with
        | nil => rw [hi] at hx; simp at hx
        | cons a b => rfl
      rw [hne, Bool.false_or] at h12
      split at h12
      · rename_i fs
        have e := of_decide_eq_true h12
        rw [← e, List.getElem?_map] at hx
        cases hj : fs.toList[f]? with
        | none => simp [hj] at hx
        | some fd =>
          simp only [hj, Option.map_some, Option.some.injEq] at hx
          subst hx
          exact ⟨fs, fd, hd, by simpa using hj, rfl, rfl⟩
      · cases h12
    · have hne : i.fields.isEmpty = false := by cases hi : i.fields with
        | nil => exact absurd hi hf
        | cons a b => rfl
      rw [hne, Bool.false_or] at h12
      split at h12
      · rename_i fs
        have e := of_decide_eq_true h12
        exact ⟨fs, hd, by rw [← e]; simp⟩
      · cases h12
    · rw [he] at h13
      simp only [Bool.not_true, Bool.false_or, Bool.and_eq_true, Bool.not_eq_true'] at h13
      obtain ⟨⟨h13, h14⟩, h15⟩ := h13
      intro w vs us cs ds z g hc hd' hz
      split at h13
      · rename_i fs
        refine ⟨?_, h15⟩
        have := eqF_ok (w := w) hc hd' 9998 fs.toList 0 i.tags z h13 (by simpa using hz)
        have hf : P.fieldsOf t = fs := by simp [Program.fieldsOf, hd]
        have e := run_equalIn_struct (P := P) w 9999 t vs us (by rw [hf]; exact hd) h14
        rw [hf] at e
        exact e.trans this
      · cases h13
  · cases h
theorem sys_ok {E : Env} (h : (E.ti.all fun x => tyB P x.1 x.2) = true) : SysOk P E := by
  refine ⟨fun t i hi => ?_⟩
  have hm := find_none_or hi
  exact tyB_ok (List.all_eq_true.1 h _ hm)
end
end Go.Proofs.YtepidhlkackjlaaDoor.E
set_option linter.unusedVariables false
set_option linter.unusedSimpArgs false
namespace Go.Proofs.YtepidhlkackjlaaDoor.E
/-! Plain data in the reading's values. -/
@[simp] theorem pInt_v (k : IntKind) (n : Int) : pInt (.pv (.v (.int k n))) = some (k, n) := rfl
@[simp] theorem pIntK_v (k : IntKind) (n : Int) : pIntK k (.pv (.v (.int k n))) = some n := by simp [pIntK]
@[simp] theorem pBool_v (b : Bool) : pBool (.pv (.v (.bool b))) = some b := rfl
@[simp] theorem pSl_v (z : Nat) (xs : List PV) : pSl (.sl z xs) = some (z, xs) := rfl
@[simp] theorem pAgg_v (cs : List PV) : pAgg (.pv (.agg cs)) = some cs := rfl
@[simp] theorem aggOf_v (cs : List PV) : aggOf (.pv (.agg cs)) = some cs := rfl
@[simp] theorem pTup_v (cs : List PV) : pTup (.pv (.tup cs)) = some cs := rfl
@[simp] theorem pIfc_v (t : Nat) (p : PV) : pIfc (.pv (.ifc t p)) = some (t, p) := rfl
@[simp] theorem pSlu_v (e z : Nat) (xs : List PV) : pSlu e z (.slu e z xs) = some xs := by simp [pSlu]
@[simp] theorem onlyPV_v (p : PV) : onlyPV (.pv p) = some p := rfl
@[simp] theorem cells_v (x : Value) : (PV.v x).cells = [.v x] := rfl
@[simp] theorem cells_sl (z : Nat) (xs : List PV) : (PV.sl z xs).cells = [.sl z xs] := rfl
@[simp] theorem cells_agg (cs : List PV) : (PV.agg cs).cells = cs := rfl
@[simp] theorem isCell_v (x : Value) : (PV.v x).isCell = true := rfl
@[simp] theorem isCell_sl (z : Nat) (xs : List PV) : (PV.sl z xs).isCell = true := rfl
@[simp] theorem isCell_agg (cs : List PV) : (PV.agg cs).isCell = false := rfl
@[simp] theorem isPtr_v (l o : Nat) : isPtr l o (.ptr l o) = true := by simp [isPtr]
@[simp] theorem callT_ret {γ : Type} (a : AV) (h : Heap) (kr : AV → Heap → Option γ) (kp : PV → Heap → Option γ) : callT (some (.ret a, h)) kr kp = kr a h := rfl
@[simp] theorem callT_pan {γ : Type} (p : PV) (h : Heap) (kr : AV → Heap → Option γ) (kp : PV → Heap → Option γ) : callT (some (.pan p, h)) kr kp = kp p h := rfl
theorem w64 {x : Int} (h : -9223372036854775808 ≤ x ∧ x ≤ 9223372036854775807) : IntKind.wrap .i64 x = x := by
  simp only [IntKind.wrap, IntKind.bits, IntKind.signed]
  simp
  split <;> omega
theorem w64_nat {n : Nat} (h : n ≤ 9223372036854775807) : IntKind.wrap .i64 (n : Int) = n := w64 ⟨by omega, by omega⟩
theorem wu8_any (x : Int) : IntKind.wrap .u8 x = x % 256 := by simp [IntKind.wrap, IntKind.bits, IntKind.signed]
theorem cond_dec {γ : Type} {p : Prop} [Decidable p] (x y : γ) : cond (decide p) x y = if p then x else y := by by_cases h : p <;> simp [h]
theorem cond_beq {γ : Type} (a b : Int) (x y : γ) : cond (a == b) x y = if a = b then x else y := by
  by_cases h : a = b
  · rw [if_pos h, beq_iff_eq.2 h]; rfl
  · rw [if_neg h, beq_eq_false_iff_ne.2 h]; rfl
theorem cond_bne {γ : Type} (a b : Int) (x y : γ) : cond (a != b) x y = if a = b then y else x := by
  by_cases h : a = b
  · rw [if_pos h, bne, beq_iff_eq.2 h]; rfl
  · rw [if_neg h, bne, beq_eq_false_iff_ne.2 h]; rfl
theorem cond_and {γ : Type} (a b : Bool) (x y : γ) : cond (a && b) x y = cond a (cond b x y) y := by cases a <;> rfl
theorem pI64 (n : Int) : pIntK .i64 (.pv (.v (.int .i64 n))) = some n := rfl
theorem pU64 (n : Int) : pIntK .u64 (.pv (.v (.int .u64 n))) = some n := rfl
theorem pU32 (n : Int) : pIntK .u32 (.pv (.v (.int .u32 n))) = some n := rfl
theorem pU8 (n : Int) : pIntK .u8 (.pv (.v (.int .u8 n))) = some n := rfl
theorem tt_and (b : Bool) : (true && b) = b := rfl
theorem ff_and (b : Bool) : (false && b) = false := rfl
theorem cnd_t {γ : Type} (x y : γ) : cond true x y = x := rfl
theorem cnd_f {γ : Type} (x y : γ) : cond false x y = y := rfl
theorem nt_t : (!true) = false := rfl
theorem nt_f : (!false) = true := rfl
theorem len1 (a : PV) : decide ([a].length = 1) = true := rfl
theorem len3 (a b c : PV) : decide ([a, b, c].length = 3) = true := rfl
theorem len5 (a b c d e : PV) : decide ([a, b, c, d, e].length = 5) = true := rfl
theorem len8 (a b c d e f g h : PV) : decide ([a, b, c, d, e, f, g, h].length = 8) = true := rfl
theorem len10 (a b c d e f g h i j : PV) : decide ([a, b, c, d, e, f, g, h, i, j].length = 10) = true := rfl
theorem hlen1 (a : List AV) : decide ([a].length = 1) = true := rfl
theorem clen1 (a : AV) : decide ([a].length = 1) = true := rfl
theorem clen5 (a b c d e : AV) : decide ([a, b, c, d, e].length = 5) = true := rfl
abbrev I (n : Int) : PV := .v (.int .i64 n)
abbrev U8 (n : Int) : PV := .v (.int .u8 n)
abbrev Bo (b : Bool) : PV := .v (.bool b)
/-- A call that returns this. -/
abbrev ok (p : PV) : Option (Out × Heap) := some (.ret (.pv p), [])
/-- A list of words, of segments. -/
def ws (l : List Int) : List PV := l.map fun n => .v (.int .u64 n)
def bs (l : List Int) : List PV := l.map fun n => .v (.int .u8 n)
def sgs (l : List (List Int)) : List PV := l.map fun s => .sl 1 (ws s)
def Word (x : Int) : Prop := 0 ≤ x ∧ x ≤ 18446744073709551615
def Words (xs : List Int) : Prop := xs.length ≤ 9223372036854775807 ∧ ∀ x ∈ xs, Word x
def Byte (x : Int) : Prop := 0 ≤ x ∧ x ≤ 255
def Bytes (xs : List Int) : Prop := xs.length ≤ 9223372036854775807 ∧ ∀ x ∈ xs, Byte x
@[simp] theorem ws_len (l : List Int) : (ws l).length = l.length := by simp [ws]
@[simp] theorem bs_len (l : List Int) : (bs l).length = l.length := by simp [bs]
@[simp] theorem sgs_len (l : List (List Int)) : (sgs l).length = l.length := by simp [sgs]
theorem bs_get {l : List Int} {i : Nat} (h : i < l.length) : (bs l)[i]? = some (.v (.int .u8 l[i])) := by simp [bs, h]
/-- Reading with a default. -/
def rd (l : List Int) (i : Int) : Int := l.getD i.toNat 0
def rdL (l : List (List Int)) (i : Int) : List Int := l.getD i.toNat []
end Go.Proofs.YtepidhlkackjlaaDoor.E
