/- TicketSame holds for every input: the ticket that a lock begins with changes nothing. -/
import Derived.Test.YthofahgnglfaeaaDoorTks
import Derived.Test.YthofahgnglfaeaaDoorSxC
namespace Go.Proofs.YthofahgnglfaeaaDoor
open Go Go.Proofs.YthofahgnglfaeaaDoor.Sx
set_option linter.unusedVariables false
set_option maxRecDepth 100000 in
theorem t4_pre {p : In9} {f : Int} : (execN (cfgL p f) 100 5 b4 ([timesV p 1, .int .u32 f, picksV p 2] ++ List.replicate 81 .bad) (s0 p)).bind (canonK 10 [(0,0)] 84 n4a) =
 

 (.eq ([SVal.sli 1 (.c 0) 1 (.v p.1.length) (some (.v p.2)), .int .u32 f] = [SVal.sli 1 (.c 0) 1 (.v p.1.length) (some (.v p.2)), .int .u32 f] ∧ [Blk.ro encLook [PUnit.unit], .ro encU8 p.1, .ro (encInt IntKind.i64) p.3] = [Blk.ro encLook [PUnit.unit], .ro encU8 p.1, .ro (encInt IntKind.i64) p.3] ∧ True)

 (.eq (some [Blk.ro encLook [PUnit.unit]] = some [Blk.ro encLook [PUnit.unit]])

 (.ret (.normal, [.sli 2 (.c 0) 1 (.v p.3.length) (some (.v p.4)), .ptr 3 0, .ptr 6 0, .sli 9 (.c 0) 1 (.v (madeP p).length) none, .int .u32 f, .ptr 10 0], [.ro encLook [PUnit.unit], .ro encU8 p.1, .ro (encInt IntKind.i64) p.3, .own [.c (.sli 4 (.c 0) 1 (.c 3) (some (.c 3))), .c (.lit .i64 (2 : Int))] 62, .own [.c (.int .u32 (setP (0 : Int) f)), .c (.int .u32 (setP (0 : Int) f)), .c (.lit .u32 (0 : Int))] 23, .many encTk (madeP p) 70, .own [.c (.ptr 3 0), .c (.sli 7 (.c 0) 1 (.v (madeP p).length) none), .c (.sli 8 (.c 0) 1 (.v (madeP p).length) (some (.v (madeP p).length)))] 78, .vec (encT 37 5) (List.range (madeP p).length) 80, .own [.a encBool (madeP p).length (List.replicate (madeP p).length false)] 4, .vec (encP 5) (List.range (madeP p).length) 37, .own [.c (.bl false), .c (.bl false), .c (.bl false), .c (.bl false), .c (.bl false), .c (.bl false)] 54])))) := by kernel_rfl
set_option maxRecDepth 100000 in
theorem t4_reg {p : In9} {m : Nat} {turn : Int} {s : Mc} {hs : List Bool} : (exec cfgW 100 reg4 (fr 84 n4a (v4 p m turn)) (s4 p m s hs)).bind (canonK 10 [(0,0)] 84 n4b) =
 

 (.ret (.normal, [.sli 8 (.c 0) 1 (.v p.3.length) (some (.v p.4)), .ptr 1 0, .ptr 4 0, .sli 7 (.c 0) 1 (.v m) none, .int .u32 turn, .ptr 9 0, .lit .i64 (0 : Int)], [.ro encLook [PUnit.unit], .own [.c (.sli 2 (.c 0) 1 (.v 3) (some (.v 3))), .c (.int .i64 s.2)] 62, .own [.a (encInt IntKind.u32) 3 s.1] 23, .many encTk s.3 70, .own [.c (.ptr 1 0), .c (.sli 5 (.c 0) 1 (.v m) none), .c (.sli 6 (.c 0) 1 (.v m) (some (.v m)))] 78, .vec (encT 37 3) (List.range m) 80, .own [.a encBool m s.4] 4, .vec (encP 3) (List.range m) 37, .ro (encInt IntKind.i64) p.3, .own [.a encBool 6 hs] 54])) := by kernel_rfl
set_option maxRecDepth 100000 in
theorem t4_tm {p : In9} {m : Nat} {turn : Int} {s : Mc} {hs : List Bool} {i : Nat} : (exec cfgM 100 tm4 (fr 84 n4b (v4 p m turn ++ [.int .i64 (i : Nat)])) (s4 p m s hs)).bind (canonK 10 [(0,0)] 84 n4b) =
 

 (.br (decide ((↑i : Int) < (↑p.3.length : Int)))

 (.br (decide ((↑i : Int) < (200 : Int)))

 (.ret (.normal, [.sli 8 (.c 0) 1 (.v p.3.length) (some (.v p.4)), .ptr 1 0, .ptr 4 0, .sli 7 (.c 0) 1 (.v m) none, .int .u32 turn, .ptr 9 0, .int .i64 (↑i : Int)], [.ro encLook [PUnit.unit], .own [.c (.sli 2 (.c 0) 1 (.v 3) (some (.v 3))), .c (.int .i64 s.2)] 62, .own [.a (encInt IntKind.u32) 3 s.1] 23, .many encTk s.3 70, .own [.c (.ptr 1 0), .c (.sli 5 (.c 0) 1 (.v m) none), .c (.sli 6 (.c 0) 1 (.v m) (some (.v m)))] 78, .vec (encT 37 3) (List.range m) 80, .own [.a encBool m s.4] 4, .vec (encP 3) (List.range m) 37, .ro (encInt IntKind.i64) p.3, .own [.a encBool 6 hs] 54]))

 (.ret (.exit 0, [.sli 8 (.c 0) 1 (.v p.3.length) (some (.v p.4)), .ptr 1 0, .ptr 4 0, .sli 7 (.c 0) 1 (.v m) none, .int .u32 turn, .ptr 9 0, .int .i64 (↑i : Int)], [.ro encLook [PUnit.unit], .own [.c (.sli 2 (.c 0) 1 (.v 3) (some (.v 3))), .c (.int .i64 s.2)] 62, .own [.a (encInt IntKind.u32) 3 s.1] 23, .many encTk s.3 70, .own [.c (.ptr 1 0), .c (.sli 5 (.c 0) 1 (.v m) none), .c (.sli 6 (.c 0) 1 (.v m) (some (.v m)))] 78, .vec (encT 37 3) (List.range m) 80, .own [.a encBool m s.4] 4, .vec (encP 3) (List.range m) 37, .ro (encInt IntKind.i64) p.3, .own [.a encBool 6 hs] 54])))

 (.ret (.exit 0, [.sli 8 (.c 0) 1 (.v p.3.length) (some (.v p.4)), .ptr 1 0, .ptr 4 0, .sli 7 (.c 0) 1 (.v m) none, .int .u32 turn, .ptr 9 0, .int .i64 (↑i : Int)], [.ro encLook [PUnit.unit], .own [.c (.sli 2 (.c 0) 1 (.v 3) (some (.v 3))), .c (.int .i64 s.2)] 62, .own [.a (encInt IntKind.u32) 3 s.1] 23, .many encTk s.3 70, .own [.c (.ptr 1 0), .c (.sli 5 (.c 0) 1 (.v m) none), .c (.sli 6 (.c 0) 1 (.v m) (some (.v m)))] 78, .vec (encT 37 3) (List.range m) 80, .own [.a encBool m s.4] 4, .vec (encP 3) (List.range m) 37, .ro (encInt IntKind.i64) p.3, .own [.a encBool 6 hs] 54]))) := by kernel_rfl
set_option maxRecDepth 100000 in
theorem t4_pick {p : In9} {m : Nat} {turn : Int} {s : Mc} {hs : List Bool} {i : Nat} : (execN (cfgQ 3 m s) 100 2 bb4 (fr 84 n4b (v4 p m turn ++ [.int .i64 (i : Nat)])) (s4 p m s hs)).bind (canonK 10 [(0,0)] 84 n4c) =
 

 (.need (decide ((0 : Int) ≤ (↑i : Int)) && decide ((↑i : Int).toNat < p.3.length))

 (.need (decide ((↑i : Int).toNat < p.3.length))

 (.eq ([Blk.ro encLook [PUnit.unit], .own [.c (.sli 2 (.c 0) 1 (.v 3) (some (.v 3))), .c (.int .i64 s.2)] 62, .own [.a (encInt IntKind.u32) 3 s.1] 23, .many encTk s.3 70, .own [.c (.ptr 1 0), .c (.sli 5 (.c 0) 1 (.v m) none), .c (.sli 6 (.c 0) 1 (.v m) (some (.v m)))] 78, .vec (encT 37 3) (List.range m) 80, .own [.a encBool m s.4] 4] = [Blk.ro encLook [PUnit.unit], .own [.c (.sli 2 (.c 0) 1 (.v 3) (some (.v 3))), .c (.int .i64 s.2)] 62, .own [.a (encInt IntKind.u32) 3 s.1] 23, .many encTk s.3 70, .own [.c (.ptr 1 0), .c (.sli 5 (.c 0) 1 (.v m) none), .c (.sli 6 (.c 0) 1 (.v m) (some (.v m)))] 78, .vec (encT 37 3) (List.range m) 80, .own [.a encBool m s.4] 4] ∧ McOk 3 m s)

 (.ret (.normal, [.sli 8 (.c 0) 1 (.v p.3.length) (some (.v p.4)), .ptr 1 0, .ptr 4 0, .sli 7 (.c 0) 1 (.v m) none, .int .u32 turn, .ptr 9 0, .int .i64 (↑i : Int), .lit .i64 (0 : Int)], [.ro encLook [PUnit.unit], .own [.c (.sli 2 (.c 0) 1 (.v 3) (some (.v 3))), .c (.int .i64 (pickP m s (p.3.getD (↑i : Int).toNat (0 : Int))).c)] 62, .own [.a (encInt IntKind.u32) 3 (pickP m s (p.3.getD (↑i : Int).toNat (0 : Int))).l] 23, .many encTk (pickP m s (p.3.getD (↑i : Int).toNat (0 : Int))).xs 70, .own [.c (.ptr 1 0), .c (.sli 5 (.c 0) 1 (.v m) none), .c (.sli 6 (.c 0) 1 (.v m) (some (.v m)))] 78, .vec (encT 37 3) (List.range m) 80, .own [.a encBool m (pickP m s (p.3.getD (↑i : Int).toNat (0 : Int))).ds] 4, .vec (encP 3) (List.range m) 37, .ro (encInt IntKind.i64) p.3, .own [.a encBool 6 hs] 54]))))) := by kernel_rfl
set_option maxRecDepth 100000 in
theorem t4_in {p : In9} {m : Nat} {turn : Int} {s : Mc} {hs : List Bool} {i k : Nat} : (exec (cfgM) 100 round4k (fr 84 n4c (v4 p m turn ++ [.int .i64 (i : Nat), .int .i64 (k : Nat)])) (s4 p m s hs)).bind (canonK 10 [(0,0)] 84 n4c) =
 

 (.br (decide ((↑k : Int) < (↑m : Int)))

 (.need (decide ((0 : Int) ≤ (↑k : Int)) && decide ((↑k : Int).toNat < m))

 (.need (decide ((↑k : Int).toNat < (List.range m).length))

 (.need (decide ((List.range m).getD (↑k : Int).toNat 0 < s.3.length))

 (.br (decide ((2 : Int) ≤ (↑(s.3.getD ((List.range m).getD (↑k : Int).toNat 0) { at' := (0 : Int), cell := (0 : Int), times := (0 : Int), phase := 0, ticket := (0 : Int), v := (0 : Int) }).phase : Int)))

 (.need (decide ((0 : Int) ≤ (↑k : Int)) && decide ((↑k : Int).toNat < 6))

 (.need (decide ((↑k : Int).toNat < 6))

 (.br (!hs.getD (↑k : Int).toNat false)

 (.need (decide ((0 : Int) ≤ (↑k : Int)) && decide ((↑k : Int).toNat < m))

 (.need (decide ((↑k : Int).toNat < (List.range m).length))

 (.need (decide ((List.range m).getD (↑k : Int).toNat 0 < s.3.length))

 (.br ((s.3.getD ((List.range m).getD (↑k : Int).toNat 0) { at' := (0 : Int), cell := (0 : Int), times := (0 : Int), phase := 0, ticket := (0 : Int), v := (0 : Int) }).ticket != turn)

 (.ret (.ret, [.sli 8 (.c 0) 1 (.v p.3.length) (some (.v p.4)), .ptr 1 0, .ptr 4 0, .sli 7 (.c 0) 1 (.v m) none, .int .u32 turn, .ptr 9 0, .int .i64 (↑i : Int), .int .i64 (↑k : Int)], [.ro encLook [PUnit.unit], .own [.c (.sli 2 (.c 0) 1 (.v 3) (some (.v 3))), .c (.int .i64 s.2)] 62, .own [.a (encInt IntKind.u32) 3 s.1] 23, .many encTk s.3 70, .own [.c (.ptr 1 0), .c (.sli 5 (.c 0) 1 (.v m) none), .c (.sli 6 (.c 0) 1 (.v m) (some (.v m)))] 78, .vec (encT 37 3) (List.range m) 80, .own [.a encBool m s.4] 4, .vec (encP 3) (List.range m) 37, .ro (encInt IntKind.i64) p.3, .own [.a encBool 6 hs] 54]))

 (.need (decide ((0 : Int) ≤ (↑k : Int)) && decide ((↑k : Int).toNat < 6))

 (.need (decide ((↑k : Int).toNat < 6))

 (.need (inR .i64 ((↑k : Int) + (1 : Int)))

 (.ret (.normal, [.sli 8 (.c 0) 1 (.v p.3.length) (some (.v p.4)), .ptr 1 0, .ptr 4 0, .sli 7 (.c 0) 1 (.v m) none, .int .u32 (IntKind.u32.wrap (turn + (1 : Int))), .ptr 9 0, .int .i64 (↑i : Int), .int .i64 ((↑k : Int) + (1 : Int))], [.ro encLook [PUnit.unit], .own [.c (.sli 2 (.c 0) 1 (.v 3) (some (.v 3))), .c (.int .i64 s.2)] 62, .own [.a (encInt IntKind.u32) 3 s.1] 23, .many encTk s.3 70, .own [.c (.ptr 1 0), .c (.sli 5 (.c 0) 1 (.v m) none), .c (.sli 6 (.c 0) 1 (.v m) (some (.v m)))] 78, .vec (encT 37 3) (List.range m) 80, .own [.a encBool m s.4] 4, .vec (encP 3) (List.range m) 37, .ro (encInt IntKind.i64) p.3, .own [.a encBool 6 (hs.set (↑k : Int).toNat true)] 54])))))))))

 (.br (!decide ((2 : Int) ≤ (↑(s.3.getD ((List.range m).getD (↑k : Int).toNat 0) { at' := (0 : Int), cell := (0 : Int), times := (0 : Int), phase := 0, ticket := (0 : Int), v := (0 : Int) }).phase : Int)))

 (.need (decide ((0 : Int) ≤ (↑k : Int)) && decide ((↑k : Int).toNat < 6))

 (.need (decide ((↑k : Int).toNat < 6))

 (.need (inR .i64 ((↑k : Int) + (1 : Int)))

 (.ret (.normal, [.sli 8 (.c 0) 1 (.v p.3.length) (some (.v p.4)), .ptr 1 0, .ptr 4 0, .sli 7 (.c 0) 1 (.v m) none, .int .u32 turn, .ptr 9 0, .int .i64 (↑i : Int), .int .i64 ((↑k : Int) + (1 : Int))], [.ro encLook [PUnit.unit], .own [.c (.sli 2 (.c 0) 1 (.v 3) (some (.v 3))), .c (.int .i64 s.2)] 62, .own [.a (encInt IntKind.u32) 3 s.1] 23, .many encTk s.3 70, .own [.c (.ptr 1 0), .c (.sli 5 (.c 0) 1 (.v m) none), .c (.sli 6 (.c 0) 1 (.v m) (some (.v m)))] 78, .vec (encT 37 3) (List.range m) 80, .own [.a encBool m s.4] 4, .vec (encP 3) (List.range m) 37, .ro (encInt IntKind.i64) p.3, .own [.a encBool 6 (hs.set (↑k : Int).toNat false)] 54])))))

 (.need (inR .i64 ((↑k : Int) + (1 : Int)))

 (.ret (.normal, [.sli 8 (.c 0) 1 (.v p.3.length) (some (.v p.4)), .ptr 1 0, .ptr 4 0, .sli 7 (.c 0) 1 (.v m) none, .int .u32 turn, .ptr 9 0, .int .i64 (↑i : Int), .int .i64 ((↑k : Int) + (1 : Int))], [.ro encLook [PUnit.unit], .own [.c (.sli 2 (.c 0) 1 (.v 3) (some (.v 3))), .c (.int .i64 s.2)] 62, .own [.a (encInt IntKind.u32) 3 s.1] 23, .many encTk s.3 70, .own [.c (.ptr 1 0), .c (.sli 5 (.c 0) 1 (.v m) none), .c (.sli 6 (.c 0) 1 (.v m) (some (.v m)))] 78, .vec (encT 37 3) (List.range m) 80, .own [.a encBool m s.4] 4, .vec (encP 3) (List.range m) 37, .ro (encInt IntKind.i64) p.3, .own [.a encBool 6 hs] 54])))))))

 (.br (!decide ((2 : Int) ≤ (↑(s.3.getD ((List.range m).getD (↑k : Int).toNat 0) { at' := (0 : Int), cell := (0 : Int), times := (0 : Int), phase := 0, ticket := (0 : Int), v := (0 : Int) }).phase : Int)))

 (.need (decide ((0 : Int) ≤ (↑k : Int)) && decide ((↑k : Int).toNat < 6))

 (.need (decide ((↑k : Int).toNat < 6))

 (.need (inR .i64 ((↑k : Int) + (1 : Int)))

 (.ret (.normal, [.sli 8 (.c 0) 1 (.v p.3.length) (some (.v p.4)), .ptr 1 0, .ptr 4 0, .sli 7 (.c 0) 1 (.v m) none, .int .u32 turn, .ptr 9 0, .int .i64 (↑i : Int), .int .i64 ((↑k : Int) + (1 : Int))], [.ro encLook [PUnit.unit], .own [.c (.sli 2 (.c 0) 1 (.v 3) (some (.v 3))), .c (.int .i64 s.2)] 62, .own [.a (encInt IntKind.u32) 3 s.1] 23, .many encTk s.3 70, .own [.c (.ptr 1 0), .c (.sli 5 (.c 0) 1 (.v m) none), .c (.sli 6 (.c 0) 1 (.v m) (some (.v m)))] 78, .vec (encT 37 3) (List.range m) 80, .own [.a encBool m s.4] 4, .vec (encP 3) (List.range m) 37, .ro (encInt IntKind.i64) p.3, .own [.a encBool 6 (hs.set (↑k : Int).toNat false)] 54])))))

 (.need (inR .i64 ((↑k : Int) + (1 : Int)))

 (.ret (.normal, [.sli 8 (.c 0) 1 (.v p.3.length) (some (.v p.4)), .ptr 1 0, .ptr 4 0, .sli 7 (.c 0) 1 (.v m) none, .int .u32 turn, .ptr 9 0, .int .i64 (↑i : Int), .int .i64 ((↑k : Int) + (1 : Int))], [.ro encLook [PUnit.unit], .own [.c (.sli 2 (.c 0) 1 (.v 3) (some (.v 3))), .c (.int .i64 s.2)] 62, .own [.a (encInt IntKind.u32) 3 s.1] 23, .many encTk s.3 70, .own [.c (.ptr 1 0), .c (.sli 5 (.c 0) 1 (.v m) none), .c (.sli 6 (.c 0) 1 (.v m) (some (.v m)))] 78, .vec (encT 37 3) (List.range m) 80, .own [.a encBool m s.4] 4, .vec (encP 3) (List.range m) 37, .ro (encInt IntKind.i64) p.3, .own [.a encBool 6 hs] 54]))))))))

 (.ret (.exit 2, [.sli 8 (.c 0) 1 (.v p.3.length) (some (.v p.4)), .ptr 1 0, .ptr 4 0, .sli 7 (.c 0) 1 (.v m) none, .int .u32 turn, .ptr 9 0, .int .i64 (↑i : Int), .int .i64 (↑k : Int)], [.ro encLook [PUnit.unit], .own [.c (.sli 2 (.c 0) 1 (.v 3) (some (.v 3))), .c (.int .i64 s.2)] 62, .own [.a (encInt IntKind.u32) 3 s.1] 23, .many encTk s.3 70, .own [.c (.ptr 1 0), .c (.sli 5 (.c 0) 1 (.v m) none), .c (.sli 6 (.c 0) 1 (.v m) (some (.v m)))] 78, .vec (encT 37 3) (List.range m) 80, .own [.a encBool m s.4] 4, .vec (encP 3) (List.range m) 37, .ro (encInt IntKind.i64) p.3, .own [.a encBool 6 hs] 54]))) := by kernel_rfl
set_option maxRecDepth 100000 in
theorem t4_inc {p : In9} {m : Nat} {turn : Int} {s : Mc} {hs : List Bool} {i : Nat} : (exec cfgM 100 inc4 (fr 84 n4b (v4 p m turn ++ [.int .i64 (i : Nat)])) (s4 p m s hs)).bind (canonK 10 [(0,0)] 84 n4b) =
 

 (.need (inR .i64 ((↑i : Int) + (1 : Int)))

 (.ret (.normal, [.sli 8 (.c 0) 1 (.v p.3.length) (some (.v p.4)), .ptr 1 0, .ptr 4 0, .sli 7 (.c 0) 1 (.v m) none, .int .u32 turn, .ptr 9 0, .int .i64 ((↑i : Int) + (1 : Int))], [.ro encLook [PUnit.unit], .own [.c (.sli 2 (.c 0) 1 (.v 3) (some (.v 3))), .c (.int .i64 s.2)] 62, .own [.a (encInt IntKind.u32) 3 s.1] 23, .many encTk s.3 70, .own [.c (.ptr 1 0), .c (.sli 5 (.c 0) 1 (.v m) none), .c (.sli 6 (.c 0) 1 (.v m) (some (.v m)))] 78, .vec (encT 37 3) (List.range m) 80, .own [.a encBool m s.4] 4, .vec (encP 3) (List.range m) 37, .ro (encInt IntKind.i64) p.3, .own [.a encBool 6 hs] 54]))) := by kernel_rfl
set_option maxRecDepth 100000 in
theorem t4_end {p : In9} {m : Nat} {turn : Int} {s : Mc} {hs : List Bool} {i : Nat} : (exec cfgM 100 end4 (fr 84 n4b (v4 p m turn ++ [.int .i64 (i : Nat)])) (s4 p m s hs)).bind (canonK 10 [(0,0)] 84 [6]) =
 

 (.ret (.ret, [.bl true], [.ro encLook [PUnit.unit], .own [.c (.sli 2 (.c 0) 1 (.v 3) (some (.v 3))), .c (.int .i64 s.2)] 62, .own [.a (encInt IntKind.u32) 3 s.1] 23, .many encTk s.3 70, .own [.c (.ptr 1 0), .c (.sli 5 (.c 0) 1 (.v m) none), .c (.sli 6 (.c 0) 1 (.v m) (some (.v m)))] 78, .vec (encT 37 3) (List.range m) 80, .own [.a encBool m s.4] 4, .vec (encP 3) (List.range m) 37, .ro (encInt IntKind.i64) p.3, .own [.a encBool 6 hs] 54])) := by kernel_rfl
end Go.Proofs.YthofahgnglfaeaaDoor

/- TicketOrder: its loops. -/
namespace Go.Proofs.YthofahgnglfaeaaDoor
open Go Go.Proofs.YthofahgnglfaeaaDoor.Sx
set_option linter.unusedVariables false
abbrev Q4 (w0 : From) : Exit → Act → World → Prop := bodyPost Tryd.prog Tryd.f4 (Said w0)
structure Ix4 where
  i : Nat
  s : Mc
  hs : List Bool
  S : Int
structure Good4 (m : Nat) (j : Ix4) : Prop where
  inv : ∃ sum q N C, Inv m sum q N j.S C j.s
  len : j.hs.length = 6
  held : ∀ k, k < m → j.hs.getD k false = holdB j.s k
abbrev at4 (w0 : From) (p : In9) (m : Nat) (turn : Int) (s : Mc) (hs : List Bool) (i : Nat) (a : Act) (w : World) : Prop :=
  ∃ env, At [(0, 0)] w0 env (fr 84 n4b (v4 p m turn ++ [.int .i64 (i : Nat)])) (s4 p m s hs) a w
def Inv4 (w0 : From) (p : In9) (m : Nat) (j : Ix4) (a : Act) (w : World) : Prop :=
  j.i ≤ 200 ∧ Good4 m j ∧ at4 w0 p m (turnOf m j.S j.s) j.s j.hs j.i a w
abbrev R4 (w0 : From) (p : In9) (m : Nat) (i : Nat) : Exit → Act → World → Prop :=
  Exit.then (fun a' w' => ∃ k, Inv4 w0 p m k a' w' ∧ 200 - k.i < 200 - i) (Exit.inBlock 0 (Exit.then (end4.wp Tryd.prog (Q4 w0)) (Q4 w0)))
abbrev K4 (w0 : From) (p : In9) (m : Nat) (i : Nat) : Exit → Act → World → Prop :=
  Exit.inBlock 1 (Exit.then (inc4.wp Tryd.prog (R4 w0 p m i)) (R4 w0 p m i))
structure Ix4k where
  k : Nat
  hs : List Bool
  turn : Int
def Inv4k (w0 : From) (p : In9) (m : Nat) (s' : Mc) (hs0 : List Bool) (turn0 : Int) (i : Nat) (j : Ix4k) (a : Act) (w : World) : Prop :=
  j.k ≤ m ∧ Scan m s' hs0 turn0 j.k j.hs j.turn ∧ ∃ env, At [(0, 0)] w0 env (fr 84 n4c (v4 p m j.turn ++ [.int .i64 (i : Nat), .int .i64 (j.k : Nat)])) (s4 p m s' j.hs) a w
theorem end4_ok {w0 : From} {p : In9} {m : Nat} {turn : Int} {s : Mc} {hs : List Bool} {i : Nat} {a : Act} {w : World} (h : at4 w0 p m turn s hs i a w) : end4.wp Tryd.prog (Q4 w0) a w := by
  obtain ⟨env, h⟩ := h
  exact pieceT0 (c := cfgM) cfgM_ok [6] t4_end h (all_ret fun env' a' w' hA' => hA'.said (by kernel_rfl))
theorem inc4_ok {w0 : From} {p : In9} {m : Nat} {i : Nat} (hi : i < 200) {s : Mc} {hs : List Bool} {S : Int} (hg : Good4 m ⟨i, s, hs, S⟩) {a : Act} {w : World} (h : at4 w0 p m (turnOf m S s) s hs i a w) : inc4.wp Tryd.prog (R4 w0 p m i) a w := by
  obtain ⟨env, h⟩ := h
  refine pieceT0 (c := cfgM) cfgM_ok n4b t4_inc h ?_
  refine all_needp (by simp only [inR_i64]; exact Iff.rfl) (by omega) fun _ => all_ret fun env' a' w' hA' => ?_
  exact ⟨⟨i + 1, s, hs, S⟩, ⟨by simp only; omega, ⟨hg.inv, hg.len, hg.held⟩, env', hA'⟩, by simp only; omega⟩
set_option maxHeartbeats 1000000 in
theorem in4_ok {w0 : From} {p : In9} {m : Nat} {i : Nat} (hi : i < 200) {s' : Mc} {hs0 : List Bool} {turn0 S' : Int} {sum : Int} {q : List Nat} {N C : Int} (hinv : Inv m sum q N S' C s') (ho : OrderOut m s' hs0 turn0 S') {j : Ix4k} (hj : j.k ≤ m) (hsc : Scan m s' hs0 turn0 j.k j.hs j.turn)
    {env : Env} {a : Act} {w : World} (hA : At [(0, 0)] w0 env (fr 84 n4c (v4 p m j.turn ++ [.int .i64 (i : Nat), .int .i64 (j.k : Nat)])) (s4 p m s' j.hs) a w) :
    round4k.wp Tryd.prog (Exit.then (fun a' w' => ∃ j', Inv4k w0 p m s' hs0 turn0 i j' a' w' ∧ m - j'.k < m - j.k) (Exit.inBlock 2 (K4 w0 p m i))) a w := by
  obtain ⟨k, hs, turn⟩ := j
  simp only at hj hsc hA ⊢
  have h6 := hinv.m6
  have hxl := hinv.xs
  refine pieceT0 (c := cfgM) cfgM_ok n4c t4_in hA ?_
  refine all_brp (by simp only [decide_eq_true_eq]; exact Iff.rfl) (fun hk => ?_) (fun hk => ?_)
  · have hk' : k < m := by omega
    have hr : (List.range m).getD k 0 = k := getD_range hk'
    have hlr : (List.range m).length = m := by simp
    simp only [Int.toNat_natCast, hr, hlr]
    have hT : ∀ d, s'.xs.getD k d = tkAt s' k := by
      intro d
      simp only [tkAt, List.getD_eq_getElem?_getD]
      rw [List.getElem?_eq_getElem (by omega)]; rfl
    simp only [hT]
    have w32t : ∀ {hs' turn'}, Scan m s' hs0 turn0 (k + 1) hs' turn' → ∀ {env' a' w'}, At [(0, 0)] w0 env' (fr 84 n4c (v4 p m turn' ++ [.int .i64 (i : Nat), .int .i64 ((k : Int) + 1)])) (s4 p m s' hs') a' w' →
        ∃ j', Inv4k w0 p m s' hs0 turn0 i j' a' w' ∧ m - j'.k < m - k := by
      intro hs' turn' h1 env' a' w' h2
      exact ⟨⟨k + 1, hs', turn'⟩, ⟨by simp only; omega, h1, env', h2⟩, by simp only; omega⟩
    repeat' (first
      | refine all_needq (by simp only [decide_eq_true_eq, Bool.and_eq_true, inR_i64]; exact Iff.rfl) (by omega) ?_
      | refine all_brp (by simp only [decide_eq_true_eq, Bool.not_eq_true', decide_eq_false_iff_not, bne_iff_ne, ne_eq]; exact Iff.rfl) (fun _ => ?_) (fun _ => ?_))
    all_goals try (exfalso; omega)
    · rename_i h1 h2 h3
      have := (scan_new ho hk' h6 hsc (by omega) h2).1
      exact (h3 this).elim
    · rename_i h1 h2 h3
      exact all_ret fun _ _ _ h => w32t (scan_new ho hk' h6 hsc (by omega) h2).2 h
    · rename_i h1 h2 h3
      exact all_ret fun _ _ _ h => w32t (scan_old hk' hsc (by omega) (by simpa using h2)) h
    · rename_i h1 h2
      exact all_ret fun _ _ _ h => w32t (scan_not hk' h6 hsc (by omega)) h
  · have hkm : k = m := by omega
    subst hkm
    refine all_ret fun env' a' w' hA' => ?_
    simp only [Ex.to, Exit.then, Exit.inBlock, if_true]
    refine (show K4 w0 p k i .normal a' w' from ?_)
    simp only [K4, Exit.inBlock, Exit.then]
    have ht : turn = turnOf k S' s' := by rw [hsc.turn]; exact ho.turn
    subst ht
    refine inc4_ok hi (s := s') (hs := hs) (S := S') ⟨⟨sum, q, N, C, hinv⟩, hsc.len, fun j hj => by rw [hsc.held j hj, if_pos hj]⟩ ⟨env', ?_⟩
    exact At.few (names := n4b) (extra := [14]) (vals := v4 p k (turnOf k S' s') ++ [.int .i64 (i : Nat)]) (ev := [.int .i64 (k : Nat)]) hA' rfl
end Go.Proofs.YthofahgnglfaeaaDoor

/- TicketOrder: its call. -/
namespace Go.Proofs.YthofahgnglfaeaaDoor
open Go Go.Proofs.YthofahgnglfaeaaDoor.Sx
set_option linter.unusedVariables false
set_option maxHeartbeats 1000000 in
theorem round4_ok {w0 : From} {p : In9} {m : Nat} {j : Ix4} {a : Act} {w : World} (h : Inv4 w0 p m j a w) : round4.wp Tryd.prog (R4 w0 p m j.i) a w := by
  obtain ⟨i, s, hs, S⟩ := j
  obtain ⟨hi, ⟨⟨sum, q, N, C, hinv⟩, hlen, hheld⟩, env, hA⟩ := h
  simp only at hi hinv hlen hheld hA ⊢
  have out : ∀ {env' : Env} {a' : Act} {w' : World}, At [(0, 0)] w0 env' (fr 84 n4b (v4 p m (turnOf m S s) ++ [.int .i64 (i : Nat)])) (s4 p m s hs) a' w' → R4 w0 p m i (.exit 0) a' w' := by
    intro env' a' w' h
    simp only [R4, Exit.then, Exit.inBlock, if_true]
    exact end4_ok ⟨env', h⟩
  refine wpS (by kernel_rfl) ?_
  refine pieceT0 (c := cfgM) cfgM_ok n4b t4_tm hA ?_
  refine all_brp (by simp only [decide_eq_true_eq]; exact Iff.rfl) (fun h1 => ?_) (fun h1 => all_ret fun _ _ _ h => out h)
  refine all_brp (by simp only [decide_eq_true_eq]; exact Iff.rfl) (fun h2 => all_ret fun env1 a1 w1 hA1 => ?_) (fun h2 => all_ret fun _ _ _ h => out h)
  have hi2 : i < 200 := by omega
  refine (show (rgt round4).wp Tryd.prog (R4 w0 p m i) a1 w1 from wpS (by kernel_rfl) (wpB 1 (by kernel_rfl) ?_))
  refine (show bb4.wp Tryd.prog (K4 w0 p m i) a1 w1 from ?_)
  refine pieceNT0 (c := cfgQ 3 m s) cfgQ_ok 2 n4c t4_pick hA1 ?_
  generalize p.picks.getD (i : Int).toNat 0 = k
  refine all_needq (by simp only [decide_eq_true_eq, Bool.and_eq_true]; exact Iff.rfl) (by omega) ?_
  refine all_needq (by simp only [decide_eq_true_eq]; exact Iff.rfl) (by omega) ?_
  refine all_eq ⟨rfl, hinv.ok⟩ (all_ret fun env2 a2 w2 hA2 => ?_)
  obtain ⟨q', N', S', C', hinv', ho⟩ := order_pick hinv hheld k
  generalize pickP m s k = s' at *
  simp only [Ex.to, Exit.then]
  refine (show blk4k.wp Tryd.prog (K4 w0 p m i) a2 w2 from ?_)
  refine wpB 2 (by kernel_rfl) (wpL (by kernel_rfl) (Inv4k w0 p m s' hs (turnOf m S s) i) (fun j => m - j.k) ⟨0, hs, turnOf m S s⟩ ⟨Nat.zero_le _, scan_start hlen, env2, ?_⟩ ?_)
  · exact hA2.gvals (v4 p m (turnOf m S s) ++ [SVal.int .i64 (i : Nat), SVal.int .i64 ((0 : Nat) : Int)]) rfl
  · rintro j a w ⟨h1, h2, env, h3⟩
    exact in4_ok hi2 hinv' ho h1 h2 h3
theorem b4_eq : Tryd.f4.body = some b4 := by kernel_rfl
theorem made_some (p : In9) : ∃ us : List U8, us.length ≤ 6 ∧ madeP p = us.map mkTk := ⟨p.times.take 6, by simp; omega, rfl⟩
theorem made_len (p : In9) : (madeP p).length ≤ 6 := by
  obtain ⟨us, h, e⟩ := made_some p
  rw [e]; simpa using h
theorem held_start (m : Nat) (xs : List Tk) (hx : ∃ us : List U8, us.length ≤ 6 ∧ xs = us.map mkTk) (hm : m = xs.length) {l c ds} : ∀ k, k < m → (List.replicate 6 false).getD k false = holdB ⟨l, c, xs, ds⟩ k := by
  intro k hk
  obtain ⟨us, h6, rfl⟩ := hx
  have hk' : k < us.length := by rw [hm] at hk; simpa using hk
  rw [Sx.getD_replicate]
  have : tkAt ⟨l, c, us.map mkTk, ds⟩ k = mkTk us[k] := by
    show (us.map mkTk).getD k encTk.dflt = _
    simp [List.getD_eq_getElem?_getD, hk']
  rw [holdB, this]; rfl
theorem anyH_start {m : Nat} {xs : List Tk} (hx : ∃ us : List U8, us.length ≤ 6 ∧ xs = us.map mkTk) (hm : m = xs.length) {l c ds} : anyH m ⟨l, c, xs, ds⟩ = false := by
  unfold anyH
  rw [List.any_eq_false]
  intro j hj
  have := held_start m xs hx hm (l := l) (c := c) (ds := ds) j (by simpa using hj)
  rw [Sx.getD_replicate] at this
  rw [← this]; simp
theorem range_len (m : Nat) : (List.range m).length = m := by simp
/-- the state that the making leaves, in the law's order of names -/
theorem to_law {w0 : From} {p : In9} {f : Int} (hf : 0 ≤ f ∧ f < 4294967296) {env : Env} {n : Nat} {names : List Nat} {vals vals' : List SVal} {more more' : St} {ids : List Nat} {a : Act} {w : World}
    (h : At [(0, 0)] w0 env (fr n names vals) (toS p f (madeP p) (madeP p).length ++ more) a w)
    (hn : nodupB ([0, 3, 4, 5, 6, 7, 8, 9, 2] ++ ids) = true) (hv : renL ([0, 3, 4, 5, 6, 7, 8, 9, 2] ++ ids) vals = vals')
    (hst : renSt ([0, 3, 4, 5, 6, 7, 8, 9, 2] ++ ids) (toS p f (madeP p) (madeP p).length ++ more) ([0, 3, 4, 5, 6, 7, 8, 9, 2] ++ ids) =
      some ([lookB, .own [.c (.sli 2 (.c 0) 1 (.c 3) (some (.c 3))), .c (.lit .i64 2)] 62, .own [.c (.int .u32 (setP 0 f)), .c (.int .u32 (setP 0 f)), .c (.lit .u32 0)] 23, .many encTk (madeP p) 70, machB (madeP p).length,
        .vec (encRow 0) (renRows ([0, 3, 4, 5, 6, 7, 8, 9, 2] ++ ids) (encT 37 5) (List.range (madeP p).length)) 80, .own [.a encBool (madeP p).length (List.replicate (madeP p).length false)] 4,
        .vec (encRow 0) (renRows ([0, 3, 4, 5, 6, 7, 8, 9, 2] ++ ids) (encP 5) (List.range (madeP p).length)) 37, .ro (encInt .i64) p.picks] ++ more')) :
    ∃ env', At [(0, 0)] w0 env' (fr n names vals') (mcS 3 (madeP p).length ⟨[f, f, 0], 2, madeP p, List.replicate (madeP p).length false⟩ ++ [.vec (encP 3) (List.range (madeP p).length) 37, .ro (encInt .i64) p.picks] ++ more') a w := by
  have h1 := h.perm ([0, 3, 4, 5, 6, 7, 8, 9, 2] ++ ids) hn (by rfl) hst hv
  have h2 := h1.retype 5 (E := encT 37 5) (m := [0, 3, 4, 5, 6, 7, 8, 9, 2] ++ ids) (xs := List.range (madeP p).length) rfl (encT 37 3) rfl (fun x => rfl)
  have h3 := h2.retype 7 (E := encP 5) (m := [0, 3, 4, 5, 6, 7, 8, 9, 2] ++ ids) (xs := List.range (madeP p).length) rfl (encP 3) rfl (fun x => rfl)
  have hs : setP 0 f = f := by rw [setP_ok]; omega
  have h4 := h3.segs 2 (l' := [.a (encInt .u32) 3 [f, f, 0]]) rfl (by intro s hs; rw [List.mem_singleton.1 hs]; rfl) (fun cs h => by simpa [segCells, Seg.cells, encInt, DenL, Den, hs] using h)
  exact ⟨_, h4.gen rfl⟩
end Go.Proofs.YthofahgnglfaeaaDoor

/- TicketOrder: its call, whole. -/
namespace Go.Proofs.YthofahgnglfaeaaDoor
open Go Go.Proofs.YthofahgnglfaeaaDoor.Sx
set_option linter.unusedVariables false
theorem noFoot3 {e0 e1 e2 : Slot} {p : In9} (x : Nat) (h : inFoot [e0, e1, e2] (s0 p) x) : False := by
  obtain ⟨id, e, b, he, hb, hx⟩ := h
  match id with
  | 0 => simp at hb; subst hb; cases hx
  | 1 => simp at hb; subst hb; cases hx
  | 2 => simp at hb; subst hb; cases hx
  | n + 3 => simp at hb
theorem ticketOrder_call {p : In9} {f : Int} (hf : 0 ≤ f ∧ f < 4294967296) {e0 e1 e2 : Slot} (he : e0.blk = 0 ∧ e0.off = 0) {w : World} {v v' : Value} (hr : Rep [e0, e1, e2] (s0 p) w) (hv : Den [e0, e1, e2] (timesV p 1) v) (hv' : Den [e0, e1, e2] (picksV p 2) v') :
    Calls Tryd.prog 4 ⟨[v, .int .u32 f, v']⟩ w (Said ⟨w, fun _ => False⟩) := by
  refine call_begin (c := cfgL p f) Tryd.func4 b4_eq (args := [timesV p 1, .int .u32 f, picksV p 2]) (by
    intro q hq
    rw [List.mem_singleton.1 hq]
    exact ⟨e0, rfl, he⟩) hr ⟨_, _, rfl, hv, _, _, rfl, by simp [Den], _, _, rfl, hv', rfl⟩ (F := fun _ => False) (fun x h => noFoot3 x h) ?_
  intro a hA
  refine pieceNT0 (c := cfgL p f) cfgL_ok 5 n4a t4_pre hA ?_
  refine all_eq ⟨rfl, rfl, trivial⟩ (all_eq rfl (all_ret fun env1 a1 w1 hA1 => ?_))
  simp only [Ex.to, Exit.then]
  obtain ⟨env2, hA2⟩ := to_law hf (ids := [10]) (more' := [.own [.c (.bl false), .c (.bl false), .c (.bl false), .c (.bl false), .c (.bl false), .c (.bl false)] 54]) hA1 (by kernel_rfl) rfl (by kernel_rfl)
  have hx := made_some p
  have hA3 := hA2.segs 9 (l' := [.a encBool 6 (List.replicate 6 false)]) rfl (by intro s hs; rw [List.mem_singleton.1 hs]; rfl) (fun cs h => by simpa [segCells, Seg.cells, encBool, DenL, Den, List.replicate_succ] using h)
  generalize hs0' : (⟨[f, f, 0], 2, madeP p, List.replicate (madeP p).length false⟩ : Mc) = s0' at hA3
  have hinv : Inv (madeP p).length (sumOf (madeP p)) [] f f 0 s0' := by rw [← hs0']; exact inv_start hf hx
  have hno : anyH (madeP p).length s0' = false := by rw [← hs0']; exact anyH_start hx rfl
  have hheld : ∀ k, k < (madeP p).length → (List.replicate 6 false).getD k false = holdB s0' k := by rw [← hs0']; exact held_start _ _ hx rfl
  generalize (madeP p).length = m at *
  refine (show c4.wp Tryd.prog (Q4 ⟨w, fun _ => False⟩) a1 w1 from wpS (by kernel_rfl) (wpS (by kernel_rfl) ?_))
  have hA4 : At [(0, 0)] ⟨w, fun _ => False⟩ env2 (fr 84 n4a (v4 p m f)) (s4 p m s0' (List.replicate 6 false)) a1 w1 := hA3
  refine pieceT0 (c := cfgW) cfgW_ok n4b t4_reg hA4 (all_ret fun env3 a3 w3 hA5 => ?_)
  simp only [Ex.to, Exit.then]
  have ht : turnOf m f s0' = f := by rw [turnOf, hno]; simp; omega
  have hA6 := hA5.gvals (v4 p m f ++ [SVal.int .i64 ((0 : Nat) : Int)]) rfl
  refine wpB 0 (by kernel_rfl) (wpL (by kernel_rfl) (Inv4 ⟨w, fun _ => False⟩ p m) (fun j => 200 - j.i) ⟨0, s0', List.replicate 6 false, f⟩ ⟨by simp, ⟨⟨_, _, _, _, hinv⟩, by simp, hheld⟩, env3, by simp only; rw [ht]; exact hA6⟩ ?_)
  intro j a w h
  exact round4_ok h
end Go.Proofs.YthofahgnglfaeaaDoor

/- Layer 9: how many are left; rounds: pieces. -/
namespace Go.Proofs.YthofahgnglfaeaaDoor
open Go Go.Proofs.YthofahgnglfaeaaDoor.Sx
set_option linter.unusedVariables false
/-- how many aren't done -/
def leftP (ds : List Bool) : Int := ((ds.filter fun b => !b).length : Nat)
noncomputable def b25 : Code := Tryd.f25.body.getD .skip
noncomputable def c25 : Code := restC 2 b25
noncomputable def reg25 : Code := lft (lft c25)
noncomputable def blk25 : Code := rgt (lft c25)
noncomputable def lp25 : Code := lft (lft blk25)
noncomputable def end25 : Code := rgt c25
abbrev n25a : List Nat := [0, 3]
abbrev n25b : List Nat := [3, 9, 10, 11]
abbrev v25 (m : Nat) (c k : Int) : List SVal := [.int .i64 c, .sli 6 (.c 0) 1 (.v m) (some (.v m)), .int .i64 (m : Nat), .int .i64 k]
end Go.Proofs.YthofahgnglfaeaaDoor

namespace Go.Proofs.YthofahgnglfaeaaDoor
open Go Go.Proofs.YthofahgnglfaeaaDoor.Sx
set_option linter.unusedVariables false
set_option maxRecDepth 100000 in
theorem t25_pre {n m : Nat} {s : Mc} : (execN cfgM 100 2 b25 ([.ptr 4 0] ++ List.replicate 20 .bad) (mcS n m s)).bind (canonK 7 [(0,0)] 21 n25a) =
 

 (.ret (.normal, [.ptr 4 0, .lit .i64 (0 : Int)], [.ro encLook [PUnit.unit], .own [.c (.sli 2 (.c 0) 1 (.v n) (some (.v n))), .c (.int .i64 s.2)] 62, .own [.a (encInt IntKind.u32) n s.1] 23, .many encTk s.3 70, .own [.c (.ptr 1 0), .c (.sli 5 (.c 0) 1 (.v m) none), .c (.sli 6 (.c 0) 1 (.v m) (some (.v m)))] 78, .vec (encT 37 3) (List.range m) 80, .own [.a encBool m s.4] 4])) := by kernel_rfl
set_option maxRecDepth 100000 in
theorem t25_reg {n m : Nat} {s : Mc} : (exec cfgM 100 reg25 (fr 21 n25a [.ptr 4 0, .lit .i64 0]) (mcS n m s)).bind (canonK 7 [(0,0)] 21 n25b) =
 

 (.ret (.normal, [.lit .i64 (0 : Int), .sli 6 (.c 0) 1 (.v m) (some (.v m)), .int .i64 (↑m : Int), .lit .i64 (0 : Int)], [.ro encLook [PUnit.unit], .own [.c (.sli 2 (.c 0) 1 (.v n) (some (.v n))), .c (.int .i64 s.2)] 62, .own [.a (encInt IntKind.u32) n s.1] 23, .many encTk s.3 70, .own [.c (.ptr 1 0), .c (.sli 5 (.c 0) 1 (.v m) none), .c (.sli 6 (.c 0) 1 (.v m) (some (.v m)))] 78, .vec (encT 37 3) (List.range m) 80, .own [.a encBool m s.4] 4])) := by kernel_rfl
set_option maxRecDepth 100000 in
theorem t25_lp {n m : Nat} {s : Mc} {c : Int} {k : Nat} : (exec cfgM 100 lp25 (fr 21 n25b (v25 m c (k : Nat))) (mcS n m s)).bind (canonK 7 [(0,0)] 21 n25b) =
 

 (.br (decide ((↑k : Int) < (↑m : Int)))

 (.need (decide ((0 : Int) ≤ (↑k : Int)) && decide ((↑k : Int).toNat < m))

 (.need (decide ((↑k : Int).toNat < m))

 (.br (!s.4.getD (↑k : Int).toNat false)

 (.need (inR .i64 (c + (1 : Int)))

 (.need (inR .i64 ((↑k : Int) + (1 : Int)))

 (.ret (.normal, [.int .i64 (c + (1 : Int)), .sli 6 (.c 0) 1 (.v m) (some (.v m)), .int .i64 (↑m : Int), .int .i64 ((↑k : Int) + (1 : Int))], [.ro encLook [PUnit.unit], .own [.c (.sli 2 (.c 0) 1 (.v n) (some (.v n))), .c (.int .i64 s.2)] 62, .own [.a (encInt IntKind.u32) n s.1] 23, .many encTk s.3 70, .own [.c (.ptr 1 0), .c (.sli 5 (.c 0) 1 (.v m) none), .c (.sli 6 (.c 0) 1 (.v m) (some (.v m)))] 78, .vec (encT 37 3) (List.range m) 80, .own [.a encBool m s.4] 4]))))

 (.need (inR .i64 ((↑k : Int) + (1 : Int)))

 (.ret (.normal, [.int .i64 c, .sli 6 (.c 0) 1 (.v m) (some (.v m)), .int .i64 (↑m : Int), .int .i64 ((↑k : Int) + (1 : Int))], [.ro encLook [PUnit.unit], .own [.c (.sli 2 (.c 0) 1 (.v n) (some (.v n))), .c (.int .i64 s.2)] 62, .own [.a (encInt IntKind.u32) n s.1] 23, .many encTk s.3 70, .own [.c (.ptr 1 0), .c (.sli 5 (.c 0) 1 (.v m) none), .c (.sli 6 (.c 0) 1 (.v m) (some (.v m)))] 78, .vec (encT 37 3) (List.range m) 80, .own [.a encBool m s.4] 4]))))))

 (.ret (.exit 0, [.int .i64 c, .sli 6 (.c 0) 1 (.v m) (some (.v m)), .int .i64 (↑m : Int), .int .i64 (↑k : Int)], [.ro encLook [PUnit.unit], .own [.c (.sli 2 (.c 0) 1 (.v n) (some (.v n))), .c (.int .i64 s.2)] 62, .own [.a (encInt IntKind.u32) n s.1] 23, .many encTk s.3 70, .own [.c (.ptr 1 0), .c (.sli 5 (.c 0) 1 (.v m) none), .c (.sli 6 (.c 0) 1 (.v m) (some (.v m)))] 78, .vec (encT 37 3) (List.range m) 80, .own [.a encBool m s.4] 4]))) := by kernel_rfl
set_option maxRecDepth 100000 in
theorem t25_end {n m : Nat} {s : Mc} {c : Int} {k : Nat} : (exec cfgM 100 end25 (fr 21 n25b (v25 m c (k : Nat))) (mcS n m s)).bind (canonK 7 [(0,0)] 21 [2]) =
 

 (.ret (.ret, [.int .i64 c], [.ro encLook [PUnit.unit], .own [.c (.sli 2 (.c 0) 1 (.v n) (some (.v n))), .c (.int .i64 s.2)] 62, .own [.a (encInt IntKind.u32) n s.1] 23, .many encTk s.3 70, .own [.c (.ptr 1 0), .c (.sli 5 (.c 0) 1 (.v m) none), .c (.sli 6 (.c 0) 1 (.v m) (some (.v m)))] 78, .vec (encT 37 3) (List.range m) 80, .own [.a encBool m s.4] 4])) := by kernel_rfl
end Go.Proofs.YthofahgnglfaeaaDoor

/- Layer 9: what a machine's Left comes to. -/
namespace Go.Proofs.YthofahgnglfaeaaDoor
open Go Go.Proofs.YthofahgnglfaeaaDoor.Sx
set_option linter.unusedVariables false
theorem b25_eq : Tryd.f25.body = some b25 := by kernel_rfl
theorem leftP_take {ds : List Bool} {k : Nat} (hk : k < ds.length) : leftP (ds.take (k + 1)) = leftP (ds.take k) + (if ds.getD k false then 0 else 1) := by
  unfold leftP
  rw [List.take_add_one, List.filter_append, List.length_append]
  have : ds[k]?.toList = [ds[k]] := by simp [hk]
  rw [this]
  have h2 : ds.getD k false = ds[k] := by simp [List.getD_eq_getElem?_getD, hk]
  rw [h2]
  cases ds[k] <;> simp
theorem leftP_le (ds : List Bool) : 0 ≤ leftP ds ∧ leftP ds ≤ ds.length := by
  unfold leftP
  have := List.length_filter_le (fun b => !b) ds
  omega
abbrev Q25 (env0 : Env) (n m : Nat) (s : Mc) (w0 : World) : Exit → Act → World → Prop := bodyPost Tryd.prog Tryd.f25 (Ends1 env0 (mcS n m s) w0 (.int .i64 (leftP s.ds)) (mcS n m s))
def Inv25 (env0 : Env) (n m : Nat) (s : Mc) (w0 : World) (k : Nat) (a : Act) (w : World) : Prop :=
  k ≤ m ∧ ∃ env, AtK env0 [(0, 0)] ⟨w0, inFoot env0 (mcS n m s)⟩ env (fr 21 n25b (v25 m (leftP (s.ds.take k)) (k : Nat))) (mcS n m s) a w
theorem left_call {n m : Nat} {s : Mc} (hd : s.ds.length = m) (hm : m ≤ 1000) :
    ∀ (env : Env) (w : World) (vs : List Value), GlOk cfgM.gl env → Rep env (mcS n m s) w → DenL env [.ptr 4 0] vs → Calls cfgM.P 25 ⟨vs⟩ w (Ends1 env (mcS n m s) w (.int .i64 (leftP s.ds)) (mcS n m s)) := by
  intro env w vs hg hr hdv
  have hb0 : env.length = 7 := hr.len
  refine AtK.begin (c := cfgM) Tryd.func25 b25_eq hg hr hdv fun a hA => ?_
  refine pieceNTK2 (c := cfgM) cfgM_ok 2 n25a (t25_pre (n := n) (m := m) (s := s)) (by omega) (by simp) hA ?_
  refine all_ret fun env1 a1 w1 hA1 => ?_
  simp only [Ex.to, Exit.then]
  refine (show c25.wp Tryd.prog (Q25 env n m s w) a1 w1 from wpS (by kernel_rfl) (wpS (by kernel_rfl) ?_))
  refine pieceTK2 (c := cfgM) cfgM_ok n25b (t25_reg (n := n) (m := m) (s := s)) (by omega) (by simp) hA1 ?_
  refine all_ret fun env2 a2 w2 hA2 => ?_
  simp only [Ex.to, Exit.then]
  have hA3 := hA2.on fun h => h.gvals (v25 m (leftP (s.ds.take 0)) ((0 : Nat) : Int)) rfl
  refine wpB 0 (by kernel_rfl) (wpL (by kernel_rfl) (Inv25 env n m s w) (fun k => m - k) 0 ⟨Nat.zero_le _, env2, hA3⟩ ?_)
  rintro k a w' ⟨hk, env3, hA⟩
  refine (show lp25.wp Tryd.prog _ a w' from ?_)
  refine pieceTK2 (c := cfgM) cfgM_ok n25b (t25_lp (n := n) (m := m) (s := s)) (by omega) (by simp) hA ?_
  have hle := leftP_le (s.ds.take k)
  have hlt : (s.ds.take k).length ≤ m := by simp; omega
  refine all_brp (by simp only [decide_eq_true_eq]; exact Iff.rfl) (fun h1 => ?_) (fun h1 => ?_)
  · have hk' : k < m := by omega
    have ht := leftP_take (ds := s.ds) (k := k) (by omega)
    simp only [Int.toNat_natCast]
    refine all_needq (by simp only [decide_eq_true_eq, Bool.and_eq_true]; exact Iff.rfl) (by omega) ?_
    refine all_needq (by simp only [decide_eq_true_eq]; exact Iff.rfl) (by omega) ?_
    have nx : ∀ {c' : Int}, leftP (s.ds.take (k + 1)) = c' → ∀ {env' a' w''}, AtK env [(0, 0)] ⟨w, inFoot env (mcS n m s)⟩ env' (fr 21 n25b (v25 m c' ((k : Int) + 1))) (mcS n m s) a' w'' → ∃ k', Inv25 env n m s w k' a' w'' ∧ m - k' < m - k := by
      intro c' hc env' a' w'' h
      subst hc
      exact ⟨k + 1, ⟨by omega, env', h⟩, by omega⟩
    refine all_br (fun hb => ?_) (fun hb => ?_)
    · have hb' : s.ds.getD k false = false := by simpa using hb
      rw [hb'] at ht
      refine all_needq (by simp only [inR_i64]; exact Iff.rfl) (by omega) ?_
      refine all_needq (by simp only [inR_i64]; exact Iff.rfl) (by omega) ?_
      exact all_ret fun _ _ _ h => nx (by simpa using ht) h
    · have hb' : s.ds.getD k false = true := by simpa using hb
      rw [hb'] at ht
      refine all_needq (by simp only [inR_i64]; exact Iff.rfl) (by omega) ?_
      exact all_ret fun _ _ _ h => nx (by simpa using ht) h
  · have hkm : k = m := by omega
    subst hkm
    refine all_ret fun env4 a4 w4 hA4 => ?_
    simp only [Ex.to, Exit.then, Exit.inBlock, if_true]
    rw [List.take_of_length_le (by omega)] at hA4
    refine (show end25.wp Tryd.prog (Q25 env n k s w) a4 w4 from ?_)
    refine pieceTK2 (c := cfgM) cfgM_ok [2] (t25_end (n := n) (m := k) (s := s)) (by omega) (by simp) hA4 ?_
    exact all_ret fun _ _ _ h => h.out (c := cfgM) (by kernel_rfl)
noncomputable def gLeft (n m : Nat) (s : Mc) (args : List SVal) (st : St) : T (SVal × St) := match args with
  | [.ptr 4 0] => .eq (st = mcS n m s ∧ s.ds.length = m ∧ m ≤ 1000) (.ret (.int .i64 (leftP s.ds), mcS n m s))
  | _ => .no 175
theorem gLeft_ok {n m : Nat} {s : Mc} (args : List SVal) (S : St) (v : SVal) (S' : St) (h : (gLeft n m s args S).at (v, S')) : PreOk cfgM 7 25 args S v S' := by
  unfold gLeft at h
  split at h
  · obtain ⟨⟨rfl, hd, hm⟩, h⟩ := h
    simp only [T.at, Prod.mk.injEq] at h
    obtain ⟨rfl, rfl⟩ := h
    exact ⟨left_call hd hm, rfl, rfl, mcS_ro, mcS_ren, rfl⟩
  · exact h.elim
/-- with a machine's picks, what is left of it, and memory -/
noncomputable def cfgR (n m : Nat) (s : Mc) : Cfg := { P := Tryd.prog, ex := exI, gl := [(0, 0)], sm := fun f => match f with | 23 => some (smPre 7 (gPick n m s)) | 25 => some (smPre 7 (gLeft n m s)) | 24 => some (smPre 3 gLoad) | _ => none }
theorem cfgR_ok {n m : Nat} {s : Mc} : SmOk (cfgR n m s) := by
  intro f g h
  simp only [cfgR] at h
  split at h
  · simp only [Option.some.injEq] at h; subst h
    exact smPre_ok (c := cfgM) (gl_lt (by omega)) gPick_ok
  · simp only [Option.some.injEq] at h; subst h
    exact smPre_ok (c := cfgM) (gl_lt (by omega)) gLeft_ok
  · simp only [Option.some.injEq] at h; subst h
    exact smPre_ok (c := cfgW) (gl_lt (by omega)) load_ok
  · cases h
end Go.Proofs.YthofahgnglfaeaaDoor

/- Layer 9: rounds: pieces. -/
namespace Go.Proofs.YthofahgnglfaeaaDoor
open Go Go.Proofs.YthofahgnglfaeaaDoor.Sx
set_option linter.unusedVariables false
noncomputable def b26 : Code := Tryd.f26.body.getD .skip
noncomputable def blk26 : Code := lft (restC 2 b26)
noncomputable def end26 : Code := rgt (restC 2 b26)
noncomputable def lp26 : Code := lft (lft blk26)
noncomputable def tm26 : Code := lft lp26
noncomputable def bb26 : Code := lft (rgt lp26)
noncomputable def r26 : Code := lft (lft bb26)
noncomputable def blk26k : Code := rgt (lft bb26)
noncomputable def lp26k : Code := lft (lft blk26k)
noncomputable def inc26 : Code := rgt bb26
abbrev n26a : List Nat := [0, 1, 5]
abbrev n26b : List Nat := [0, 1, 5, 18, 19, 20]
abbrev v26 (most n : Int) : List SVal := [.ptr 4 0, .int .i64 most, .int .i64 n]
abbrev v26k (most n : Int) (m : Nat) (k : Int) : List SVal := v26 most n ++ [.sli 5 (.c 0) 1 (.v m) none, .int .i64 (m : Nat), .int .i64 k]
end Go.Proofs.YthofahgnglfaeaaDoor

namespace Go.Proofs.YthofahgnglfaeaaDoor
open Go Go.Proofs.YthofahgnglfaeaaDoor.Sx
set_option linter.unusedVariables false
set_option maxRecDepth 100000 in
theorem t26_pre {n m : Nat} {s : Mc} {most : Int} : (execN cfgM 100 2 b26 ([.ptr 4 0, .int .i64 most] ++ List.replicate 28 .bad) (mcS n m s)).bind (canonK 7 [(0,0)] 30 n26a) =
 

 (.ret (.normal, [.ptr 4 0, .int .i64 most, .lit .i64 (0 : Int)], [.ro encLook [PUnit.unit], .own [.c (.sli 2 (.c 0) 1 (.v n) (some (.v n))), .c (.int .i64 s.2)] 62, .own [.a (encInt IntKind.u32) n s.1] 23, .many encTk s.3 70, .own [.c (.ptr 1 0), .c (.sli 5 (.c 0) 1 (.v m) none), .c (.sli 6 (.c 0) 1 (.v m) (some (.v m)))] 78, .vec (encT 37 3) (List.range m) 80, .own [.a encBool m s.4] 4])) := by kernel_rfl
set_option maxRecDepth 100000 in
theorem t26_tm {n m : Nat} {s : Mc} {most : Int} {r : Nat} : (exec (cfgR n m s) 100 tm26 (fr 30 n26a (v26 most (r : Nat))) (mcS n m s)).bind (canonK 7 [(0,0)] 30 n26a) =
 

 (.br (decide ((↑r : Int) < most))

 (.eq ([Blk.ro encLook [PUnit.unit], .own [.c (.sli 2 (.c 0) 1 (.v n) (some (.v n))), .c (.int .i64 s.2)] 62, .own [.a (encInt IntKind.u32) n s.1] 23, .many encTk s.3 70, .own [.c (.ptr 1 0), .c (.sli 5 (.c 0) 1 (.v m) none), .c (.sli 6 (.c 0) 1 (.v m) (some (.v m)))] 78, .vec (encT 37 3) (List.range m) 80, .own [.a encBool m s.4] 4] = [Blk.ro encLook [PUnit.unit], .own [.c (.sli 2 (.c 0) 1 (.v n) (some (.v n))), .c (.int .i64 s.2)] 62, .own [.a (encInt IntKind.u32) n s.1] 23, .many encTk s.3 70, .own [.c (.ptr 1 0), .c (.sli 5 (.c 0) 1 (.v m) none), .c (.sli 6 (.c 0) 1 (.v m) (some (.v m)))] 78, .vec (encT 37 3) (List.range m) 80, .own [.a encBool m s.4] 4] ∧ s.4.length = m ∧ m ≤ 1000)

 (.br (decide ((0 : Int) < leftP s.4))

 (.ret (.normal, [.ptr 4 0, .int .i64 most, .int .i64 (↑r : Int)], [.ro encLook [PUnit.unit], .own [.c (.sli 2 (.c 0) 1 (.v n) (some (.v n))), .c (.int .i64 s.2)] 62, .own [.a (encInt IntKind.u32) n s.1] 23, .many encTk s.3 70, .own [.c (.ptr 1 0), .c (.sli 5 (.c 0) 1 (.v m) none), .c (.sli 6 (.c 0) 1 (.v m) (some (.v m)))] 78, .vec (encT 37 3) (List.range m) 80, .own [.a encBool m s.4] 4]))

 (.ret (.exit 0, [.ptr 4 0, .int .i64 most, .int .i64 (↑r : Int)], [.ro encLook [PUnit.unit], .own [.c (.sli 2 (.c 0) 1 (.v n) (some (.v n))), .c (.int .i64 s.2)] 62, .own [.a (encInt IntKind.u32) n s.1] 23, .many encTk s.3 70, .own [.c (.ptr 1 0), .c (.sli 5 (.c 0) 1 (.v m) none), .c (.sli 6 (.c 0) 1 (.v m) (some (.v m)))] 78, .vec (encT 37 3) (List.range m) 80, .own [.a encBool m s.4] 4]))))

 (.ret (.exit 0, [.ptr 4 0, .int .i64 most, .int .i64 (↑r : Int)], [.ro encLook [PUnit.unit], .own [.c (.sli 2 (.c 0) 1 (.v n) (some (.v n))), .c (.int .i64 s.2)] 62, .own [.a (encInt IntKind.u32) n s.1] 23, .many encTk s.3 70, .own [.c (.ptr 1 0), .c (.sli 5 (.c 0) 1 (.v m) none), .c (.sli 6 (.c 0) 1 (.v m) (some (.v m)))] 78, .vec (encT 37 3) (List.range m) 80, .own [.a encBool m s.4] 4]))) := by kernel_rfl
set_option maxRecDepth 100000 in
theorem t26_r {n m : Nat} {s : Mc} {most : Int} {r : Nat} : (exec cfgM 100 r26 (fr 30 n26a (v26 most (r : Nat))) (mcS n m s)).bind (canonK 7 [(0,0)] 30 n26b) =
 

 (.ret (.normal, [.ptr 4 0, .int .i64 most, .int .i64 (↑r : Int), .sli 5 (.c 0) 1 (.v m) none, .int .i64 (↑m : Int), .lit .i64 (0 : Int)], [.ro encLook [PUnit.unit], .own [.c (.sli 2 (.c 0) 1 (.v n) (some (.v n))), .c (.int .i64 s.2)] 62, .own [.a (encInt IntKind.u32) n s.1] 23, .many encTk s.3 70, .own [.c (.ptr 1 0), .c (.sli 5 (.c 0) 1 (.v m) none), .c (.sli 6 (.c 0) 1 (.v m) (some (.v m)))] 78, .vec (encT 37 3) (List.range m) 80, .own [.a encBool m s.4] 4])) := by kernel_rfl
set_option maxRecDepth 100000 in
theorem t26_in {n m : Nat} {s : Mc} {most : Int} {r k : Nat} : (exec (cfgR n m s) 100 lp26k (fr 30 n26b (v26k most (r : Nat) m (k : Nat))) (mcS n m s)).bind (canonK 7 [(0,0)] 30 n26b) =
 

 (.br (decide ((↑k : Int) < (↑m : Int)))

 (.eq ([Blk.ro encLook [PUnit.unit], .own [.c (.sli 2 (.c 0) 1 (.v n) (some (.v n))), .c (.int .i64 s.2)] 62, .own [.a (encInt IntKind.u32) n s.1] 23, .many encTk s.3 70, .own [.c (.ptr 1 0), .c (.sli 5 (.c 0) 1 (.v m) none), .c (.sli 6 (.c 0) 1 (.v m) (some (.v m)))] 78, .vec (encT 37 3) (List.range m) 80, .own [.a encBool m s.4] 4] = [Blk.ro encLook [PUnit.unit], .own [.c (.sli 2 (.c 0) 1 (.v n) (some (.v n))), .c (.int .i64 s.2)] 62, .own [.a (encInt IntKind.u32) n s.1] 23, .many encTk s.3 70, .own [.c (.ptr 1 0), .c (.sli 5 (.c 0) 1 (.v m) none), .c (.sli 6 (.c 0) 1 (.v m) (some (.v m)))] 78, .vec (encT 37 3) (List.range m) 80, .own [.a encBool m s.4] 4] ∧ McOk n m s)

 (.need (inR .i64 ((↑k : Int) + (1 : Int)))

 (.ret (.normal, [.ptr 4 0, .int .i64 most, .int .i64 (↑r : Int), .sli 5 (.c 0) 1 (.v m) none, .int .i64 (↑m : Int), .int .i64 ((↑k : Int) + (1 : Int))], [.ro encLook [PUnit.unit], .own [.c (.sli 2 (.c 0) 1 (.v n) (some (.v n))), .c (.int .i64 (pickP m s (↑k : Int)).c)] 62, .own [.a (encInt IntKind.u32) n (pickP m s (↑k : Int)).l] 23, .many encTk (pickP m s (↑k : Int)).xs 70, .own [.c (.ptr 1 0), .c (.sli 5 (.c 0) 1 (.v m) none), .c (.sli 6 (.c 0) 1 (.v m) (some (.v m)))] 78, .vec (encT 37 3) (List.range m) 80, .own [.a encBool m (pickP m s (↑k : Int)).ds] 4]))))

 (.ret (.exit 2, [.ptr 4 0, .int .i64 most, .int .i64 (↑r : Int), .sli 5 (.c 0) 1 (.v m) none, .int .i64 (↑m : Int), .int .i64 (↑k : Int)], [.ro encLook [PUnit.unit], .own [.c (.sli 2 (.c 0) 1 (.v n) (some (.v n))), .c (.int .i64 s.2)] 62, .own [.a (encInt IntKind.u32) n s.1] 23, .many encTk s.3 70, .own [.c (.ptr 1 0), .c (.sli 5 (.c 0) 1 (.v m) none), .c (.sli 6 (.c 0) 1 (.v m) (some (.v m)))] 78, .vec (encT 37 3) (List.range m) 80, .own [.a encBool m s.4] 4]))) := by kernel_rfl
set_option maxRecDepth 100000 in
theorem t26_inc {n m : Nat} {s : Mc} {most : Int} {r : Nat} : (exec cfgM 100 inc26 (fr 30 n26a (v26 most (r : Nat))) (mcS n m s)).bind (canonK 7 [(0,0)] 30 n26a) =
 

 (.need (inR .i64 ((↑r : Int) + (1 : Int)))

 (.ret (.normal, [.ptr 4 0, .int .i64 most, .int .i64 ((↑r : Int) + (1 : Int))], [.ro encLook [PUnit.unit], .own [.c (.sli 2 (.c 0) 1 (.v n) (some (.v n))), .c (.int .i64 s.2)] 62, .own [.a (encInt IntKind.u32) n s.1] 23, .many encTk s.3 70, .own [.c (.ptr 1 0), .c (.sli 5 (.c 0) 1 (.v m) none), .c (.sli 6 (.c 0) 1 (.v m) (some (.v m)))] 78, .vec (encT 37 3) (List.range m) 80, .own [.a encBool m s.4] 4]))) := by kernel_rfl
set_option maxRecDepth 100000 in
theorem t26_end {n m : Nat} {s : Mc} {most : Int} {r : Nat} : (exec cfgM 100 end26 (fr 30 n26a (v26 most (r : Nat))) (mcS n m s)).bind (canonK 7 [(0,0)] 30 [4]) =
 

 (.ret (.ret, [.int .i64 (↑r : Int)], [.ro encLook [PUnit.unit], .own [.c (.sli 2 (.c 0) 1 (.v n) (some (.v n))), .c (.int .i64 s.2)] 62, .own [.a (encInt IntKind.u32) n s.1] 23, .many encTk s.3 70, .own [.c (.ptr 1 0), .c (.sli 5 (.c 0) 1 (.v m) none), .c (.sli 6 (.c 0) 1 (.v m) (some (.v m)))] 78, .vec (encT 37 3) (List.range m) 80, .own [.a encBool m s.4] 4])) := by kernel_rfl
end Go.Proofs.YthofahgnglfaeaaDoor

/- Layer 9: what a machine's Round comes to. -/
namespace Go.Proofs.YthofahgnglfaeaaDoor
open Go Go.Proofs.YthofahgnglfaeaaDoor.Sx
set_option linter.unusedVariables false
/-- the first picks of a round -/
def passP (m : Nat) (s : Mc) : Nat → Mc
  | 0 => s
  | k + 1 => pickP m (passP m s k) (k : Nat)
/-- how many rounds there are, at most so many -/
def stopP (m : Nat) : Mc → Nat → Nat
  | _, 0 => 0
  | s, f + 1 => if leftP s.ds = 0 then 0 else stopP m (passP m s m) f + 1
/-- what they leave -/
def endP (m : Nat) : Mc → Nat → Mc
  | s, 0 => s
  | s, f + 1 => if leftP s.ds = 0 then s else endP m (passP m s m) f
theorem tk_step {t : Tk} (h : TkOk t) (l : List Int) : TkOk (tkP t l) := by
  obtain ⟨a, c, tm, ph, tk, v⟩ := t
  obtain ⟨h1, h2, h3⟩ := h
  simp only at h1 h2 h3
  unfold tkP stepP
  by_cases ht : tm < 1
  · simp only [ht, if_true]; exact ⟨h1, h2, h3⟩
  · simp only [ht, if_false]
    split <;> (try split) <;> (try split) <;> first | exact ⟨h1, h2, h3⟩ | (refine ⟨h1, ?_, ?_⟩ <;> simp only <;> omega)
theorem ok_pick {n m : Nat} {s : Mc} (h : McOk n m s) (i : Int) : McOk n m (pickP m s i) := by
  unfold pickP
  split
  · rename_i hb
    have hb := (inP_iff _ _).1 hb
    split
    · exact h
    · refine ⟨by simp only [wordsP]; rw [step_len]; exact h.l, by simp [h.xs], by simp [h.ds], fun j hj => ?_⟩
      by_cases hji : j = i.toNat
      · subst hji
        show TkOk ((s.xs.set i.toNat _).getD i.toNat encTk.dflt)
        rw [Sx.getD_set_self (by rw [h.xs]; omega)]
        exact tk_step (h.tk _ (by omega)) _
      · show TkOk ((s.xs.set i.toNat _).getD j encTk.dflt)
        rw [Sx.getD_set_ne (fun e => hji e.symm)]
        exact h.tk j hj
  · exact h
theorem ok_pass {n m : Nat} {s : Mc} (h : McOk n m s) : ∀ k, McOk n m (passP m s k)
  | 0 => h
  | k + 1 => ok_pick (ok_pass h k) _
theorem stopP_le (m : Nat) : ∀ (f : Nat) (s : Mc), stopP m s f ≤ f
  | 0, s => by simp [stopP]
  | f + 1, s => by
    simp only [stopP]
    split
    · omega
    · have := stopP_le m f (passP m s m); omega
theorem b26_eq : Tryd.f26.body = some b26 := by kernel_rfl
abbrev Q26 (env0 : Env) (n m : Nat) (s0 : Mc) (most : Int) (w0 : World) : Exit → Act → World → Prop := bodyPost Tryd.prog Tryd.f26 (Ends1 env0 (mcS n m s0) w0 (.int .i64 (stopP m s0 most.toNat : Nat)) (mcS n m (endP m s0 most.toNat)))
structure Ix26 where
  r : Nat
  s : Mc
def Inv26 (env0 : Env) (n m : Nat) (s0 : Mc) (most : Int) (w0 : World) (j : Ix26) (a : Act) (w : World) : Prop :=
  (j.r ≤ most.toNat ∧ McOk n m j.s ∧ stopP m s0 most.toNat = j.r + stopP m j.s (most.toNat - j.r) ∧ endP m s0 most.toNat = endP m j.s (most.toNat - j.r)) ∧
  ∃ env, AtK env0 [(0, 0)] ⟨w0, inFoot env0 (mcS n m s0)⟩ env (fr 30 n26a (v26 most (j.r : Nat))) (mcS n m j.s) a w
def Inv26k (env0 : Env) (n m : Nat) (s0 : Mc) (most : Int) (w0 : World) (r : Nat) (s : Mc) (k : Nat) (a : Act) (w : World) : Prop :=
  k ≤ m ∧ ∃ env, AtK env0 [(0, 0)] ⟨w0, inFoot env0 (mcS n m s0)⟩ env (fr 30 n26b (v26k most (r : Nat) m (k : Nat))) (mcS n m (passP m s k)) a w
theorem AtKfew {base : Env} {gl : List (Nat × Nat)} {w0 : From} {env : Env} {n : Nat} {names extra : List Nat} {vals ev : List SVal} {st : St} {a : Act} {w : World} (h : AtK base gl w0 env (fr n (names ++ extra) (vals ++ ev)) st a w) (hl : names.length = vals.length) :
    AtK base gl w0 env (fr n names vals) st a w := ⟨h.at'.few hl, h.more⟩
theorem round_call {n m : Nat} {s : Mc} (hs : McOk n m s) (hm : m ≤ 1000) {most : Int} (hmost : most ≤ 1000000) :
    ∀ (env : Env) (w : World) (vs : List Value), GlOk cfgM.gl env → Rep env (mcS n m s) w → DenL env [.ptr 4 0, .int .i64 most] vs →
      Calls cfgM.P 26 ⟨vs⟩ w (Ends1 env (mcS n m s) w (.int .i64 (stopP m s most.toNat : Nat)) (mcS n m (endP m s most.toNat))) := by
  intro env w vs hg hr hdv
  have hb0 : env.length = 7 := hr.len
  refine AtK.begin (c := cfgM) Tryd.func26 b26_eq hg hr hdv fun a hA => ?_
  refine pieceNTK2 (c := cfgM) cfgM_ok 2 n26a (t26_pre (n := n) (m := m) (s := s)) (by omega) (by simp) hA ?_
  refine all_ret fun env1 a1 w1 hA1 => ?_
  simp only [Ex.to, Exit.then]
  refine (show (restC 2 b26).wp Tryd.prog (Q26 env n m s most w) a1 w1 from wpS (by kernel_rfl) ?_)
  have hA2 := hA1.on fun h => h.gvals (v26 most ((0 : Nat) : Int)) rfl
  refine wpB 0 (by kernel_rfl) (wpL (by kernel_rfl) (Inv26 env n m s most w) (fun j => most.toNat - j.r) ⟨0, s⟩ ⟨⟨Nat.zero_le _, hs, by simp, by simp⟩, env1, hA2⟩ ?_)
  rintro ⟨r, s1⟩ a w' ⟨⟨hr', ok, e1, e2⟩, env3, hA⟩
  simp only at hr' ok e1 e2 hA ⊢
  have out : (most.toNat = r ∨ leftP s1.ds = 0) → ∀ {env' : Env} {a' : Act} {w'' : World}, AtK env [(0, 0)] ⟨w, inFoot env (mcS n m s)⟩ env' (fr 30 n26a (v26 most (r : Nat))) (mcS n m s1) a' w'' → end26.wp Tryd.prog (Q26 env n m s most w) a' w'' := by
    intro hc env' a' w'' h
    have hz : stopP m s1 (most.toNat - r) = 0 ∧ endP m s1 (most.toNat - r) = s1 := by
      rcases hc with hc | hc
      · rw [hc, Nat.sub_self]; exact ⟨rfl, rfl⟩
      · cases most.toNat - r with
        | zero => exact ⟨rfl, rfl⟩
        | succ f => simp [stopP, endP, hc]
    refine pieceTK2 (c := cfgM) cfgM_ok [4] (t26_end (n := n) (m := m) (s := s1)) (by omega) (by simp) h ?_
    refine all_ret fun envZ aZ wZ h => ?_
    have h' : AtK env [(0, 0)] ⟨w, inFoot env (mcS n m s)⟩ envZ (fr 30 [4] [.int .i64 (stopP m s most.toNat : Nat)]) (mcS n m (endP m s most.toNat)) aZ wZ := by
      rw [e1, e2, hz.1, hz.2]; exact h
    exact h'.out (c := cfgM) (by kernel_rfl)
  refine (show lp26.wp Tryd.prog _ a w' from wpS (by kernel_rfl) ?_)
  refine pieceTK2 (c := cfgR n m s1) cfgR_ok n26a (t26_tm (n := n) (m := m) (s := s1)) (by omega) (by simp) hA ?_
  refine all_brp (by simp only [decide_eq_true_eq]; exact Iff.rfl) (fun h1 => ?_) (fun h1 => all_ret fun _ _ _ h => by
    simp only [Ex.to, Exit.then, Exit.inBlock, if_true]
    exact out (by omega) h)
  refine all_eq ⟨rfl, ok.ds, hm⟩ ?_
  refine all_brp (by simp only [decide_eq_true_eq]; exact Iff.rfl) (fun h2 => all_ret fun env4 a4 w4 hA4 => ?_) (fun h2 => all_ret fun _ _ _ h => by
    simp only [Ex.to, Exit.then, Exit.inBlock, if_true]
    have := leftP_le s1.ds
    exact out (.inr (by omega)) h)
  refine (show (rgt lp26).wp Tryd.prog _ a4 w4 from wpB 1 (by kernel_rfl) ?_)
  refine (show bb26.wp Tryd.prog _ a4 w4 from wpS (by kernel_rfl) (wpS (by kernel_rfl) ?_))
  refine pieceTK2 (c := cfgM) cfgM_ok n26b (t26_r (n := n) (m := m) (s := s1)) (by omega) (by simp) hA4 ?_
  refine all_ret fun env5 a5 w5 hA5 => ?_
  simp only [Ex.to, Exit.then]
  have hA6 := hA5.on fun h => h.gvals (v26k most (r : Nat) m ((0 : Nat) : Int)) rfl
  refine wpB 2 (by kernel_rfl) (wpL (by kernel_rfl) (Inv26k env n m s most w r s1) (fun k => m - k) 0 ⟨Nat.zero_le _, env5, hA6⟩ ?_)
  rintro k a6 w6 ⟨hk, env7, hA7⟩
  refine (show lp26k.wp Tryd.prog _ a6 w6 from ?_)
  refine pieceTK2 (c := cfgR n m (passP m s1 k)) cfgR_ok n26b (t26_in (n := n) (m := m) (s := passP m s1 k)) (by omega) (by simp) hA7 ?_
  refine all_brp (by simp only [decide_eq_true_eq]; exact Iff.rfl) (fun h3 => ?_) (fun h3 => ?_)
  · refine all_eq ⟨rfl, ok_pass ok k⟩ ?_
    refine all_needq (by simp only [inR_i64]; exact Iff.rfl) (by omega) ?_
    refine all_ret fun env8 a8 w8 hA8 => ?_
    exact ⟨k + 1, ⟨by omega, env8, hA8⟩, by omega⟩
  · have hkm : k = m := by omega
    subst hkm
    refine all_ret fun env8 a8 w8 hA8 => ?_
    simp only [Ex.to, Exit.then, Exit.inBlock, if_true]
    have hA9 := AtKfew (names := n26a) (extra := [18, 19, 20]) (vals := v26 most (r : Nat)) (ev := [.sli 5 (.c 0) 1 (.v k) none, .int .i64 (k : Nat), .int .i64 (k : Nat)]) hA8 rfl
    refine (show inc26.wp Tryd.prog _ a8 w8 from ?_)
    refine pieceTK2 (c := cfgM) cfgM_ok n26a (t26_inc (n := n) (m := k) (s := passP k s1 k)) (by omega) (by simp) hA9 ?_
    refine all_needq (by simp only [inR_i64]; exact Iff.rfl) (by omega) ?_
    refine all_ret fun env10 a10 w10 hA10 => ?_
    have hlt : r < most.toNat := by omega
    have hsub : most.toNat - r = (most.toNat - (r + 1)) + 1 := by omega
    have hne : ¬ leftP s1.ds = 0 := by omega
    refine ⟨⟨r + 1, passP k s1 k⟩, ⟨⟨by simp only; omega, ok_pass ok k, ?_, ?_⟩, env10, hA10⟩, by simp only; omega⟩
    · simp only; rw [e1, hsub, stopP, if_neg hne]; omega
    · simp only; rw [e2, hsub, endP, if_neg hne]
noncomputable def gRound (n m : Nat) (s : Mc) (args : List SVal) (st : St) : T (SVal × St) := match args with
  | [.ptr 4 0, a] => match asI a with
    | some (.i64, most, _) => .eq (st = mcS n m s ∧ McOk n m s ∧ m ≤ 1000 ∧ most ≤ 1000000) (.ret (.int .i64 (stopP m s most.toNat : Nat), mcS n m (endP m s most.toNat)))
    | _ => .no 176
  | _ => .no 177
theorem gRound_ok {n m : Nat} {s : Mc} (args : List SVal) (S : St) (v : SVal) (S' : St) (h : (gRound n m s args S).at (v, S')) : PreOk cfgM 7 26 args S v S' := by
  unfold gRound at h
  split at h
  · rename_i a
    split at h
    · rename_i most la h1
      obtain ⟨⟨rfl, hs, hm, hmost⟩, h⟩ := h
      simp only [T.at, Prod.mk.injEq] at h
      obtain ⟨rfl, rfl⟩ := h
      refine ⟨fun env w vs hg hr hd => ?_, rfl, rfl, mcS_ro, mcS_ren, by simp only [renL, asI_ren h1]; rfl⟩
      obtain ⟨u, us, rfl, h4, u2, us2, rfl, h5, rfl⟩ := hd
      exact round_call hs hm hmost env w _ hg hr ⟨_, _, rfl, h4, _, _, rfl, asI_int h1 h5, rfl⟩
    · exact h.elim
  · exact h.elim
/-- with rounds alone -/
noncomputable def cfgS (n m : Nat) (s : Mc) : Cfg := { P := Tryd.prog, ex := exI, gl := [(0, 0)], sm := fun f => match f with | 26 => some (smPre 7 (gRound n m s)) | _ => none }
theorem cfgS_ok {n m : Nat} {s : Mc} : SmOk (cfgS n m s) := by
  intro f g h
  simp only [cfgS] at h
  split at h
  · simp only [Option.some.injEq] at h; subst h
    exact smPre_ok (c := cfgM) (gl_lt (by omega)) gRound_ok
  · cases h
end Go.Proofs.YthofahgnglfaeaaDoor

/- Layer 9, plain: rounds bring everyone to the end. -/
namespace Go.Proofs.YthofahgnglfaeaaDoor
open Go Go.Proofs.YthofahgnglfaeaaDoor.Sx
set_option linter.unusedVariables false
def hp (q : List Nat) (s : Mc) : Int := match q with | [] => 0 | i :: _ => ((tkAt s i).phase : Nat)
/-- what is still to do -/
def mu (q : List Nat) (s : Mc) : Int := 5 * sumOf s.xs - hp q s
/-- whose pick is a step on -/
def Ripe (q : List Nat) (s : Mc) (i : Nat) : Prop := q.head? = some i ∨ (q = [] ∧ (tkAt s i).times ≠ 0)
theorem Inv.sum_nn {m : Nat} {sum : Int} {q : List Nat} {N S C : Int} {s : Mc} (h : Inv m sum q N S C s) : 0 ≤ sumOf s.xs :=
  sumOf_nn (xs := s.xs) fun i hi => (h.plain i (by rw [← h.xs]; exact hi)).times.1
theorem sumOf_ge {xs : List Tk} (h : ∀ i, i < xs.length → 0 ≤ (xs.getD i encTk.dflt).times) {i : Nat} (hi : i < xs.length) : (xs.getD i encTk.dflt).times ≤ sumOf xs := by
  induction xs generalizing i with
  | nil => simp at hi
  | cons x xs ih =>
    have h0 := h 0 (by simp)
    have hr : ∀ j, j < xs.length → 0 ≤ (xs.getD j encTk.dflt).times := fun j hj => by simpa using h (j + 1) (by simpa using hj)
    have hs := sumOf_nn hr
    cases i with
    | zero => simp [sumOf] at h0 hs ⊢; omega
    | succ i =>
      have := ih hr (i := i) (by simpa using hi)
      simp [sumOf] at h0 this ⊢; omega
theorem Inv.times_le {m : Nat} {sum : Int} {q : List Nat} {N S C : Int} {s : Mc} (h : Inv m sum q N S C s) {i : Nat} (hi : i < m) : (tkAt s i).times ≤ sumOf s.xs :=
  sumOf_ge (fun i hi => (h.plain i (by rw [← h.xs]; exact hi)).times.1) (by rw [h.xs]; exact hi)
theorem Inv.mu_nn {m : Nat} {sum : Int} {q : List Nat} {N S C : Int} {s : Mc} (h : Inv m sum q N S C s) : 0 ≤ mu q s := by
  have h0 := h.sum_nn
  unfold mu hp
  cases q with
  | nil => simp only; omega
  | cons i r =>
    simp only
    obtain ⟨hi, h1⟩ := (h.mem i).1 List.mem_cons_self
    have hpl := h.plain i hi
    have h2 := h.times_le hi
    have h3 := hpl.phase
    have h4 := hpl.times
    have h5 : (tkAt s i).times ≠ 0 := fun e => by have := hpl.none e; omega
    omega
theorem Inv.ripe {m : Nat} {sum : Int} {q : List Nat} {N S C : Int} {s : Mc} (h : Inv m sum q N S C s) (h0 : 0 < sumOf s.xs) : ∃ i, i < m ∧ Ripe q s i := by
  cases q with
  | cons i r => exact ⟨i, ((h.mem i).1 List.mem_cons_self).1, .inl rfl⟩
  | nil =>
    refine Classical.byContradiction fun hn => ?_
    have hz : ∀ i, i < s.xs.length → (s.xs.getD i encTk.dflt).times = 0 := by
      intro i hi
      refine Classical.byContradiction fun hne => hn ⟨i, by rw [← h.xs]; exact hi, .inr ⟨rfl, hne⟩⟩
    have : sumOf s.xs = 0 := by
      have go : ∀ xs : List Tk, (∀ i, i < xs.length → (xs.getD i encTk.dflt).times = 0) → sumOf xs = 0 := by
        intro xs
        induction xs with
        | nil => intro _; rfl
        | cons x xs ih =>
          intro hz
          have h1 := hz 0 (by simp)
          have h2 := ih fun i hi => by simpa using hz (i + 1) (by simpa using hi)
          simp [sumOf] at h1 h2 ⊢; omega
      exact go _ hz
    omega
theorem hp_cons {i : Nat} {r : List Nat} {s : Mc} : hp (i :: r) s = ((tkAt s i).phase : Nat) := rfl
theorem head_cons {q : List Nat} {i : Nat} (h : q.head? = some i) : ∃ r, q = i :: r := by
  cases q with
  | nil => simp at h
  | cons a r => simp at h; exact ⟨r, by rw [h]⟩
theorem live_did {m : Nat} {sum : Int} {q q' : List Nat} {N S C N' S' C' : Int} {s s' : Mc} {j : Nat} (h : Inv m sum q N S C s) (hj : j < m) (h' : Inv m sum q' N' S' C' s') (hd : Did m s s' j q N S C q' N' S' C') :
    mu q' s' ≤ mu q s ∧ ∀ i, Ripe q s i → mu q' s' < mu q s ∨ (j ≠ i ∧ Ripe q' s' i) := by
  have hxl : s'.xs.length = s.xs.length := by rw [h.xs, h'.xs]
  have sameSum : (∀ k, (tkAt s' k).times = (tkAt s k).times) → sumOf s'.xs = sumOf s.xs := fun ht => by
    have go : ∀ {xs ys : List Tk}, xs.length = ys.length → (∀ j, (xs.getD j encTk.dflt).times = (ys.getD j encTk.dflt).times) → sumOf xs = sumOf ys := by
      intro xs
      induction xs with
      | nil => intro ys hl _; cases ys <;> simp_all
      | cons x xs ih =>
        intro ys hl hh
        cases ys with
        | nil => simp at hl
        | cons y ys =>
          have h0 := hh 0
          have h1 := ih (ys := ys) (by simpa using hl) fun j => by simpa using hh (j + 1)
          simp [sumOf] at h0 h1 ⊢; omega
    exact go hxl ht
  cases hd with
  | none _ _ _ _ ht hl hx hd' =>
    have e1 : sumOf s'.xs = sumOf s.xs := sameSum fun k => by rw [hx]
    have e2 : hp q s' = hp q s := by
      cases q with
      | nil => rfl
      | cons a r => rw [hp_cons, hp_cons, hx]
    refine ⟨by unfold mu; omega, fun i hr => .inr ⟨?_, ?_⟩⟩
    · intro e; subst e
      rcases hr with hr | ⟨_, hr⟩
      · obtain ⟨r, rfl⟩ := head_cons hr
        have := (h.mem j).1 List.mem_cons_self
        have := (h.plain j hj).none ht
        omega
      · exact hr ht
    · rcases hr with hr | ⟨h1, hr⟩
      · exact .inl hr
      · exact .inr ⟨h1, by rw [hx]; exact hr⟩
  | draw _ _ _ _ ht hph hx hd' =>
    have e1 : sumOf s'.xs = sumOf s.xs := sameSum fun k => by rw [hx]; split <;> simp_all
    cases q with
    | nil =>
      have e2 : hp ([] ++ [j]) s' = 1 := by
        rw [List.nil_append, hp_cons, hx, if_pos rfl]; rfl
      have e3 : hp [] s = 0 := rfl
      exact ⟨by unfold mu; omega, fun i hr => .inl (by unfold mu; omega)⟩
    | cons a r =>
      have hja : j ≠ a := fun e => by
        subst e
        have := (h.mem j).1 List.mem_cons_self
        omega
      have e2 : hp ((a :: r) ++ [j]) s' = hp (a :: r) s := by
        rw [List.cons_append, hp_cons, hp_cons, hx, if_neg fun e => hja e.symm]
      refine ⟨by unfold mu; omega, fun i hr => .inr ?_⟩
      rcases hr with hr | ⟨h1, _⟩
      · simp at hr; subst hr
        exact ⟨hja, .inl rfl⟩
      · cases h1
  | wait _ _ _ _ ht hph hq hx hd' =>
    have e1 : sumOf s'.xs = sumOf s.xs := sameSum fun k => by rw [hx]
    have e2 : hp q s' = hp q s := by
      cases q with
      | nil => rfl
      | cons a r => rw [hp_cons, hp_cons, hx]
    refine ⟨by unfold mu; omega, fun i hr => .inr ⟨?_, ?_⟩⟩
    · intro e; subst e
      rcases hr with hr | ⟨h1, _⟩
      · exact hq hr
      · subst h1
        have := (h.mem j).2 ⟨hj, by omega⟩
        cases this
    · rcases hr with hr | ⟨h1, hr⟩
      · exact .inl hr
      · exact .inr ⟨h1, by rw [hx]; exact hr⟩
  | got _ _ _ _ ht hph hq hx hd' =>
    have e1 : sumOf s'.xs = sumOf s.xs := sameSum fun k => by rw [hx]; split <;> simp_all
    obtain ⟨r, rfl⟩ := head_cons hq
    have e2 : hp (j :: r) s' = 2 := by rw [hp_cons, hx, if_pos rfl]; rfl
    have e3 : hp (j :: r) s = 1 := by rw [hp_cons, hph]; rfl
    exact ⟨by unfold mu; omega, fun i hr => .inl (by unfold mu; omega)⟩
  | load _ _ _ _ ht hph hq hx hd' =>
    have e1 : sumOf s'.xs = sumOf s.xs := sameSum fun k => by rw [hx]; split <;> simp_all
    obtain ⟨r, rfl⟩ := head_cons hq
    have e2 : hp (j :: r) s' = 3 := by rw [hp_cons, hx, if_pos rfl]; rfl
    have e3 : hp (j :: r) s = 2 := by rw [hp_cons, hph]; rfl
    exact ⟨by unfold mu; omega, fun i hr => .inl (by unfold mu; omega)⟩
  | store _ _ _ _ ht hph hq hx hd' =>
    have e1 : sumOf s'.xs = sumOf s.xs := sameSum fun k => by rw [hx]; split <;> simp_all
    obtain ⟨r, rfl⟩ := head_cons hq
    have e2 : hp (j :: r) s' = 4 := by rw [hp_cons, hx, if_pos rfl]; rfl
    have e3 : hp (j :: r) s = 3 := by rw [hp_cons, hph]; rfl
    exact ⟨by unfold mu; omega, fun i hr => .inl (by unfold mu; omega)⟩
  | leave r _ _ _ ht hph hx hd' =>
    have e3 : hp (j :: q') s = 4 := by rw [hp_cons, hph]; rfl
    have e4 : 0 ≤ hp q' s' := by unfold hp; cases q' <;> simp only <;> omega
    have hsum : sumOf s'.xs = sumOf s.xs - 1 := by
      have h1 := h.cell
      have h2 := h'.cell
      have h3 : any4 s.xs = 1 := any4_pos (i := j) (by rw [h.xs]; exact hj) hph
      have h4 : any4 s'.xs = 0 := any4_none fun k hk e => by
        have e : (tkAt s' k).phase = 4 := e
        rw [hx] at e
        split at e
        · simp at e
        · rename_i hkj
          have := h.other hj (by omega) (j := k) (by rw [← h'.xs]; exact hk) hkj
          omega
      omega
    exact ⟨by unfold mu; omega, fun i hr => .inl (by unfold mu; omega)⟩
/-- not done where there is something to do -/
theorem Inv.ripe_open {m : Nat} {sum : Int} {q : List Nat} {N S C : Int} {s : Mc} (h : Inv m sum q N S C s) {i : Nat} (hi : i < m) (hr : Ripe q s i) : s.ds.getD i false = false := by
  cases hd : s.ds.getD i false with
  | false => rfl
  | true =>
    have ht := h.done i hi hd
    rcases hr with hr | ⟨_, hr⟩
    · obtain ⟨r, rfl⟩ := head_cons hr
      have := (h.mem i).1 List.mem_cons_self
      have := (h.plain i hi).none ht
      omega
    · exact (hr ht).elim
theorem pass_live {m : Nat} {sum : Int} {q : List Nat} {N S C : Int} {s : Mc} (h : Inv m sum q N S C s) {i : Nat} (hi : i < m) (hr : Ripe q s i) :
    ∀ k, k ≤ m → ∃ q' N' S' C', Inv m sum q' N' S' C' (passP m s k) ∧ mu q' (passP m s k) ≤ mu q s ∧ (mu q' (passP m s k) < mu q s ∨ (k ≤ i ∧ Ripe q' (passP m s k) i))
  | 0, _ => ⟨q, N, S, C, h, Int.le_refl _, .inr ⟨Nat.zero_le _, hr⟩⟩
  | k + 1, hk => by
    obtain ⟨q1, N1, S1, C1, h1, hle, hor⟩ := pass_live h hi hr k (by omega)
    show ∃ q' N' S' C', Inv m sum q' N' S' C' (pickP m (passP m s k) (k : Nat)) ∧ _ ∧ _
    cases hd : (passP m s k).ds.getD k false with
    | true =>
      have e : pickP m (passP m s k) (k : Nat) = passP m s k := pick_stays (.inr (by simpa using hd))
      show ∃ q' N' S' C', Inv m sum q' N' S' C' (pickP m (passP m s k) (k : Nat)) ∧ mu q' (pickP m (passP m s k) (k : Nat)) ≤ mu q s ∧ (mu q' (pickP m (passP m s k) (k : Nat)) < mu q s ∨ (k + 1 ≤ i ∧ Ripe q' (pickP m (passP m s k) (k : Nat)) i))
      rw [e]
      refine ⟨q1, N1, S1, C1, h1, hle, ?_⟩
      rcases hor with hlt | ⟨hki, hr1⟩
      · exact .inl hlt
      · have hne : k ≠ i := fun e => by
          subst e
          have := h1.ripe_open hi hr1
          rw [hd] at this; cases this
        exact .inr ⟨by omega, hr1⟩
    | false =>
      obtain ⟨q2, N2, S2, C2, h2, hdid⟩ := h1.pick (by omega : k < m) hd
      obtain ⟨l1, l2⟩ := live_did h1 (by omega) h2 hdid
      refine ⟨q2, N2, S2, C2, h2, Int.le_trans l1 hle, ?_⟩
      rcases hor with hlt | ⟨hki, hr1⟩
      · exact .inl (Int.lt_of_le_of_lt l1 hlt)
      · rcases l2 i hr1 with hlt | ⟨hne, hr2⟩
        · exact .inl (Int.lt_of_lt_of_le hlt hle)
        · exact .inr ⟨by omega, hr2⟩
theorem pass_inv {m : Nat} {sum : Int} {q : List Nat} {N S C : Int} {s : Mc} (h : Inv m sum q N S C s) : ∀ k, k ≤ m → ∃ q' N' S' C', Inv m sum q' N' S' C' (passP m s k) ∧ sumOf (passP m s k).xs ≤ sumOf s.xs ∧
    (sumOf s.xs = 0 → ∀ j, (j < k ∧ j < m) → (passP m s k).ds.getD j false = true)
  | 0, _ => ⟨q, N, S, C, h, Int.le_refl _, fun _ j hj => by omega⟩
  | k + 1, hk => by
    obtain ⟨q1, N1, S1, C1, h1, hs, hd1⟩ := pass_inv h k (by omega)
    show ∃ q' N' S' C', Inv m sum q' N' S' C' (pickP m (passP m s k) (k : Nat)) ∧ sumOf (pickP m (passP m s k) (k : Nat)).xs ≤ sumOf s.xs ∧ (sumOf s.xs = 0 → ∀ j, (j < k + 1 ∧ j < m) → (pickP m (passP m s k) (k : Nat)).ds.getD j false = true)
    generalize passP m s k = s1 at *
    have hkm : k < m := by omega
    cases hd : s1.ds.getD k false with
    | true =>
      have e : pickP m s1 (k : Nat) = s1 := pick_stays (.inr (by simpa using hd))
      rw [e]
      refine ⟨q1, N1, S1, C1, h1, hs, fun hz j hj => ?_⟩
      by_cases hjk : j = k
      · subst hjk; exact hd
      · exact hd1 hz j ⟨by omega, hj.2⟩
    | false =>
      obtain ⟨q2, N2, S2, C2, h2, hdid⟩ := h1.pick hkm hd
      have hsum2 : sumOf (pickP m s1 (k : Nat)).xs ≤ sumOf s1.xs := by
        have h3 := h1.cell
        have h4 := h2.cell
        have same : (∀ j, (tkAt (pickP m s1 (k : Nat)) j).times = (tkAt s1 j).times) → sumOf (pickP m s1 (k : Nat)).xs ≤ sumOf s1.xs := fun ht => by
          have go : ∀ {xs ys : List Tk}, xs.length = ys.length → (∀ j, (xs.getD j encTk.dflt).times = (ys.getD j encTk.dflt).times) → sumOf xs = sumOf ys := by
            intro xs
            induction xs with
            | nil => intro ys hl _; cases ys <;> simp_all
            | cons x xs ih =>
              intro ys hl hh
              cases ys with
              | nil => simp at hl
              | cons y ys =>
                have h0 := hh 0
                have h1 := ih (ys := ys) (by simpa using hl) fun j => by simpa using hh (j + 1)
                simp [sumOf] at h0 h1 ⊢; omega
          exact Int.le_of_eq (go (by rw [h1.xs, h2.xs]) ht)
        generalize pickP m s1 (k : Nat) = s2 at *
        cases hdid with
        | none _ _ _ _ ht hl hx hd' => exact same fun j => by rw [hx]
        | draw _ _ _ _ ht hp hx hd' => exact same fun j => by rw [hx]; split <;> simp_all
        | wait _ _ _ _ ht hp hq hx hd' => exact same fun j => by rw [hx]
        | got _ _ _ _ ht hp hq hx hd' => exact same fun j => by rw [hx]; split <;> simp_all
        | load _ _ _ _ ht hp hq hx hd' => exact same fun j => by rw [hx]; split <;> simp_all
        | store _ _ _ _ ht hp hq hx hd' => exact same fun j => by rw [hx]; split <;> simp_all
        | leave r _ _ _ ht hp hx hd' =>
          have h5 := any4_01 s2.xs
          have h6 : any4 s1.xs = 1 := any4_pos (i := k) (by rw [h1.xs]; exact hkm) hp
          omega
      refine ⟨q2, N2, S2, C2, h2, Int.le_trans hsum2 hs, fun hz j hj => ?_⟩
      have hz1 : sumOf s1.xs = 0 := by have := h1.sum_nn; omega
      have hk0 : (tkAt s1 k).times = 0 := by
        have := h1.times_le hkm
        have := (h1.plain k hkm).times
        omega
      have hds : (pickP m s1 (k : Nat)).ds = s1.ds.set k true := by
        generalize pickP m s1 (k : Nat) = s2 at *
        cases hdid with
        | none _ _ _ _ ht hl hx hd' => exact hd'
        | draw _ _ _ _ ht hp hx hd' => exact (ht hk0).elim
        | wait _ _ _ _ ht hp hq hx hd' => exact (ht hk0).elim
        | got _ _ _ _ ht hp hq hx hd' => exact (ht hk0).elim
        | load _ _ _ _ ht hp hq hx hd' => exact (ht hk0).elim
        | store _ _ _ _ ht hp hq hx hd' => exact (ht hk0).elim
        | leave r _ _ _ ht hp hx hd' => exact (ht hk0).elim
      rw [hds]
      by_cases hjk : j = k
      · subst hjk; rw [Sx.getD_set_self (by rw [h1.ds]; exact hkm)]
      · rw [Sx.getD_set_ne (fun e => hjk e.symm)]; exact hd1 hz j ⟨by omega, hj.2⟩
theorem left_zero {ds : List Bool} (h : ∀ j, j < ds.length → ds.getD j false = true) : leftP ds = 0 := by
  unfold leftP
  have : ds.filter (fun b => !b) = [] := by
    rw [List.filter_eq_nil_iff]
    intro b hb
    obtain ⟨j, hj, rfl⟩ := List.mem_iff_getElem.1 hb
    have := h j hj
    simp [List.getD_eq_getElem?_getD, hj] at this
    simp [this]
  rw [this]; rfl
theorem all_of_left {ds : List Bool} (h : leftP ds = 0) : ∀ j, j < ds.length → ds.getD j false = true := by
  intro j hj
  unfold leftP at h
  have h0 : (ds.filter fun b => !b) = [] := List.length_eq_zero_iff.1 (by omega)
  rw [List.filter_eq_nil_iff] at h0
  have := h0 ds[j] (List.getElem_mem hj)
  simp [List.getD_eq_getElem?_getD, hj]
  simpa using this
theorem endP_ok {m : Nat} {sum : Int} : ∀ (f : Nat) {q : List Nat} {N S C : Int} {s : Mc}, Inv m sum q N S C s → mu q s + 2 ≤ f → ∃ q' N' S' C', Inv m sum q' N' S' C' (endP m s f) ∧ leftP (endP m s f).ds = 0
  | 0, q, N, S, C, s, h, hf => by have := h.mu_nn; omega
  | f + 1, q, N, S, C, s, h, hf => by
    simp only [endP]
    split
    · rename_i hl; exact ⟨q, N, S, C, h, hl⟩
    · rcases Int.lt_or_le 0 (sumOf s.xs) with h0 | h0
      · obtain ⟨i, hi, hr⟩ := h.ripe h0
        obtain ⟨q1, N1, S1, C1, h1, _, hor⟩ := pass_live h hi hr m (Nat.le_refl _)
        have hlt : mu q1 (passP m s m) < mu q s := by
          rcases hor with hlt | ⟨hmi, _⟩
          · exact hlt
          · omega
        exact endP_ok f h1 (by omega)
      · have hz : sumOf s.xs = 0 := by have := h.sum_nn; omega
        obtain ⟨q1, N1, S1, C1, h1, hs, hd⟩ := pass_inv h m (Nat.le_refl _)
        have hl : leftP (passP m s m).ds = 0 := left_zero fun j hj => hd hz j (by rw [h1.ds] at hj; exact ⟨hj, hj⟩)
        refine ⟨q1, N1, S1, C1, ?_, ?_⟩
        · cases f <;> simp only [endP, hl, if_true] <;> exact h1
        · cases f <;> simp only [endP, hl, if_true]
theorem Inv.mu_le {m : Nat} {sum : Int} {q : List Nat} {N S C : Int} {s : Mc} (h : Inv m sum q N S C s) : mu q s ≤ 5 * sum + 5 := by
  have h1 := h.cell
  have h2 := any4_01 s.xs
  have h3 := h.rC
  have : 0 ≤ hp q s := by unfold hp; cases q <;> simp only <;> omega
  unfold mu; omega
/-- all are done: the cell has all -/
theorem Inv.fin {m : Nat} {sum : Int} {q : List Nat} {N S C : Int} {s : Mc} (h : Inv m sum q N S C s) (hl : leftP s.ds = 0) : C = sum := by
  have ha := all_of_left hl
  have hz : ∀ j, j < m → (tkAt s j).times = 0 := fun j hj => h.done j hj (ha j (by rw [h.ds]; exact hj))
  have h0 : sumOf s.xs = 0 := by
    rcases Int.lt_or_le 0 (sumOf s.xs) with h0 | h0
    · obtain ⟨i, hi, hr⟩ := h.ripe h0
      have := h.ripe_open hi hr
      rw [ha i (by rw [h.ds]; exact hi)] at this; cases this
    · have := h.sum_nn; omega
  have h4 : any4 s.xs = 0 := any4_none fun j hj e => by
    have hj' : j < m := by rw [← h.xs]; exact hj
    have e : (tkAt s j).phase = 4 := e
    have := (h.plain j hj').none (hz j hj')
    omega
  have := h.cell
  omega
end Go.Proofs.YthofahgnglfaeaaDoor

/- TicketCell: pieces and states. -/
namespace Go.Proofs.YthofahgnglfaeaaDoor
open Go Go.Proofs.YthofahgnglfaeaaDoor.Sx
set_option linter.unusedVariables false
noncomputable def b5 : Code := Tryd.f5.body.getD .skip
noncomputable def c5 : Code := restC 4 b5
noncomputable def reg5 : Code := lft (lft c5)
noncomputable def blk5 : Code := rgt (lft c5)
noncomputable def end5 : Code := rgt c5
noncomputable def round5 : Code := lft (lft blk5)
noncomputable def tm5 : Code := lft round5
noncomputable def bb5 : Code := lft (lft (rgt round5))
noncomputable def inc5 : Code := rgt (rgt round5)
noncomputable def in5 : Code := lft (restC 2 bb5)
noncomputable def lp5a : Code := lft (lft (rgt in5))
noncomputable def d5 : Code := rgt (restC 2 bb5)
noncomputable def in5b : Code := lft (restC 3 d5)
noncomputable def lp5b : Code := lft (lft (rgt in5b))
noncomputable def chk5 : Code := rgt (restC 3 d5)
abbrev n5a : List Nat := [2, 7, 8, 9, 11]
abbrev n5b : List Nat := [2, 7, 8, 9, 11, 12]
abbrev n5c : List Nat := [2, 7, 8, 9, 11, 12, 13, 15]
abbrev n5d : List Nat := [2, 7, 8, 9, 11, 12, 13, 15, 16]
abbrev n5e : List Nat := [2, 7, 8, 9, 11, 12, 13, 15, 17, 19]
abbrev n5f : List Nat := [2, 7, 8, 9, 11, 12, 13, 15, 17, 19, 20]
abbrev v5 (p : In9) (m : Nat) (left : Int) : List SVal := [picksV p 8, .ptr 1 0, .ptr 4 0, .sli 7 (.c 0) 1 (.v m) none, .int .u32 left]
abbrev s5 (p : In9) (m : Nat) (s : Mc) : St := mcS 3 m s ++ [.vec (encP 3) (List.range m) 37, .ro (encInt .i64) p.picks]
abbrev s5w (p : In9) (m : Nat) (s : Mc) (was : List Bool) : St := s5 p m s ++ [.own [.a encBool 6 was] 54]
end Go.Proofs.YthofahgnglfaeaaDoor

namespace Go.Proofs.YthofahgnglfaeaaDoor
open Go Go.Proofs.YthofahgnglfaeaaDoor.Sx
set_option linter.unusedVariables false
set_option maxRecDepth 100000 in
theorem t5_pre {p : In9} {f : Int} : (execN (cfgL p f) 100 4 b5 ([timesV p 1, .int .u32 f, picksV p 2] ++ List.replicate 146 .bad) (s0 p)).bind (canonK 10 [(0,0)] 149 n5a) =
 

 (.eq ([SVal.sli 1 (.c 0) 1 (.v p.1.length) (some (.v p.2)), .int .u32 f] = [SVal.sli 1 (.c 0) 1 (.v p.1.length) (some (.v p.2)), .int .u32 f] ∧ [Blk.ro encLook [PUnit.unit], .ro encU8 p.1, .ro (encInt IntKind.i64) p.3] = [Blk.ro encLook [PUnit.unit], .ro encU8 p.1, .ro (encInt IntKind.i64) p.3] ∧ True)

 (.eq (some [Blk.ro encLook [PUnit.unit]] = some [Blk.ro encLook [PUnit.unit]])

 (.ret (.normal, [.sli 2 (.c 0) 1 (.v p.3.length) (some (.v p.4)), .ptr 3 0, .ptr 6 0, .sli 9 (.c 0) 1 (.v (madeP p).length) none, .lit .u32 (0 : Int)], [.ro encLook [PUnit.unit], .ro encU8 p.1, .ro (encInt IntKind.i64) p.3, .own [.c (.sli 4 (.c 0) 1 (.c 3) (some (.c 3))), .c (.lit .i64 (2 : Int))] 62, .own [.c (.int .u32 (setP (0 : Int) f)), .c (.int .u32 (setP (0 : Int) f)), .c (.lit .u32 (0 : Int))] 23, .many encTk (madeP p) 70, .own [.c (.ptr 3 0), .c (.sli 7 (.c 0) 1 (.v (madeP p).length) none), .c (.sli 8 (.c 0) 1 (.v (madeP p).length) (some (.v (madeP p).length)))] 78, .vec (encT 37 5) (List.range (madeP p).length) 80, .own [.a encBool (madeP p).length (List.replicate (madeP p).length false)] 4, .vec (encP 5) (List.range (madeP p).length) 37])))) := by kernel_rfl
set_option maxRecDepth 100000 in
theorem t5_reg {p : In9} {m : Nat} {left : Int} {s : Mc} : (exec cfgM 100 reg5 (fr 149 n5a (v5 p m left)) (s5 p m s)).bind (canonK 9 [(0,0)] 149 n5b) =
 

 (.ret (.normal, [.sli 8 (.c 0) 1 (.v p.3.length) (some (.v p.4)), .ptr 1 0, .ptr 4 0, .sli 7 (.c 0) 1 (.v m) none, .int .u32 left, .lit .i64 (0 : Int)], [.ro encLook [PUnit.unit], .own [.c (.sli 2 (.c 0) 1 (.v 3) (some (.v 3))), .c (.int .i64 s.2)] 62, .own [.a (encInt IntKind.u32) 3 s.1] 23, .many encTk s.3 70, .own [.c (.ptr 1 0), .c (.sli 5 (.c 0) 1 (.v m) none), .c (.sli 6 (.c 0) 1 (.v m) (some (.v m)))] 78, .vec (encT 37 3) (List.range m) 80, .own [.a encBool m s.4] 4, .vec (encP 3) (List.range m) 37, .ro (encInt IntKind.i64) p.3])) := by kernel_rfl
set_option maxRecDepth 100000 in
theorem t5_tm {p : In9} {m : Nat} {left : Int} {s : Mc} {i : Nat} : (exec cfgM 100 tm5 (fr 149 n5b (v5 p m left ++ [.int .i64 (i : Nat)])) (s5 p m s)).bind (canonK 9 [(0,0)] 149 n5b) =
 

 (.br (decide ((↑i : Int) < (↑p.3.length : Int)))

 (.br (decide ((↑i : Int) < (200 : Int)))

 (.ret (.normal, [.sli 8 (.c 0) 1 (.v p.3.length) (some (.v p.4)), .ptr 1 0, .ptr 4 0, .sli 7 (.c 0) 1 (.v m) none, .int .u32 left, .int .i64 (↑i : Int)], [.ro encLook [PUnit.unit], .own [.c (.sli 2 (.c 0) 1 (.v 3) (some (.v 3))), .c (.int .i64 s.2)] 62, .own [.a (encInt IntKind.u32) 3 s.1] 23, .many encTk s.3 70, .own [.c (.ptr 1 0), .c (.sli 5 (.c 0) 1 (.v m) none), .c (.sli 6 (.c 0) 1 (.v m) (some (.v m)))] 78, .vec (encT 37 3) (List.range m) 80, .own [.a encBool m s.4] 4, .vec (encP 3) (List.range m) 37, .ro (encInt IntKind.i64) p.3]))

 (.ret (.exit 0, [.sli 8 (.c 0) 1 (.v p.3.length) (some (.v p.4)), .ptr 1 0, .ptr 4 0, .sli 7 (.c 0) 1 (.v m) none, .int .u32 left, .int .i64 (↑i : Int)], [.ro encLook [PUnit.unit], .own [.c (.sli 2 (.c 0) 1 (.v 3) (some (.v 3))), .c (.int .i64 s.2)] 62, .own [.a (encInt IntKind.u32) 3 s.1] 23, .many encTk s.3 70, .own [.c (.ptr 1 0), .c (.sli 5 (.c 0) 1 (.v m) none), .c (.sli 6 (.c 0) 1 (.v m) (some (.v m)))] 78, .vec (encT 37 3) (List.range m) 80, .own [.a encBool m s.4] 4, .vec (encP 3) (List.range m) 37, .ro (encInt IntKind.i64) p.3])))

 (.ret (.exit 0, [.sli 8 (.c 0) 1 (.v p.3.length) (some (.v p.4)), .ptr 1 0, .ptr 4 0, .sli 7 (.c 0) 1 (.v m) none, .int .u32 left, .int .i64 (↑i : Int)], [.ro encLook [PUnit.unit], .own [.c (.sli 2 (.c 0) 1 (.v 3) (some (.v 3))), .c (.int .i64 s.2)] 62, .own [.a (encInt IntKind.u32) 3 s.1] 23, .many encTk s.3 70, .own [.c (.ptr 1 0), .c (.sli 5 (.c 0) 1 (.v m) none), .c (.sli 6 (.c 0) 1 (.v m) (some (.v m)))] 78, .vec (encT 37 3) (List.range m) 80, .own [.a encBool m s.4] 4, .vec (encP 3) (List.range m) 37, .ro (encInt IntKind.i64) p.3]))) := by kernel_rfl
set_option maxRecDepth 100000 in
theorem t5_a {p : In9} {m : Nat} {left : Int} {s : Mc} {i : Nat} : (execN (cfgQ 3 m s) 100 2 bb5 (fr 149 n5b (v5 p m left ++ [.int .i64 (i : Nat)])) (s5 p m s)).bind (canonK 9 [(0,0)] 149 n5c) =
 

 (.eq ([Blk.ro encLook [PUnit.unit], .own [.c (.sli 2 (.c 0) 1 (.v 3) (some (.v 3))), .c (.int .i64 s.2)] 62, .own [.a (encInt IntKind.u32) 3 s.1] 23] = [Blk.ro encLook [PUnit.unit], .own [.c (.sli 2 (.c 0) 1 (.v 3) (some (.v 3))), .c (.int .i64 s.2)] 62, .own [.a (encInt IntKind.u32) 3 s.1] 23] ∧ s.1.length = 3)

 (.br (true)

 (.ret (.normal, [.sli 8 (.c 0) 1 (.v p.3.length) (some (.v p.4)), .ptr 1 0, .ptr 4 0, .sli 7 (.c 0) 1 (.v m) none, .int .u32 left, .int .i64 (↑i : Int), .int .u32 (s.1.getD 2 (0 : Int)), .ptr 9 0], [.ro encLook [PUnit.unit], .own [.c (.sli 2 (.c 0) 1 (.v 3) (some (.v 3))), .c (.int .i64 (upP s.2))] 62, .own [.a (encInt IntKind.u32) 3 s.1] 23, .many encTk s.3 70, .own [.c (.ptr 1 0), .c (.sli 5 (.c 0) 1 (.v m) none), .c (.sli 6 (.c 0) 1 (.v m) (some (.v m)))] 78, .vec (encT 37 3) (List.range m) 80, .own [.a encBool m s.4] 4, .vec (encP 3) (List.range m) 37, .ro (encInt IntKind.i64) p.3, .own [.c (.bl false), .c (.bl false), .c (.bl false), .c (.bl false), .c (.bl false), .c (.bl false)] 54]))

 (.ret (.normal, [.sli 8 (.c 0) 1 (.v p.3.length) (some (.v p.4)), .ptr 1 0, .ptr 4 0, .sli 7 (.c 0) 1 (.v m) none, .int .u32 left, .int .i64 (↑i : Int), .lit .u32 (0 : Int), .ptr 9 0], [.ro encLook [PUnit.unit], .own [.c (.sli 2 (.c 0) 1 (.v 3) (some (.v 3))), .c (.int .i64 s.2)] 62, .own [.a (encInt IntKind.u32) 3 s.1] 23, .many encTk s.3 70, .own [.c (.ptr 1 0), .c (.sli 5 (.c 0) 1 (.v m) none), .c (.sli 6 (.c 0) 1 (.v m) (some (.v m)))] 78, .vec (encT 37 3) (List.range m) 80, .own [.a encBool m s.4] 4, .vec (encP 3) (List.range m) 37, .ro (encInt IntKind.i64) p.3, .own [.c (.bl false), .c (.bl false), .c (.bl false), .c (.bl false), .c (.bl false), .c (.bl false)] 54])))) := by kernel_rfl
set_option maxRecDepth 100000 in
theorem t5_k {p : In9} {m : Nat} {left : Int} {s : Mc} {was : List Bool} {i : Nat} {v : Int} : (exec cfgM 100 (lft in5) (fr 149 n5c (v5 p m left ++ [.int .i64 (i : Nat), .int .u32 v, .ptr 9 0])) (s5w p m s was)).bind (canonK 9 [(0,0)] 149 n5d) =
 

 (.ret (.normal, [.sli 8 (.c 0) 1 (.v p.3.length) (some (.v p.4)), .ptr 1 0, .ptr 4 0, .sli 7 (.c 0) 1 (.v m) none, .int .u32 left, .int .i64 (↑i : Int), .int .u32 v, .ptr 9 0, .lit .i64 (0 : Int)], [.ro encLook [PUnit.unit], .own [.c (.sli 2 (.c 0) 1 (.v 3) (some (.v 3))), .c (.int .i64 s.2)] 62, .own [.a (encInt IntKind.u32) 3 s.1] 23, .many encTk s.3 70, .own [.c (.ptr 1 0), .c (.sli 5 (.c 0) 1 (.v m) none), .c (.sli 6 (.c 0) 1 (.v m) (some (.v m)))] 78, .vec (encT 37 3) (List.range m) 80, .own [.a encBool m s.4] 4, .vec (encP 3) (List.range m) 37, .ro (encInt IntKind.i64) p.3, .own [.a encBool 6 was] 54])) := by kernel_rfl
set_option maxRecDepth 100000 in
theorem t5_in1 {p : In9} {m : Nat} {left : Int} {s : Mc} {was : List Bool} {i k : Nat} {v : Int} : (exec cfgM 100 lp5a (fr 149 n5d (v5 p m left ++ [.int .i64 (i : Nat), .int .u32 v, .ptr 9 0, .int .i64 (k : Nat)])) (s5w p m s was)).bind (canonK 9 [(0,0)] 149 n5d) =
 

 (.br (decide ((↑k : Int) < (↑m : Int)))

 (.need (decide ((0 : Int) ≤ (↑k : Int)) && decide ((↑k : Int).toNat < m))

 (.need (decide ((↑k : Int).toNat < (List.range m).length))

 (.need (decide ((List.range m).getD (↑k : Int).toNat 0 < s.3.length))

 (.need (decide ((0 : Int) ≤ (↑k : Int)) && decide ((↑k : Int).toNat < 6))

 (.need (decide ((↑k : Int).toNat < 6))

 (.need (inR .i64 ((↑k : Int) + (1 : Int)))

 (.ret (.normal, [.sli 8 (.c 0) 1 (.v p.3.length) (some (.v p.4)), .ptr 1 0, .ptr 4 0, .sli 7 (.c 0) 1 (.v m) none, .int .u32 left, .int .i64 (↑i : Int), .int .u32 v, .ptr 9 0, .int .i64 ((↑k : Int) + (1 : Int))], [.ro encLook [PUnit.unit], .own [.c (.sli 2 (.c 0) 1 (.v 3) (some (.v 3))), .c (.int .i64 s.2)] 62, .own [.a (encInt IntKind.u32) 3 s.1] 23, .many encTk s.3 70, .own [.c (.ptr 1 0), .c (.sli 5 (.c 0) 1 (.v m) none), .c (.sli 6 (.c 0) 1 (.v m) (some (.v m)))] 78, .vec (encT 37 3) (List.range m) 80, .own [.a encBool m s.4] 4, .vec (encP 3) (List.range m) 37, .ro (encInt IntKind.i64) p.3, .own [.a encBool 6 (was.set (↑k : Int).toNat (decide ((2 : Int) ≤ (↑(s.3.getD ((List.range m).getD (↑k : Int).toNat 0) { at' := (0 : Int), cell := (0 : Int), times := (0 : Int), phase := 0, ticket := (0 : Int), v := (0 : Int) }).phase : Int))))] 54]))))))))

 (.ret (.exit 2, [.sli 8 (.c 0) 1 (.v p.3.length) (some (.v p.4)), .ptr 1 0, .ptr 4 0, .sli 7 (.c 0) 1 (.v m) none, .int .u32 left, .int .i64 (↑i : Int), .int .u32 v, .ptr 9 0, .int .i64 (↑k : Int)], [.ro encLook [PUnit.unit], .own [.c (.sli 2 (.c 0) 1 (.v 3) (some (.v 3))), .c (.int .i64 s.2)] 62, .own [.a (encInt IntKind.u32) 3 s.1] 23, .many encTk s.3 70, .own [.c (.ptr 1 0), .c (.sli 5 (.c 0) 1 (.v m) none), .c (.sli 6 (.c 0) 1 (.v m) (some (.v m)))] 78, .vec (encT 37 3) (List.range m) 80, .own [.a encBool m s.4] 4, .vec (encP 3) (List.range m) 37, .ro (encInt IntKind.i64) p.3, .own [.a encBool 6 was] 54]))) := by kernel_rfl
set_option maxRecDepth 100000 in
theorem t5_b {p : In9} {m : Nat} {left : Int} {s : Mc} {was : List Bool} {i : Nat} {v : Int} : (execN (cfgQ 3 m s) 100 3 d5 (fr 149 n5c (v5 p m left ++ [.int .i64 (i : Nat), .int .u32 v, .ptr 9 0])) (s5w p m s was)).bind (canonK 9 [(0,0)] 149 n5e) =
 

 (.need (decide ((0 : Int) ≤ (↑i : Int)) && decide ((↑i : Int).toNat < p.3.length))

 (.need (decide ((↑i : Int).toNat < p.3.length))

 (.eq ([Blk.ro encLook [PUnit.unit], .own [.c (.sli 2 (.c 0) 1 (.v 3) (some (.v 3))), .c (.int .i64 s.2)] 62, .own [.a (encInt IntKind.u32) 3 s.1] 23, .many encTk s.3 70, .own [.c (.ptr 1 0), .c (.sli 5 (.c 0) 1 (.v m) none), .c (.sli 6 (.c 0) 1 (.v m) (some (.v m)))] 78, .vec (encT 37 3) (List.range m) 80, .own [.a encBool m s.4] 4] = [Blk.ro encLook [PUnit.unit], .own [.c (.sli 2 (.c 0) 1 (.v 3) (some (.v 3))), .c (.int .i64 s.2)] 62, .own [.a (encInt IntKind.u32) 3 s.1] 23, .many encTk s.3 70, .own [.c (.ptr 1 0), .c (.sli 5 (.c 0) 1 (.v m) none), .c (.sli 6 (.c 0) 1 (.v m) (some (.v m)))] 78, .vec (encT 37 3) (List.range m) 80, .own [.a encBool m s.4] 4] ∧ McOk 3 m s)

 (.eq ([Blk.ro encLook [PUnit.unit], .own [.c (.sli 2 (.c 0) 1 (.v 3) (some (.v 3))), .c (.int .i64 (pickP m s (p.3.getD (↑i : Int).toNat (0 : Int))).c)] 62, .own [.a (encInt IntKind.u32) 3 (pickP m s (p.3.getD (↑i : Int).toNat (0 : Int))).l] 23] = [Blk.ro encLook [PUnit.unit], .own [.c (.sli 2 (.c 0) 1 (.v 3) (some (.v 3))), .c (.int .i64 (pickP m s (p.3.getD (↑i : Int).toNat (0 : Int))).c)] 62, .own [.a (encInt IntKind.u32) 3 (pickP m s (p.3.getD (↑i : Int).toNat (0 : Int))).l] 23] ∧ (pickP m s (p.3.getD (↑i : Int).toNat (0 : Int))).l.length = 3)

 (.br (true)

 (.ret (.normal, [.sli 8 (.c 0) 1 (.v p.3.length) (some (.v p.4)), .ptr 1 0, .ptr 4 0, .sli 7 (.c 0) 1 (.v m) none, .int .u32 left, .int .i64 (↑i : Int), .int .u32 v, .ptr 9 0, .int .u32 ((pickP m s (p.3.getD (↑i : Int).toNat (0 : Int))).l.getD 2 (0 : Int)), .lit .u32 (0 : Int)], [.ro encLook [PUnit.unit], .own [.c (.sli 2 (.c 0) 1 (.v 3) (some (.v 3))), .c (.int .i64 (upP (pickP m s (p.3.getD (↑i : Int).toNat (0 : Int))).c))] 62, .own [.a (encInt IntKind.u32) 3 (pickP m s (p.3.getD (↑i : Int).toNat (0 : Int))).l] 23, .many encTk (pickP m s (p.3.getD (↑i : Int).toNat (0 : Int))).xs 70, .own [.c (.ptr 1 0), .c (.sli 5 (.c 0) 1 (.v m) none), .c (.sli 6 (.c 0) 1 (.v m) (some (.v m)))] 78, .vec (encT 37 3) (List.range m) 80, .own [.a encBool m (pickP m s (p.3.getD (↑i : Int).toNat (0 : Int))).ds] 4, .vec (encP 3) (List.range m) 37, .ro (encInt IntKind.i64) p.3, .own [.a encBool 6 was] 54]))

 (.ret (.normal, [.sli 8 (.c 0) 1 (.v p.3.length) (some (.v p.4)), .ptr 1 0, .ptr 4 0, .sli 7 (.c 0) 1 (.v m) none, .int .u32 left, .int .i64 (↑i : Int), .int .u32 v, .ptr 9 0, .lit .u32 (0 : Int), .lit .u32 (0 : Int)], [.ro encLook [PUnit.unit], .own [.c (.sli 2 (.c 0) 1 (.v 3) (some (.v 3))), .c (.int .i64 (pickP m s (p.3.getD (↑i : Int).toNat (0 : Int))).c)] 62, .own [.a (encInt IntKind.u32) 3 (pickP m s (p.3.getD (↑i : Int).toNat (0 : Int))).l] 23, .many encTk (pickP m s (p.3.getD (↑i : Int).toNat (0 : Int))).xs 70, .own [.c (.ptr 1 0), .c (.sli 5 (.c 0) 1 (.v m) none), .c (.sli 6 (.c 0) 1 (.v m) (some (.v m)))] 78, .vec (encT 37 3) (List.range m) 80, .own [.a encBool m (pickP m s (p.3.getD (↑i : Int).toNat (0 : Int))).ds] 4, .vec (encP 3) (List.range m) 37, .ro (encInt IntKind.i64) p.3, .own [.a encBool 6 was] 54]))))))) := by kernel_rfl
set_option maxRecDepth 100000 in
theorem t5_k2 {p : In9} {m : Nat} {left : Int} {s : Mc} {was : List Bool} {i : Nat} {v now hold : Int} : (exec cfgM 100 (lft in5b) (fr 149 n5e (v5 p m left ++ [.int .i64 (i : Nat), .int .u32 v, .ptr 9 0, .int .u32 now, .int .u32 hold])) (s5w p m s was)).bind (canonK 9 [(0,0)] 149 n5f) =
 

 (.ret (.normal, [.sli 8 (.c 0) 1 (.v p.3.length) (some (.v p.4)), .ptr 1 0, .ptr 4 0, .sli 7 (.c 0) 1 (.v m) none, .int .u32 left, .int .i64 (↑i : Int), .int .u32 v, .ptr 9 0, .int .u32 now, .int .u32 hold, .lit .i64 (0 : Int)], [.ro encLook [PUnit.unit], .own [.c (.sli 2 (.c 0) 1 (.v 3) (some (.v 3))), .c (.int .i64 s.2)] 62, .own [.a (encInt IntKind.u32) 3 s.1] 23, .many encTk s.3 70, .own [.c (.ptr 1 0), .c (.sli 5 (.c 0) 1 (.v m) none), .c (.sli 6 (.c 0) 1 (.v m) (some (.v m)))] 78, .vec (encT 37 3) (List.range m) 80, .own [.a encBool m s.4] 4, .vec (encP 3) (List.range m) 37, .ro (encInt IntKind.i64) p.3, .own [.a encBool 6 was] 54])) := by kernel_rfl
set_option maxRecDepth 100000 in
theorem t5_in2 {p : In9} {m : Nat} {left : Int} {s : Mc} {was : List Bool} {i k : Nat} {v now hold : Int} : (exec cfgM 100 lp5b (fr 149 n5f (v5 p m left ++ [.int .i64 (i : Nat), .int .u32 v, .ptr 9 0, .int .u32 now, .int .u32 hold, .int .i64 (k : Nat)])) (s5w p m s was)).bind (canonK 9 [(0,0)] 149 n5f) =
 

 (.br (decide ((↑k : Int) < (↑m : Int)))

 (.need (decide ((0 : Int) ≤ (↑k : Int)) && decide ((↑k : Int).toNat < 6))

 (.need (decide ((↑k : Int).toNat < 6))

 (.br (was.getD (↑k : Int).toNat false)

 (.need (decide ((0 : Int) ≤ (↑k : Int)) && decide ((↑k : Int).toNat < m))

 (.need (decide ((↑k : Int).toNat < (List.range m).length))

 (.need (decide ((List.range m).getD (↑k : Int).toNat 0 < s.3.length))

 (.br (!decide ((2 : Int) ≤ (↑(s.3.getD ((List.range m).getD (↑k : Int).toNat 0) { at' := (0 : Int), cell := (0 : Int), times := (0 : Int), phase := 0, ticket := (0 : Int), v := (0 : Int) }).phase : Int)))

 (.need (decide ((0 : Int) ≤ (↑k : Int)) && decide ((↑k : Int).toNat < m))

 (.need (decide ((↑k : Int).toNat < (List.range m).length))

 (.need (decide ((List.range m).getD (↑k : Int).toNat 0 < s.3.length))

 (.br (decide ((2 : Int) ≤ (↑(s.3.getD ((List.range m).getD (↑k : Int).toNat 0) { at' := (0 : Int), cell := (0 : Int), times := (0 : Int), phase := 0, ticket := (0 : Int), v := (0 : Int) }).phase : Int)))

 (.need (inR .i64 ((↑k : Int) + (1 : Int)))

 (.ret (.normal, [.sli 8 (.c 0) 1 (.v p.3.length) (some (.v p.4)), .ptr 1 0, .ptr 4 0, .sli 7 (.c 0) 1 (.v m) none, .int .u32 (IntKind.u32.wrap (left + (1 : Int))), .int .i64 (↑i : Int), .int .u32 v, .ptr 9 0, .int .u32 now, .lit .u32 (1 : Int), .int .i64 ((↑k : Int) + (1 : Int))], [.ro encLook [PUnit.unit], .own [.c (.sli 2 (.c 0) 1 (.v 3) (some (.v 3))), .c (.int .i64 s.2)] 62, .own [.a (encInt IntKind.u32) 3 s.1] 23, .many encTk s.3 70, .own [.c (.ptr 1 0), .c (.sli 5 (.c 0) 1 (.v m) none), .c (.sli 6 (.c 0) 1 (.v m) (some (.v m)))] 78, .vec (encT 37 3) (List.range m) 80, .own [.a encBool m s.4] 4, .vec (encP 3) (List.range m) 37, .ro (encInt IntKind.i64) p.3, .own [.a encBool 6 was] 54])))

 (.need (inR .i64 ((↑k : Int) + (1 : Int)))

 (.ret (.normal, [.sli 8 (.c 0) 1 (.v p.3.length) (some (.v p.4)), .ptr 1 0, .ptr 4 0, .sli 7 (.c 0) 1 (.v m) none, .int .u32 (IntKind.u32.wrap (left + (1 : Int))), .int .i64 (↑i : Int), .int .u32 v, .ptr 9 0, .int .u32 now, .int .u32 hold, .int .i64 ((↑k : Int) + (1 : Int))], [.ro encLook [PUnit.unit], .own [.c (.sli 2 (.c 0) 1 (.v 3) (some (.v 3))), .c (.int .i64 s.2)] 62, .own [.a (encInt IntKind.u32) 3 s.1] 23, .many encTk s.3 70, .own [.c (.ptr 1 0), .c (.sli 5 (.c 0) 1 (.v m) none), .c (.sli 6 (.c 0) 1 (.v m) (some (.v m)))] 78, .vec (encT 37 3) (List.range m) 80, .own [.a encBool m s.4] 4, .vec (encP 3) (List.range m) 37, .ro (encInt IntKind.i64) p.3, .own [.a encBool 6 was] 54])))))))

 (.need (decide ((0 : Int) ≤ (↑k : Int)) && decide ((↑k : Int).toNat < m))

 (.need (decide ((↑k : Int).toNat < (List.range m).length))

 (.need (decide ((List.range m).getD (↑k : Int).toNat 0 < s.3.length))

 (.br (decide ((2 : Int) ≤ (↑(s.3.getD ((List.range m).getD (↑k : Int).toNat 0) { at' := (0 : Int), cell := (0 : Int), times := (0 : Int), phase := 0, ticket := (0 : Int), v := (0 : Int) }).phase : Int)))

 (.need (inR .i64 ((↑k : Int) + (1 : Int)))

 (.ret (.normal, [.sli 8 (.c 0) 1 (.v p.3.length) (some (.v p.4)), .ptr 1 0, .ptr 4 0, .sli 7 (.c 0) 1 (.v m) none, .int .u32 left, .int .i64 (↑i : Int), .int .u32 v, .ptr 9 0, .int .u32 now, .lit .u32 (1 : Int), .int .i64 ((↑k : Int) + (1 : Int))], [.ro encLook [PUnit.unit], .own [.c (.sli 2 (.c 0) 1 (.v 3) (some (.v 3))), .c (.int .i64 s.2)] 62, .own [.a (encInt IntKind.u32) 3 s.1] 23, .many encTk s.3 70, .own [.c (.ptr 1 0), .c (.sli 5 (.c 0) 1 (.v m) none), .c (.sli 6 (.c 0) 1 (.v m) (some (.v m)))] 78, .vec (encT 37 3) (List.range m) 80, .own [.a encBool m s.4] 4, .vec (encP 3) (List.range m) 37, .ro (encInt IntKind.i64) p.3, .own [.a encBool 6 was] 54])))

 (.need (inR .i64 ((↑k : Int) + (1 : Int)))

 (.ret (.normal, [.sli 8 (.c 0) 1 (.v p.3.length) (some (.v p.4)), .ptr 1 0, .ptr 4 0, .sli 7 (.c 0) 1 (.v m) none, .int .u32 left, .int .i64 (↑i : Int), .int .u32 v, .ptr 9 0, .int .u32 now, .int .u32 hold, .int .i64 ((↑k : Int) + (1 : Int))], [.ro encLook [PUnit.unit], .own [.c (.sli 2 (.c 0) 1 (.v 3) (some (.v 3))), .c (.int .i64 s.2)] 62, .own [.a (encInt IntKind.u32) 3 s.1] 23, .many encTk s.3 70, .own [.c (.ptr 1 0), .c (.sli 5 (.c 0) 1 (.v m) none), .c (.sli 6 (.c 0) 1 (.v m) (some (.v m)))] 78, .vec (encT 37 3) (List.range m) 80, .own [.a encBool m s.4] 4, .vec (encP 3) (List.range m) 37, .ro (encInt IntKind.i64) p.3, .own [.a encBool 6 was] 54])))))))))))

 (.need (decide ((0 : Int) ≤ (↑k : Int)) && decide ((↑k : Int).toNat < m))

 (.need (decide ((↑k : Int).toNat < (List.range m).length))

 (.need (decide ((List.range m).getD (↑k : Int).toNat 0 < s.3.length))

 (.br (decide ((2 : Int) ≤ (↑(s.3.getD ((List.range m).getD (↑k : Int).toNat 0) { at' := (0 : Int), cell := (0 : Int), times := (0 : Int), phase := 0, ticket := (0 : Int), v := (0 : Int) }).phase : Int)))

 (.need (inR .i64 ((↑k : Int) + (1 : Int)))

 (.ret (.normal, [.sli 8 (.c 0) 1 (.v p.3.length) (some (.v p.4)), .ptr 1 0, .ptr 4 0, .sli 7 (.c 0) 1 (.v m) none, .int .u32 left, .int .i64 (↑i : Int), .int .u32 v, .ptr 9 0, .int .u32 now, .lit .u32 (1 : Int), .int .i64 ((↑k : Int) + (1 : Int))], [.ro encLook [PUnit.unit], .own [.c (.sli 2 (.c 0) 1 (.v 3) (some (.v 3))), .c (.int .i64 s.2)] 62, .own [.a (encInt IntKind.u32) 3 s.1] 23, .many encTk s.3 70, .own [.c (.ptr 1 0), .c (.sli 5 (.c 0) 1 (.v m) none), .c (.sli 6 (.c 0) 1 (.v m) (some (.v m)))] 78, .vec (encT 37 3) (List.range m) 80, .own [.a encBool m s.4] 4, .vec (encP 3) (List.range m) 37, .ro (encInt IntKind.i64) p.3, .own [.a encBool 6 was] 54])))

 (.need (inR .i64 ((↑k : Int) + (1 : Int)))

 (.ret (.normal, [.sli 8 (.c 0) 1 (.v p.3.length) (some (.v p.4)), .ptr 1 0, .ptr 4 0, .sli 7 (.c 0) 1 (.v m) none, .int .u32 left, .int .i64 (↑i : Int), .int .u32 v, .ptr 9 0, .int .u32 now, .int .u32 hold, .int .i64 ((↑k : Int) + (1 : Int))], [.ro encLook [PUnit.unit], .own [.c (.sli 2 (.c 0) 1 (.v 3) (some (.v 3))), .c (.int .i64 s.2)] 62, .own [.a (encInt IntKind.u32) 3 s.1] 23, .many encTk s.3 70, .own [.c (.ptr 1 0), .c (.sli 5 (.c 0) 1 (.v m) none), .c (.sli 6 (.c 0) 1 (.v m) (some (.v m)))] 78, .vec (encT 37 3) (List.range m) 80, .own [.a encBool m s.4] 4, .vec (encP 3) (List.range m) 37, .ro (encInt IntKind.i64) p.3, .own [.a encBool 6 was] 54]))))))))))

 (.ret (.exit 4, [.sli 8 (.c 0) 1 (.v p.3.length) (some (.v p.4)), .ptr 1 0, .ptr 4 0, .sli 7 (.c 0) 1 (.v m) none, .int .u32 left, .int .i64 (↑i : Int), .int .u32 v, .ptr 9 0, .int .u32 now, .int .u32 hold, .int .i64 (↑k : Int)], [.ro encLook [PUnit.unit], .own [.c (.sli 2 (.c 0) 1 (.v 3) (some (.v 3))), .c (.int .i64 s.2)] 62, .own [.a (encInt IntKind.u32) 3 s.1] 23, .many encTk s.3 70, .own [.c (.ptr 1 0), .c (.sli 5 (.c 0) 1 (.v m) none), .c (.sli 6 (.c 0) 1 (.v m) (some (.v m)))] 78, .vec (encT 37 3) (List.range m) 80, .own [.a encBool m s.4] 4, .vec (encP 3) (List.range m) 37, .ro (encInt IntKind.i64) p.3, .own [.a encBool 6 was] 54]))) := by kernel_rfl
set_option maxRecDepth 100000 in
theorem t5_chk {p : In9} {m : Nat} {left : Int} {s : Mc} {was : List Bool} {i : Nat} {v now hold : Int} : (exec cfgM 100 chk5 (fr 149 n5e (v5 p m left ++ [.int .i64 (i : Nat), .int .u32 v, .ptr 9 0, .int .u32 now, .int .u32 hold])) (s5w p m s was)).bind (canonK 9 [(0,0)] 149 n5b) =
 

 (.br (now != v)

 (.br (now != IntKind.u32.wrap (v + (1 : Int)))

 (.ret (.ret, [.sli 8 (.c 0) 1 (.v p.3.length) (some (.v p.4)), .ptr 1 0, .ptr 4 0, .sli 7 (.c 0) 1 (.v m) none, .int .u32 left, .int .i64 (↑i : Int)], [.ro encLook [PUnit.unit], .own [.c (.sli 2 (.c 0) 1 (.v 3) (some (.v 3))), .c (.int .i64 s.2)] 62, .own [.a (encInt IntKind.u32) 3 s.1] 23, .many encTk s.3 70, .own [.c (.ptr 1 0), .c (.sli 5 (.c 0) 1 (.v m) none), .c (.sli 6 (.c 0) 1 (.v m) (some (.v m)))] 78, .vec (encT 37 3) (List.range m) 80, .own [.a encBool m s.4] 4, .vec (encP 3) (List.range m) 37, .ro (encInt IntKind.i64) p.3]))

 (.need (decide ((0 : Int) ≤ (↑i : Int)) && decide ((↑i : Int).toNat < p.3.length))

 (.need (decide ((↑i : Int).toNat < p.3.length))

 (.br (decide (p.3.getD (↑i : Int).toNat (0 : Int) < (0 : Int)))

 (.ret (.ret, [.sli 8 (.c 0) 1 (.v p.3.length) (some (.v p.4)), .ptr 1 0, .ptr 4 0, .sli 7 (.c 0) 1 (.v m) none, .int .u32 left, .int .i64 (↑i : Int)], [.ro encLook [PUnit.unit], .own [.c (.sli 2 (.c 0) 1 (.v 3) (some (.v 3))), .c (.int .i64 s.2)] 62, .own [.a (encInt IntKind.u32) 3 s.1] 23, .many encTk s.3 70, .own [.c (.ptr 1 0), .c (.sli 5 (.c 0) 1 (.v m) none), .c (.sli 6 (.c 0) 1 (.v m) (some (.v m)))] 78, .vec (encT 37 3) (List.range m) 80, .own [.a encBool m s.4] 4, .vec (encP 3) (List.range m) 37, .ro (encInt IntKind.i64) p.3]))

 (.need (decide ((0 : Int) ≤ (↑i : Int)) && decide ((↑i : Int).toNat < p.3.length))

 (.need (decide ((↑i : Int).toNat < p.3.length))

 (.br (decide ((↑m : Int) ≤ p.3.getD (↑i : Int).toNat (0 : Int)))

 (.ret (.ret, [.sli 8 (.c 0) 1 (.v p.3.length) (some (.v p.4)), .ptr 1 0, .ptr 4 0, .sli 7 (.c 0) 1 (.v m) none, .int .u32 left, .int .i64 (↑i : Int)], [.ro encLook [PUnit.unit], .own [.c (.sli 2 (.c 0) 1 (.v 3) (some (.v 3))), .c (.int .i64 s.2)] 62, .own [.a (encInt IntKind.u32) 3 s.1] 23, .many encTk s.3 70, .own [.c (.ptr 1 0), .c (.sli 5 (.c 0) 1 (.v m) none), .c (.sli 6 (.c 0) 1 (.v m) (some (.v m)))] 78, .vec (encT 37 3) (List.range m) 80, .own [.a encBool m s.4] 4, .vec (encP 3) (List.range m) 37, .ro (encInt IntKind.i64) p.3]))

 (.need (decide ((0 : Int) ≤ (↑i : Int)) && decide ((↑i : Int).toNat < p.3.length))

 (.need (decide ((↑i : Int).toNat < p.3.length))

 (.need (decide ((0 : Int) ≤ p.3.getD (↑i : Int).toNat (0 : Int)) && decide ((p.3.getD (↑i : Int).toNat (0 : Int)).toNat < 6))

 (.need (decide ((p.3.getD (↑i : Int).toNat (0 : Int)).toNat < 6))

 (.br (!was.getD (p.3.getD (↑i : Int).toNat (0 : Int)).toNat false)

 (.ret (.ret, [.sli 8 (.c 0) 1 (.v p.3.length) (some (.v p.4)), .ptr 1 0, .ptr 4 0, .sli 7 (.c 0) 1 (.v m) none, .int .u32 left, .int .i64 (↑i : Int)], [.ro encLook [PUnit.unit], .own [.c (.sli 2 (.c 0) 1 (.v 3) (some (.v 3))), .c (.int .i64 s.2)] 62, .own [.a (encInt IntKind.u32) 3 s.1] 23, .many encTk s.3 70, .own [.c (.ptr 1 0), .c (.sli 5 (.c 0) 1 (.v m) none), .c (.sli 6 (.c 0) 1 (.v m) (some (.v m)))] 78, .vec (encT 37 3) (List.range m) 80, .own [.a encBool m s.4] 4, .vec (encP 3) (List.range m) 37, .ro (encInt IntKind.i64) p.3]))

 (.br (decide (now < left))

 (.ret (.ret, [.sli 8 (.c 0) 1 (.v p.3.length) (some (.v p.4)), .ptr 1 0, .ptr 4 0, .sli 7 (.c 0) 1 (.v m) none, .int .u32 left, .int .i64 (↑i : Int)], [.ro encLook [PUnit.unit], .own [.c (.sli 2 (.c 0) 1 (.v 3) (some (.v 3))), .c (.int .i64 s.2)] 62, .own [.a (encInt IntKind.u32) 3 s.1] 23, .many encTk s.3 70, .own [.c (.ptr 1 0), .c (.sli 5 (.c 0) 1 (.v m) none), .c (.sli 6 (.c 0) 1 (.v m) (some (.v m)))] 78, .vec (encT 37 3) (List.range m) 80, .own [.a encBool m s.4] 4, .vec (encP 3) (List.range m) 37, .ro (encInt IntKind.i64) p.3]))

 (.br (decide (IntKind.u32.wrap (left + hold) < now))

 (.ret (.ret, [.sli 8 (.c 0) 1 (.v p.3.length) (some (.v p.4)), .ptr 1 0, .ptr 4 0, .sli 7 (.c 0) 1 (.v m) none, .int .u32 left, .int .i64 (↑i : Int)], [.ro encLook [PUnit.unit], .own [.c (.sli 2 (.c 0) 1 (.v 3) (some (.v 3))), .c (.int .i64 s.2)] 62, .own [.a (encInt IntKind.u32) 3 s.1] 23, .many encTk s.3 70, .own [.c (.ptr 1 0), .c (.sli 5 (.c 0) 1 (.v m) none), .c (.sli 6 (.c 0) 1 (.v m) (some (.v m)))] 78, .vec (encT 37 3) (List.range m) 80, .own [.a encBool m s.4] 4, .vec (encP 3) (List.range m) 37, .ro (encInt IntKind.i64) p.3]))

 (.ret (.normal, [.sli 8 (.c 0) 1 (.v p.3.length) (some (.v p.4)), .ptr 1 0, .ptr 4 0, .sli 7 (.c 0) 1 (.v m) none, .int .u32 left, .int .i64 (↑i : Int)], [.ro encLook [PUnit.unit], .own [.c (.sli 2 (.c 0) 1 (.v 3) (some (.v 3))), .c (.int .i64 s.2)] 62, .own [.a (encInt IntKind.u32) 3 s.1] 23, .many encTk s.3 70, .own [.c (.ptr 1 0), .c (.sli 5 (.c 0) 1 (.v m) none), .c (.sli 6 (.c 0) 1 (.v m) (some (.v m)))] 78, .vec (encT 37 3) (List.range m) 80, .own [.a encBool m s.4] 4, .vec (encP 3) (List.range m) 37, .ro (encInt IntKind.i64) p.3]))))))))))))))))

 (.br (decide (now < left))

 (.ret (.ret, [.sli 8 (.c 0) 1 (.v p.3.length) (some (.v p.4)), .ptr 1 0, .ptr 4 0, .sli 7 (.c 0) 1 (.v m) none, .int .u32 left, .int .i64 (↑i : Int)], [.ro encLook [PUnit.unit], .own [.c (.sli 2 (.c 0) 1 (.v 3) (some (.v 3))), .c (.int .i64 s.2)] 62, .own [.a (encInt IntKind.u32) 3 s.1] 23, .many encTk s.3 70, .own [.c (.ptr 1 0), .c (.sli 5 (.c 0) 1 (.v m) none), .c (.sli 6 (.c 0) 1 (.v m) (some (.v m)))] 78, .vec (encT 37 3) (List.range m) 80, .own [.a encBool m s.4] 4, .vec (encP 3) (List.range m) 37, .ro (encInt IntKind.i64) p.3]))

 (.br (decide (IntKind.u32.wrap (left + hold) < now))

 (.ret (.ret, [.sli 8 (.c 0) 1 (.v p.3.length) (some (.v p.4)), .ptr 1 0, .ptr 4 0, .sli 7 (.c 0) 1 (.v m) none, .int .u32 left, .int .i64 (↑i : Int)], [.ro encLook [PUnit.unit], .own [.c (.sli 2 (.c 0) 1 (.v 3) (some (.v 3))), .c (.int .i64 s.2)] 62, .own [.a (encInt IntKind.u32) 3 s.1] 23, .many encTk s.3 70, .own [.c (.ptr 1 0), .c (.sli 5 (.c 0) 1 (.v m) none), .c (.sli 6 (.c 0) 1 (.v m) (some (.v m)))] 78, .vec (encT 37 3) (List.range m) 80, .own [.a encBool m s.4] 4, .vec (encP 3) (List.range m) 37, .ro (encInt IntKind.i64) p.3]))

 (.ret (.normal, [.sli 8 (.c 0) 1 (.v p.3.length) (some (.v p.4)), .ptr 1 0, .ptr 4 0, .sli 7 (.c 0) 1 (.v m) none, .int .u32 left, .int .i64 (↑i : Int)], [.ro encLook [PUnit.unit], .own [.c (.sli 2 (.c 0) 1 (.v 3) (some (.v 3))), .c (.int .i64 s.2)] 62, .own [.a (encInt IntKind.u32) 3 s.1] 23, .many encTk s.3 70, .own [.c (.ptr 1 0), .c (.sli 5 (.c 0) 1 (.v m) none), .c (.sli 6 (.c 0) 1 (.v m) (some (.v m)))] 78, .vec (encT 37 3) (List.range m) 80, .own [.a encBool m s.4] 4, .vec (encP 3) (List.range m) 37, .ro (encInt IntKind.i64) p.3]))))) := by kernel_rfl
set_option maxRecDepth 100000 in
theorem t5_inc {p : In9} {m : Nat} {left : Int} {s : Mc} {i : Nat} : (exec cfgM 100 inc5 (fr 149 n5b (v5 p m left ++ [.int .i64 (i : Nat)])) (s5 p m s)).bind (canonK 9 [(0,0)] 149 n5b) =
 

 (.need (inR .i64 ((↑i : Int) + (1 : Int)))

 (.ret (.normal, [.sli 8 (.c 0) 1 (.v p.3.length) (some (.v p.4)), .ptr 1 0, .ptr 4 0, .sli 7 (.c 0) 1 (.v m) none, .int .u32 left, .int .i64 ((↑i : Int) + (1 : Int))], [.ro encLook [PUnit.unit], .own [.c (.sli 2 (.c 0) 1 (.v 3) (some (.v 3))), .c (.int .i64 s.2)] 62, .own [.a (encInt IntKind.u32) 3 s.1] 23, .many encTk s.3 70, .own [.c (.ptr 1 0), .c (.sli 5 (.c 0) 1 (.v m) none), .c (.sli 6 (.c 0) 1 (.v m) (some (.v m)))] 78, .vec (encT 37 3) (List.range m) 80, .own [.a encBool m s.4] 4, .vec (encP 3) (List.range m) 37, .ro (encInt IntKind.i64) p.3]))) := by kernel_rfl
set_option maxRecDepth 100000 in
theorem t5_end {p : In9} {m : Nat} {left : Int} {s : Mc} {i : Nat} : (exec cfgM 100 end5 (fr 149 n5b (v5 p m left ++ [.int .i64 (i : Nat)])) (s5 p m s)).bind (canonK 9 [(0,0)] 149 [6]) =
 

 (.ret (.ret, [.bl true], [.ro encLook [PUnit.unit], .own [.c (.sli 2 (.c 0) 1 (.v 3) (some (.v 3))), .c (.int .i64 s.2)] 62, .own [.a (encInt IntKind.u32) 3 s.1] 23, .many encTk s.3 70, .own [.c (.ptr 1 0), .c (.sli 5 (.c 0) 1 (.v m) none), .c (.sli 6 (.c 0) 1 (.v m) (some (.v m)))] 78, .vec (encT 37 3) (List.range m) 80, .own [.a encBool m s.4] 4, .vec (encP 3) (List.range m) 37, .ro (encInt IntKind.i64) p.3])) := by kernel_rfl
end Go.Proofs.YthofahgnglfaeaaDoor

/- TicketCell, plain. -/
namespace Go.Proofs.YthofahgnglfaeaaDoor
open Go Go.Proofs.YthofahgnglfaeaaDoor.Sx
set_option linter.unusedVariables false
theorem Inv.count {m : Nat} {sum : Int} {q : List Nat} {N S C : Int} {s : Mc} (h : Inv m sum q N S C s) (c : Int) : Inv m sum q N S C ⟨s.l, c, s.xs, s.ds⟩ :=
  ⟨h.l, h.xs, h.ds, h.m6, h.rS, h.rN, h.nd, h.mem, h.tick, h.tail, h.plain, h.done, h.cell, h.rC, h.sum, h.val⟩
def lv (s' : Mc) (was : List Bool) (j : Nat) : Bool := was.getD j false && !holdB s' j
def leftOf (sum : Int) (s : Mc) : Int := sum - sumOf s.xs
def b01 (b : Bool) : Int := if b then 1 else 0
structure CellOut (m : Nat) (sum : Int) (s s' : Mc) (was : List Bool) (k : Int) (C C' : Int) : Prop where
  one : ∀ i j, i < m → j < m → lv s' was i = true → lv s' was j = true → i = j
  left : leftOf sum s + b01 ((List.range m).any (lv s' was)) = leftOf sum s'
  lo : leftOf sum s' ≤ C'
  hi : C' ≤ leftOf sum s' + b01 (anyH m s')
  small : 0 ≤ leftOf sum s ∧ leftOf sum s' ≤ 42 ∧ 0 ≤ C ∧ C ≤ 43
  chg : C' ≠ C → C' = C + 1 ∧ 0 ≤ k ∧ k < m ∧ was.getD k.toNat false = true
theorem Inv.left {m : Nat} {sum : Int} {q : List Nat} {N S C : Int} {s : Mc} (h : Inv m sum q N S C s) : leftOf sum s ≤ C ∧ C ≤ leftOf sum s + b01 (anyH m s) ∧ leftOf sum s ≤ 42 := by
  have h1 := h.cell
  have h2 := sumOf_nn (xs := s.xs) fun i hi => (h.plain i (by rw [← h.xs]; exact hi)).times.1
  have h4 := h.sum
  have h5 : any4 s.xs ≤ b01 (anyH m s) := by
    rcases any4_01 s.xs with e | e
    · rw [e]; unfold b01; split <;> omega
    · have : ∃ j, j < s.xs.length ∧ (s.xs.getD j encTk.dflt).phase = 4 := by
        refine Classical.byContradiction fun hn => ?_
        rw [any4_none fun i hi h4 => hn ⟨i, hi, h4⟩] at e
        cases e
      obtain ⟨j, hj, h4⟩ := this
      have : anyH m s = true := anyH_iff.2 ⟨j, by rw [← h.xs]; exact hj, by show 2 ≤ (s.xs.getD j encTk.dflt).phase; omega⟩
      rw [e, this]; decide
  have h6 := any4_01 s.xs
  unfold leftOf
  omega
theorem sum_of_xs {xs ys : List Tk} (hl : xs.length = ys.length) (h : ∀ j, j < xs.length → (xs.getD j encTk.dflt).times = (ys.getD j encTk.dflt).times) : sumOf xs = sumOf ys := by
  induction xs generalizing ys with
  | nil => cases ys <;> simp_all
  | cons x xs ih =>
    cases ys with
    | nil => simp at hl
    | cons y ys =>
      have h0 := h 0 (by simp)
      have h1 := ih (ys := ys) (by simpa using hl) fun j hj => by simpa using h (j + 1) (by simpa using hj)
      simp [sumOf] at h0 h1 ⊢
      omega
theorem cell_pick {m : Nat} {sum : Int} {q : List Nat} {N S C : Int} {s : Mc} (h : Inv m sum q N S C s) (h0 : 0 ≤ leftOf sum s) {was : List Bool} (hw : ∀ j, j < m → was.getD j false = holdB s j) (k : Int) :
    ∃ q' N' S' C', Inv m sum q' N' S' C' (pickP m s k) ∧ CellOut m sum s (pickP m s k) was k C C' := by
  have hl := h.left
  have hc := h.cle
  have hr := h.rC
  rcases pick_cases m s k with e | ⟨i, hi, hd, rfl⟩
  · rw [e]
    have hn : ∀ j, j < m → lv s was j = false := fun j hj => by rw [lv, hw j hj]; simp
    refine ⟨q, N, S, C, h, fun i j hi hj hx => (by rw [hn i hi] at hx; cases hx), ?_, hl.1, hl.2.1, ⟨h0, hl.2.2, hr, hc⟩, fun e => (e rfl).elim⟩
    have : (List.range m).any (lv s was) = false := by
      rw [List.any_eq_false]; intro j hj; rw [hn j (by simpa using hj)]; simp
    rw [this]; simp [b01]
  obtain ⟨q', N', S', C', h', hdid⟩ := h.pick hi hd
  refine ⟨q', N', S', C', h', ?_⟩
  generalize pickP m s (i : Nat) = s' at *
  have hl' := h'.left
  have same : (∀ j, j < m → holdB s j = true → holdB s' j = true) → (∀ j, (tkAt s' j).times = (tkAt s j).times) → (C' ≠ C → C' = C + 1 ∧ holdB s i = true) → CellOut m sum s s' was (i : Nat) C C' := by
    intro hx ht hcc
    have hn : ∀ j, j < m → lv s' was j = false := fun j hj => by
      rw [lv, hw j hj]
      cases hb : holdB s j with
      | false => rfl
      | true => rw [hx j hj hb]; rfl
    have hsum : leftOf sum s' = leftOf sum s := by
      unfold leftOf
      rw [sum_of_xs (xs := s'.xs) (ys := s.xs) (by rw [h.xs, h'.xs]) fun j _ => ht j]
    refine ⟨fun i j hi hj hx => (by rw [hn i hi] at hx; cases hx), ?_, hl'.1, hl'.2.1, ⟨h0, hl'.2.2, hr, hc⟩, fun e => ?_⟩
    · have : (List.range m).any (lv s' was) = false := by
        rw [List.any_eq_false]; intro j hj; rw [hn j (by simpa using hj)]; simp
      rw [this, hsum]; simp [b01]
    · obtain ⟨e1, e2⟩ := hcc e
      exact ⟨e1, by omega, by omega, by rw [show ((i : Nat) : Int).toNat = i by simp, hw i hi]; exact e2⟩
  cases hdid with
  | none _ _ _ _ ht hl hx hd' => exact same (fun j _ => by rw [holdB, holdB, hx]; exact id) (fun j => by rw [hx]) (fun e => (e rfl).elim)
  | draw _ _ _ _ ht hp hx hd' => exact same (fun j _ => by rw [holdB, holdB, hx]; split <;> simp_all) (fun j => by rw [hx]; split <;> simp_all) (fun e => (e rfl).elim)
  | wait _ _ _ _ ht hp hq hx hd' => exact same (fun j _ => by rw [holdB, holdB, hx]; exact id) (fun j => by rw [hx]) (fun e => (e rfl).elim)
  | got _ _ _ _ ht hp hq hx hd' => exact same (fun j _ => by rw [holdB, holdB, hx]; split <;> simp_all) (fun j => by rw [hx]; split <;> simp_all) (fun e => (e rfl).elim)
  | load _ _ _ _ ht hp hq hx hd' => exact same (fun j _ => by rw [holdB, holdB, hx]; split <;> simp_all) (fun j => by rw [hx]; split <;> simp_all) (fun e => (e rfl).elim)
  | store _ _ _ _ ht hp hq hx hd' => exact same (fun j _ => by rw [holdB, holdB, hx]; split <;> simp_all) (fun j => by rw [hx]; split <;> simp_all) (fun e => ⟨rfl, by rw [holdB, hp]; rfl⟩)
  | leave r _ _ _ ht hp hx hd' =>
    have hn : ∀ j, j < m → (lv s' was j = true ↔ j = i) := by
      intro j hj
      rw [lv, hw j hj, holdB, holdB, hx]
      by_cases hji : j = i
      · subst hji; rw [if_pos rfl, hp]; simp
      · rw [if_neg hji]; simp [hji]
    have hany : (List.range m).any (lv s' was) = true := by
      rw [List.any_eq_true]; exact ⟨i, by simpa using hi, (hn i hi).2 rfl⟩
    have hsum : leftOf sum s' = leftOf sum s + 1 := by
      have h1 := h.cell
      have h2 := h'.cell
      have h3 : any4 s.xs = 1 := any4_pos (i := i) (by rw [h.xs]; exact hi) hp
      have h4 : any4 s'.xs = 0 := any4_none fun j hj e => by
        have e : (tkAt s' j).phase = 4 := e
        rw [hx] at e
        split at e
        · simp at e
        · rename_i hji
          have := h.other hi (by omega) (j := j) (by rw [← h'.xs]; exact hj) hji
          omega
      unfold leftOf
      omega
    refine ⟨fun a b ha hb h1 h2 => by rw [(hn a ha).1 h1, (hn b hb).1 h2], ?_, hl'.1, hl'.2.1, ⟨h0, hl'.2.2, hr, hc⟩, fun e => (e rfl).elim⟩
    rw [hany, hsum]; simp [b01]
/-- who held ahead of the pick, so far -/
structure ScanA (m : Nat) (s : Mc) (k : Nat) (was : List Bool) : Prop where
  len : was.length = 6
  held : ∀ j, j < m → was.getD j false = if j < k then holdB s j else false
theorem scanA_start {m : Nat} {s : Mc} : ScanA m s 0 (List.replicate 6 false) := ⟨by simp, fun j hj => by rw [Sx.getD_replicate]; simp⟩
theorem scanA_next {m : Nat} {s : Mc} {k : Nat} {was : List Bool} (h : ScanA m s k was) (hk : k < m) (h6 : m ≤ 6) : ScanA m s (k + 1) (was.set k (holdB s k)) := by
  refine ⟨by simp [h.len], fun j hj => ?_⟩
  by_cases hji : j = k
  · subst hji; rw [Sx.getD_set_self (by rw [h.len]; omega), if_pos (by omega)]
  · rw [Sx.getD_set_ne (fun e => hji e.symm), h.held j hj]
    by_cases hlt : j < k
    · rw [if_pos hlt, if_pos (by omega)]
    · rw [if_neg hlt, if_neg (by omega)]
/-- how many left the lock, and whether one holds it, so far -/
structure ScanB (s' : Mc) (was : List Bool) (left0 : Int) (k : Nat) (left hold : Int) : Prop where
  left : left = left0 + b01 ((List.range k).any (lv s' was))
  hold : hold = b01 ((List.range k).any (holdB s'))
theorem any_succ (k : Nat) (f : Nat → Bool) : (List.range (k + 1)).any f = ((List.range k).any f || f k) := by
  rw [List.range_succ, List.any_append]; simp
theorem scanB_next {m : Nat} {sum : Int} {s s' : Mc} {was : List Bool} {kk C C' : Int} (ho : CellOut m sum s s' was kk C C') {k : Nat} (hk : k < m) {left hold : Int} (h : ScanB s' was (leftOf sum s) k left hold) :
    ScanB s' was (leftOf sum s) (k + 1) (if lv s' was k then IntKind.u32.wrap (left + 1) else left) (if holdB s' k then 1 else hold) := by
  refine ⟨?_, ?_⟩
  · rw [any_succ]
    cases hb : lv s' was k with
    | false => simp [h.left]
    | true =>
      have no : (List.range k).any (lv s' was) = false := by
        rw [List.any_eq_false]
        intro j hj hjn
        have hj : j < k := by simpa using hj
        have := ho.one j k (by omega) hk hjn hb
        omega
      have h1 := h.left
      rw [no] at h1 ⊢
      have h2 := ho.small
      have h3 := ho.left
      have h4 : (List.range m).any (lv s' was) = true := by rw [List.any_eq_true]; exact ⟨k, by simpa using hk, hb⟩
      rw [h4] at h3
      simp only [b01, if_true, Bool.false_eq_true, if_false, Bool.false_or] at h1 h3 ⊢
      rw [w32_mod]; omega
  · rw [any_succ, h.hold]
    cases holdB s' k <;> simp [b01]
end Go.Proofs.YthofahgnglfaeaaDoor

/- TicketCell: its loops. -/
namespace Go.Proofs.YthofahgnglfaeaaDoor
open Go Go.Proofs.YthofahgnglfaeaaDoor.Sx
set_option linter.unusedVariables false
abbrev Q5 (w0 : From) : Exit → Act → World → Prop := bodyPost Tryd.prog Tryd.f5 (Said w0)
structure Ix5 where
  i : Nat
  s : Mc
def Inv5 (w0 : From) (p : In9) (m : Nat) (sum : Int) (j : Ix5) (a : Act) (w : World) : Prop :=
  j.i ≤ 200 ∧ 0 ≤ leftOf sum j.s ∧ (∃ q N S C, Inv m sum q N S C j.s) ∧ ∃ env, At [(0, 0)] w0 env (fr 149 n5b (v5 p m (leftOf sum j.s) ++ [.int .i64 (j.i : Nat)])) (s5 p m j.s) a w
abbrev R5 (w0 : From) (p : In9) (m : Nat) (sum : Int) (i : Nat) : Exit → Act → World → Prop :=
  Exit.then (fun a' w' => ∃ k, Inv5 w0 p m sum k a' w' ∧ 200 - k.i < 200 - i) (Exit.inBlock 0 (Exit.then (end5.wp Tryd.prog (Q5 w0)) (Q5 w0)))
abbrev K5 (w0 : From) (p : In9) (m : Nat) (sum : Int) (i : Nat) : Exit → Act → World → Prop :=
  Exit.inBlock 1 (Exit.then (inc5.wp Tryd.prog (R5 w0 p m sum i)) (R5 w0 p m sum i))
theorem end5_ok {w0 : From} {p : In9} {m : Nat} {left : Int} {s : Mc} {i : Nat} {env : Env} {a : Act} {w : World} (h : At [(0, 0)] w0 env (fr 149 n5b (v5 p m left ++ [.int .i64 (i : Nat)])) (s5 p m s) a w) : end5.wp Tryd.prog (Q5 w0) a w :=
  pieceT0 (c := cfgM) cfgM_ok [6] t5_end h (all_ret fun env' a' w' hA' => hA'.said (by kernel_rfl))
theorem inc5_ok {w0 : From} {p : In9} {m : Nat} {sum : Int} {i : Nat} (hi : i < 200) {s : Mc} (h0 : 0 ≤ leftOf sum s) (hinv : ∃ q N S C, Inv m sum q N S C s) {env : Env} {a : Act} {w : World} (h : At [(0, 0)] w0 env (fr 149 n5b (v5 p m (leftOf sum s) ++ [.int .i64 (i : Nat)])) (s5 p m s) a w) :
    inc5.wp Tryd.prog (R5 w0 p m sum i) a w := by
  refine pieceT0 (c := cfgM) cfgM_ok n5b t5_inc h ?_
  refine all_needp (by simp only [inR_i64]; exact Iff.rfl) (by omega) fun _ => all_ret fun env' a' w' hA' => ?_
  exact ⟨⟨i + 1, s⟩, ⟨by simp only; omega, h0, hinv, env', hA'⟩, by simp only; omega⟩
theorem xsD {m : Nat} {s : Mc} (hx : s.xs.length = m) {k : Nat} (hk : k < m) (d : Tk) : s.xs.getD k d = tkAt s k := by
  simp only [tkAt, List.getD_eq_getElem?_getD]
  rw [List.getElem?_eq_getElem (by omega)]; rfl
set_option maxHeartbeats 2000000 in
theorem chk5_ok {w0 : From} {p : In9} {m : Nat} {sum : Int} {i : Nat} (hi : i < 200) (hil : i < p.picks.length) {s s' : Mc} {was : List Bool} {C C' : Int} (hm6 : m ≤ 6) (hw6 : was.length = 6) (hinv : ∃ q N S, Inv m sum q N S C' s') {k : Int} (hkk : p.picks.getD i 0 = k) (ho : CellOut m sum s s' was k C C') {hold : Int} (hh : hold = b01 (anyH m s')) {env : Env} {a : Act} {w : World}
    (hA : At [(0, 0)] w0 env (fr 149 n5e (v5 p m (leftOf sum s') ++ [.int .i64 (i : Nat), .int .u32 C, .ptr 9 0, .int .u32 C', .int .u32 hold])) (s5w p m s' was) a w) : chk5.wp Tryd.prog (K5 w0 p m sum i) a w := by
  obtain ⟨h1, h2, h3, h4, h5, h6⟩ := ho
  have hb : 0 ≤ b01 (anyH m s') ∧ b01 (anyH m s') ≤ 1 := by unfold b01; split <;> omega
  have hlb : 0 ≤ b01 ((List.range m).any (lv s' was)) := by unfold b01; split <;> omega
  have hw1 : IntKind.u32.wrap (C + 1) = C + 1 := by rw [w32_mod]; omega
  have hw2 : IntKind.u32.wrap (leftOf sum s' + hold) = leftOf sum s' + hold := by rw [w32_mod]; omega
  refine pieceT0 (c := cfgM) cfgM_ok n5b t5_chk hA ?_
  simp only [Int.toNat_natCast, hw1, hw2, hkk]
  have fin : ∀ {env' : Env} {a' : Act} {w' : World}, At [(0, 0)] w0 env' (fr 149 n5b (v5 p m (leftOf sum s') ++ [.int .i64 (i : Nat)])) (s5 p m s') a' w' → K5 w0 p m sum i .normal a' w' := by
    intro env' a' w' h
    simp only [K5, Exit.inBlock, Exit.then]
    obtain ⟨q, N, S, hinv⟩ := hinv
    exact inc5_ok hi (by omega) ⟨q, N, S, C', hinv⟩ h
  refine all_brp (by simp only [bne_iff_ne, ne_eq]; exact Iff.rfl) (fun hne => ?_) (fun hne => ?_)
  · obtain ⟨e1, e2, e3, e4⟩ := h6 hne
    refine all_brp (by simp only [bne_iff_ne, ne_eq]; exact Iff.rfl) (fun h => by exact absurd e1 h) (fun _ => ?_)
    refine all_needq (by simp only [decide_eq_true_eq, Bool.and_eq_true]; exact Iff.rfl) (by omega) ?_
    refine all_needq (by simp only [decide_eq_true_eq]; exact Iff.rfl) (by omega) ?_
    refine all_brp (by simp only [decide_eq_true_eq]; exact Iff.rfl) (fun h => by exfalso; omega) (fun _ => ?_)
    refine all_needq (by simp only [decide_eq_true_eq, Bool.and_eq_true]; exact Iff.rfl) (by omega) ?_
    refine all_needq (by simp only [decide_eq_true_eq]; exact Iff.rfl) (by omega) ?_
    refine all_brp (by simp only [decide_eq_true_eq]; exact Iff.rfl) (fun h => by exfalso; omega) (fun _ => ?_)
    refine all_needq (by simp only [decide_eq_true_eq, Bool.and_eq_true]; exact Iff.rfl) (by omega) ?_
    refine all_needq (by simp only [decide_eq_true_eq]; exact Iff.rfl) (by omega) ?_
    refine all_needq (by simp only [decide_eq_true_eq, Bool.and_eq_true]; exact Iff.rfl) (by omega) ?_
    refine all_needq (by simp only [decide_eq_true_eq]; exact Iff.rfl) (by omega) ?_
    refine all_br (fun h => by rw [e4] at h; cases h) (fun _ => ?_)
    refine all_brp (by simp only [decide_eq_true_eq]; exact Iff.rfl) (fun h => by exfalso; omega) (fun _ => ?_)
    refine all_brp (by simp only [decide_eq_true_eq]; exact Iff.rfl) (fun h => by exfalso; omega) (fun _ => ?_)
    exact all_ret fun _ _ _ h => fin h
  · refine all_brp (by simp only [decide_eq_true_eq]; exact Iff.rfl) (fun h => by exfalso; omega) (fun _ => ?_)
    refine all_brp (by simp only [decide_eq_true_eq]; exact Iff.rfl) (fun h => by exfalso; omega) (fun _ => ?_)
    exact all_ret fun _ _ _ h => fin h
structure Ix5b where
  k : Nat
  left : Int
  hold : Int
def Inv5b (w0 : From) (p : In9) (m : Nat) (s' : Mc) (was : List Bool) (left0 : Int) (v now : Int) (i : Nat) (j : Ix5b) (a : Act) (w : World) : Prop :=
  j.k ≤ m ∧ ScanB s' was left0 j.k j.left j.hold ∧ ∃ env, At [(0, 0)] w0 env (fr 149 n5f (v5 p m j.left ++ [.int .i64 (i : Nat), .int .u32 v, .ptr 9 0, .int .u32 now, .int .u32 j.hold, .int .i64 (j.k : Nat)])) (s5w p m s' was) a w
set_option maxHeartbeats 2000000 in
theorem in5b_ok {w0 : From} {p : In9} {m : Nat} {sum : Int} {i : Nat} (hi : i < 200) (hil : i < p.picks.length) {s s' : Mc} {was : List Bool} {C C' : Int} (hm6 : m ≤ 6) (hw6 : was.length = 6) (hinv : ∃ q N S, Inv m sum q N S C' s') (ho : CellOut m sum s s' was (p.picks.getD i 0) C C')
    {j : Ix5b} (hj : j.k ≤ m) (hsc : ScanB s' was (leftOf sum s) j.k j.left j.hold) {env : Env} {a : Act} {w : World}
    (hA : At [(0, 0)] w0 env (fr 149 n5f (v5 p m j.left ++ [.int .i64 (i : Nat), .int .u32 C, .ptr 9 0, .int .u32 C', .int .u32 j.hold, .int .i64 (j.k : Nat)])) (s5w p m s' was) a w) :
    lp5b.wp Tryd.prog (Exit.then (fun a' w' => ∃ j', Inv5b w0 p m s' was (leftOf sum s) C C' i j' a' w' ∧ m - j'.k < m - j.k) (Exit.inBlock 4 (Exit.then (chk5.wp Tryd.prog (K5 w0 p m sum i)) (K5 w0 p m sum i)))) a w := by
  obtain ⟨k, left, hold⟩ := j
  simp only at hj hsc hA ⊢
  have hxl : s'.xs.length = m := by obtain ⟨q, N, S, h⟩ := hinv; exact h.xs
  refine pieceT0 (c := cfgM) cfgM_ok n5f t5_in2 hA ?_
  refine all_brp (by simp only [decide_eq_true_eq]; exact Iff.rfl) (fun hk => ?_) (fun hk => ?_)
  · have hk' : k < m := by omega
    have hr : (List.range m).getD k 0 = k := getD_range hk'
    have hlr : (List.range m).length = m := by simp
    have hT := fun d => xsD hxl hk' d
    have hnx := scanB_next ho hk' hsc
    simp only [Int.toNat_natCast, hr, hlr, hT]
    have nx : ∀ {left' hold'}, ScanB s' was (leftOf sum s) (k + 1) left' hold' → ∀ {env' a' w'}, At [(0, 0)] w0 env' (fr 149 n5f (v5 p m left' ++ [.int .i64 (i : Nat), .int .u32 C, .ptr 9 0, .int .u32 C', .int .u32 hold', .int .i64 ((k : Int) + 1)])) (s5w p m s' was) a' w' →
        ∃ j', Inv5b w0 p m s' was (leftOf sum s) C C' i j' a' w' ∧ m - j'.k < m - k := by
      intro left' hold' h1 env' a' w' h2
      exact ⟨⟨k + 1, left', hold'⟩, ⟨by simp only; omega, h1, env', h2⟩, by simp only; omega⟩
    have e1 : holdB s' k = decide (2 ≤ (tkAt s' k).phase) := rfl
    have e2 : lv s' was k = (was.getD k false && !decide (2 ≤ (tkAt s' k).phase)) := rfl
    rw [e1, e2] at hnx
    cases hw : was.getD k false <;> by_cases hp : 2 ≤ (tkAt s' k).phase <;> rw [hw] at hnx <;> simp only [hp, decide_true, decide_false, Bool.not_true, Bool.not_false, Bool.and_true, Bool.and_false, Bool.false_and, if_true, Bool.false_eq_true, if_false] at hnx
    all_goals repeat' (first
      | refine all_needq (by simp only [decide_eq_true_eq, Bool.and_eq_true, inR_i64]; exact Iff.rfl) (by omega) ?_
      | (refine all_brp (by simp only [decide_eq_true_eq, Bool.not_eq_true', decide_eq_false_iff_not, Bool.false_eq_true]; exact Iff.rfl) (fun _ => ?_) (fun _ => ?_) <;> try (first | (exfalso; omega) | (rename_i hh; exact (hh trivial).elim) | (rename_i hh; exact False.elim hh))))
    all_goals exact all_ret fun _ _ _ h => nx hnx (At.gvals h _ rfl)
  · have hkm : k = m := by omega
    subst hkm
    refine all_ret fun env' a' w' hA' => ?_
    simp only [Ex.to, Exit.then, Exit.inBlock, if_true]
    have hl : left = leftOf sum s' := by rw [hsc.left]; exact ho.left
    subst hl
    exact chk5_ok hi hil hm6 hw6 hinv rfl ho hsc.hold (At.few (names := n5e) (extra := [20]) (vals := v5 p k (leftOf sum s') ++ [.int .i64 (i : Nat), .int .u32 C, .ptr 9 0, .int .u32 C', .int .u32 hold]) (ev := [.int .i64 (k : Nat)]) hA' rfl)
end Go.Proofs.YthofahgnglfaeaaDoor

/- TicketEnds: pieces and states. -/
namespace Go.Proofs.YthofahgnglfaeaaDoor
open Go Go.Proofs.YthofahgnglfaeaaDoor.Sx
set_option linter.unusedVariables false
/-- with rounds, what is left behind them, and memory -/
noncomputable def cfgU (n m : Nat) (s s2 : Mc) : Cfg := { P := Tryd.prog, ex := exI, gl := [(0, 0)], sm := fun f => match f with | 26 => some (smPre 7 (gRound n m s)) | 25 => some (smPre 7 (gLeft n m s2)) | 24 => some (smPre 3 gLoad) | _ => none }
theorem cfgU_ok {n m : Nat} {s s2 : Mc} : SmOk (cfgU n m s s2) := by
  intro f g h
  simp only [cfgU] at h
  split at h
  · simp only [Option.some.injEq] at h; subst h
    exact smPre_ok (c := cfgM) (gl_lt (by omega)) gRound_ok
  · simp only [Option.some.injEq] at h; subst h
    exact smPre_ok (c := cfgM) (gl_lt (by omega)) gLeft_ok
  · simp only [Option.some.injEq] at h; subst h
    exact smPre_ok (c := cfgW) (gl_lt (by omega)) load_ok
  · cases h
noncomputable def b8 : Code := Tryd.f8.body.getD .skip
noncomputable def c8 : Code := restC 3 b8
noncomputable def reg8 : Code := lft (lft c8)
noncomputable def blk8 : Code := rgt (lft c8)
noncomputable def end8 : Code := rgt c8
noncomputable def round8 : Code := lft (lft blk8)
abbrev n8a : List Nat := [2, 8, 10]
abbrev n8b : List Nat := [2, 8, 10, 11]
abbrev v8 (p : In9) (sum : Int) : List SVal := [picksV p 8, .ptr 4 0, .int .u32 sum]
end Go.Proofs.YthofahgnglfaeaaDoor

namespace Go.Proofs.YthofahgnglfaeaaDoor
open Go Go.Proofs.YthofahgnglfaeaaDoor.Sx
set_option linter.unusedVariables false
set_option maxRecDepth 100000 in
theorem t8_pre {p : In9} {f : Int} : (execN (cfgL p f) 100 3 b8 ([timesV p 1, .int .u32 f, picksV p 2] ++ List.replicate 54 .bad) (s0 p)).bind (canonK 10 [(0,0)] 57 n8a) =
 

 (.eq ([SVal.sli 1 (.c 0) 1 (.v p.1.length) (some (.v p.2)), .int .u32 f] = [SVal.sli 1 (.c 0) 1 (.v p.1.length) (some (.v p.2)), .int .u32 f] ∧ [Blk.ro encLook [PUnit.unit], .ro encU8 p.1, .ro (encInt IntKind.i64) p.3] = [Blk.ro encLook [PUnit.unit], .ro encU8 p.1, .ro (encInt IntKind.i64) p.3] ∧ True)

 (.eq (some [Blk.ro encLook [PUnit.unit]] = some [Blk.ro encLook [PUnit.unit]])

 (.ret (.normal, [.sli 2 (.c 0) 1 (.v p.3.length) (some (.v p.4)), .ptr 6 0, .int .u32 (sumOf (madeP p))], [.ro encLook [PUnit.unit], .ro encU8 p.1, .ro (encInt IntKind.i64) p.3, .own [.c (.sli 4 (.c 0) 1 (.c 3) (some (.c 3))), .c (.lit .i64 (2 : Int))] 62, .own [.c (.int .u32 (setP (0 : Int) f)), .c (.int .u32 (setP (0 : Int) f)), .c (.lit .u32 (0 : Int))] 23, .many encTk (madeP p) 70, .own [.c (.ptr 3 0), .c (.sli 7 (.c 0) 1 (.v (madeP p).length) none), .c (.sli 8 (.c 0) 1 (.v (madeP p).length) (some (.v (madeP p).length)))] 78, .vec (encT 37 5) (List.range (madeP p).length) 80, .own [.a encBool (madeP p).length (List.replicate (madeP p).length false)] 4, .vec (encP 5) (List.range (madeP p).length) 37])))) := by kernel_rfl
set_option maxRecDepth 100000 in
theorem t8_reg {p : In9} {m : Nat} {sum : Int} {s : Mc} : (exec cfgM 100 reg8 (fr 57 n8a (v8 p sum)) (s5 p m s)).bind (canonK 9 [(0,0)] 57 n8b) =
 

 (.ret (.normal, [.sli 8 (.c 0) 1 (.v p.3.length) (some (.v p.4)), .ptr 4 0, .int .u32 sum, .lit .i64 (0 : Int)], [.ro encLook [PUnit.unit], .own [.c (.sli 2 (.c 0) 1 (.v 3) (some (.v 3))), .c (.int .i64 s.2)] 62, .own [.a (encInt IntKind.u32) 3 s.1] 23, .many encTk s.3 70, .own [.c (.ptr 1 0), .c (.sli 5 (.c 0) 1 (.v m) none), .c (.sli 6 (.c 0) 1 (.v m) (some (.v m)))] 78, .vec (encT 37 3) (List.range m) 80, .own [.a encBool m s.4] 4, .vec (encP 3) (List.range m) 37, .ro (encInt IntKind.i64) p.3])) := by kernel_rfl
set_option maxRecDepth 100000 in
theorem t8_round {p : In9} {m : Nat} {sum : Int} {s : Mc} {i : Nat} : (exec (cfgQ 3 m s) 100 round8 (fr 57 n8b (v8 p sum ++ [.int .i64 (i : Nat)])) (s5 p m s)).bind (canonK 9 [(0,0)] 57 n8b) =
 

 (.br (decide ((↑i : Int) < (↑p.3.length : Int)))

 (.br (decide ((↑i : Int) < (200 : Int)))

 (.need (decide ((0 : Int) ≤ (↑i : Int)) && decide ((↑i : Int).toNat < p.3.length))

 (.need (decide ((↑i : Int).toNat < p.3.length))

 (.eq ([Blk.ro encLook [PUnit.unit], .own [.c (.sli 2 (.c 0) 1 (.v 3) (some (.v 3))), .c (.int .i64 s.2)] 62, .own [.a (encInt IntKind.u32) 3 s.1] 23, .many encTk s.3 70, .own [.c (.ptr 1 0), .c (.sli 5 (.c 0) 1 (.v m) none), .c (.sli 6 (.c 0) 1 (.v m) (some (.v m)))] 78, .vec (encT 37 3) (List.range m) 80, .own [.a encBool m s.4] 4] = [Blk.ro encLook [PUnit.unit], .own [.c (.sli 2 (.c 0) 1 (.v 3) (some (.v 3))), .c (.int .i64 s.2)] 62, .own [.a (encInt IntKind.u32) 3 s.1] 23, .many encTk s.3 70, .own [.c (.ptr 1 0), .c (.sli 5 (.c 0) 1 (.v m) none), .c (.sli 6 (.c 0) 1 (.v m) (some (.v m)))] 78, .vec (encT 37 3) (List.range m) 80, .own [.a encBool m s.4] 4] ∧ McOk 3 m s)

 (.need (inR .i64 ((↑i : Int) + (1 : Int)))

 (.ret (.normal, [.sli 8 (.c 0) 1 (.v p.3.length) (some (.v p.4)), .ptr 4 0, .int .u32 sum, .int .i64 ((↑i : Int) + (1 : Int))], [.ro encLook [PUnit.unit], .own [.c (.sli 2 (.c 0) 1 (.v 3) (some (.v 3))), .c (.int .i64 (pickP m s (p.3.getD (↑i : Int).toNat (0 : Int))).c)] 62, .own [.a (encInt IntKind.u32) 3 (pickP m s (p.3.getD (↑i : Int).toNat (0 : Int))).l] 23, .many encTk (pickP m s (p.3.getD (↑i : Int).toNat (0 : Int))).xs 70, .own [.c (.ptr 1 0), .c (.sli 5 (.c 0) 1 (.v m) none), .c (.sli 6 (.c 0) 1 (.v m) (some (.v m)))] 78, .vec (encT 37 3) (List.range m) 80, .own [.a encBool m (pickP m s (p.3.getD (↑i : Int).toNat (0 : Int))).ds] 4, .vec (encP 3) (List.range m) 37, .ro (encInt IntKind.i64) p.3]))))))

 (.ret (.exit 0, [.sli 8 (.c 0) 1 (.v p.3.length) (some (.v p.4)), .ptr 4 0, .int .u32 sum, .int .i64 (↑i : Int)], [.ro encLook [PUnit.unit], .own [.c (.sli 2 (.c 0) 1 (.v 3) (some (.v 3))), .c (.int .i64 s.2)] 62, .own [.a (encInt IntKind.u32) 3 s.1] 23, .many encTk s.3 70, .own [.c (.ptr 1 0), .c (.sli 5 (.c 0) 1 (.v m) none), .c (.sli 6 (.c 0) 1 (.v m) (some (.v m)))] 78, .vec (encT 37 3) (List.range m) 80, .own [.a encBool m s.4] 4, .vec (encP 3) (List.range m) 37, .ro (encInt IntKind.i64) p.3])))

 (.ret (.exit 0, [.sli 8 (.c 0) 1 (.v p.3.length) (some (.v p.4)), .ptr 4 0, .int .u32 sum, .int .i64 (↑i : Int)], [.ro encLook [PUnit.unit], .own [.c (.sli 2 (.c 0) 1 (.v 3) (some (.v 3))), .c (.int .i64 s.2)] 62, .own [.a (encInt IntKind.u32) 3 s.1] 23, .many encTk s.3 70, .own [.c (.ptr 1 0), .c (.sli 5 (.c 0) 1 (.v m) none), .c (.sli 6 (.c 0) 1 (.v m) (some (.v m)))] 78, .vec (encT 37 3) (List.range m) 80, .own [.a encBool m s.4] 4, .vec (encP 3) (List.range m) 37, .ro (encInt IntKind.i64) p.3]))) := by kernel_rfl
set_option maxRecDepth 100000 in
theorem t8_end {p : In9} {m : Nat} {sum : Int} {s : Mc} {i : Nat} : (exec (cfgU 3 m s (endP m s (6 * sum + 7).toNat)) 100 end8 (fr 57 n8b (v8 p sum ++ [.int .i64 (i : Nat)])) (s5 p m s)).bind (canonK 9 [(0,0)] 57 [6]) =
 

 (.need (inR .i64 sum)

 (.need (inR .i64 ((6 : Int) * sum))

 (.need (inR .i64 ((6 : Int) * sum + (7 : Int)))

 (.eq ([Blk.ro encLook [PUnit.unit], .own [.c (.sli 2 (.c 0) 1 (.v 3) (some (.v 3))), .c (.int .i64 s.2)] 62, .own [.a (encInt IntKind.u32) 3 s.1] 23, .many encTk s.3 70, .own [.c (.ptr 1 0), .c (.sli 5 (.c 0) 1 (.v m) none), .c (.sli 6 (.c 0) 1 (.v m) (some (.v m)))] 78, .vec (encT 37 3) (List.range m) 80, .own [.a encBool m s.4] 4] = [Blk.ro encLook [PUnit.unit], .own [.c (.sli 2 (.c 0) 1 (.v 3) (some (.v 3))), .c (.int .i64 s.2)] 62, .own [.a (encInt IntKind.u32) 3 s.1] 23, .many encTk s.3 70, .own [.c (.ptr 1 0), .c (.sli 5 (.c 0) 1 (.v m) none), .c (.sli 6 (.c 0) 1 (.v m) (some (.v m)))] 78, .vec (encT 37 3) (List.range m) 80, .own [.a encBool m s.4] 4] ∧ McOk 3 m s ∧ m ≤ 1000 ∧ (6 : Int) * sum + (7 : Int) ≤ (1000000 : Int))

 (.br (decide ((↑(stopP m s ((6 : Int) * sum + (7 : Int)).toNat) : Int) ≤ (6 : Int) * sum + (7 : Int)))

 (.eq ([Blk.ro encLook [PUnit.unit], .own [.c (.sli 2 (.c 0) 1 (.v 3) (some (.v 3))), .c (.int .i64 (endP m s ((6 : Int) * sum + (7 : Int)).toNat).c)] 62, .own [.a (encInt IntKind.u32) 3 (endP m s ((6 : Int) * sum + (7 : Int)).toNat).l] 23, .many encTk (endP m s ((6 : Int) * sum + (7 : Int)).toNat).xs 70, .own [.c (.ptr 1 0), .c (.sli 5 (.c 0) 1 (.v m) none), .c (.sli 6 (.c 0) 1 (.v m) (some (.v m)))] 78, .vec (encT 37 3) (List.range m) 80, .own [.a encBool m (endP m s ((6 : Int) * sum + (7 : Int)).toNat).ds] 4] = [Blk.ro encLook [PUnit.unit], .own [.c (.sli 2 (.c 0) 1 (.v 3) (some (.v 3))), .c (.int .i64 (endP m s ((6 : Int) * sum + (7 : Int)).toNat).c)] 62, .own [.a (encInt IntKind.u32) 3 (endP m s ((6 : Int) * sum + (7 : Int)).toNat).l] 23, .many encTk (endP m s ((6 : Int) * sum + (7 : Int)).toNat).xs 70, .own [.c (.ptr 1 0), .c (.sli 5 (.c 0) 1 (.v m) none), .c (.sli 6 (.c 0) 1 (.v m) (some (.v m)))] 78, .vec (encT 37 3) (List.range m) 80, .own [.a encBool m (endP m s ((6 : Int) * sum + (7 : Int)).toNat).ds] 4] ∧ (endP m s ((6 : Int) * sum + (7 : Int)).toNat).ds.length = m ∧ m ≤ 1000)

 (.ret (.ret, [.sb (leftP (endP m s ((6 : Int) * sum + (7 : Int)).toNat).ds == (0 : Int))], [.ro encLook [PUnit.unit], .own [.c (.sli 2 (.c 0) 1 (.v 3) (some (.v 3))), .c (.int .i64 (endP m s ((6 : Int) * sum + (7 : Int)).toNat).c)] 62, .own [.a (encInt IntKind.u32) 3 (endP m s ((6 : Int) * sum + (7 : Int)).toNat).l] 23, .many encTk (endP m s ((6 : Int) * sum + (7 : Int)).toNat).xs 70, .own [.c (.ptr 1 0), .c (.sli 5 (.c 0) 1 (.v m) none), .c (.sli 6 (.c 0) 1 (.v m) (some (.v m)))] 78, .vec (encT 37 3) (List.range m) 80, .own [.a encBool m (endP m s ((6 : Int) * sum + (7 : Int)).toNat).ds] 4, .vec (encP 3) (List.range m) 37, .ro (encInt IntKind.i64) p.3])))

 (.ret (.ret, [.bl false], [.ro encLook [PUnit.unit], .own [.c (.sli 2 (.c 0) 1 (.v 3) (some (.v 3))), .c (.int .i64 (endP m s ((6 : Int) * sum + (7 : Int)).toNat).c)] 62, .own [.a (encInt IntKind.u32) 3 (endP m s ((6 : Int) * sum + (7 : Int)).toNat).l] 23, .many encTk (endP m s ((6 : Int) * sum + (7 : Int)).toNat).xs 70, .own [.c (.ptr 1 0), .c (.sli 5 (.c 0) 1 (.v m) none), .c (.sli 6 (.c 0) 1 (.v m) (some (.v m)))] 78, .vec (encT 37 3) (List.range m) 80, .own [.a encBool m (endP m s ((6 : Int) * sum + (7 : Int)).toNat).ds] 4, .vec (encP 3) (List.range m) 37, .ro (encInt IntKind.i64) p.3]))))))) := by kernel_rfl
end Go.Proofs.YthofahgnglfaeaaDoor

/- TicketEnds: its call. -/
namespace Go.Proofs.YthofahgnglfaeaaDoor
open Go Go.Proofs.YthofahgnglfaeaaDoor.Sx
set_option linter.unusedVariables false
theorem inv_pick {m : Nat} {sum : Int} {q : List Nat} {N S C : Int} {s : Mc} (h : Inv m sum q N S C s) (k : Int) : ∃ q' N' S' C', Inv m sum q' N' S' C' (pickP m s k) := by
  rcases pick_cases m s k with e | ⟨i, hi, hd, rfl⟩
  · rw [e]; exact ⟨_, _, _, _, h⟩
  · obtain ⟨q', N', S', C', h', _⟩ := h.pick hi hd
    exact ⟨_, _, _, _, h'⟩
abbrev Q8 (w0 : From) : Exit → Act → World → Prop := bodyPost Tryd.prog Tryd.f8 (Said w0)
structure Ix8 where
  i : Nat
  s : Mc
def Inv8 (w0 : From) (p : In9) (m : Nat) (sum : Int) (j : Ix8) (a : Act) (w : World) : Prop :=
  j.i ≤ 200 ∧ (∃ q N S C, Inv m sum q N S C j.s) ∧ ∃ env, At [(0, 0)] w0 env (fr 57 n8b (v8 p sum ++ [.int .i64 (j.i : Nat)])) (s5 p m j.s) a w
theorem end8_ok {w0 : From} {p : In9} {m : Nat} {sum : Int} {s : Mc} (h0 : 0 ≤ sum) {q : List Nat} {N S C : Int} (hinv : Inv m sum q N S C s) {i : Nat} {env : Env} {a : Act} {w : World} (h : At [(0, 0)] w0 env (fr 57 n8b (v8 p sum ++ [.int .i64 (i : Nat)])) (s5 p m s) a w) : end8.wp Tryd.prog (Q8 w0) a w := by
  have h42 := hinv.sum
  have hm6 := hinv.m6
  have hmu := hinv.mu_le
  obtain ⟨q', N', S', C', hinv', hl⟩ := endP_ok (6 * sum + 7).toNat hinv (by omega)
  have hst := stopP_le m (6 * sum + 7).toNat s
  refine pieceT0 (c := cfgU 3 m s (endP m s (6 * sum + 7).toNat)) cfgU_ok [6] t8_end h ?_
  refine all_needq (by simp only [inR_i64]; exact Iff.rfl) (by omega) ?_
  refine all_needq (by simp only [inR_i64]; exact Iff.rfl) (by omega) ?_
  refine all_needq (by simp only [inR_i64]; exact Iff.rfl) (by omega) ?_
  refine all_eq ⟨rfl, hinv.ok, by omega, by omega⟩ ?_
  refine all_brp (by simp only [decide_eq_true_eq]; exact Iff.rfl) (fun _ => ?_) (fun h => by exfalso; omega)
  refine all_eq ⟨rfl, hinv'.ds, by omega⟩ ?_
  rw [hl]
  refine all_ret fun env' a' w' hA' => ?_
  have hA2 := hA'.gvals [.bl true] rfl
  exact hA2.said (by kernel_rfl)
set_option maxHeartbeats 1000000 in
theorem round8_ok {w0 : From} {p : In9} {m : Nat} {sum : Int} (h0 : 0 ≤ sum) {j : Ix8} {a : Act} {w : World} (h : Inv8 w0 p m sum j a w) :
    round8.wp Tryd.prog (Exit.then (fun a' w' => ∃ k, Inv8 w0 p m sum k a' w' ∧ 200 - k.i < 200 - j.i) (Exit.inBlock 0 (Exit.then (end8.wp Tryd.prog (Q8 w0)) (Q8 w0)))) a w := by
  obtain ⟨i, s⟩ := j
  obtain ⟨hi, ⟨q, N, S, C, hinv⟩, env, hA⟩ := h
  simp only at hi hinv hA ⊢
  refine pieceT0 (c := cfgQ 3 m s) cfgQ_ok n8b t8_round hA ?_
  refine all_brp (by simp only [decide_eq_true_eq]; exact Iff.rfl) (fun h1 => ?_) (fun h1 => all_ret fun _ _ _ h => by
    simp only [Ex.to, Exit.then, Exit.inBlock, if_true]; exact end8_ok h0 hinv h)
  refine all_brp (by simp only [decide_eq_true_eq]; exact Iff.rfl) (fun h2 => ?_) (fun h1 => all_ret fun _ _ _ h => by
    simp only [Ex.to, Exit.then, Exit.inBlock, if_true]; exact end8_ok h0 hinv h)
  refine all_needq (by simp only [decide_eq_true_eq, Bool.and_eq_true]; exact Iff.rfl) (by omega) ?_
  refine all_needq (by simp only [decide_eq_true_eq]; exact Iff.rfl) (by omega) ?_
  refine all_eq ⟨rfl, hinv.ok⟩ ?_
  refine all_needq (by simp only [inR_i64]; exact Iff.rfl) (by omega) ?_
  refine all_ret fun env' a' w' hA' => ?_
  exact ⟨⟨i + 1, _⟩, ⟨by simp only; omega, inv_pick hinv _, env', hA'⟩, by simp only; omega⟩
theorem b8_eq : Tryd.f8.body = some b8 := by kernel_rfl
theorem sum_made (p : In9) : 0 ≤ sumOf (madeP p) := (sumOf_le (p := p) (i := 6)).1
theorem ticketEnds_call {p : In9} {f : Int} (hf : 0 ≤ f ∧ f < 4294967296) {e0 e1 e2 : Slot} (he : e0.blk = 0 ∧ e0.off = 0) {w : World} {v v' : Value} (hr : Rep [e0, e1, e2] (s0 p) w) (hv : Den [e0, e1, e2] (timesV p 1) v) (hv' : Den [e0, e1, e2] (picksV p 2) v') :
    Calls Tryd.prog 8 ⟨[v, .int .u32 f, v']⟩ w (Said ⟨w, fun _ => False⟩) := by
  refine call_begin (c := cfgL p f) Tryd.func8 b8_eq (args := [timesV p 1, .int .u32 f, picksV p 2]) (by
    intro q hq
    rw [List.mem_singleton.1 hq]
    exact ⟨e0, rfl, he⟩) hr ⟨_, _, rfl, hv, _, _, rfl, by simp [Den], _, _, rfl, hv', rfl⟩ (F := fun _ => False) (fun x h => noFoot3 x h) ?_
  intro a hA
  refine pieceNT0 (c := cfgL p f) cfgL_ok 3 n8a t8_pre hA ?_
  refine all_eq ⟨rfl, rfl, trivial⟩ (all_eq rfl (all_ret fun env1 a1 w1 hA1 => ?_))
  simp only [Ex.to, Exit.then]
  obtain ⟨env2, hA2⟩ := to_law hf (ids := []) (more := []) (more' := []) hA1 (by kernel_rfl) rfl (by kernel_rfl)
  have hx := made_some p
  have hsum0 := sum_made p
  generalize hs0' : (⟨[f, f, 0], 2, madeP p, List.replicate (madeP p).length false⟩ : Mc) = s0' at hA2
  have hinv : Inv (madeP p).length (sumOf (madeP p)) [] f f 0 s0' := by rw [← hs0']; exact inv_start hf hx
  generalize (madeP p).length = m at *
  generalize sumOf (madeP p) = sum at *
  refine (show c8.wp Tryd.prog (Q8 ⟨w, fun _ => False⟩) a1 w1 from wpS (by kernel_rfl) (wpS (by kernel_rfl) ?_))
  have hA4 : At [(0, 0)] ⟨w, fun _ => False⟩ env2 (fr 57 n8a (v8 p sum)) (s5 p m s0') a1 w1 := hA2
  refine pieceT0 (c := cfgM) cfgM_ok n8b t8_reg hA4 (all_ret fun env3 a3 w3 hA5 => ?_)
  simp only [Ex.to, Exit.then]
  have hA6 := hA5.gvals (v8 p sum ++ [SVal.int .i64 ((0 : Nat) : Int)]) rfl
  refine wpB 0 (by kernel_rfl) (wpL (by kernel_rfl) (Inv8 ⟨w, fun _ => False⟩ p m sum) (fun j => 200 - j.i) ⟨0, s0'⟩ ⟨by simp, ⟨_, _, _, _, hinv⟩, env3, hA6⟩ ?_)
  intro j a w h
  exact round8_ok hsum0 h
end Go.Proofs.YthofahgnglfaeaaDoor

/- TicketSame: two machines in one memory. -/
namespace Go.Proofs.YthofahgnglfaeaaDoor
open Go Go.Proofs.YthofahgnglfaeaaDoor.Sx
set_option linter.unusedVariables false
/-- a machine's blocks, from the name k on -/
abbrev m2S (k m : Nat) (t : Mc) : St := [.own [.c (.sli (k + 1) (.c 0) 1 (.v 3) (some (.v 3))), .c (.int .i64 t.c)] 62, .own [.a (encInt .u32) 3 t.l] 23, .many encTk t.xs 70,
  .own [.c (.ptr k 0), .c (.sli (k + 4) (.c 0) 1 (.v m) none), .c (.sli (k + 5) (.c 0) 1 (.v m) (some (.v m)))] 78, .vec (encT 37 (k + 2)) (List.range m) 80, .own [.a encBool m t.ds] 4, .vec (encP (k + 2)) (List.range m) 37]
abbrev m2R (k m : Nat) (mp : List Nat) (a b : Nat) (t : Mc) : St := [.own [.c (.sli (k + 1) (.c 0) 1 (.v 3) (some (.v 3))), .c (.int .i64 t.c)] 62, .own [.a (encInt .u32) 3 t.l] 23, .many encTk t.xs 70,
  .own [.c (.ptr k 0), .c (.sli (k + 4) (.c 0) 1 (.v m) none), .c (.sli (k + 5) (.c 0) 1 (.v m) (some (.v m)))] 78, .vec (encRow 0) (renRows mp (encT 37 a) (List.range m)) 80, .own [.a encBool m t.ds] 4, .vec (encRow 0) (renRows mp (encP b) (List.range m)) 37]
/-- a machine as it is made -/
abbrev mkS (k : Nat) (f : Int) (xs : List Tk) (m : Nat) : St := [.own [.c (.sli (k + 1) (.c 0) 1 (.c 3) (some (.c 3))), .c (.lit .i64 2)] 62, .own [.c (.int .u32 (setP 0 f)), .c (.int .u32 (setP 0 f)), .c (.lit .u32 0)] 23, .many encTk xs 70,
  .own [.c (.ptr k 0), .c (.sli (k + 4) (.c 0) 1 (.v m) none), .c (.sli (k + 5) (.c 0) 1 (.v m) (some (.v m)))] 78, .vec (encT 37 (k + 2)) (List.range m) 80, .own [.a encBool m (List.replicate m false)] 4, .vec (encP (k + 2)) (List.range m) 37]
abbrev mkR (k : Nat) (mp : List Nat) (a b : Nat) (f : Int) (xs : List Tk) (m : Nat) : St := [.own [.c (.sli (k + 1) (.c 0) 1 (.c 3) (some (.c 3))), .c (.lit .i64 2)] 62, .own [.c (.int .u32 (setP 0 f)), .c (.int .u32 (setP 0 f)), .c (.lit .u32 0)] 23, .many encTk xs 70,
  .own [.c (.ptr k 0), .c (.sli (k + 4) (.c 0) 1 (.v m) none), .c (.sli (k + 5) (.c 0) 1 (.v m) (some (.v m)))] 78, .vec (encRow 0) (renRows mp (encT 37 a) (List.range m)) 80, .own [.a encBool m (List.replicate m false)] 4, .vec (encRow 0) (renRows mp (encP b) (List.range m)) 37]
abbrev toVk (k m : Nat) (sum : Int) : SVal := .tup [.ptr k 0, .ptr (k + 3) 0, .sli (k + 6) (.c 0) 1 (.v m) none, .int .u32 sum]
theorem rows_eq {X : Type} {E E' : Enc X} {mp : List Nat} (h1 : E.sz = 1) (h2 : E'.sz = 1) (h : ∀ x, ∃ v, E'.enc x = [v] ∧ renL mp (E.enc x) = [v]) {xs : List X} {T : TypeId} : EqvB (.vec (encRow 0) (renRows mp E xs) T) (.vec E' xs T) := by
  refine .inr ⟨_, _, _, _, _, _, _, rfl, rfl, by rw [h2]; rfl, by simp [renRows], ?_⟩
  induction xs with
  | nil => rfl
  | cons x xs ih =>
    obtain ⟨v, e1, e2⟩ := h x
    simp only [renRows, List.map_cons, List.flatMap_cons] at ih ⊢
    rw [ih, e1, e2]; rfl
theorem rowsT {mp : List Nat} {t a b : Nat} (h : idx a mp 0 = some b) {xs : List Nat} {T : TypeId} : EqvB (.vec (encRow 0) (renRows mp (encT t a) xs) T) (.vec (encT t b) xs T) :=
  rows_eq rfl rfl fun x => ⟨.ifc t (.pto b x 0), rfl, by simp [encT, renL, ren, h]⟩
theorem rowsP {mp : List Nat} {a b : Nat} (h : idx a mp 0 = some b) {xs : List Nat} {T : TypeId} : EqvB (.vec (encRow 0) (renRows mp (encP a) xs) T) (.vec (encP b) xs T) :=
  rows_eq rfl rfl fun x => ⟨.pto b x 0, rfl, by simp [encP, renL, ren, h]⟩
theorem mk_eqv {k : Nat} {mp : List Nat} {a b : Nat} {f : Int} {xs : List Tk} {m : Nat} (h : idx a mp 0 = some (k + 2)) (h' : idx b mp 0 = some (k + 2)) : EqvSt (mkR k mp a b f xs m) (mkS k f xs m) :=
  ⟨.inl rfl, .inl rfl, .inl rfl, .inl rfl, rowsT h, .inl rfl, rowsP h', trivial⟩
theorem m2_eqv {k m : Nat} {mp : List Nat} {a b : Nat} {t : Mc} (h : idx a mp 0 = some (k + 2)) (h' : idx b mp 0 = some (k + 2)) : EqvSt (m2R k m mp a b t) (m2S k m t) :=
  ⟨.inl rfl, .inl rfl, .inl rfl, .inl rfl, rowsT h, .inl rfl, rowsP h', trivial⟩
theorem ends1_eqv {c : Cfg} {f : FuncId} {env : Env} {w : World} {S S' S'' : St} {s : SVal} {vs : List Value} (h : Calls c.P f ⟨vs⟩ w (Ends1 env S w s S')) (e : EqvSt S' S'') : Calls c.P f ⟨vs⟩ w (Ends1 env S w s S'') := by
  refine h.mono ?_
  rintro en w' ⟨env', v, h1, h2, h3, h4⟩
  obtain ⟨r, f⟩ := rep_eqv h3 e
  exact ⟨env', v, h1, ⟨h2.more, h2.size, h2.keep, fun x hl hx => h2.foot x hl (f x hx), h2.calm⟩, r, h4⟩
theorem At.eqv {gl : List (Nat × Nat)} {w0 : From} {env : Env} {ts : List SVal} {st st' : St} {a : Act} {w : World} (h : At gl w0 env ts st a w) (e : EqvSt st st') : At gl w0 env ts st' a w :=
  ⟨h.gl, (rep_eqv h.rep e).1, h.den, h.fresh.sub (rep_eqv h.rep e).2, h.defers⟩
theorem s0_ro {p : In9} : roSame (s0 p) (s0 p) := roSame_cons (.inr rfl) (roSame_cons (.inr rfl) (roSame_cons (.inr rfl) roSame_nil))
theorem mkR_plain {k : Nat} {mp : List Nat} {a b : Nat} {f : Int} {xs : List Tk} {m : Nat} : ∀ B ∈ mkR k mp a b f xs m, plainB B = true := by
  intro B h
  simp only [List.mem_cons, List.not_mem_nil, or_false] at h
  rcases h with rfl | rfl | rfl | rfl | rfl | rfl | rfl <;> rfl
set_option maxRecDepth 100000 in
theorem takers_1 {p : In9} {f : Int} {B0 : Blk} (env : Env) (w : World) (vs : List Value) (hg : GlOk cfgM.gl env) (hr : Rep env (s0 p ++ [B0]) w) (hd : DenL env [timesV p 1, .int .u32 f] vs) :
    Calls cfgM.P 22 ⟨vs⟩ w (Ends1 env (s0 p ++ [B0]) w (toVk 4 (madeP p).length (sumOf (madeP p))) (s0 p ++ ([B0] ++ mkS 4 f (madeP p) (madeP p).length))) := by
  refine ends1_eqv (c := cfgM) (frameNew (c := cfgM) (n := 7) takers_call [B0] rfl rfl (gl_lt (by simp)) (by kernel_rfl) (Sa := s0 p) (Sb := mkR 4 (newMap 3 7 1) 5 5 f (madeP p) (madeP p).length) (by kernel_rfl) (by kernel_rfl) rfl s0_ro mkR_plain rfl env w vs hg hr hd) ?_
  exact EqvSt.app EqvSt.rfl' (EqvSt.app EqvSt.rfl' (mk_eqv rfl rfl))
set_option maxRecDepth 100000 in
theorem takers_2 {p : In9} {f : Int} {B0 B1 B2 B3 B4 B5 B6 B7 : Blk} (env : Env) (w : World) (vs : List Value) (hg : GlOk cfgM.gl env) (hr : Rep env (s0 p ++ [B0, B1, B2, B3, B4, B5, B6, B7]) w) (hd : DenL env [timesV p 1, .int .u32 f] vs) :
    Calls cfgM.P 22 ⟨vs⟩ w (Ends1 env (s0 p ++ [B0, B1, B2, B3, B4, B5, B6, B7]) w (toVk 11 (madeP p).length (sumOf (madeP p))) (s0 p ++ ([B0, B1, B2, B3, B4, B5, B6, B7] ++ mkS 11 f (madeP p) (madeP p).length))) := by
  refine ends1_eqv (c := cfgM) (frameNew (c := cfgM) (n := 7) takers_call [B0, B1, B2, B3, B4, B5, B6, B7] rfl rfl (gl_lt (by simp)) (by kernel_rfl) (Sa := s0 p) (Sb := mkR 11 (newMap 3 7 8) 5 5 f (madeP p) (madeP p).length) (by kernel_rfl) (by kernel_rfl) rfl s0_ro mkR_plain rfl env w vs hg hr hd) ?_
  exact EqvSt.app EqvSt.rfl' (EqvSt.app EqvSt.rfl' (mk_eqv rfl rfl))
/-- two machines -/
abbrev qB (q : Int × Int) : Blk := .own [.c (.int .u32 q.1), .c (.int .u32 q.2)] 24
abbrev s6 (p : In9) (q : Int × Int) (m : Nat) (s t : Mc) : St := s5 p m s ++ m2S 9 m t ++ [qB q]
abbrev swp : List Nat := [0, 9, 10, 11, 12, 13, 14, 15, 8, 1, 2, 3, 4, 5, 6, 7, 16]
abbrev s6R (p : In9) (q : Int × Int) (m : Nat) (s t : Mc) : St := lookB :: m2R 1 m swp 11 11 t ++ [.ro (encInt .i64) p.picks] ++ m2R 9 m swp 3 3 s ++ [qB q]
set_option maxRecDepth 100000 in
theorem s6_ren {p : In9} {q : Int × Int} {m : Nat} {s t : Mc} : renSt swp (s6 p q m s t) swp = some (s6R p q m s t) := by kernel_rfl
theorem s6_eqv {p : In9} {q : Int × Int} {m : Nat} {s t : Mc} : EqvSt (s6R p q m s t) (s6 p q m t s) :=
  ⟨.inl rfl, .inl rfl, .inl rfl, .inl rfl, .inl rfl, rowsT rfl, .inl rfl, rowsP rfl, .inl rfl, .inl rfl, .inl rfl, .inl rfl, .inl rfl, rowsT rfl, .inl rfl, rowsP rfl, .inl rfl, trivial⟩
/-- a call on the second machine, by a call on the first -/
theorem swapCall {c : Cfg} (hc : c.gl = [(0, 0)]) {f : FuncId} {A A0 : List SVal} {p : In9} {q : Int × Int} {m : Nat} {s t t' : Mc} {v v0 : SVal}
    (hC : ∀ (env : Env) (w : World) (vs : List Value), GlOk c.gl env → Rep env (s6 p q m t s) w → DenL env A vs → Calls c.P f ⟨vs⟩ w (Ends1 env (s6 p q m t s) w v (s6 p q m t' s)))
    (hA : renL swp A0 = A) (hv : ren swp v = v0) :
    ∀ (env : Env) (w : World) (vs : List Value), GlOk c.gl env → Rep env (s6 p q m s t) w → DenL env A0 vs → Calls c.P f ⟨vs⟩ w (Ends1 env (s6 p q m s t) w v0 (s6 p q m s t')) :=
  permCall swp swp hC rfl rfl (by rw [hc]; rfl) rfl rfl (by rfl) s6_ren s6_eqv s6_ren s6_eqv hA hv
end Go.Proofs.YthofahgnglfaeaaDoor

/- TicketSame: pieces, calls on either machine. -/
namespace Go.Proofs.YthofahgnglfaeaaDoor
open Go Go.Proofs.YthofahgnglfaeaaDoor.Sx
set_option linter.unusedVariables false
noncomputable def b6 : Code := Tryd.f6.body.getD .skip
noncomputable def c6 : Code := restC 4 b6
noncomputable def reg6 : Code := lft (lft c6)
noncomputable def blk6 : Code := rgt (lft c6)
noncomputable def end6 : Code := rgt c6
noncomputable def round6 : Code := lft (lft blk6)
noncomputable def tm6 : Code := lft round6
noncomputable def bb6 : Code := lft (lft (rgt round6))
noncomputable def inc6 : Code := rgt (rgt round6)
noncomputable def chk6 : Code := lft (restC 3 bb6)
noncomputable def in6 : Code := rgt (restC 3 bb6)
noncomputable def lp6 : Code := lft (rgt in6)
noncomputable def lb6 : Code := lft lp6
abbrev n6_1 : List Nat := [0, 2, 4, 7, 8, 9]
abbrev n6a : List Nat := [2, 4, 7, 8, 9, 11, 12, 13]
abbrev n6b : List Nat := [2, 4, 7, 8, 9, 11, 12, 13, 15]
abbrev n6c : List Nat := [2, 4, 7, 8, 9, 11, 12, 13, 15, 16, 17]
abbrev n6d : List Nat := [2, 4, 7, 8, 9, 11, 12, 13, 15, 16, 17, 18]
abbrev n6e : List Nat := [2, 4, 7, 8, 9, 11, 12, 13, 15, 16, 17, 18, 20]
abbrev n6f : List Nat := [2, 4, 7, 8, 9, 11, 12, 13, 15, 22]
abbrev v6 (p : In9) (m : Nat) : List SVal := [picksV p 8, .ptr 16 0, .ptr 1 0, .ptr 4 0, .sli 7 (.c 0) 1 (.v m) none, .ptr 9 0, .ptr 12 0, .sli 15 (.c 0) 1 (.v m) none]
/-- ahead of the loops -/
noncomputable def cfg6a (p : In9) (q : Int × Int) : Cfg := { P := Tryd.prog, ex := exI, gl := [(0, 0)], sm := fun g => match g with
  | 22 => some (smEq [timesV p 1, .int .u32 q.1] (s0 p ++ [qB q]) True (toVk 4 (madeP p).length (sumOf (madeP p))) (s0 p ++ ([qB q] ++ mkS 4 q.1 (madeP p) (madeP p).length)))
  | _ => none }
theorem cfg6a_ok {p : In9} {q : Int × Int} : SmOk (cfg6a p q) := by
  intro g h e
  simp only [cfg6a] at e
  split at e
  · simp only [Option.some.injEq] at e; subst e
    exact smEq_ok (c := cfg6a p q) fun _ => takers_1
  · cases e
abbrev s6b (p : In9) (q : Int × Int) : St := s0 p ++ ([qB q] ++ mkS 4 q.1 (madeP p) (madeP p).length)
noncomputable def cfg6b (p : In9) (q : Int × Int) : Cfg := { P := Tryd.prog, ex := exI, gl := [(0, 0)], sm := fun g => match g with
  | 22 => some (smEq [timesV p 1, .int .u32 q.2] (s6b p q) True (toVk 11 (madeP p).length (sumOf (madeP p))) (s6b p q ++ mkS 11 q.2 (madeP p) (madeP p).length))
  | _ => none }
theorem cfg6b_ok {p : In9} {q : Int × Int} : SmOk (cfg6b p q) := by
  intro g h e
  simp only [cfg6b] at e
  split at e
  · simp only [Option.some.injEq] at e; subst e
    exact smEq_ok (c := cfg6b p q) fun _ => takers_2
  · cases e
noncomputable def cfg6c : Cfg := { P := Tryd.prog, ex := exI, gl := [(0, 0)], sm := fun g => match g with
  | 10 => some (smClosed [0] [lookB] (.bl true))
  | _ => none }
theorem cfg6c_ok : SmOk cfg6c := by
  intro g h e
  simp only [cfg6c] at e
  split at e
  · simp only [Option.some.injEq] at e; subst e
    exact smClosedE_ok cfgT_ok awake_val (awake_props new0) (by kernel_rfl) rfl rfl (by intro b hb e; rw [List.mem_singleton.1 hb]; rfl)
  · cases e
/-! either machine -/
abbrev rest1 (p : In9) (q : Int × Int) (m : Nat) (t : Mc) : St := [.vec (encP 3) (List.range m) 37, .ro (encInt .i64) p.picks] ++ m2S 9 m t ++ [qB q]
theorem pick_1 {p : In9} {q : Int × Int} {m : Nat} {s t : Mc} (hs : McOk 3 m s) {i : Int} (env : Env) (w : World) (vs : List Value) (hg : GlOk cfgM.gl env) (hr : Rep env (s6 p q m s t) w) (hd : DenL env [.ptr 4 0, .int .i64 i] vs) :
    Calls cfgM.P 23 ⟨vs⟩ w (Ends1 env (s6 p q m s t) w (.int .i64 (errP m s i)) (s6 p q m (pickP m s i) t)) :=
  frame (c := cfgM) (pick_call hs) (rest1 p q m t) rfl rfl (gl_lt (by simp)) mcS_ren mcS_ro env w vs hg hr hd
theorem pick_2 {p : In9} {q : Int × Int} {m : Nat} {s t : Mc} (ht : McOk 3 m t) {i : Int} (env : Env) (w : World) (vs : List Value) (hg : GlOk cfgM.gl env) (hr : Rep env (s6 p q m s t) w) (hd : DenL env [.ptr 12 0, .int .i64 i] vs) :
    Calls cfgM.P 23 ⟨vs⟩ w (Ends1 env (s6 p q m s t) w (.int .i64 (errP m t i)) (s6 p q m s (pickP m t i))) :=
  swapCall (c := cfgM) rfl (pick_1 ht) rfl rfl env w vs hg hr hd
theorem left_1 {p : In9} {q : Int × Int} {m : Nat} {s t : Mc} (hs : s.ds.length = m) (hm : m ≤ 1000) (env : Env) (w : World) (vs : List Value) (hg : GlOk cfgM.gl env) (hr : Rep env (s6 p q m s t) w) (hd : DenL env [.ptr 4 0] vs) :
    Calls cfgM.P 25 ⟨vs⟩ w (Ends1 env (s6 p q m s t) w (.int .i64 (leftP s.ds)) (s6 p q m s t)) :=
  frame (c := cfgM) (left_call hs hm) (rest1 p q m t) rfl rfl (gl_lt (by simp)) mcS_ren mcS_ro env w vs hg hr hd
theorem left_2 {p : In9} {q : Int × Int} {m : Nat} {s t : Mc} (ht : t.ds.length = m) (hm : m ≤ 1000) (env : Env) (w : World) (vs : List Value) (hg : GlOk cfgM.gl env) (hr : Rep env (s6 p q m s t) w) (hd : DenL env [.ptr 12 0] vs) :
    Calls cfgM.P 25 ⟨vs⟩ w (Ends1 env (s6 p q m s t) w (.int .i64 (leftP t.ds)) (s6 p q m s t)) :=
  swapCall (c := cfgM) rfl (left_1 ht hm) rfl rfl env w vs hg hr hd
abbrev usedP (s : Mc) : Mc := ⟨s.l, upP s.c, s.xs, s.ds⟩
abbrev wordV (s : Mc) : SVal := .tup [.int .u32 (s.l.getD 2 0), .lit .i64 0]
theorem load_1 {p : In9} {q : Int × Int} {m : Nat} {s t : Mc} (hs : s.l.length = 3) (env : Env) (w : World) (vs : List Value) (hg : GlOk cfgW.gl env) (hr : Rep env (s6 p q m s t) w) (hd : DenL env [.ptr 1 0, .lit .i64 2] vs) :
    Calls cfgW.P 24 ⟨vs⟩ w (Ends1 env (s6 p q m s t) w (wordV s) (s6 p q m (usedP s) t)) := by
  have h : (gLoad [.ptr 1 0, .lit .i64 2] (memS 3 s.l s.c)).at (wordV s, memS 3 s.l (upP s.c)) := ⟨⟨rfl, hs⟩, .inl ⟨rfl, rfl⟩⟩
  exact frame (c := cfgW) (load_ok _ _ _ _ h).1 ([.many encTk s.xs 70, machB m, .vec (encT 37 3) (List.range m) 80, .own [.a encBool m s.ds] 4] ++ rest1 p q m t) rfl rfl (gl_lt (by simp)) memS_ren memS_ro env w vs hg hr hd
theorem load_2 {p : In9} {q : Int × Int} {m : Nat} {s t : Mc} (ht : t.l.length = 3) (env : Env) (w : World) (vs : List Value) (hg : GlOk cfgW.gl env) (hr : Rep env (s6 p q m s t) w) (hd : DenL env [.ptr 9 0, .lit .i64 2] vs) :
    Calls cfgW.P 24 ⟨vs⟩ w (Ends1 env (s6 p q m s t) w (wordV t) (s6 p q m s (usedP t))) :=
  swapCall (c := cfgW) rfl (load_1 ht) rfl rfl env w vs hg hr hd
/-- in the loops; k: what is picked -/
noncomputable def cfg6 (p : In9) (q : Int × Int) (m : Nat) (k : Int) (s t : Mc) : Cfg := { P := Tryd.prog, ex := exI, gl := [(0, 0)], sm := fun f => match f with
  | 23 => some fun args st => match args with
    | .ptr 4 0 :: _ => smEq [.ptr 4 0, .int .i64 k] (s6 p q m s t) (McOk 3 m s) (.int .i64 (errP m s k)) (s6 p q m (pickP m s k) t) args st
    | _ => smEq [.ptr 12 0, .int .i64 k] (s6 p q m (pickP m s k) t) (McOk 3 m t) (.int .i64 (errP m t k)) (s6 p q m (pickP m s k) (pickP m t k)) args st
  | 24 => some fun args st => match args with
    | .ptr 1 0 :: _ => smEq [.ptr 1 0, .lit .i64 2] (s6 p q m s t) (s.l.length = 3) (wordV s) (s6 p q m (usedP s) t) args st
    | _ => smEq [.ptr 9 0, .lit .i64 2] (s6 p q m s t) (t.l.length = 3) (wordV t) (s6 p q m s (usedP t)) args st
  | 25 => some fun args st => match args with
    | .ptr 4 0 :: _ => smEq [.ptr 4 0] (s6 p q m s t) (s.ds.length = m ∧ m ≤ 1000) (.int .i64 (leftP s.ds)) (s6 p q m s t) args st
    | _ => smEq [.ptr 12 0] (s6 p q m s t) (t.ds.length = m ∧ m ≤ 1000) (.int .i64 (leftP t.ds)) (s6 p q m s t) args st
  | _ => none }
theorem cfg6_ok {p : In9} {q : Int × Int} {m : Nat} {k : Int} {s t : Mc} : SmOk (cfg6 p q m k s t) := by
  intro f g h
  simp only [cfg6] at h
  split at h
  · simp only [Option.some.injEq] at h; subst h
    intro args st v st' env w vs hat hg hr hd
    dsimp only at hat
    split at hat
    · exact smEq_ok (c := cfg6 p q m k s t) (fun h => pick_1 h) _ _ _ _ env w vs hat hg hr hd
    · exact smEq_ok (c := cfg6 p q m k s t) (fun h => pick_2 h) _ _ _ _ env w vs hat hg hr hd
  · simp only [Option.some.injEq] at h; subst h
    intro args st v st' env w vs hat hg hr hd
    dsimp only at hat
    split at hat
    · exact smEq_ok (c := cfg6 p q m k s t) (fun h => load_1 h) _ _ _ _ env w vs hat hg hr hd
    · exact smEq_ok (c := cfg6 p q m k s t) (fun h => load_2 h) _ _ _ _ env w vs hat hg hr hd
  · simp only [Option.some.injEq] at h; subst h
    intro args st v st' env w vs hat hg hr hd
    dsimp only at hat
    split at hat
    · exact smEq_ok (c := cfg6 p q m k s t) (fun h => left_1 h.1 h.2) _ _ _ _ env w vs hat hg hr hd
    · exact smEq_ok (c := cfg6 p q m k s t) (fun h => left_2 h.1 h.2) _ _ _ _ env w vs hat hg hr hd
  · cases h
end Go.Proofs.YthofahgnglfaeaaDoor

namespace Go.Proofs.YthofahgnglfaeaaDoor
open Go Go.Proofs.YthofahgnglfaeaaDoor.Sx
set_option linter.unusedVariables false
set_option maxRecDepth 100000 in
theorem t6_a {p : In9} {q : Int × Int} : (execN (cfg6a p q) 100 2 b6 ([timesV p 1, .agg [.int .u32 q.1, .int .u32 q.2], picksV p 2] ++ List.replicate 172 .bad) (s0 p)).bind (canonK 11 [(0,0)] 175 n6_1) =
 

 (.eq ([SVal.sli 1 (.c 0) 1 (.v p.1.length) (some (.v p.2)), .int .u32 q.1] = [SVal.sli 1 (.c 0) 1 (.v p.1.length) (some (.v p.2)), .int .u32 q.1] ∧ [Blk.ro encLook [PUnit.unit], .ro encU8 p.1, .ro (encInt IntKind.i64) p.3, .own [.c (.int .u32 q.1), .c (.int .u32 q.2)] 24] = [Blk.ro encLook [PUnit.unit], .ro encU8 p.1, .ro (encInt IntKind.i64) p.3, .own [.c (.int .u32 q.1), .c (.int .u32 q.2)] 24] ∧ True)

 (.ret (.normal, [.sli 1 (.c 0) 1 (.v p.1.length) (some (.v p.2)), .sli 2 (.c 0) 1 (.v p.3.length) (some (.v p.4)), .ptr 3 0, .ptr 4 0, .ptr 7 0, .sli 10 (.c 0) 1 (.v (madeP p).length) none], [.ro encLook [PUnit.unit], .ro encU8 p.1, .ro (encInt IntKind.i64) p.3, .own [.c (.int .u32 q.1), .c (.int .u32 q.2)] 24, .own [.c (.sli 5 (.c 0) 1 (.c 3) (some (.c 3))), .c (.lit .i64 (2 : Int))] 62, .own [.c (.int .u32 (setP (0 : Int) q.1)), .c (.int .u32 (setP (0 : Int) q.1)), .c (.lit .u32 (0 : Int))] 23, .many encTk (madeP p) 70, .own [.c (.ptr 4 0), .c (.sli 8 (.c 0) 1 (.v (madeP p).length) none), .c (.sli 9 (.c 0) 1 (.v (madeP p).length) (some (.v (madeP p).length)))] 78, .vec (encT 37 (4 + 2)) (List.range (madeP p).length) 80, .own [.a encBool (madeP p).length (List.replicate (madeP p).length false)] 4, .vec (encP (4 + 2)) (List.range (madeP p).length) 37]))) := by kernel_rfl
set_option maxRecDepth 100000 in
theorem t6_b {p : In9} {q : Int × Int} : (execN (cfg6b p q) 100 1 (restC 2 b6) (fr 175 n6_1 [timesV p 1, picksV p 2, .ptr 3 0, .ptr 4 0, .ptr 7 0, .sli 10 (.c 0) 1 (.v (madeP p).length) none]) (s6b p q)).bind (canonK 18 [(0,0)] 175 n6a) =
 

 (.eq ([SVal.sli 1 (.c 0) 1 (.v p.1.length) (some (.v p.2)), .int .u32 q.2] = [SVal.sli 1 (.c 0) 1 (.v p.1.length) (some (.v p.2)), .int .u32 q.2] ∧ [Blk.ro encLook [PUnit.unit], .ro encU8 p.1, .ro (encInt IntKind.i64) p.3, .own [.c (.int .u32 q.1), .c (.int .u32 q.2)] 24, .own [.c (.sli 5 (.c 0) 1 (.c 3) (some (.c 3))), .c (.lit .i64 (2 : Int))] 62, .own [.c (.int .u32 (setP (0 : Int) q.1)), .c (.int .u32 (setP (0 : Int) q.1)), .c (.lit .u32 (0 : Int))] 23, .many encTk (madeP p) 70, .own [.c (.ptr 4 0), .c (.sli 8 (.c 0) 1 (.v (madeP p).length) none), .c (.sli 9 (.c 0) 1 (.v (madeP p).length) (some (.v (madeP p).length)))] 78, .vec (encT 37 (4 + 2)) (List.range (madeP p).length) 80, .own [.a encBool (madeP p).length (List.replicate (madeP p).length false)] 4, .vec (encP (4 + 2)) (List.range (madeP p).length) 37] = [Blk.ro encLook [PUnit.unit], .ro encU8 p.1, .ro (encInt IntKind.i64) p.3, .own [.c (.int .u32 q.1), .c (.int .u32 q.2)] 24, .own [.c (.sli 5 (.c 0) 1 (.c 3) (some (.c 3))), .c (.lit .i64 (2 : Int))] 62, .own [.c (.int .u32 (setP (0 : Int) q.1)), .c (.int .u32 (setP (0 : Int) q.1)), .c (.lit .u32 (0 : Int))] 23, .many encTk (madeP p) 70, .own [.c (.ptr 4 0), .c (.sli 8 (.c 0) 1 (.v (madeP p).length) none), .c (.sli 9 (.c 0) 1 (.v (madeP p).length) (some (.v (madeP p).length)))] 78, .vec (encT 37 (4 + 2)) (List.range (madeP p).length) 80, .own [.a encBool (madeP p).length (List.replicate (madeP p).length false)] 4, .vec (encP (4 + 2)) (List.range (madeP p).length) 37] ∧ True)

 (.ret (.normal, [.sli 2 (.c 0) 1 (.v p.3.length) (some (.v p.4)), .ptr 3 0, .ptr 4 0, .ptr 7 0, .sli 10 (.c 0) 1 (.v (madeP p).length) none, .ptr 11 0, .ptr 14 0, .sli 17 (.c 0) 1 (.v (madeP p).length) none], [.ro encLook [PUnit.unit], .ro encU8 p.1, .ro (encInt IntKind.i64) p.3, .own [.c (.int .u32 q.1), .c (.int .u32 q.2)] 24, .own [.c (.sli 5 (.c 0) 1 (.c 3) (some (.c 3))), .c (.lit .i64 (2 : Int))] 62, .own [.c (.int .u32 (setP (0 : Int) q.1)), .c (.int .u32 (setP (0 : Int) q.1)), .c (.lit .u32 (0 : Int))] 23, .many encTk (madeP p) 70, .own [.c (.ptr 4 0), .c (.sli 8 (.c 0) 1 (.v (madeP p).length) none), .c (.sli 9 (.c 0) 1 (.v (madeP p).length) (some (.v (madeP p).length)))] 78, .vec (encT 37 (4 + 2)) (List.range (madeP p).length) 80, .own [.a encBool (madeP p).length (List.replicate (madeP p).length false)] 4, .vec (encP (4 + 2)) (List.range (madeP p).length) 37, .own [.c (.sli 12 (.c 0) 1 (.c 3) (some (.c 3))), .c (.lit .i64 (2 : Int))] 62, .own [.c (.int .u32 (setP (0 : Int) q.2)), .c (.int .u32 (setP (0 : Int) q.2)), .c (.lit .u32 (0 : Int))] 23, .many encTk (madeP p) 70, .own [.c (.ptr 11 0), .c (.sli 15 (.c 0) 1 (.v (madeP p).length) none), .c (.sli 16 (.c 0) 1 (.v (madeP p).length) (some (.v (madeP p).length)))] 78, .vec (encT 37 (11 + 2)) (List.range (madeP p).length) 80, .own [.a encBool (madeP p).length (List.replicate (madeP p).length false)] 4, .vec (encP (11 + 2)) (List.range (madeP p).length) 37]))) := by kernel_rfl
set_option maxRecDepth 100000 in
theorem t6_c {p : In9} {q : Int × Int} : (execN cfg6c 100 1 (restC 3 b6) (fr 175 n6a [picksV p 2, .ptr 3 0, .ptr 4 0, .ptr 7 0, .sli 10 (.c 0) 1 (.v (madeP p).length) none, .ptr 11 0, .ptr 14 0, .sli 17 (.c 0) 1 (.v (madeP p).length) none]) (s6b p q ++ mkS 11 q.2 (madeP p) (madeP p).length)).bind (canonK 18 [(0,0)] 175 n6a) =
 

 (.eq (some [Blk.ro encLook [PUnit.unit]] = some [Blk.ro encLook [PUnit.unit]])

 (.ret (.normal, [.sli 2 (.c 0) 1 (.v p.3.length) (some (.v p.4)), .ptr 3 0, .ptr 4 0, .ptr 7 0, .sli 10 (.c 0) 1 (.v (madeP p).length) none, .ptr 11 0, .ptr 14 0, .sli 17 (.c 0) 1 (.v (madeP p).length) none], [.ro encLook [PUnit.unit], .ro encU8 p.1, .ro (encInt IntKind.i64) p.3, .own [.c (.int .u32 q.1), .c (.int .u32 q.2)] 24, .own [.c (.sli 5 (.c 0) 1 (.c 3) (some (.c 3))), .c (.lit .i64 (2 : Int))] 62, .own [.c (.int .u32 (setP (0 : Int) q.1)), .c (.int .u32 (setP (0 : Int) q.1)), .c (.lit .u32 (0 : Int))] 23, .many encTk (madeP p) 70, .own [.c (.ptr 4 0), .c (.sli 8 (.c 0) 1 (.v (madeP p).length) none), .c (.sli 9 (.c 0) 1 (.v (madeP p).length) (some (.v (madeP p).length)))] 78, .vec (encT 37 (4 + 2)) (List.range (madeP p).length) 80, .own [.a encBool (madeP p).length (List.replicate (madeP p).length false)] 4, .vec (encP (4 + 2)) (List.range (madeP p).length) 37, .own [.c (.sli 12 (.c 0) 1 (.c 3) (some (.c 3))), .c (.lit .i64 (2 : Int))] 62, .own [.c (.int .u32 (setP (0 : Int) q.2)), .c (.int .u32 (setP (0 : Int) q.2)), .c (.lit .u32 (0 : Int))] 23, .many encTk (madeP p) 70, .own [.c (.ptr 11 0), .c (.sli 15 (.c 0) 1 (.v (madeP p).length) none), .c (.sli 16 (.c 0) 1 (.v (madeP p).length) (some (.v (madeP p).length)))] 78, .vec (encT 37 (11 + 2)) (List.range (madeP p).length) 80, .own [.a encBool (madeP p).length (List.replicate (madeP p).length false)] 4, .vec (encP (11 + 2)) (List.range (madeP p).length) 37]))) := by kernel_rfl
set_option maxRecDepth 100000 in
theorem t6_reg {p : In9} {q : Int × Int} {m : Nat} {s t : Mc} : (exec cfgM 100 reg6 (fr 175 n6a (v6 p m)) (s6 p q m s t)).bind (canonK 17 [(0,0)] 175 n6b) =
 

 (.ret (.normal, [.sli 8 (.c 0) 1 (.v p.3.length) (some (.v p.4)), .ptr 16 0, .ptr 1 0, .ptr 4 0, .sli 7 (.c 0) 1 (.v m) none, .ptr 9 0, .ptr 12 0, .sli 15 (.c 0) 1 (.v m) none, .lit .i64 (0 : Int)], [.ro encLook [PUnit.unit], .own [.c (.sli 2 (.c 0) 1 (.v 3) (some (.v 3))), .c (.int .i64 s.2)] 62, .own [.a (encInt IntKind.u32) 3 s.1] 23, .many encTk s.3 70, .own [.c (.ptr 1 0), .c (.sli 5 (.c 0) 1 (.v m) none), .c (.sli 6 (.c 0) 1 (.v m) (some (.v m)))] 78, .vec (encT 37 3) (List.range m) 80, .own [.a encBool m s.4] 4, .vec (encP 3) (List.range m) 37, .ro (encInt IntKind.i64) p.3, .own [.c (.sli 10 (.c 0) 1 (.v 3) (some (.v 3))), .c (.int .i64 t.2)] 62, .own [.a (encInt IntKind.u32) 3 t.1] 23, .many encTk t.3 70, .own [.c (.ptr 9 0), .c (.sli 13 (.c 0) 1 (.v m) none), .c (.sli 14 (.c 0) 1 (.v m) (some (.v m)))] 78, .vec (encT 37 (9 + 2)) (List.range m) 80, .own [.a encBool m t.4] 4, .vec (encP (9 + 2)) (List.range m) 37, .own [.c (.int .u32 q.1), .c (.int .u32 q.2)] 24])) := by kernel_rfl
set_option maxRecDepth 100000 in
theorem t6_tm {p : In9} {q : Int × Int} {m : Nat} {s t : Mc} {i : Nat} : (exec cfgM 100 tm6 (fr 175 n6b (v6 p m ++ [.int .i64 (i : Nat)])) (s6 p q m s t)).bind (canonK 17 [(0,0)] 175 n6b) =
 

 (.br (decide ((↑i : Int) < (↑p.3.length : Int)))

 (.br (decide ((↑i : Int) < (200 : Int)))

 (.ret (.normal, [.sli 8 (.c 0) 1 (.v p.3.length) (some (.v p.4)), .ptr 16 0, .ptr 1 0, .ptr 4 0, .sli 7 (.c 0) 1 (.v m) none, .ptr 9 0, .ptr 12 0, .sli 15 (.c 0) 1 (.v m) none, .int .i64 (↑i : Int)], [.ro encLook [PUnit.unit], .own [.c (.sli 2 (.c 0) 1 (.v 3) (some (.v 3))), .c (.int .i64 s.2)] 62, .own [.a (encInt IntKind.u32) 3 s.1] 23, .many encTk s.3 70, .own [.c (.ptr 1 0), .c (.sli 5 (.c 0) 1 (.v m) none), .c (.sli 6 (.c 0) 1 (.v m) (some (.v m)))] 78, .vec (encT 37 3) (List.range m) 80, .own [.a encBool m s.4] 4, .vec (encP 3) (List.range m) 37, .ro (encInt IntKind.i64) p.3, .own [.c (.sli 10 (.c 0) 1 (.v 3) (some (.v 3))), .c (.int .i64 t.2)] 62, .own [.a (encInt IntKind.u32) 3 t.1] 23, .many encTk t.3 70, .own [.c (.ptr 9 0), .c (.sli 13 (.c 0) 1 (.v m) none), .c (.sli 14 (.c 0) 1 (.v m) (some (.v m)))] 78, .vec (encT 37 (9 + 2)) (List.range m) 80, .own [.a encBool m t.4] 4, .vec (encP (9 + 2)) (List.range m) 37, .own [.c (.int .u32 q.1), .c (.int .u32 q.2)] 24]))

 (.ret (.exit 0, [.sli 8 (.c 0) 1 (.v p.3.length) (some (.v p.4)), .ptr 16 0, .ptr 1 0, .ptr 4 0, .sli 7 (.c 0) 1 (.v m) none, .ptr 9 0, .ptr 12 0, .sli 15 (.c 0) 1 (.v m) none, .int .i64 (↑i : Int)], [.ro encLook [PUnit.unit], .own [.c (.sli 2 (.c 0) 1 (.v 3) (some (.v 3))), .c (.int .i64 s.2)] 62, .own [.a (encInt IntKind.u32) 3 s.1] 23, .many encTk s.3 70, .own [.c (.ptr 1 0), .c (.sli 5 (.c 0) 1 (.v m) none), .c (.sli 6 (.c 0) 1 (.v m) (some (.v m)))] 78, .vec (encT 37 3) (List.range m) 80, .own [.a encBool m s.4] 4, .vec (encP 3) (List.range m) 37, .ro (encInt IntKind.i64) p.3, .own [.c (.sli 10 (.c 0) 1 (.v 3) (some (.v 3))), .c (.int .i64 t.2)] 62, .own [.a (encInt IntKind.u32) 3 t.1] 23, .many encTk t.3 70, .own [.c (.ptr 9 0), .c (.sli 13 (.c 0) 1 (.v m) none), .c (.sli 14 (.c 0) 1 (.v m) (some (.v m)))] 78, .vec (encT 37 (9 + 2)) (List.range m) 80, .own [.a encBool m t.4] 4, .vec (encP (9 + 2)) (List.range m) 37, .own [.c (.int .u32 q.1), .c (.int .u32 q.2)] 24])))

 (.ret (.exit 0, [.sli 8 (.c 0) 1 (.v p.3.length) (some (.v p.4)), .ptr 16 0, .ptr 1 0, .ptr 4 0, .sli 7 (.c 0) 1 (.v m) none, .ptr 9 0, .ptr 12 0, .sli 15 (.c 0) 1 (.v m) none, .int .i64 (↑i : Int)], [.ro encLook [PUnit.unit], .own [.c (.sli 2 (.c 0) 1 (.v 3) (some (.v 3))), .c (.int .i64 s.2)] 62, .own [.a (encInt IntKind.u32) 3 s.1] 23, .many encTk s.3 70, .own [.c (.ptr 1 0), .c (.sli 5 (.c 0) 1 (.v m) none), .c (.sli 6 (.c 0) 1 (.v m) (some (.v m)))] 78, .vec (encT 37 3) (List.range m) 80, .own [.a encBool m s.4] 4, .vec (encP 3) (List.range m) 37, .ro (encInt IntKind.i64) p.3, .own [.c (.sli 10 (.c 0) 1 (.v 3) (some (.v 3))), .c (.int .i64 t.2)] 62, .own [.a (encInt IntKind.u32) 3 t.1] 23, .many encTk t.3 70, .own [.c (.ptr 9 0), .c (.sli 13 (.c 0) 1 (.v m) none), .c (.sli 14 (.c 0) 1 (.v m) (some (.v m)))] 78, .vec (encT 37 (9 + 2)) (List.range m) 80, .own [.a encBool m t.4] 4, .vec (encP (9 + 2)) (List.range m) 37, .own [.c (.int .u32 q.1), .c (.int .u32 q.2)] 24]))) := by kernel_rfl
set_option maxRecDepth 100000 in
theorem t6_p {p : In9} {q : Int × Int} {m : Nat} {s t : Mc} {i : Nat} {k : Int} : (execN (cfg6 p q m k s t) 100 1 bb6 (fr 175 n6b (v6 p m ++ [.int .i64 (i : Nat)])) (s6 p q m s t)).bind (canonK 17 [(0,0)] 175 n6c) =
 

 (.need (decide ((0 : Int) ≤ (↑i : Int)) && decide ((↑i : Int).toNat < p.3.length))

 (.need (decide ((↑i : Int).toNat < p.3.length))

 (.eq ([SVal.ptr 4 0, .int .i64 (p.3.getD (↑i : Int).toNat (0 : Int))] = [SVal.ptr 4 0, .int .i64 k] ∧ [Blk.ro encLook [PUnit.unit], .own [.c (.sli 2 (.c 0) 1 (.v 3) (some (.v 3))), .c (.int .i64 s.2)] 62, .own [.a (encInt IntKind.u32) 3 s.1] 23, .many encTk s.3 70, .own [.c (.ptr 1 0), .c (.sli 5 (.c 0) 1 (.v m) none), .c (.sli 6 (.c 0) 1 (.v m) (some (.v m)))] 78, .vec (encT 37 3) (List.range m) 80, .own [.a encBool m s.4] 4, .vec (encP 3) (List.range m) 37, .ro (encInt IntKind.i64) p.3, .own [.c (.sli 10 (.c 0) 1 (.v 3) (some (.v 3))), .c (.int .i64 t.2)] 62, .own [.a (encInt IntKind.u32) 3 t.1] 23, .many encTk t.3 70, .own [.c (.ptr 9 0), .c (.sli 13 (.c 0) 1 (.v m) none), .c (.sli 14 (.c 0) 1 (.v m) (some (.v m)))] 78, .vec (encT 37 (9 + 2)) (List.range m) 80, .own [.a encBool m t.4] 4, .vec (encP (9 + 2)) (List.range m) 37, .own [.c (.int .u32 q.1), .c (.int .u32 q.2)] 24] = [Blk.ro encLook [PUnit.unit], .own [.c (.sli 2 (.c 0) 1 (.v 3) (some (.v 3))), .c (.int .i64 s.2)] 62, .own [.a (encInt IntKind.u32) 3 s.1] 23, .many encTk s.3 70, .own [.c (.ptr 1 0), .c (.sli 5 (.c 0) 1 (.v m) none), .c (.sli 6 (.c 0) 1 (.v m) (some (.v m)))] 78, .vec (encT 37 3) (List.range m) 80, .own [.a encBool m s.4] 4, .vec (encP 3) (List.range m) 37, .ro (encInt IntKind.i64) p.3, .own [.c (.sli 10 (.c 0) 1 (.v 3) (some (.v 3))), .c (.int .i64 t.2)] 62, .own [.a (encInt IntKind.u32) 3 t.1] 23, .many encTk t.3 70, .own [.c (.ptr 9 0), .c (.sli 13 (.c 0) 1 (.v m) none), .c (.sli 14 (.c 0) 1 (.v m) (some (.v m)))] 78, .vec (encT 37 (9 + 2)) (List.range m) 80, .own [.a encBool m t.4] 4, .vec (encP (9 + 2)) (List.range m) 37, .own [.c (.int .u32 q.1), .c (.int .u32 q.2)] 24] ∧ McOk 3 m s)

 (.need (decide ((0 : Int) ≤ (↑i : Int)) && decide ((↑i : Int).toNat < p.3.length))

 (.need (decide ((↑i : Int).toNat < p.3.length))

 (.eq ([SVal.ptr 12 0, .int .i64 (p.3.getD (↑i : Int).toNat (0 : Int))] = [SVal.ptr 12 0, .int .i64 k] ∧ [Blk.ro encLook [PUnit.unit], .own [.c (.sli 2 (.c 0) 1 (.v 3) (some (.v 3))), .c (.int .i64 (pickP m s k).c)] 62, .own [.a (encInt IntKind.u32) 3 (pickP m s k).l] 23, .many encTk (pickP m s k).xs 70, .own [.c (.ptr 1 0), .c (.sli 5 (.c 0) 1 (.v m) none), .c (.sli 6 (.c 0) 1 (.v m) (some (.v m)))] 78, .vec (encT 37 3) (List.range m) 80, .own [.a encBool m (pickP m s k).ds] 4, .vec (encP 3) (List.range m) 37, .ro (encInt IntKind.i64) p.3, .own [.c (.sli 10 (.c 0) 1 (.v 3) (some (.v 3))), .c (.int .i64 t.2)] 62, .own [.a (encInt IntKind.u32) 3 t.1] 23, .many encTk t.3 70, .own [.c (.ptr 9 0), .c (.sli 13 (.c 0) 1 (.v m) none), .c (.sli 14 (.c 0) 1 (.v m) (some (.v m)))] 78, .vec (encT 37 (9 + 2)) (List.range m) 80, .own [.a encBool m t.4] 4, .vec (encP (9 + 2)) (List.range m) 37, .own [.c (.int .u32 q.1), .c (.int .u32 q.2)] 24] = [Blk.ro encLook [PUnit.unit], .own [.c (.sli 2 (.c 0) 1 (.v 3) (some (.v 3))), .c (.int .i64 (pickP m s k).c)] 62, .own [.a (encInt IntKind.u32) 3 (pickP m s k).l] 23, .many encTk (pickP m s k).xs 70, .own [.c (.ptr 1 0), .c (.sli 5 (.c 0) 1 (.v m) none), .c (.sli 6 (.c 0) 1 (.v m) (some (.v m)))] 78, .vec (encT 37 3) (List.range m) 80, .own [.a encBool m (pickP m s k).ds] 4, .vec (encP 3) (List.range m) 37, .ro (encInt IntKind.i64) p.3, .own [.c (.sli 10 (.c 0) 1 (.v 3) (some (.v 3))), .c (.int .i64 t.2)] 62, .own [.a (encInt IntKind.u32) 3 t.1] 23, .many encTk t.3 70, .own [.c (.ptr 9 0), .c (.sli 13 (.c 0) 1 (.v m) none), .c (.sli 14 (.c 0) 1 (.v m) (some (.v m)))] 78, .vec (encT 37 (9 + 2)) (List.range m) 80, .own [.a encBool m t.4] 4, .vec (encP (9 + 2)) (List.range m) 37, .own [.c (.int .u32 q.1), .c (.int .u32 q.2)] 24] ∧ McOk 3 m t)
 (.eq (T.need (decide ((↑i : Int).toNat < p.3.length)) (T.ret ([SVal.int IntKind.i64 (p.3.getD (↑i : Int).toNat (0 : Int))].getD (0 : Nat) SVal.bad)) = T.need (decide ((↑i : Int).toNat < p.3.length)) (T.ret ([SVal.int IntKind.i64 (p.3.getD (↑i : Int).toNat (0 : Int))].getD (0 : Nat) SVal.bad)))
 (.eq (T.need (decide ((↑i : Int).toNat < p.3.length)) (T.ret ([SVal.int IntKind.i64 (p.3.getD (↑i : Int).toNat (0 : Int))].getD (0 : Nat) SVal.bad)) = T.need (decide ((↑i : Int).toNat < p.3.length)) (T.ret ([SVal.int IntKind.i64 (p.3.getD (↑i : Int).toNat (0 : Int))].getD (0 : Nat) SVal.bad)))
 (.eq (T.need (decide ((↑i : Int).toNat < p.3.length)) (T.ret ([SVal.int IntKind.i64 (p.3.getD (↑i : Int).toNat (0 : Int))].getD (0 : Nat) SVal.bad)) = T.need (decide ((↑i : Int).toNat < p.3.length)) (T.ret ([SVal.int IntKind.i64 (p.3.getD (↑i : Int).toNat (0 : Int))].getD (0 : Nat) SVal.bad)))

 (.ret (.normal, [.sli 8 (.c 0) 1 (.v p.3.length) (some (.v p.4)), .ptr 16 0, .ptr 1 0, .ptr 4 0, .sli 7 (.c 0) 1 (.v m) none, .ptr 9 0, .ptr 12 0, .sli 15 (.c 0) 1 (.v m) none, .int .i64 (↑i : Int), .int .i64 (errP m s k), .int .i64 (errP m t k)], [.ro encLook [PUnit.unit], .own [.c (.sli 2 (.c 0) 1 (.v 3) (some (.v 3))), .c (.int .i64 (pickP m s k).c)] 62, .own [.a (encInt IntKind.u32) 3 (pickP m s k).l] 23, .many encTk (pickP m s k).xs 70, .own [.c (.ptr 1 0), .c (.sli 5 (.c 0) 1 (.v m) none), .c (.sli 6 (.c 0) 1 (.v m) (some (.v m)))] 78, .vec (encT 37 3) (List.range m) 80, .own [.a encBool m (pickP m s k).ds] 4, .vec (encP 3) (List.range m) 37, .ro (encInt IntKind.i64) p.3, .own [.c (.sli 10 (.c 0) 1 (.v 3) (some (.v 3))), .c (.int .i64 (pickP m t k).c)] 62, .own [.a (encInt IntKind.u32) 3 (pickP m t k).l] 23, .many encTk (pickP m t k).xs 70, .own [.c (.ptr 9 0), .c (.sli 13 (.c 0) 1 (.v m) none), .c (.sli 14 (.c 0) 1 (.v m) (some (.v m)))] 78, .vec (encT 37 (9 + 2)) (List.range m) 80, .own [.a encBool m (pickP m t k).ds] 4, .vec (encP (9 + 2)) (List.range m) 37, .own [.c (.int .u32 q.1), .c (.int .u32 q.2)] 24]))))))))))) := by kernel_rfl
set_option maxRecDepth 100000 in
theorem t6_l1 {p : In9} {q : Int × Int} {m : Nat} {s t : Mc} {i : Nat} {k e f : Int} : (execN (cfg6 p q m k s t) 100 1 (restC 1 bb6) (fr 175 n6c (v6 p m ++ [.int .i64 (i : Nat), .int .i64 e, .int .i64 f])) (s6 p q m s t)).bind (canonK 17 [(0,0)] 175 n6d) =
 

 (.eq ([SVal.ptr 1 0, .lit .i64 (2 : Int)] = [SVal.ptr 1 0, .lit .i64 (2 : Int)] ∧ [Blk.ro encLook [PUnit.unit], .own [.c (.sli 2 (.c 0) 1 (.v 3) (some (.v 3))), .c (.int .i64 s.2)] 62, .own [.a (encInt IntKind.u32) 3 s.1] 23, .many encTk s.3 70, .own [.c (.ptr 1 0), .c (.sli 5 (.c 0) 1 (.v m) none), .c (.sli 6 (.c 0) 1 (.v m) (some (.v m)))] 78, .vec (encT 37 3) (List.range m) 80, .own [.a encBool m s.4] 4, .vec (encP 3) (List.range m) 37, .ro (encInt IntKind.i64) p.3, .own [.c (.sli 10 (.c 0) 1 (.v 3) (some (.v 3))), .c (.int .i64 t.2)] 62, .own [.a (encInt IntKind.u32) 3 t.1] 23, .many encTk t.3 70, .own [.c (.ptr 9 0), .c (.sli 13 (.c 0) 1 (.v m) none), .c (.sli 14 (.c 0) 1 (.v m) (some (.v m)))] 78, .vec (encT 37 (9 + 2)) (List.range m) 80, .own [.a encBool m t.4] 4, .vec (encP (9 + 2)) (List.range m) 37, .own [.c (.int .u32 q.1), .c (.int .u32 q.2)] 24] = [Blk.ro encLook [PUnit.unit], .own [.c (.sli 2 (.c 0) 1 (.v 3) (some (.v 3))), .c (.int .i64 s.2)] 62, .own [.a (encInt IntKind.u32) 3 s.1] 23, .many encTk s.3 70, .own [.c (.ptr 1 0), .c (.sli 5 (.c 0) 1 (.v m) none), .c (.sli 6 (.c 0) 1 (.v m) (some (.v m)))] 78, .vec (encT 37 3) (List.range m) 80, .own [.a encBool m s.4] 4, .vec (encP 3) (List.range m) 37, .ro (encInt IntKind.i64) p.3, .own [.c (.sli 10 (.c 0) 1 (.v 3) (some (.v 3))), .c (.int .i64 t.2)] 62, .own [.a (encInt IntKind.u32) 3 t.1] 23, .many encTk t.3 70, .own [.c (.ptr 9 0), .c (.sli 13 (.c 0) 1 (.v m) none), .c (.sli 14 (.c 0) 1 (.v m) (some (.v m)))] 78, .vec (encT 37 (9 + 2)) (List.range m) 80, .own [.a encBool m t.4] 4, .vec (encP (9 + 2)) (List.range m) 37, .own [.c (.int .u32 q.1), .c (.int .u32 q.2)] 24] ∧ s.1.length = 3)

 (.ret (.normal, [.sli 8 (.c 0) 1 (.v p.3.length) (some (.v p.4)), .ptr 16 0, .ptr 1 0, .ptr 4 0, .sli 7 (.c 0) 1 (.v m) none, .ptr 9 0, .ptr 12 0, .sli 15 (.c 0) 1 (.v m) none, .int .i64 (↑i : Int), .int .i64 e, .int .i64 f, .int .u32 (s.1.getD 2 (0 : Int))], [.ro encLook [PUnit.unit], .own [.c (.sli 2 (.c 0) 1 (.v 3) (some (.v 3))), .c (.int .i64 (usedP s).c)] 62, .own [.a (encInt IntKind.u32) 3 (usedP s).l] 23, .many encTk (usedP s).xs 70, .own [.c (.ptr 1 0), .c (.sli 5 (.c 0) 1 (.v m) none), .c (.sli 6 (.c 0) 1 (.v m) (some (.v m)))] 78, .vec (encT 37 3) (List.range m) 80, .own [.a encBool m (usedP s).ds] 4, .vec (encP 3) (List.range m) 37, .ro (encInt IntKind.i64) p.3, .own [.c (.sli 10 (.c 0) 1 (.v 3) (some (.v 3))), .c (.int .i64 t.2)] 62, .own [.a (encInt IntKind.u32) 3 t.1] 23, .many encTk t.3 70, .own [.c (.ptr 9 0), .c (.sli 13 (.c 0) 1 (.v m) none), .c (.sli 14 (.c 0) 1 (.v m) (some (.v m)))] 78, .vec (encT 37 (9 + 2)) (List.range m) 80, .own [.a encBool m t.4] 4, .vec (encP (9 + 2)) (List.range m) 37, .own [.c (.int .u32 q.1), .c (.int .u32 q.2)] 24]))) := by kernel_rfl
set_option maxRecDepth 100000 in
theorem t6_l2 {p : In9} {q : Int × Int} {m : Nat} {s t : Mc} {i : Nat} {k e f v : Int} : (execN (cfg6 p q m k s t) 100 1 (restC 2 bb6) (fr 175 n6d (v6 p m ++ [.int .i64 (i : Nat), .int .i64 e, .int .i64 f, .int .u32 v])) (s6 p q m s t)).bind (canonK 17 [(0,0)] 175 n6e) =
 

 (.eq ([SVal.ptr 9 0, .lit .i64 (2 : Int)] = [SVal.ptr 9 0, .lit .i64 (2 : Int)] ∧ [Blk.ro encLook [PUnit.unit], .own [.c (.sli 2 (.c 0) 1 (.v 3) (some (.v 3))), .c (.int .i64 s.2)] 62, .own [.a (encInt IntKind.u32) 3 s.1] 23, .many encTk s.3 70, .own [.c (.ptr 1 0), .c (.sli 5 (.c 0) 1 (.v m) none), .c (.sli 6 (.c 0) 1 (.v m) (some (.v m)))] 78, .vec (encT 37 3) (List.range m) 80, .own [.a encBool m s.4] 4, .vec (encP 3) (List.range m) 37, .ro (encInt IntKind.i64) p.3, .own [.c (.sli 10 (.c 0) 1 (.v 3) (some (.v 3))), .c (.int .i64 t.2)] 62, .own [.a (encInt IntKind.u32) 3 t.1] 23, .many encTk t.3 70, .own [.c (.ptr 9 0), .c (.sli 13 (.c 0) 1 (.v m) none), .c (.sli 14 (.c 0) 1 (.v m) (some (.v m)))] 78, .vec (encT 37 (9 + 2)) (List.range m) 80, .own [.a encBool m t.4] 4, .vec (encP (9 + 2)) (List.range m) 37, .own [.c (.int .u32 q.1), .c (.int .u32 q.2)] 24] = [Blk.ro encLook [PUnit.unit], .own [.c (.sli 2 (.c 0) 1 (.v 3) (some (.v 3))), .c (.int .i64 s.2)] 62, .own [.a (encInt IntKind.u32) 3 s.1] 23, .many encTk s.3 70, .own [.c (.ptr 1 0), .c (.sli 5 (.c 0) 1 (.v m) none), .c (.sli 6 (.c 0) 1 (.v m) (some (.v m)))] 78, .vec (encT 37 3) (List.range m) 80, .own [.a encBool m s.4] 4, .vec (encP 3) (List.range m) 37, .ro (encInt IntKind.i64) p.3, .own [.c (.sli 10 (.c 0) 1 (.v 3) (some (.v 3))), .c (.int .i64 t.2)] 62, .own [.a (encInt IntKind.u32) 3 t.1] 23, .many encTk t.3 70, .own [.c (.ptr 9 0), .c (.sli 13 (.c 0) 1 (.v m) none), .c (.sli 14 (.c 0) 1 (.v m) (some (.v m)))] 78, .vec (encT 37 (9 + 2)) (List.range m) 80, .own [.a encBool m t.4] 4, .vec (encP (9 + 2)) (List.range m) 37, .own [.c (.int .u32 q.1), .c (.int .u32 q.2)] 24] ∧ t.1.length = 3)

 (.ret (.normal, [.sli 8 (.c 0) 1 (.v p.3.length) (some (.v p.4)), .ptr 16 0, .ptr 1 0, .ptr 4 0, .sli 7 (.c 0) 1 (.v m) none, .ptr 9 0, .ptr 12 0, .sli 15 (.c 0) 1 (.v m) none, .int .i64 (↑i : Int), .int .i64 e, .int .i64 f, .int .u32 v, .int .u32 (t.1.getD 2 (0 : Int))], [.ro encLook [PUnit.unit], .own [.c (.sli 2 (.c 0) 1 (.v 3) (some (.v 3))), .c (.int .i64 s.2)] 62, .own [.a (encInt IntKind.u32) 3 s.1] 23, .many encTk s.3 70, .own [.c (.ptr 1 0), .c (.sli 5 (.c 0) 1 (.v m) none), .c (.sli 6 (.c 0) 1 (.v m) (some (.v m)))] 78, .vec (encT 37 3) (List.range m) 80, .own [.a encBool m s.4] 4, .vec (encP 3) (List.range m) 37, .ro (encInt IntKind.i64) p.3, .own [.c (.sli 10 (.c 0) 1 (.v 3) (some (.v 3))), .c (.int .i64 (usedP t).c)] 62, .own [.a (encInt IntKind.u32) 3 (usedP t).l] 23, .many encTk (usedP t).xs 70, .own [.c (.ptr 9 0), .c (.sli 13 (.c 0) 1 (.v m) none), .c (.sli 14 (.c 0) 1 (.v m) (some (.v m)))] 78, .vec (encT 37 (9 + 2)) (List.range m) 80, .own [.a encBool m (usedP t).ds] 4, .vec (encP (9 + 2)) (List.range m) 37, .own [.c (.int .u32 q.1), .c (.int .u32 q.2)] 24]))) := by kernel_rfl
set_option maxRecDepth 100000 in
theorem t6_chk {p : In9} {q : Int × Int} {m : Nat} {s t : Mc} {i : Nat} {k e f v w : Int} : (exec (cfg6 p q m k s t) 100 chk6 (fr 175 n6e (v6 p m ++ [.int .i64 (i : Nat), .int .i64 e, .int .i64 f, .int .u32 v, .int .u32 w])) (s6 p q m s t)).bind (canonK 17 [(0,0)] 175 n6b) =
 

 (.br (e != f)

 (.ret (.ret, [.sli 8 (.c 0) 1 (.v p.3.length) (some (.v p.4)), .ptr 16 0, .ptr 1 0, .ptr 4 0, .sli 7 (.c 0) 1 (.v m) none, .ptr 9 0, .ptr 12 0, .sli 15 (.c 0) 1 (.v m) none, .int .i64 (↑i : Int)], [.ro encLook [PUnit.unit], .own [.c (.sli 2 (.c 0) 1 (.v 3) (some (.v 3))), .c (.int .i64 s.2)] 62, .own [.a (encInt IntKind.u32) 3 s.1] 23, .many encTk s.3 70, .own [.c (.ptr 1 0), .c (.sli 5 (.c 0) 1 (.v m) none), .c (.sli 6 (.c 0) 1 (.v m) (some (.v m)))] 78, .vec (encT 37 3) (List.range m) 80, .own [.a encBool m s.4] 4, .vec (encP 3) (List.range m) 37, .ro (encInt IntKind.i64) p.3, .own [.c (.sli 10 (.c 0) 1 (.v 3) (some (.v 3))), .c (.int .i64 t.2)] 62, .own [.a (encInt IntKind.u32) 3 t.1] 23, .many encTk t.3 70, .own [.c (.ptr 9 0), .c (.sli 13 (.c 0) 1 (.v m) none), .c (.sli 14 (.c 0) 1 (.v m) (some (.v m)))] 78, .vec (encT 37 (9 + 2)) (List.range m) 80, .own [.a encBool m t.4] 4, .vec (encP (9 + 2)) (List.range m) 37, .own [.c (.int .u32 q.1), .c (.int .u32 q.2)] 24]))

 (.br (v != w)

 (.ret (.ret, [.sli 8 (.c 0) 1 (.v p.3.length) (some (.v p.4)), .ptr 16 0, .ptr 1 0, .ptr 4 0, .sli 7 (.c 0) 1 (.v m) none, .ptr 9 0, .ptr 12 0, .sli 15 (.c 0) 1 (.v m) none, .int .i64 (↑i : Int)], [.ro encLook [PUnit.unit], .own [.c (.sli 2 (.c 0) 1 (.v 3) (some (.v 3))), .c (.int .i64 s.2)] 62, .own [.a (encInt IntKind.u32) 3 s.1] 23, .many encTk s.3 70, .own [.c (.ptr 1 0), .c (.sli 5 (.c 0) 1 (.v m) none), .c (.sli 6 (.c 0) 1 (.v m) (some (.v m)))] 78, .vec (encT 37 3) (List.range m) 80, .own [.a encBool m s.4] 4, .vec (encP 3) (List.range m) 37, .ro (encInt IntKind.i64) p.3, .own [.c (.sli 10 (.c 0) 1 (.v 3) (some (.v 3))), .c (.int .i64 t.2)] 62, .own [.a (encInt IntKind.u32) 3 t.1] 23, .many encTk t.3 70, .own [.c (.ptr 9 0), .c (.sli 13 (.c 0) 1 (.v m) none), .c (.sli 14 (.c 0) 1 (.v m) (some (.v m)))] 78, .vec (encT 37 (9 + 2)) (List.range m) 80, .own [.a encBool m t.4] 4, .vec (encP (9 + 2)) (List.range m) 37, .own [.c (.int .u32 q.1), .c (.int .u32 q.2)] 24]))

 (.eq ([SVal.ptr 4 0] = [SVal.ptr 4 0] ∧ [Blk.ro encLook [PUnit.unit], .own [.c (.sli 2 (.c 0) 1 (.v 3) (some (.v 3))), .c (.int .i64 s.2)] 62, .own [.a (encInt IntKind.u32) 3 s.1] 23, .many encTk s.3 70, .own [.c (.ptr 1 0), .c (.sli 5 (.c 0) 1 (.v m) none), .c (.sli 6 (.c 0) 1 (.v m) (some (.v m)))] 78, .vec (encT 37 3) (List.range m) 80, .own [.a encBool m s.4] 4, .vec (encP 3) (List.range m) 37, .ro (encInt IntKind.i64) p.3, .own [.c (.sli 10 (.c 0) 1 (.v 3) (some (.v 3))), .c (.int .i64 t.2)] 62, .own [.a (encInt IntKind.u32) 3 t.1] 23, .many encTk t.3 70, .own [.c (.ptr 9 0), .c (.sli 13 (.c 0) 1 (.v m) none), .c (.sli 14 (.c 0) 1 (.v m) (some (.v m)))] 78, .vec (encT 37 (9 + 2)) (List.range m) 80, .own [.a encBool m t.4] 4, .vec (encP (9 + 2)) (List.range m) 37, .own [.c (.int .u32 q.1), .c (.int .u32 q.2)] 24] = [Blk.ro encLook [PUnit.unit], .own [.c (.sli 2 (.c 0) 1 (.v 3) (some (.v 3))), .c (.int .i64 s.2)] 62, .own [.a (encInt IntKind.u32) 3 s.1] 23, .many encTk s.3 70, .own [.c (.ptr 1 0), .c (.sli 5 (.c 0) 1 (.v m) none), .c (.sli 6 (.c 0) 1 (.v m) (some (.v m)))] 78, .vec (encT 37 3) (List.range m) 80, .own [.a encBool m s.4] 4, .vec (encP 3) (List.range m) 37, .ro (encInt IntKind.i64) p.3, .own [.c (.sli 10 (.c 0) 1 (.v 3) (some (.v 3))), .c (.int .i64 t.2)] 62, .own [.a (encInt IntKind.u32) 3 t.1] 23, .many encTk t.3 70, .own [.c (.ptr 9 0), .c (.sli 13 (.c 0) 1 (.v m) none), .c (.sli 14 (.c 0) 1 (.v m) (some (.v m)))] 78, .vec (encT 37 (9 + 2)) (List.range m) 80, .own [.a encBool m t.4] 4, .vec (encP (9 + 2)) (List.range m) 37, .own [.c (.int .u32 q.1), .c (.int .u32 q.2)] 24] ∧ s.4.length = m ∧ m ≤ 1000)

 (.eq ([SVal.ptr 12 0] = [SVal.ptr 12 0] ∧ [Blk.ro encLook [PUnit.unit], .own [.c (.sli 2 (.c 0) 1 (.v 3) (some (.v 3))), .c (.int .i64 s.2)] 62, .own [.a (encInt IntKind.u32) 3 s.1] 23, .many encTk s.3 70, .own [.c (.ptr 1 0), .c (.sli 5 (.c 0) 1 (.v m) none), .c (.sli 6 (.c 0) 1 (.v m) (some (.v m)))] 78, .vec (encT 37 3) (List.range m) 80, .own [.a encBool m s.4] 4, .vec (encP 3) (List.range m) 37, .ro (encInt IntKind.i64) p.3, .own [.c (.sli 10 (.c 0) 1 (.v 3) (some (.v 3))), .c (.int .i64 t.2)] 62, .own [.a (encInt IntKind.u32) 3 t.1] 23, .many encTk t.3 70, .own [.c (.ptr 9 0), .c (.sli 13 (.c 0) 1 (.v m) none), .c (.sli 14 (.c 0) 1 (.v m) (some (.v m)))] 78, .vec (encT 37 (9 + 2)) (List.range m) 80, .own [.a encBool m t.4] 4, .vec (encP (9 + 2)) (List.range m) 37, .own [.c (.int .u32 q.1), .c (.int .u32 q.2)] 24] = [Blk.ro encLook [PUnit.unit], .own [.c (.sli 2 (.c 0) 1 (.v 3) (some (.v 3))), .c (.int .i64 s.2)] 62, .own [.a (encInt IntKind.u32) 3 s.1] 23, .many encTk s.3 70, .own [.c (.ptr 1 0), .c (.sli 5 (.c 0) 1 (.v m) none), .c (.sli 6 (.c 0) 1 (.v m) (some (.v m)))] 78, .vec (encT 37 3) (List.range m) 80, .own [.a encBool m s.4] 4, .vec (encP 3) (List.range m) 37, .ro (encInt IntKind.i64) p.3, .own [.c (.sli 10 (.c 0) 1 (.v 3) (some (.v 3))), .c (.int .i64 t.2)] 62, .own [.a (encInt IntKind.u32) 3 t.1] 23, .many encTk t.3 70, .own [.c (.ptr 9 0), .c (.sli 13 (.c 0) 1 (.v m) none), .c (.sli 14 (.c 0) 1 (.v m) (some (.v m)))] 78, .vec (encT 37 (9 + 2)) (List.range m) 80, .own [.a encBool m t.4] 4, .vec (encP (9 + 2)) (List.range m) 37, .own [.c (.int .u32 q.1), .c (.int .u32 q.2)] 24] ∧ t.4.length = m ∧ m ≤ 1000)

 (.br (leftP s.4 != leftP t.4)

 (.ret (.ret, [.sli 8 (.c 0) 1 (.v p.3.length) (some (.v p.4)), .ptr 16 0, .ptr 1 0, .ptr 4 0, .sli 7 (.c 0) 1 (.v m) none, .ptr 9 0, .ptr 12 0, .sli 15 (.c 0) 1 (.v m) none, .int .i64 (↑i : Int)], [.ro encLook [PUnit.unit], .own [.c (.sli 2 (.c 0) 1 (.v 3) (some (.v 3))), .c (.int .i64 s.2)] 62, .own [.a (encInt IntKind.u32) 3 s.1] 23, .many encTk s.3 70, .own [.c (.ptr 1 0), .c (.sli 5 (.c 0) 1 (.v m) none), .c (.sli 6 (.c 0) 1 (.v m) (some (.v m)))] 78, .vec (encT 37 3) (List.range m) 80, .own [.a encBool m s.4] 4, .vec (encP 3) (List.range m) 37, .ro (encInt IntKind.i64) p.3, .own [.c (.sli 10 (.c 0) 1 (.v 3) (some (.v 3))), .c (.int .i64 t.2)] 62, .own [.a (encInt IntKind.u32) 3 t.1] 23, .many encTk t.3 70, .own [.c (.ptr 9 0), .c (.sli 13 (.c 0) 1 (.v m) none), .c (.sli 14 (.c 0) 1 (.v m) (some (.v m)))] 78, .vec (encT 37 (9 + 2)) (List.range m) 80, .own [.a encBool m t.4] 4, .vec (encP (9 + 2)) (List.range m) 37, .own [.c (.int .u32 q.1), .c (.int .u32 q.2)] 24]))

 (.ret (.normal, [.sli 8 (.c 0) 1 (.v p.3.length) (some (.v p.4)), .ptr 16 0, .ptr 1 0, .ptr 4 0, .sli 7 (.c 0) 1 (.v m) none, .ptr 9 0, .ptr 12 0, .sli 15 (.c 0) 1 (.v m) none, .int .i64 (↑i : Int)], [.ro encLook [PUnit.unit], .own [.c (.sli 2 (.c 0) 1 (.v 3) (some (.v 3))), .c (.int .i64 s.2)] 62, .own [.a (encInt IntKind.u32) 3 s.1] 23, .many encTk s.3 70, .own [.c (.ptr 1 0), .c (.sli 5 (.c 0) 1 (.v m) none), .c (.sli 6 (.c 0) 1 (.v m) (some (.v m)))] 78, .vec (encT 37 3) (List.range m) 80, .own [.a encBool m s.4] 4, .vec (encP 3) (List.range m) 37, .ro (encInt IntKind.i64) p.3, .own [.c (.sli 10 (.c 0) 1 (.v 3) (some (.v 3))), .c (.int .i64 t.2)] 62, .own [.a (encInt IntKind.u32) 3 t.1] 23, .many encTk t.3 70, .own [.c (.ptr 9 0), .c (.sli 13 (.c 0) 1 (.v m) none), .c (.sli 14 (.c 0) 1 (.v m) (some (.v m)))] 78, .vec (encT 37 (9 + 2)) (List.range m) 80, .own [.a encBool m t.4] 4, .vec (encP (9 + 2)) (List.range m) 37, .own [.c (.int .u32 q.1), .c (.int .u32 q.2)] 24]))))))) := by kernel_rfl
set_option maxRecDepth 100000 in
theorem t6_j {p : In9} {q : Int × Int} {m : Nat} {s t : Mc} {i : Nat} : (exec cfgM 100 (lft in6) (fr 175 n6b (v6 p m ++ [.int .i64 (i : Nat)])) (s6 p q m s t)).bind (canonK 17 [(0,0)] 175 n6f) =
 

 (.ret (.normal, [.sli 8 (.c 0) 1 (.v p.3.length) (some (.v p.4)), .ptr 16 0, .ptr 1 0, .ptr 4 0, .sli 7 (.c 0) 1 (.v m) none, .ptr 9 0, .ptr 12 0, .sli 15 (.c 0) 1 (.v m) none, .int .i64 (↑i : Int), .lit .i64 (0 : Int)], [.ro encLook [PUnit.unit], .own [.c (.sli 2 (.c 0) 1 (.v 3) (some (.v 3))), .c (.int .i64 s.2)] 62, .own [.a (encInt IntKind.u32) 3 s.1] 23, .many encTk s.3 70, .own [.c (.ptr 1 0), .c (.sli 5 (.c 0) 1 (.v m) none), .c (.sli 6 (.c 0) 1 (.v m) (some (.v m)))] 78, .vec (encT 37 3) (List.range m) 80, .own [.a encBool m s.4] 4, .vec (encP 3) (List.range m) 37, .ro (encInt IntKind.i64) p.3, .own [.c (.sli 10 (.c 0) 1 (.v 3) (some (.v 3))), .c (.int .i64 t.2)] 62, .own [.a (encInt IntKind.u32) 3 t.1] 23, .many encTk t.3 70, .own [.c (.ptr 9 0), .c (.sli 13 (.c 0) 1 (.v m) none), .c (.sli 14 (.c 0) 1 (.v m) (some (.v m)))] 78, .vec (encT 37 (9 + 2)) (List.range m) 80, .own [.a encBool m t.4] 4, .vec (encP (9 + 2)) (List.range m) 37, .own [.c (.int .u32 q.1), .c (.int .u32 q.2)] 24])) := by kernel_rfl
set_option maxRecDepth 100000 in
theorem t6_in {p : In9} {q : Int × Int} {m : Nat} {s t : Mc} {i j : Nat} : (exec cfgM 100 lb6 (fr 175 n6f (v6 p m ++ [.int .i64 (i : Nat), .int .i64 (j : Nat)])) (s6 p q m s t)).bind (canonK 17 [(0,0)] 175 n6f) =
 

 (.br (decide ((↑j : Int) < (↑m : Int)))

 (.need (decide ((0 : Int) ≤ (↑j : Int)) && decide ((↑j : Int).toNat < m))

 (.need (decide ((↑j : Int).toNat < (List.range m).length))

 (.need (decide ((List.range m).getD (↑j : Int).toNat 0 < s.3.length))

 (.need (decide ((0 : Int) ≤ (↑j : Int)) && decide ((↑j : Int).toNat < m))

 (.need (decide ((↑j : Int).toNat < (List.range m).length))

 (.need (decide ((List.range m).getD (↑j : Int).toNat 0 < t.3.length))

 (.br (!decide ((2 : Int) ≤ (↑(s.3.getD ((List.range m).getD (↑j : Int).toNat 0) { at' := (0 : Int), cell := (0 : Int), times := (0 : Int), phase := 0, ticket := (0 : Int), v := (0 : Int) }).phase : Int)) == decide ((2 : Int) ≤ (↑(t.3.getD ((List.range m).getD (↑j : Int).toNat 0) { at' := (0 : Int), cell := (0 : Int), times := (0 : Int), phase := 0, ticket := (0 : Int), v := (0 : Int) }).phase : Int)))
 (.eq (T.need (decide ((↑j : Int).toNat < (List.range m).length)) (T.ret (((encP (3 : Nat)).enc ((List.range m).getD (↑j : Int).toNat (encP (3 : Nat)).dflt)).getD (0 : Nat) SVal.bad)) = T.need (decide ((↑j : Int).toNat < (List.range m).length)) (T.ret (((encP (3 : Nat)).enc ((List.range m).getD (↑j : Int).toNat (encP (3 : Nat)).dflt)).getD (0 : Nat) SVal.bad)))
 (.eq (T.need (decide ((↑j : Int).toNat < (List.range m).length)) (T.ret (((encP (11 : Nat)).enc ((List.range m).getD (↑j : Int).toNat (encP ((9 : Nat) + (2 : Nat))).dflt)).getD (0 : Nat) SVal.bad)) = T.need (decide ((↑j : Int).toNat < (List.range m).length)) (T.ret (((encP (11 : Nat)).enc ((List.range m).getD (↑j : Int).toNat (encP ((9 : Nat) + (2 : Nat))).dflt)).getD (0 : Nat) SVal.bad)))
 (.eq (T.need (decide ((↑j : Int).toNat < (List.range m).length)) (T.ret (((encP (11 : Nat)).enc ((List.range m).getD (↑j : Int).toNat (encP ((9 : Nat) + (2 : Nat))).dflt)).getD (0 : Nat) SVal.bad)) = T.need (decide ((↑j : Int).toNat < (List.range m).length)) (T.ret (((encP (11 : Nat)).enc ((List.range m).getD (↑j : Int).toNat (encP ((9 : Nat) + (2 : Nat))).dflt)).getD (0 : Nat) SVal.bad)))

 (.ret (.ret, [.sli 8 (.c 0) 1 (.v p.3.length) (some (.v p.4)), .ptr 16 0, .ptr 1 0, .ptr 4 0, .sli 7 (.c 0) 1 (.v m) none, .ptr 9 0, .ptr 12 0, .sli 15 (.c 0) 1 (.v m) none, .int .i64 (↑i : Int), .int .i64 (↑j : Int)], [.ro encLook [PUnit.unit], .own [.c (.sli 2 (.c 0) 1 (.v 3) (some (.v 3))), .c (.int .i64 s.2)] 62, .own [.a (encInt IntKind.u32) 3 s.1] 23, .many encTk s.3 70, .own [.c (.ptr 1 0), .c (.sli 5 (.c 0) 1 (.v m) none), .c (.sli 6 (.c 0) 1 (.v m) (some (.v m)))] 78, .vec (encT 37 3) (List.range m) 80, .own [.a encBool m s.4] 4, .vec (encP 3) (List.range m) 37, .ro (encInt IntKind.i64) p.3, .own [.c (.sli 10 (.c 0) 1 (.v 3) (some (.v 3))), .c (.int .i64 t.2)] 62, .own [.a (encInt IntKind.u32) 3 t.1] 23, .many encTk t.3 70, .own [.c (.ptr 9 0), .c (.sli 13 (.c 0) 1 (.v m) none), .c (.sli 14 (.c 0) 1 (.v m) (some (.v m)))] 78, .vec (encT 37 (9 + 2)) (List.range m) 80, .own [.a encBool m t.4] 4, .vec (encP (9 + 2)) (List.range m) 37, .own [.c (.int .u32 q.1), .c (.int .u32 q.2)] 24])))))

 (.need (decide ((0 : Int) ≤ (↑j : Int)) && decide ((↑j : Int).toNat < m))

 (.need (decide ((↑j : Int).toNat < (List.range m).length))

 (.need (decide ((List.range m).getD (↑j : Int).toNat 0 < s.3.length))

 (.need (decide ((0 : Int) ≤ (↑j : Int)) && decide ((↑j : Int).toNat < m))

 (.need (decide ((↑j : Int).toNat < (List.range m).length))

 (.need (decide ((List.range m).getD (↑j : Int).toNat 0 < t.3.length))

 (.br (!((↑(s.3.getD ((List.range m).getD (↑j : Int).toNat 0) { at' := (0 : Int), cell := (0 : Int), times := (0 : Int), phase := 0, ticket := (0 : Int), v := (0 : Int) }).phase : Int) == (1 : Int)) == ((↑(t.3.getD ((List.range m).getD (↑j : Int).toNat 0) { at' := (0 : Int), cell := (0 : Int), times := (0 : Int), phase := 0, ticket := (0 : Int), v := (0 : Int) }).phase : Int) == (1 : Int)))
 (.eq (T.need (decide ((↑j : Int).toNat < (List.range m).length)) (T.ret (((encP (3 : Nat)).enc ((List.range m).getD (↑j : Int).toNat (encP (3 : Nat)).dflt)).getD (0 : Nat) SVal.bad)) = T.need (decide ((↑j : Int).toNat < (List.range m).length)) (T.ret (((encP (3 : Nat)).enc ((List.range m).getD (↑j : Int).toNat (encP (3 : Nat)).dflt)).getD (0 : Nat) SVal.bad)))
 (.eq (T.need (decide ((↑j : Int).toNat < (List.range m).length)) (T.ret (((encP (11 : Nat)).enc ((List.range m).getD (↑j : Int).toNat (encP ((9 : Nat) + (2 : Nat))).dflt)).getD (0 : Nat) SVal.bad)) = T.need (decide ((↑j : Int).toNat < (List.range m).length)) (T.ret (((encP (11 : Nat)).enc ((List.range m).getD (↑j : Int).toNat (encP ((9 : Nat) + (2 : Nat))).dflt)).getD (0 : Nat) SVal.bad)))
 (.eq (T.need (decide ((↑j : Int).toNat < (List.range m).length)) (T.ret (((encP (11 : Nat)).enc ((List.range m).getD (↑j : Int).toNat (encP ((9 : Nat) + (2 : Nat))).dflt)).getD (0 : Nat) SVal.bad)) = T.need (decide ((↑j : Int).toNat < (List.range m).length)) (T.ret (((encP (11 : Nat)).enc ((List.range m).getD (↑j : Int).toNat (encP ((9 : Nat) + (2 : Nat))).dflt)).getD (0 : Nat) SVal.bad)))
 (.eq (T.need (decide ((↑j : Int).toNat < (List.range m).length)) (T.ret (((encP (3 : Nat)).enc ((List.range m).getD (↑j : Int).toNat (encP (3 : Nat)).dflt)).getD (0 : Nat) SVal.bad)) = T.need (decide ((↑j : Int).toNat < (List.range m).length)) (T.ret (((encP (3 : Nat)).enc ((List.range m).getD (↑j : Int).toNat (encP (3 : Nat)).dflt)).getD (0 : Nat) SVal.bad)))
 (.eq (T.need (decide ((↑j : Int).toNat < (List.range m).length)) (T.ret (((encP (11 : Nat)).enc ((List.range m).getD (↑j : Int).toNat (encP ((9 : Nat) + (2 : Nat))).dflt)).getD (0 : Nat) SVal.bad)) = T.need (decide ((↑j : Int).toNat < (List.range m).length)) (T.ret (((encP (11 : Nat)).enc ((List.range m).getD (↑j : Int).toNat (encP ((9 : Nat) + (2 : Nat))).dflt)).getD (0 : Nat) SVal.bad)))
 (.eq (T.need (decide ((↑j : Int).toNat < (List.range m).length)) (T.ret (((encP (11 : Nat)).enc ((List.range m).getD (↑j : Int).toNat (encP ((9 : Nat) + (2 : Nat))).dflt)).getD (0 : Nat) SVal.bad)) = T.need (decide ((↑j : Int).toNat < (List.range m).length)) (T.ret (((encP (11 : Nat)).enc ((List.range m).getD (↑j : Int).toNat (encP ((9 : Nat) + (2 : Nat))).dflt)).getD (0 : Nat) SVal.bad)))

 (.ret (.ret, [.sli 8 (.c 0) 1 (.v p.3.length) (some (.v p.4)), .ptr 16 0, .ptr 1 0, .ptr 4 0, .sli 7 (.c 0) 1 (.v m) none, .ptr 9 0, .ptr 12 0, .sli 15 (.c 0) 1 (.v m) none, .int .i64 (↑i : Int), .int .i64 (↑j : Int)], [.ro encLook [PUnit.unit], .own [.c (.sli 2 (.c 0) 1 (.v 3) (some (.v 3))), .c (.int .i64 s.2)] 62, .own [.a (encInt IntKind.u32) 3 s.1] 23, .many encTk s.3 70, .own [.c (.ptr 1 0), .c (.sli 5 (.c 0) 1 (.v m) none), .c (.sli 6 (.c 0) 1 (.v m) (some (.v m)))] 78, .vec (encT 37 3) (List.range m) 80, .own [.a encBool m s.4] 4, .vec (encP 3) (List.range m) 37, .ro (encInt IntKind.i64) p.3, .own [.c (.sli 10 (.c 0) 1 (.v 3) (some (.v 3))), .c (.int .i64 t.2)] 62, .own [.a (encInt IntKind.u32) 3 t.1] 23, .many encTk t.3 70, .own [.c (.ptr 9 0), .c (.sli 13 (.c 0) 1 (.v m) none), .c (.sli 14 (.c 0) 1 (.v m) (some (.v m)))] 78, .vec (encT 37 (9 + 2)) (List.range m) 80, .own [.a encBool m t.4] 4, .vec (encP (9 + 2)) (List.range m) 37, .own [.c (.int .u32 q.1), .c (.int .u32 q.2)] 24]))))))))

 (.need (decide ((0 : Int) ≤ (↑j : Int)) && decide ((↑j : Int).toNat < m))

 (.need (decide ((↑j : Int).toNat < (List.range m).length))

 (.need (decide ((List.range m).getD (↑j : Int).toNat 0 < s.3.length))

 (.need (decide ((0 : Int) ≤ (↑j : Int)) && decide ((↑j : Int).toNat < m))

 (.need (decide ((↑j : Int).toNat < (List.range m).length))

 (.need (decide ((List.range m).getD (↑j : Int).toNat 0 < t.3.length))

 (.br ((s.3.getD ((List.range m).getD (↑j : Int).toNat 0) { at' := (0 : Int), cell := (0 : Int), times := (0 : Int), phase := 0, ticket := (0 : Int), v := (0 : Int) }).times != (t.3.getD ((List.range m).getD (↑j : Int).toNat 0) { at' := (0 : Int), cell := (0 : Int), times := (0 : Int), phase := 0, ticket := (0 : Int), v := (0 : Int) }).times)
 (.eq (T.need (decide ((↑j : Int).toNat < (List.range m).length)) (T.ret (((encP (3 : Nat)).enc ((List.range m).getD (↑j : Int).toNat (encP (3 : Nat)).dflt)).getD (0 : Nat) SVal.bad)) = T.need (decide ((↑j : Int).toNat < (List.range m).length)) (T.ret (((encP (3 : Nat)).enc ((List.range m).getD (↑j : Int).toNat (encP (3 : Nat)).dflt)).getD (0 : Nat) SVal.bad)))
 (.eq (T.need (decide ((↑j : Int).toNat < (List.range m).length)) (T.ret (((encP (11 : Nat)).enc ((List.range m).getD (↑j : Int).toNat (encP ((9 : Nat) + (2 : Nat))).dflt)).getD (0 : Nat) SVal.bad)) = T.need (decide ((↑j : Int).toNat < (List.range m).length)) (T.ret (((encP (11 : Nat)).enc ((List.range m).getD (↑j : Int).toNat (encP ((9 : Nat) + (2 : Nat))).dflt)).getD (0 : Nat) SVal.bad)))
 (.eq (T.need (decide ((↑j : Int).toNat < (List.range m).length)) (T.ret (((encP (11 : Nat)).enc ((List.range m).getD (↑j : Int).toNat (encP ((9 : Nat) + (2 : Nat))).dflt)).getD (0 : Nat) SVal.bad)) = T.need (decide ((↑j : Int).toNat < (List.range m).length)) (T.ret (((encP (11 : Nat)).enc ((List.range m).getD (↑j : Int).toNat (encP ((9 : Nat) + (2 : Nat))).dflt)).getD (0 : Nat) SVal.bad)))
 (.eq (T.need (decide ((↑j : Int).toNat < (List.range m).length)) (T.ret (((encP (3 : Nat)).enc ((List.range m).getD (↑j : Int).toNat (encP (3 : Nat)).dflt)).getD (0 : Nat) SVal.bad)) = T.need (decide ((↑j : Int).toNat < (List.range m).length)) (T.ret (((encP (3 : Nat)).enc ((List.range m).getD (↑j : Int).toNat (encP (3 : Nat)).dflt)).getD (0 : Nat) SVal.bad)))
 (.eq (T.need (decide ((↑j : Int).toNat < (List.range m).length)) (T.ret (((encP (11 : Nat)).enc ((List.range m).getD (↑j : Int).toNat (encP ((9 : Nat) + (2 : Nat))).dflt)).getD (0 : Nat) SVal.bad)) = T.need (decide ((↑j : Int).toNat < (List.range m).length)) (T.ret (((encP (11 : Nat)).enc ((List.range m).getD (↑j : Int).toNat (encP ((9 : Nat) + (2 : Nat))).dflt)).getD (0 : Nat) SVal.bad)))
 (.eq (T.need (decide ((↑j : Int).toNat < (List.range m).length)) (T.ret (((encP (11 : Nat)).enc ((List.range m).getD (↑j : Int).toNat (encP ((9 : Nat) + (2 : Nat))).dflt)).getD (0 : Nat) SVal.bad)) = T.need (decide ((↑j : Int).toNat < (List.range m).length)) (T.ret (((encP (11 : Nat)).enc ((List.range m).getD (↑j : Int).toNat (encP ((9 : Nat) + (2 : Nat))).dflt)).getD (0 : Nat) SVal.bad)))
 (.eq (T.need (decide ((↑j : Int).toNat < (List.range m).length)) (T.ret (((encP (3 : Nat)).enc ((List.range m).getD (↑j : Int).toNat (encP (3 : Nat)).dflt)).getD (0 : Nat) SVal.bad)) = T.need (decide ((↑j : Int).toNat < (List.range m).length)) (T.ret (((encP (3 : Nat)).enc ((List.range m).getD (↑j : Int).toNat (encP (3 : Nat)).dflt)).getD (0 : Nat) SVal.bad)))
 (.eq (T.need (decide ((↑j : Int).toNat < (List.range m).length)) (T.ret (((encP (11 : Nat)).enc ((List.range m).getD (↑j : Int).toNat (encP ((9 : Nat) + (2 : Nat))).dflt)).getD (0 : Nat) SVal.bad)) = T.need (decide ((↑j : Int).toNat < (List.range m).length)) (T.ret (((encP (11 : Nat)).enc ((List.range m).getD (↑j : Int).toNat (encP ((9 : Nat) + (2 : Nat))).dflt)).getD (0 : Nat) SVal.bad)))
 (.eq (T.need (decide ((↑j : Int).toNat < (List.range m).length)) (T.ret (((encP (11 : Nat)).enc ((List.range m).getD (↑j : Int).toNat (encP ((9 : Nat) + (2 : Nat))).dflt)).getD (0 : Nat) SVal.bad)) = T.need (decide ((↑j : Int).toNat < (List.range m).length)) (T.ret (((encP (11 : Nat)).enc ((List.range m).getD (↑j : Int).toNat (encP ((9 : Nat) + (2 : Nat))).dflt)).getD (0 : Nat) SVal.bad)))

 (.ret (.ret, [.sli 8 (.c 0) 1 (.v p.3.length) (some (.v p.4)), .ptr 16 0, .ptr 1 0, .ptr 4 0, .sli 7 (.c 0) 1 (.v m) none, .ptr 9 0, .ptr 12 0, .sli 15 (.c 0) 1 (.v m) none, .int .i64 (↑i : Int), .int .i64 (↑j : Int)], [.ro encLook [PUnit.unit], .own [.c (.sli 2 (.c 0) 1 (.v 3) (some (.v 3))), .c (.int .i64 s.2)] 62, .own [.a (encInt IntKind.u32) 3 s.1] 23, .many encTk s.3 70, .own [.c (.ptr 1 0), .c (.sli 5 (.c 0) 1 (.v m) none), .c (.sli 6 (.c 0) 1 (.v m) (some (.v m)))] 78, .vec (encT 37 3) (List.range m) 80, .own [.a encBool m s.4] 4, .vec (encP 3) (List.range m) 37, .ro (encInt IntKind.i64) p.3, .own [.c (.sli 10 (.c 0) 1 (.v 3) (some (.v 3))), .c (.int .i64 t.2)] 62, .own [.a (encInt IntKind.u32) 3 t.1] 23, .many encTk t.3 70, .own [.c (.ptr 9 0), .c (.sli 13 (.c 0) 1 (.v m) none), .c (.sli 14 (.c 0) 1 (.v m) (some (.v m)))] 78, .vec (encT 37 (9 + 2)) (List.range m) 80, .own [.a encBool m t.4] 4, .vec (encP (9 + 2)) (List.range m) 37, .own [.c (.int .u32 q.1), .c (.int .u32 q.2)] 24])))))))))))

 (.need (decide ((0 : Int) ≤ (↑j : Int)) && decide ((↑j : Int).toNat < m))

 (.need (decide ((↑j : Int).toNat < (List.range m).length))

 (.need (decide ((List.range m).getD (↑j : Int).toNat 0 < s.3.length))

 (.br ((↑(s.3.getD ((List.range m).getD (↑j : Int).toNat 0) { at' := (0 : Int), cell := (0 : Int), times := (0 : Int), phase := 0, ticket := (0 : Int), v := (0 : Int) }).phase : Int) == (1 : Int))

 (.need (decide ((0 : Int) ≤ (↑j : Int)) && decide ((↑j : Int).toNat < m))

 (.need (decide ((↑j : Int).toNat < (List.range m).length))

 (.need (decide ((List.range m).getD (↑j : Int).toNat 0 < s.3.length))

 (.need (decide ((0 : Int) ≤ (↑j : Int)) && decide ((↑j : Int).toNat < m))

 (.need (decide ((↑j : Int).toNat < (List.range m).length))

 (.need (decide ((List.range m).getD (↑j : Int).toNat 0 < t.3.length))
 (.eq (T.need (decide ((↑j : Int).toNat < (List.range m).length)) (T.ret (((encP (3 : Nat)).enc ((List.range m).getD (↑j : Int).toNat (encP (3 : Nat)).dflt)).getD (0 : Nat) SVal.bad)) = T.need (decide ((↑j : Int).toNat < (List.range m).length)) (T.ret (((encP (3 : Nat)).enc ((List.range m).getD (↑j : Int).toNat (encP (3 : Nat)).dflt)).getD (0 : Nat) SVal.bad)))
 (.eq (T.need (decide ((↑j : Int).toNat < (List.range m).length)) (T.ret (((encP (11 : Nat)).enc ((List.range m).getD (↑j : Int).toNat (encP ((9 : Nat) + (2 : Nat))).dflt)).getD (0 : Nat) SVal.bad)) = T.need (decide ((↑j : Int).toNat < (List.range m).length)) (T.ret (((encP (11 : Nat)).enc ((List.range m).getD (↑j : Int).toNat (encP ((9 : Nat) + (2 : Nat))).dflt)).getD (0 : Nat) SVal.bad)))
 (.eq (T.need (decide ((↑j : Int).toNat < (List.range m).length)) (T.ret (((encP (11 : Nat)).enc ((List.range m).getD (↑j : Int).toNat (encP ((9 : Nat) + (2 : Nat))).dflt)).getD (0 : Nat) SVal.bad)) = T.need (decide ((↑j : Int).toNat < (List.range m).length)) (T.ret (((encP (11 : Nat)).enc ((List.range m).getD (↑j : Int).toNat (encP ((9 : Nat) + (2 : Nat))).dflt)).getD (0 : Nat) SVal.bad)))
 (.eq (T.need (decide ((↑j : Int).toNat < (List.range m).length)) (T.ret (((encP (3 : Nat)).enc ((List.range m).getD (↑j : Int).toNat (encP (3 : Nat)).dflt)).getD (0 : Nat) SVal.bad)) = T.need (decide ((↑j : Int).toNat < (List.range m).length)) (T.ret (((encP (3 : Nat)).enc ((List.range m).getD (↑j : Int).toNat (encP (3 : Nat)).dflt)).getD (0 : Nat) SVal.bad)))
 (.eq (T.need (decide ((↑j : Int).toNat < (List.range m).length)) (T.ret (((encP (11 : Nat)).enc ((List.range m).getD (↑j : Int).toNat (encP ((9 : Nat) + (2 : Nat))).dflt)).getD (0 : Nat) SVal.bad)) = T.need (decide ((↑j : Int).toNat < (List.range m).length)) (T.ret (((encP (11 : Nat)).enc ((List.range m).getD (↑j : Int).toNat (encP ((9 : Nat) + (2 : Nat))).dflt)).getD (0 : Nat) SVal.bad)))
 (.eq (T.need (decide ((↑j : Int).toNat < (List.range m).length)) (T.ret (((encP (11 : Nat)).enc ((List.range m).getD (↑j : Int).toNat (encP ((9 : Nat) + (2 : Nat))).dflt)).getD (0 : Nat) SVal.bad)) = T.need (decide ((↑j : Int).toNat < (List.range m).length)) (T.ret (((encP (11 : Nat)).enc ((List.range m).getD (↑j : Int).toNat (encP ((9 : Nat) + (2 : Nat))).dflt)).getD (0 : Nat) SVal.bad)))
 (.eq (T.need (decide ((↑j : Int).toNat < (List.range m).length)) (T.ret (((encP (3 : Nat)).enc ((List.range m).getD (↑j : Int).toNat (encP (3 : Nat)).dflt)).getD (0 : Nat) SVal.bad)) = T.need (decide ((↑j : Int).toNat < (List.range m).length)) (T.ret (((encP (3 : Nat)).enc ((List.range m).getD (↑j : Int).toNat (encP (3 : Nat)).dflt)).getD (0 : Nat) SVal.bad)))
 (.eq (T.need (decide ((↑j : Int).toNat < (List.range m).length)) (T.ret (((encP (11 : Nat)).enc ((List.range m).getD (↑j : Int).toNat (encP ((9 : Nat) + (2 : Nat))).dflt)).getD (0 : Nat) SVal.bad)) = T.need (decide ((↑j : Int).toNat < (List.range m).length)) (T.ret (((encP (11 : Nat)).enc ((List.range m).getD (↑j : Int).toNat (encP ((9 : Nat) + (2 : Nat))).dflt)).getD (0 : Nat) SVal.bad)))
 (.eq (T.need (decide ((↑j : Int).toNat < (List.range m).length)) (T.ret (((encP (11 : Nat)).enc ((List.range m).getD (↑j : Int).toNat (encP ((9 : Nat) + (2 : Nat))).dflt)).getD (0 : Nat) SVal.bad)) = T.need (decide ((↑j : Int).toNat < (List.range m).length)) (T.ret (((encP (11 : Nat)).enc ((List.range m).getD (↑j : Int).toNat (encP ((9 : Nat) + (2 : Nat))).dflt)).getD (0 : Nat) SVal.bad)))
 (.eq (T.need (decide ((↑j : Int).toNat < (List.range m).length)) (T.ret (((encP (3 : Nat)).enc ((List.range m).getD (↑j : Int).toNat (encP (3 : Nat)).dflt)).getD (0 : Nat) SVal.bad)) = T.need (decide ((↑j : Int).toNat < (List.range m).length)) (T.ret (((encP (3 : Nat)).enc ((List.range m).getD (↑j : Int).toNat (encP (3 : Nat)).dflt)).getD (0 : Nat) SVal.bad)))
 (.eq (T.need (decide ((↑j : Int).toNat < (List.range m).length)) (T.ret (((encP (3 : Nat)).enc ((List.range m).getD (↑j : Int).toNat (encP (3 : Nat)).dflt)).getD (0 : Nat) SVal.bad)) = T.need (decide ((↑j : Int).toNat < (List.range m).length)) (T.ret (((encP (3 : Nat)).enc ((List.range m).getD (↑j : Int).toNat (encP (3 : Nat)).dflt)).getD (0 : Nat) SVal.bad)))
 (.eq (T.ret (SVal.int IntKind.u32 q.1) = T.ret (SVal.int IntKind.u32 q.1))
 (.eq (T.ret (SVal.int IntKind.u32 q.1) = T.ret (SVal.int IntKind.u32 q.1))
 (.eq (T.ret (SVal.int IntKind.u32 q.1) = T.ret (SVal.int IntKind.u32 q.1))
 (.eq (T.need (decide ((↑j : Int).toNat < (List.range m).length)) (T.ret (((encP (11 : Nat)).enc ((List.range m).getD (↑j : Int).toNat (encP ((9 : Nat) + (2 : Nat))).dflt)).getD (0 : Nat) SVal.bad)) = T.need (decide ((↑j : Int).toNat < (List.range m).length)) (T.ret (((encP (11 : Nat)).enc ((List.range m).getD (↑j : Int).toNat (encP ((9 : Nat) + (2 : Nat))).dflt)).getD (0 : Nat) SVal.bad)))
 (.eq (T.need (decide ((↑j : Int).toNat < (List.range m).length)) (T.ret (((encP (11 : Nat)).enc ((List.range m).getD (↑j : Int).toNat (encP ((9 : Nat) + (2 : Nat))).dflt)).getD (0 : Nat) SVal.bad)) = T.need (decide ((↑j : Int).toNat < (List.range m).length)) (T.ret (((encP (11 : Nat)).enc ((List.range m).getD (↑j : Int).toNat (encP ((9 : Nat) + (2 : Nat))).dflt)).getD (0 : Nat) SVal.bad)))
 (.eq (T.ret (SVal.int IntKind.u32 q.2) = T.ret (SVal.int IntKind.u32 q.2))
 (.eq (T.ret (SVal.int IntKind.u32 q.2) = T.ret (SVal.int IntKind.u32 q.2))
 (.eq (T.ret (SVal.int IntKind.u32 q.2) = T.ret (SVal.int IntKind.u32 q.2))

 (.br (IntKind.u32.wrap ((s.3.getD ((List.range m).getD (↑j : Int).toNat 0) { at' := (0 : Int), cell := (0 : Int), times := (0 : Int), phase := 0, ticket := (0 : Int), v := (0 : Int) }).ticket - q.1) != IntKind.u32.wrap ((t.3.getD ((List.range m).getD (↑j : Int).toNat 0) { at' := (0 : Int), cell := (0 : Int), times := (0 : Int), phase := 0, ticket := (0 : Int), v := (0 : Int) }).ticket - q.2))

 (.ret (.ret, [.sli 8 (.c 0) 1 (.v p.3.length) (some (.v p.4)), .ptr 16 0, .ptr 1 0, .ptr 4 0, .sli 7 (.c 0) 1 (.v m) none, .ptr 9 0, .ptr 12 0, .sli 15 (.c 0) 1 (.v m) none, .int .i64 (↑i : Int), .int .i64 (↑j : Int)], [.ro encLook [PUnit.unit], .own [.c (.sli 2 (.c 0) 1 (.v 3) (some (.v 3))), .c (.int .i64 s.2)] 62, .own [.a (encInt IntKind.u32) 3 s.1] 23, .many encTk s.3 70, .own [.c (.ptr 1 0), .c (.sli 5 (.c 0) 1 (.v m) none), .c (.sli 6 (.c 0) 1 (.v m) (some (.v m)))] 78, .vec (encT 37 3) (List.range m) 80, .own [.a encBool m s.4] 4, .vec (encP 3) (List.range m) 37, .ro (encInt IntKind.i64) p.3, .own [.c (.sli 10 (.c 0) 1 (.v 3) (some (.v 3))), .c (.int .i64 t.2)] 62, .own [.a (encInt IntKind.u32) 3 t.1] 23, .many encTk t.3 70, .own [.c (.ptr 9 0), .c (.sli 13 (.c 0) 1 (.v m) none), .c (.sli 14 (.c 0) 1 (.v m) (some (.v m)))] 78, .vec (encT 37 (9 + 2)) (List.range m) 80, .own [.a encBool m t.4] 4, .vec (encP (9 + 2)) (List.range m) 37, .own [.c (.int .u32 q.1), .c (.int .u32 q.2)] 24]))

 (.need (inR .i64 ((↑j : Int) + (1 : Int)))

 (.ret (.normal, [.sli 8 (.c 0) 1 (.v p.3.length) (some (.v p.4)), .ptr 16 0, .ptr 1 0, .ptr 4 0, .sli 7 (.c 0) 1 (.v m) none, .ptr 9 0, .ptr 12 0, .sli 15 (.c 0) 1 (.v m) none, .int .i64 (↑i : Int), .int .i64 ((↑j : Int) + (1 : Int))], [.ro encLook [PUnit.unit], .own [.c (.sli 2 (.c 0) 1 (.v 3) (some (.v 3))), .c (.int .i64 s.2)] 62, .own [.a (encInt IntKind.u32) 3 s.1] 23, .many encTk s.3 70, .own [.c (.ptr 1 0), .c (.sli 5 (.c 0) 1 (.v m) none), .c (.sli 6 (.c 0) 1 (.v m) (some (.v m)))] 78, .vec (encT 37 3) (List.range m) 80, .own [.a encBool m s.4] 4, .vec (encP 3) (List.range m) 37, .ro (encInt IntKind.i64) p.3, .own [.c (.sli 10 (.c 0) 1 (.v 3) (some (.v 3))), .c (.int .i64 t.2)] 62, .own [.a (encInt IntKind.u32) 3 t.1] 23, .many encTk t.3 70, .own [.c (.ptr 9 0), .c (.sli 13 (.c 0) 1 (.v m) none), .c (.sli 14 (.c 0) 1 (.v m) (some (.v m)))] 78, .vec (encT 37 (9 + 2)) (List.range m) 80, .own [.a encBool m t.4] 4, .vec (encP (9 + 2)) (List.range m) 37, .own [.c (.int .u32 q.1), .c (.int .u32 q.2)] 24])))))))))))))))))))))))))))))
 (.eq (T.need (decide ((↑j : Int).toNat < (List.range m).length)) (T.ret (((encP (3 : Nat)).enc ((List.range m).getD (↑j : Int).toNat (encP (3 : Nat)).dflt)).getD (0 : Nat) SVal.bad)) = T.need (decide ((↑j : Int).toNat < (List.range m).length)) (T.ret (((encP (3 : Nat)).enc ((List.range m).getD (↑j : Int).toNat (encP (3 : Nat)).dflt)).getD (0 : Nat) SVal.bad)))
 (.eq (T.need (decide ((↑j : Int).toNat < (List.range m).length)) (T.ret (((encP (11 : Nat)).enc ((List.range m).getD (↑j : Int).toNat (encP ((9 : Nat) + (2 : Nat))).dflt)).getD (0 : Nat) SVal.bad)) = T.need (decide ((↑j : Int).toNat < (List.range m).length)) (T.ret (((encP (11 : Nat)).enc ((List.range m).getD (↑j : Int).toNat (encP ((9 : Nat) + (2 : Nat))).dflt)).getD (0 : Nat) SVal.bad)))
 (.eq (T.need (decide ((↑j : Int).toNat < (List.range m).length)) (T.ret (((encP (11 : Nat)).enc ((List.range m).getD (↑j : Int).toNat (encP ((9 : Nat) + (2 : Nat))).dflt)).getD (0 : Nat) SVal.bad)) = T.need (decide ((↑j : Int).toNat < (List.range m).length)) (T.ret (((encP (11 : Nat)).enc ((List.range m).getD (↑j : Int).toNat (encP ((9 : Nat) + (2 : Nat))).dflt)).getD (0 : Nat) SVal.bad)))
 (.eq (T.need (decide ((↑j : Int).toNat < (List.range m).length)) (T.ret (((encP (3 : Nat)).enc ((List.range m).getD (↑j : Int).toNat (encP (3 : Nat)).dflt)).getD (0 : Nat) SVal.bad)) = T.need (decide ((↑j : Int).toNat < (List.range m).length)) (T.ret (((encP (3 : Nat)).enc ((List.range m).getD (↑j : Int).toNat (encP (3 : Nat)).dflt)).getD (0 : Nat) SVal.bad)))
 (.eq (T.need (decide ((↑j : Int).toNat < (List.range m).length)) (T.ret (((encP (11 : Nat)).enc ((List.range m).getD (↑j : Int).toNat (encP ((9 : Nat) + (2 : Nat))).dflt)).getD (0 : Nat) SVal.bad)) = T.need (decide ((↑j : Int).toNat < (List.range m).length)) (T.ret (((encP (11 : Nat)).enc ((List.range m).getD (↑j : Int).toNat (encP ((9 : Nat) + (2 : Nat))).dflt)).getD (0 : Nat) SVal.bad)))
 (.eq (T.need (decide ((↑j : Int).toNat < (List.range m).length)) (T.ret (((encP (11 : Nat)).enc ((List.range m).getD (↑j : Int).toNat (encP ((9 : Nat) + (2 : Nat))).dflt)).getD (0 : Nat) SVal.bad)) = T.need (decide ((↑j : Int).toNat < (List.range m).length)) (T.ret (((encP (11 : Nat)).enc ((List.range m).getD (↑j : Int).toNat (encP ((9 : Nat) + (2 : Nat))).dflt)).getD (0 : Nat) SVal.bad)))
 (.eq (T.need (decide ((↑j : Int).toNat < (List.range m).length)) (T.ret (((encP (3 : Nat)).enc ((List.range m).getD (↑j : Int).toNat (encP (3 : Nat)).dflt)).getD (0 : Nat) SVal.bad)) = T.need (decide ((↑j : Int).toNat < (List.range m).length)) (T.ret (((encP (3 : Nat)).enc ((List.range m).getD (↑j : Int).toNat (encP (3 : Nat)).dflt)).getD (0 : Nat) SVal.bad)))
 (.eq (T.need (decide ((↑j : Int).toNat < (List.range m).length)) (T.ret (((encP (11 : Nat)).enc ((List.range m).getD (↑j : Int).toNat (encP ((9 : Nat) + (2 : Nat))).dflt)).getD (0 : Nat) SVal.bad)) = T.need (decide ((↑j : Int).toNat < (List.range m).length)) (T.ret (((encP (11 : Nat)).enc ((List.range m).getD (↑j : Int).toNat (encP ((9 : Nat) + (2 : Nat))).dflt)).getD (0 : Nat) SVal.bad)))
 (.eq (T.need (decide ((↑j : Int).toNat < (List.range m).length)) (T.ret (((encP (11 : Nat)).enc ((List.range m).getD (↑j : Int).toNat (encP ((9 : Nat) + (2 : Nat))).dflt)).getD (0 : Nat) SVal.bad)) = T.need (decide ((↑j : Int).toNat < (List.range m).length)) (T.ret (((encP (11 : Nat)).enc ((List.range m).getD (↑j : Int).toNat (encP ((9 : Nat) + (2 : Nat))).dflt)).getD (0 : Nat) SVal.bad)))
 (.eq (T.need (decide ((↑j : Int).toNat < (List.range m).length)) (T.ret (((encP (3 : Nat)).enc ((List.range m).getD (↑j : Int).toNat (encP (3 : Nat)).dflt)).getD (0 : Nat) SVal.bad)) = T.need (decide ((↑j : Int).toNat < (List.range m).length)) (T.ret (((encP (3 : Nat)).enc ((List.range m).getD (↑j : Int).toNat (encP (3 : Nat)).dflt)).getD (0 : Nat) SVal.bad)))

 (.need (inR .i64 ((↑j : Int) + (1 : Int)))

 (.ret (.normal, [.sli 8 (.c 0) 1 (.v p.3.length) (some (.v p.4)), .ptr 16 0, .ptr 1 0, .ptr 4 0, .sli 7 (.c 0) 1 (.v m) none, .ptr 9 0, .ptr 12 0, .sli 15 (.c 0) 1 (.v m) none, .int .i64 (↑i : Int), .int .i64 ((↑j : Int) + (1 : Int))], [.ro encLook [PUnit.unit], .own [.c (.sli 2 (.c 0) 1 (.v 3) (some (.v 3))), .c (.int .i64 s.2)] 62, .own [.a (encInt IntKind.u32) 3 s.1] 23, .many encTk s.3 70, .own [.c (.ptr 1 0), .c (.sli 5 (.c 0) 1 (.v m) none), .c (.sli 6 (.c 0) 1 (.v m) (some (.v m)))] 78, .vec (encT 37 3) (List.range m) 80, .own [.a encBool m s.4] 4, .vec (encP 3) (List.range m) 37, .ro (encInt IntKind.i64) p.3, .own [.c (.sli 10 (.c 0) 1 (.v 3) (some (.v 3))), .c (.int .i64 t.2)] 62, .own [.a (encInt IntKind.u32) 3 t.1] 23, .many encTk t.3 70, .own [.c (.ptr 9 0), .c (.sli 13 (.c 0) 1 (.v m) none), .c (.sli 14 (.c 0) 1 (.v m) (some (.v m)))] 78, .vec (encT 37 (9 + 2)) (List.range m) 80, .own [.a encBool m t.4] 4, .vec (encP (9 + 2)) (List.range m) 37, .own [.c (.int .u32 q.1), .c (.int .u32 q.2)] 24]))))))))))))))))))))))))))))))))))))))

 (.ret (.exit 2, [.sli 8 (.c 0) 1 (.v p.3.length) (some (.v p.4)), .ptr 16 0, .ptr 1 0, .ptr 4 0, .sli 7 (.c 0) 1 (.v m) none, .ptr 9 0, .ptr 12 0, .sli 15 (.c 0) 1 (.v m) none, .int .i64 (↑i : Int), .int .i64 (↑j : Int)], [.ro encLook [PUnit.unit], .own [.c (.sli 2 (.c 0) 1 (.v 3) (some (.v 3))), .c (.int .i64 s.2)] 62, .own [.a (encInt IntKind.u32) 3 s.1] 23, .many encTk s.3 70, .own [.c (.ptr 1 0), .c (.sli 5 (.c 0) 1 (.v m) none), .c (.sli 6 (.c 0) 1 (.v m) (some (.v m)))] 78, .vec (encT 37 3) (List.range m) 80, .own [.a encBool m s.4] 4, .vec (encP 3) (List.range m) 37, .ro (encInt IntKind.i64) p.3, .own [.c (.sli 10 (.c 0) 1 (.v 3) (some (.v 3))), .c (.int .i64 t.2)] 62, .own [.a (encInt IntKind.u32) 3 t.1] 23, .many encTk t.3 70, .own [.c (.ptr 9 0), .c (.sli 13 (.c 0) 1 (.v m) none), .c (.sli 14 (.c 0) 1 (.v m) (some (.v m)))] 78, .vec (encT 37 (9 + 2)) (List.range m) 80, .own [.a encBool m t.4] 4, .vec (encP (9 + 2)) (List.range m) 37, .own [.c (.int .u32 q.1), .c (.int .u32 q.2)] 24]))) := by kernel_rfl
set_option maxRecDepth 100000 in
theorem t6_inc {p : In9} {q : Int × Int} {m : Nat} {s t : Mc} {i : Nat} : (exec cfgM 100 inc6 (fr 175 n6b (v6 p m ++ [.int .i64 (i : Nat)])) (s6 p q m s t)).bind (canonK 17 [(0,0)] 175 n6b) =
 

 (.need (inR .i64 ((↑i : Int) + (1 : Int)))

 (.ret (.normal, [.sli 8 (.c 0) 1 (.v p.3.length) (some (.v p.4)), .ptr 16 0, .ptr 1 0, .ptr 4 0, .sli 7 (.c 0) 1 (.v m) none, .ptr 9 0, .ptr 12 0, .sli 15 (.c 0) 1 (.v m) none, .int .i64 ((↑i : Int) + (1 : Int))], [.ro encLook [PUnit.unit], .own [.c (.sli 2 (.c 0) 1 (.v 3) (some (.v 3))), .c (.int .i64 s.2)] 62, .own [.a (encInt IntKind.u32) 3 s.1] 23, .many encTk s.3 70, .own [.c (.ptr 1 0), .c (.sli 5 (.c 0) 1 (.v m) none), .c (.sli 6 (.c 0) 1 (.v m) (some (.v m)))] 78, .vec (encT 37 3) (List.range m) 80, .own [.a encBool m s.4] 4, .vec (encP 3) (List.range m) 37, .ro (encInt IntKind.i64) p.3, .own [.c (.sli 10 (.c 0) 1 (.v 3) (some (.v 3))), .c (.int .i64 t.2)] 62, .own [.a (encInt IntKind.u32) 3 t.1] 23, .many encTk t.3 70, .own [.c (.ptr 9 0), .c (.sli 13 (.c 0) 1 (.v m) none), .c (.sli 14 (.c 0) 1 (.v m) (some (.v m)))] 78, .vec (encT 37 (9 + 2)) (List.range m) 80, .own [.a encBool m t.4] 4, .vec (encP (9 + 2)) (List.range m) 37, .own [.c (.int .u32 q.1), .c (.int .u32 q.2)] 24]))) := by kernel_rfl
set_option maxRecDepth 100000 in
theorem t6_end {p : In9} {q : Int × Int} {m : Nat} {s t : Mc} {i : Nat} : (exec cfgM 100 end6 (fr 175 n6b (v6 p m ++ [.int .i64 (i : Nat)])) (s6 p q m s t)).bind (canonK 17 [(0,0)] 175 [6]) =
 

 (.ret (.ret, [.bl true], [.ro encLook [PUnit.unit], .own [.c (.sli 2 (.c 0) 1 (.v 3) (some (.v 3))), .c (.int .i64 s.2)] 62, .own [.a (encInt IntKind.u32) 3 s.1] 23, .many encTk s.3 70, .own [.c (.ptr 1 0), .c (.sli 5 (.c 0) 1 (.v m) none), .c (.sli 6 (.c 0) 1 (.v m) (some (.v m)))] 78, .vec (encT 37 3) (List.range m) 80, .own [.a encBool m s.4] 4, .vec (encP 3) (List.range m) 37, .ro (encInt IntKind.i64) p.3, .own [.c (.sli 10 (.c 0) 1 (.v 3) (some (.v 3))), .c (.int .i64 t.2)] 62, .own [.a (encInt IntKind.u32) 3 t.1] 23, .many encTk t.3 70, .own [.c (.ptr 9 0), .c (.sli 13 (.c 0) 1 (.v m) none), .c (.sli 14 (.c 0) 1 (.v m) (some (.v m)))] 78, .vec (encT 37 (9 + 2)) (List.range m) 80, .own [.a encBool m t.4] 4, .vec (encP (9 + 2)) (List.range m) 37, .own [.c (.int .u32 q.1), .c (.int .u32 q.2)] 24])) := by kernel_rfl
end Go.Proofs.YthofahgnglfaeaaDoor

/- TicketSame, plain: two machines that differ in the ticket they begin with. -/
namespace Go.Proofs.YthofahgnglfaeaaDoor
open Go Go.Proofs.YthofahgnglfaeaaDoor.Sx
set_option linter.unusedVariables false
structure RelT (q0 q1 : Int) (x y : Tk) : Prop where
  ax : x.at' = 0 ∧ y.at' = 0
  cl : x.cell = 2 ∧ y.cell = 2
  times : x.times = y.times
  phase : x.phase = y.phase
  v : x.v = y.v
  tk : x.phase ≠ 0 → ∃ c : Int, x.ticket = (c + q0) % 4294967296 ∧ y.ticket = (c + q1) % 4294967296
def RelL (q0 q1 : Int) (l l' : List Int) : Prop := ∃ a b c : Int, l = [(a + q0) % 4294967296, (b + q0) % 4294967296, c] ∧ l' = [(a + q1) % 4294967296, (b + q1) % 4294967296, c]
theorem rel_step {q0 q1 : Int} {x y : Tk} {l l' : List Int} (h : RelT q0 q1 x y) (hl : RelL q0 q1 l l') :
    RelT q0 q1 (stepP x l).1 (stepP y l').1 ∧ RelL q0 q1 (stepP x l).2.1 (stepP y l').2.1 ∧ (stepP x l).2.2 = (stepP y l').2.2 := by
  obtain ⟨xa, xc, xt, xp, xk, xv⟩ := x
  obtain ⟨ya, yc, yt, yp, yk, yv⟩ := y
  obtain ⟨⟨h1, h2⟩, ⟨h3, h4⟩, h5, h6, h7, h8⟩ := h
  obtain ⟨a, b, c, rfl, rfl⟩ := hl
  simp only at h1 h2 h3 h4 h5 h6 h7 h8
  subst h1 h2 h3 h4 h5 h6 h7
  have hL : RelL q0 q1 [(a + q0) % 4294967296, (b + q0) % 4294967296, c] [(a + q1) % 4294967296, (b + q1) % 4294967296, c] := ⟨a, b, c, rfl, rfl⟩
  unfold stepP
  simp only
  by_cases ht : xt < 1
  · rw [if_pos ht, if_pos ht]
    exact ⟨⟨⟨rfl, rfl⟩, ⟨rfl, rfl⟩, rfl, rfl, rfl, h8⟩, hL, rfl⟩
  · rw [if_neg ht, if_neg ht]
    have i0 : ∀ x y z : Int, inP 0 [x, y, z].length = true := fun _ _ _ => rfl
    have i1 : ∀ x y z : Int, inP (0 + 1) [x, y, z].length = true := fun _ _ _ => rfl
    have i2 : ∀ x y z : Int, inP 2 [x, y, z].length = true := fun _ _ _ => rfl
    match xp, h8 with
    | 0, h8 =>
      simp only [i0]
      refine ⟨⟨⟨rfl, rfl⟩, ⟨rfl, rfl⟩, rfl, rfl, rfl, fun _ => ⟨a, rfl, rfl⟩⟩, ⟨a + 1, b, c, ?_, ?_⟩, by trivial⟩
      · simp only [show (0 : Int).toNat = 0 from rfl, List.getD_cons_zero, List.set_cons_zero, incP_ok]
        congr 1; omega
      · simp only [show (0 : Int).toNat = 0 from rfl, List.getD_cons_zero, List.set_cons_zero, incP_ok]
        congr 1; omega
    | 1, h8 =>
      obtain ⟨d, e1, e2⟩ := h8 (by omega)
      subst e1 e2
      simp only [i1]
      have e : ((b + q0) % 4294967296 == (d + q0) % 4294967296) = ((b + q1) % 4294967296 == (d + q1) % 4294967296) := by
        rw [Bool.eq_iff_iff]; simp only [beq_iff_eq]; omega
      have g0 : ∀ x y z : Int, [x, y, z].getD (0 + 1 : Int).toNat 0 = y := fun _ _ _ => rfl
      rw [g0, g0, e]
      cases ((b + q1) % 4294967296 == (d + q1) % 4294967296) with
      | true => exact ⟨⟨⟨rfl, rfl⟩, ⟨rfl, rfl⟩, rfl, rfl, rfl, fun _ => ⟨d, rfl, rfl⟩⟩, hL, rfl⟩
      | false => exact ⟨⟨⟨rfl, rfl⟩, ⟨rfl, rfl⟩, rfl, rfl, rfl, fun _ => ⟨d, rfl, rfl⟩⟩, hL, rfl⟩
    | 2, h8 =>
      obtain ⟨d, e1, e2⟩ := h8 (by omega)
      subst e1 e2
      simp only [i2]
      exact ⟨⟨⟨rfl, rfl⟩, ⟨rfl, rfl⟩, rfl, rfl, rfl, fun _ => ⟨d, rfl, rfl⟩⟩, hL, by trivial⟩
    | 3, h8 =>
      obtain ⟨d, e1, e2⟩ := h8 (by omega)
      subst e1 e2
      simp only [i2]
      exact ⟨⟨⟨rfl, rfl⟩, ⟨rfl, rfl⟩, rfl, rfl, rfl, fun _ => ⟨d, rfl, rfl⟩⟩, ⟨a, b, _, rfl, rfl⟩, by trivial⟩
    | n + 4, h8 =>
      obtain ⟨d, e1, e2⟩ := h8 (by omega)
      subst e1 e2
      simp only [i1]
      refine ⟨⟨⟨rfl, rfl⟩, ⟨rfl, rfl⟩, rfl, rfl, rfl, fun h => absurd rfl h⟩, ⟨a, d + 1, c, ?_, ?_⟩, by trivial⟩
      · have g1 : ∀ x y z v : Int, [x, y, z].set (0 + 1 : Int).toNat v = [x, v, z] := fun _ _ _ _ => rfl
        rw [g1, setP_ok, w32P, w32_mod]; congr 2; omega
      · have g1 : ∀ x y z v : Int, [x, y, z].set (0 + 1 : Int).toNat v = [x, v, z] := fun _ _ _ _ => rfl
        rw [g1, setP_ok, w32P, w32_mod]; congr 2; omega
structure Rel (q0 q1 : Int) (m : Nat) (s t : Mc) : Prop where
  tk : ∀ j, j < m → RelT q0 q1 (tkAt s j) (tkAt t j)
  ds : s.ds = t.ds
  l : RelL q0 q1 s.l t.l
theorem rel_pick {q0 q1 : Int} {m : Nat} {s t : Mc} (h : Rel q0 q1 m s t) (hs : s.xs.length = m) (ht : t.xs.length = m) (k : Int) : Rel q0 q1 m (pickP m s k) (pickP m t k) ∧ errP m s k = errP m t k := by
  unfold pickP errP
  rw [← h.ds]
  cases hk : inP k m with
  | false => exact ⟨h, rfl⟩
  | true =>
    cases hd : s.ds.getD k.toNat false with
    | true => exact ⟨h, rfl⟩
    | false =>
      have hk' := (inP_iff _ _).1 hk
      obtain ⟨r1, r2, r3⟩ := rel_step (h.tk k.toNat (by omega)) h.l
      refine ⟨⟨fun j hj => ?_, ?_, r2⟩, rfl⟩
      · by_cases hjk : j = k.toNat
        · subst hjk
          simp only [tkAt]
          rw [Sx.getD_set_self (by omega), Sx.getD_set_self (by omega)]
          exact r1
        · simp only [tkAt]
          rw [Sx.getD_set_ne (fun e => hjk e.symm), Sx.getD_set_ne (fun e => hjk e.symm)]
          exact h.tk j hj
      · simp only [doneP, r3, h.ds]
theorem rel_start {q0 q1 : Int} (h0 : 0 ≤ q0 ∧ q0 < 4294967296) (h1 : 0 ≤ q1 ∧ q1 < 4294967296) {us : List U8} {c : Int} {ds : List Bool} : Rel q0 q1 (us.map mkTk).length ⟨[q0, q0, 0], c, us.map mkTk, ds⟩ ⟨[q1, q1, 0], c, us.map mkTk, ds⟩ := by
  refine ⟨fun j hj => ?_, rfl, ⟨0, 0, 0, ?_, ?_⟩⟩
  · have hj' : j < us.length := by simpa using hj
    have e : (us.map mkTk).getD j encTk.dflt = mkTk us[j] := by simp [List.getD_eq_getElem?_getD, hj']
    show RelT q0 q1 ((us.map mkTk).getD j encTk.dflt) ((us.map mkTk).getD j encTk.dflt)
    rw [e]
    exact ⟨⟨rfl, rfl⟩, ⟨rfl, rfl⟩, rfl, rfl, rfl, fun h => by simp [mkTk] at h⟩
  · show [q0, q0, 0] = [(0 + q0) % 4294967296, (0 + q0) % 4294967296, 0]
    rw [show (0 + q0) % 4294967296 = q0 by omega]
  · show [q1, q1, 0] = [(0 + q1) % 4294967296, (0 + q1) % 4294967296, 0]
    rw [show (0 + q1) % 4294967296 = q1 by omega]
end Go.Proofs.YthofahgnglfaeaaDoor

/- TicketSame: its loops. -/
namespace Go.Proofs.YthofahgnglfaeaaDoor
open Go Go.Proofs.YthofahgnglfaeaaDoor.Sx
set_option linter.unusedVariables false
abbrev Q6 (w0 : From) : Exit → Act → World → Prop := bodyPost Tryd.prog Tryd.f6 (Said w0)
structure Ix6 where
  i : Nat
  s : Mc
  t : Mc
def Ok6 (m : Nat) (s : Mc) : Prop := ∃ sum q N S C, Inv m sum q N S C s
theorem Ok6.ok {m : Nat} {s : Mc} (h : Ok6 m s) : McOk 3 m s := by obtain ⟨_, _, _, _, _, h⟩ := h; exact h.ok
theorem Ok6.xs {m : Nat} {s : Mc} (h : Ok6 m s) : s.xs.length = m := by obtain ⟨_, _, _, _, _, h⟩ := h; exact h.xs
theorem Ok6.m6 {m : Nat} {s : Mc} (h : Ok6 m s) : m ≤ 6 := by obtain ⟨_, _, _, _, _, h⟩ := h; exact h.m6
theorem Ok6.pick {m : Nat} {s : Mc} (h : Ok6 m s) (k : Int) : Ok6 m (pickP m s k) := by obtain ⟨_, _, _, _, _, h⟩ := h; obtain ⟨_, _, _, _, h'⟩ := inv_pick h k; exact ⟨_, _, _, _, _, h'⟩
theorem Ok6.used {m : Nat} {s : Mc} (h : Ok6 m s) : Ok6 m (usedP s) := by obtain ⟨_, _, _, _, _, h⟩ := h; exact ⟨_, _, _, _, _, h.count _⟩
theorem Rel.used {q0 q1 : Int} {m : Nat} {s t : Mc} (h : Rel q0 q1 m s t) : Rel q0 q1 m (usedP s) (usedP t) := ⟨h.tk, h.ds, h.l⟩
def Inv6 (w0 : From) (p : In9) (q : Int × Int) (m : Nat) (j : Ix6) (a : Act) (w : World) : Prop :=
  j.i ≤ 200 ∧ Ok6 m j.s ∧ Ok6 m j.t ∧ Rel q.1 q.2 m j.s j.t ∧ ∃ env, At [(0, 0)] w0 env (fr 175 n6b (v6 p m ++ [.int .i64 (j.i : Nat)])) (s6 p q m j.s j.t) a w
abbrev R6 (w0 : From) (p : In9) (q : Int × Int) (m : Nat) (i : Nat) : Exit → Act → World → Prop :=
  Exit.then (fun a' w' => ∃ k, Inv6 w0 p q m k a' w' ∧ 200 - k.i < 200 - i) (Exit.inBlock 0 (Exit.then (end6.wp Tryd.prog (Q6 w0)) (Q6 w0)))
abbrev K6 (w0 : From) (p : In9) (q : Int × Int) (m : Nat) (i : Nat) : Exit → Act → World → Prop :=
  Exit.inBlock 1 (Exit.then (inc6.wp Tryd.prog (R6 w0 p q m i)) (R6 w0 p q m i))
theorem end6_ok {w0 : From} {p : In9} {q : Int × Int} {m : Nat} {s t : Mc} {i : Nat} {env : Env} {a : Act} {w : World} (h : At [(0, 0)] w0 env (fr 175 n6b (v6 p m ++ [.int .i64 (i : Nat)])) (s6 p q m s t) a w) : end6.wp Tryd.prog (Q6 w0) a w := by
  refine pieceT0 (c := cfgM) cfgM_ok [6] t6_end h (all_ret fun env' a' w' hA' => ?_)
  exact hA'.said (by kernel_rfl)
theorem inc6_ok {w0 : From} {p : In9} {q : Int × Int} {m : Nat} {i : Nat} (hi : i < 200) {s t : Mc} (hs : Ok6 m s) (ht : Ok6 m t) (hr : Rel q.1 q.2 m s t) {env : Env} {a : Act} {w : World} (h : At [(0, 0)] w0 env (fr 175 n6b (v6 p m ++ [.int .i64 (i : Nat)])) (s6 p q m s t) a w) :
    inc6.wp Tryd.prog (R6 w0 p q m i) a w := by
  refine pieceT0 (c := cfgM) cfgM_ok n6b t6_inc h ?_
  refine all_needp (by simp only [inR_i64]; exact Iff.rfl) (by omega) fun _ => all_ret fun env' a' w' hA' => ?_
  exact ⟨⟨i + 1, s, t⟩, ⟨by simp only; omega, hs, ht, hr, env', hA'⟩, by simp only; omega⟩
def Inv6k (w0 : From) (p : In9) (q : Int × Int) (m : Nat) (s t : Mc) (i : Nat) (k : Nat) (a : Act) (w : World) : Prop :=
  k ≤ m ∧ ∃ env, At [(0, 0)] w0 env (fr 175 n6f (v6 p m ++ [.int .i64 (i : Nat), .int .i64 (k : Nat)])) (s6 p q m s t) a w
set_option maxHeartbeats 4000000 in
theorem in6_ok {w0 : From} {p : In9} {q : Int × Int} {m : Nat} {i : Nat} (hi : i < 200) {s t : Mc} (hs : Ok6 m s) (ht : Ok6 m t) (hr : Rel q.1 q.2 m s t) {k : Nat} (hk : k ≤ m) {env : Env} {a : Act} {w : World}
    (hA : At [(0, 0)] w0 env (fr 175 n6f (v6 p m ++ [.int .i64 (i : Nat), .int .i64 (k : Nat)])) (s6 p q m s t) a w) :
    lb6.wp Tryd.prog (Exit.then (fun a' w' => ∃ k', Inv6k w0 p q m s t i k' a' w' ∧ m - k' < m - k) (Exit.inBlock 2 (K6 w0 p q m i))) a w := by
  have hxs := hs.xs
  have hxt := ht.xs
  have h6 := hs.m6
  refine pieceT0 (c := cfgM) cfgM_ok n6f t6_in hA ?_
  refine all_brp (by simp only [decide_eq_true_eq]; exact Iff.rfl) (fun h1 => ?_) (fun h1 => ?_)
  · have hk' : k < m := by omega
    have hrr : (List.range m).getD k 0 = k := getD_range hk'
    have hlr : (List.range m).length = m := by simp
    have nx : ∀ {env' a' w'}, At [(0, 0)] w0 env' (fr 175 n6f (v6 p m ++ [.int .i64 (i : Nat), .int .i64 ((k : Int) + 1)])) (s6 p q m s t) a' w' → ∃ k', Inv6k w0 p q m s t i k' a' w' ∧ m - k' < m - k := by
      intro env' a' w' h
      exact ⟨k + 1, ⟨by omega, env', h⟩, by omega⟩
    obtain ⟨_, _, e1, e2, e3, e4⟩ := hr.tk k hk'
    have hT := fun d => xsD hxs hk' d
    have hU := fun d => xsD hxt hk' d
    simp only [Int.toNat_natCast, hrr, hlr, hT, hU]
    generalize tkAt s k = x at *
    generalize tkAt t k = y at *
    obtain ⟨xa, xc, xt, xp, xk, xv⟩ := x
    obtain ⟨ya, yc, yt, yp, yk, yv⟩ := y
    simp only at e1 e2 e3 e4
    subst e1 e2
    dsimp only
    repeat' (first
      | refine all_needq (by simp only [decide_eq_true_eq, Bool.and_eq_true, inR_i64]; exact Iff.rfl) (by omega) ?_
      | refine all_eq (by first | exact True.intro | rfl) ?_
      | (refine all_brp (by simp only [beq_self_eq_true, Bool.not_true, bne_self_eq_false, Bool.false_eq_true]; exact Iff.rfl) (fun h => by cases h) (fun _ => ?_)))
    refine all_brp (by simp only [beq_iff_eq]; exact Iff.rfl) (fun hp => ?_) (fun hp => ?_)
    · obtain ⟨c, g1, g2⟩ := e4 (by omega)
      have hw : IntKind.u32.wrap (xk - q.1) = IntKind.u32.wrap (yk - q.2) := by
        rw [w32_mod, w32_mod, g1, g2]; omega
      rw [hw]
      repeat' (first
        | refine all_needq (by simp only [decide_eq_true_eq, Bool.and_eq_true, inR_i64]; exact Iff.rfl) (by omega) ?_
        | refine all_eq (by first | exact True.intro | rfl) ?_
        | (refine all_brp (by simp only [beq_self_eq_true, Bool.not_true, bne_self_eq_false, Bool.false_eq_true]; exact Iff.rfl) (fun h => by cases h) (fun _ => ?_)))
      exact all_ret fun _ _ _ h => nx h
    · repeat' (first
        | refine all_needq (by simp only [decide_eq_true_eq, Bool.and_eq_true, inR_i64]; exact Iff.rfl) (by omega) ?_
        | refine all_eq (by first | exact True.intro | rfl) ?_)
      exact all_ret fun _ _ _ h => nx h
  · have hkm : k = m := by omega
    subst hkm
    refine all_ret fun env' a' w' hA' => ?_
    simp only [Ex.to, Exit.then, Exit.inBlock, if_true]
    exact inc6_ok hi hs ht hr (At.few (names := n6b) (extra := [22]) (vals := v6 p k ++ [.int .i64 (i : Nat)]) (ev := [.int .i64 (k : Nat)]) hA' rfl)
end Go.Proofs.YthofahgnglfaeaaDoor

/- TicketSame: its rounds and its call. -/
namespace Go.Proofs.YthofahgnglfaeaaDoor
open Go Go.Proofs.YthofahgnglfaeaaDoor.Sx
set_option linter.unusedVariables false
theorem Rel.word {q0 q1 : Int} {m : Nat} {s t : Mc} (h : Rel q0 q1 m s t) : s.l.getD 2 0 = t.l.getD 2 0 := by
  obtain ⟨a, b, c, e1, e2⟩ := h.l
  rw [e1, e2]; rfl
set_option maxHeartbeats 2000000 in
theorem round6_ok {w0 : From} {p : In9} {q : Int × Int} {m : Nat} {j : Ix6} {a : Act} {w : World} (h : Inv6 w0 p q m j a w) : round6.wp Tryd.prog (R6 w0 p q m j.i) a w := by
  obtain ⟨i, s, t⟩ := j
  obtain ⟨hi, hs, ht, hr, env, hA⟩ := h
  simp only at hi hs ht hr hA ⊢
  have out : ∀ {env' : Env} {a' : Act} {w' : World}, At [(0, 0)] w0 env' (fr 175 n6b (v6 p m ++ [.int .i64 (i : Nat)])) (s6 p q m s t) a' w' → R6 w0 p q m i (.exit 0) a' w' := by
    intro env' a' w' h
    simp only [R6, Exit.then, Exit.inBlock, if_true]
    exact end6_ok h
  refine wpS (by kernel_rfl) ?_
  refine pieceT0 (c := cfgM) cfgM_ok n6b t6_tm hA ?_
  refine all_brp (by simp only [decide_eq_true_eq]; exact Iff.rfl) (fun h1 => ?_) (fun h1 => all_ret fun _ _ _ h => out h)
  refine all_brp (by simp only [decide_eq_true_eq]; exact Iff.rfl) (fun h2 => all_ret fun env1 a1 w1 hA1 => ?_) (fun h2 => all_ret fun _ _ _ h => out h)
  refine (show (rgt round6).wp Tryd.prog (R6 w0 p q m i) a1 w1 from wpS (by kernel_rfl) (wpB 1 (by kernel_rfl) ?_))
  refine (show bb6.wp Tryd.prog (K6 w0 p q m i) a1 w1 from ?_)
  refine pieceNT0 (c := cfg6 p q m (p.picks.getD (i : Int).toNat 0) s t) cfg6_ok 1 n6c t6_p hA1 ?_
  refine all_needq (by simp only [decide_eq_true_eq, Bool.and_eq_true]; exact Iff.rfl) (by omega) ?_
  refine all_needq (by simp only [decide_eq_true_eq]; exact Iff.rfl) (by omega) ?_
  refine all_eq ⟨rfl, rfl, hs.ok⟩ ?_
  refine all_needq (by simp only [decide_eq_true_eq, Bool.and_eq_true]; exact Iff.rfl) (by omega) ?_
  refine all_needq (by simp only [decide_eq_true_eq]; exact Iff.rfl) (by omega) ?_
  refine all_eq ⟨rfl, rfl, ht.ok⟩ (all_eq rfl (all_eq rfl (all_eq rfl (all_ret fun env2 a2 w2 hA2 => ?_))))
  obtain ⟨hr', he⟩ := rel_pick hr hs.xs ht.xs (p.picks.getD (i : Int).toNat 0)
  have hs' := hs.pick (p.picks.getD (i : Int).toNat 0)
  have ht' := ht.pick (p.picks.getD (i : Int).toNat 0)
  dsimp only at hA2
  rw [he] at hA2
  generalize errP m t (p.picks.getD (i : Int).toNat 0) = er at *
  generalize pickP m s (p.picks.getD (i : Int).toNat 0) = s' at *
  generalize pickP m t (p.picks.getD (i : Int).toNat 0) = t' at *
  simp only [Ex.to, Exit.then]
  refine pieceNT0 (c := cfg6 p q m 0 s' t') cfg6_ok 1 n6d (t6_l1 (k := 0)) hA2 ?_
  refine all_eq ⟨rfl, rfl, hs'.ok.l⟩ (all_ret fun env3 a3 w3 hA3 => ?_)
  simp only [Ex.to, Exit.then]
  refine (show (restC 2 bb6).wp Tryd.prog (K6 w0 p q m i) a3 w3 from ?_)
  refine pieceNT0 (c := cfg6 p q m 0 (usedP s') t') cfg6_ok 1 n6e (t6_l2 (k := 0) (s := usedP s')) hA3 ?_
  refine all_eq ⟨rfl, rfl, ht'.ok.l⟩ (all_ret fun env4 a4 w4 hA4 => ?_)
  simp only [Ex.to, Exit.then]
  have hw := hr'.word
  have hs2 := hs'.used
  have ht2 := ht'.used
  have hr2 := hr'.used
  refine (show (restC 3 bb6).wp Tryd.prog (K6 w0 p q m i) a4 w4 from wpS (by kernel_rfl) ?_)
  refine (show chk6.wp Tryd.prog (Exit.then (in6.wp Tryd.prog (K6 w0 p q m i)) (K6 w0 p q m i)) a4 w4 from ?_)
  refine pieceT0 (c := cfg6 p q m 0 (usedP s') (usedP t')) cfg6_ok n6b (t6_chk (k := 0) (s := usedP s') (t := usedP t')) hA4 ?_
  rw [hw]
  refine all_brp (by simp only [bne_self_eq_false, Bool.false_eq_true]; exact Iff.rfl) (fun h => by cases h) (fun _ => ?_)
  refine all_brp (by simp only [bne_self_eq_false, Bool.false_eq_true]; exact Iff.rfl) (fun h => by cases h) (fun _ => ?_)
  have hm := hs.m6
  refine all_eq ⟨rfl, rfl, hs2.ok.ds, by omega⟩ (all_eq ⟨rfl, rfl, ht2.ok.ds, by omega⟩ ?_)
  rw [show leftP (usedP s').ds = leftP (usedP t').ds from congrArg leftP hr2.ds]
  refine all_brp (by simp only [bne_self_eq_false, Bool.false_eq_true]; exact Iff.rfl) (fun h => by cases h) (fun _ => ?_)
  refine all_ret fun env5 a5 w5 hA5 => ?_
  simp only [Ex.to, Exit.then]
  refine wpS (by kernel_rfl) ?_
  have hA6 : At [(0, 0)] w0 env5 (fr 175 n6b (v6 p m ++ [.int .i64 (i : Nat)])) (s6 p q m (usedP s') (usedP t')) a5 w5 := hA5
  refine pieceT0 (c := cfgM) cfgM_ok n6f t6_j hA6 (all_ret fun env6 a6 w6 hA7 => ?_)
  simp only [Ex.to, Exit.then]
  have hA8 := hA7.gvals (v6 p m ++ [SVal.int .i64 (i : Nat), SVal.int .i64 ((0 : Nat) : Int)]) rfl
  refine wpB 2 (by kernel_rfl) (wpL (by kernel_rfl) (Inv6k w0 p q m (usedP s') (usedP t') i) (fun k => m - k) 0 ⟨Nat.zero_le _, env6, hA8⟩ ?_)
  rintro k a w ⟨h1, env, h3⟩
  exact in6_ok (by omega) hs2 ht2 hr2 h1 h3
theorem b6_eq : Tryd.f6.body = some b6 := by kernel_rfl
abbrev ids6 : List Nat := [0, 4, 5, 6, 7, 8, 9, 10, 2, 11, 12, 13, 14, 15, 16, 17, 3]
set_option maxRecDepth 100000 in
theorem to_six {w0 : From} {p : In9} {q : Int × Int} (h0 : 0 ≤ q.1 ∧ q.1 < 4294967296) (h1 : 0 ≤ q.2 ∧ q.2 < 4294967296) {env : Env} {a : Act} {w : World}
    (h : At [(0, 0)] w0 env (fr 175 n6a [picksV p 2, .ptr 3 0, .ptr 4 0, .ptr 7 0, .sli 10 (.c 0) 1 (.v (madeP p).length) none, .ptr 11 0, .ptr 14 0, .sli 17 (.c 0) 1 (.v (madeP p).length) none]) (s6b p q ++ mkS 11 q.2 (madeP p) (madeP p).length) a w) :
    ∃ env', At [(0, 0)] w0 env' (fr 175 n6a (v6 p (madeP p).length)) (s6 p q (madeP p).length ⟨[q.1, q.1, 0], 2, madeP p, List.replicate (madeP p).length false⟩ ⟨[q.2, q.2, 0], 2, madeP p, List.replicate (madeP p).length false⟩) a w := by
  have h1' := h.perm ids6 (by kernel_rfl) (by rfl) (st' := lookB :: mkR 1 ids6 6 6 q.1 (madeP p) (madeP p).length ++ [.ro (encInt .i64) p.picks] ++ mkR 9 ids6 13 13 q.2 (madeP p) (madeP p).length ++ [qB q]) (vals' := v6 p (madeP p).length) (by kernel_rfl) (by rfl)
  have h2 : At [(0, 0)] w0 _ _ (lookB :: mkS 1 q.1 (madeP p) (madeP p).length ++ [.ro (encInt .i64) p.picks] ++ mkS 9 q.2 (madeP p) (madeP p).length ++ [qB q]) a w :=
    At.eqv h1' ⟨.inl rfl, .inl rfl, .inl rfl, .inl rfl, .inl rfl, rowsT rfl, .inl rfl, rowsP rfl, .inl rfl, .inl rfl, .inl rfl, .inl rfl, .inl rfl, rowsT rfl, .inl rfl, rowsP rfl, .inl rfl, trivial⟩
  have e0 : setP 0 q.1 = q.1 := by rw [setP_ok]; omega
  have e1 : setP 0 q.2 = q.2 := by rw [setP_ok]; omega
  have h3 := h2.segs 2 (l' := [.a (encInt .u32) 3 [q.1, q.1, 0]]) rfl (by intro s hs; rw [List.mem_singleton.1 hs]; rfl) (fun cs h => by simpa [segCells, Seg.cells, encInt, DenL, Den, e0] using h)
  have h4 := h3.segs 10 (l' := [.a (encInt .u32) 3 [q.2, q.2, 0]]) rfl (by intro s hs; rw [List.mem_singleton.1 hs]; rfl) (fun cs h => by simpa [segCells, Seg.cells, encInt, DenL, Den, e1] using h)
  exact ⟨_, h4.gen rfl⟩
theorem ticketSame_call {p : In9} {q : Int × Int} (h0 : 0 ≤ q.1 ∧ q.1 < 4294967296) (h1 : 0 ≤ q.2 ∧ q.2 < 4294967296) {e0 e1 e2 : Slot} (he : e0.blk = 0 ∧ e0.off = 0) {w : World} {v u v' : Value} (hr : Rep [e0, e1, e2] (s0 p) w) (hv : Den [e0, e1, e2] (timesV p 1) v)
    (hu : Den [e0, e1, e2] (.agg [.int .u32 q.1, .int .u32 q.2]) u) (hv' : Den [e0, e1, e2] (picksV p 2) v') :
    Calls Tryd.prog 6 ⟨[v, u, v']⟩ w (Said ⟨w, fun _ => False⟩) := by
  refine call_begin (c := cfg6a p q) Tryd.func6 b6_eq (args := [timesV p 1, .agg [.int .u32 q.1, .int .u32 q.2], picksV p 2]) (by
    intro q hq
    rw [List.mem_singleton.1 hq]
    exact ⟨e0, rfl, he⟩) hr ⟨_, _, rfl, hv, _, _, rfl, hu, _, _, rfl, hv', rfl⟩ (F := fun _ => False) (fun x h => noFoot3 x h) ?_
  intro a hA
  refine pieceNT0 (c := cfg6a p q) cfg6a_ok 2 n6_1 t6_a hA ?_
  refine all_eq ⟨rfl, rfl, trivial⟩ (all_ret fun env1 a1 w1 hA1 => ?_)
  simp only [Ex.to, Exit.then]
  refine (show (restC 2 b6).wp Tryd.prog (Q6 ⟨w, fun _ => False⟩) a1 w1 from ?_)
  refine pieceNT0 (c := cfg6b p q) cfg6b_ok 1 n6a t6_b hA1 ?_
  refine all_eq ⟨rfl, rfl, trivial⟩ (all_ret fun env2 a2 w2 hA2 => ?_)
  simp only [Ex.to, Exit.then]
  refine (show (restC 3 b6).wp Tryd.prog (Q6 ⟨w, fun _ => False⟩) a2 w2 from ?_)
  refine pieceNT0 (c := cfg6c) cfg6c_ok 1 n6a t6_c hA2 ?_
  refine all_eq rfl (all_ret fun env3 a3 w3 hA3 => ?_)
  simp only [Ex.to, Exit.then]
  obtain ⟨env4, hA4⟩ := to_six h0 h1 hA3
  have hx := made_some p
  obtain ⟨us, h6, hus⟩ := made_some p
  have hs : Ok6 (madeP p).length ⟨[q.1, q.1, 0], 2, madeP p, List.replicate (madeP p).length false⟩ := ⟨_, _, _, _, _, inv_start h0 hx⟩
  have ht : Ok6 (madeP p).length ⟨[q.2, q.2, 0], 2, madeP p, List.replicate (madeP p).length false⟩ := ⟨_, _, _, _, _, inv_start h1 hx⟩
  have hrel : Rel q.1 q.2 (madeP p).length ⟨[q.1, q.1, 0], 2, madeP p, List.replicate (madeP p).length false⟩ ⟨[q.2, q.2, 0], 2, madeP p, List.replicate (madeP p).length false⟩ := by
    rw [hus]; exact rel_start h0 h1
  generalize (⟨[q.1, q.1, 0], 2, madeP p, List.replicate (madeP p).length false⟩ : Mc) = s at *
  generalize (⟨[q.2, q.2, 0], 2, madeP p, List.replicate (madeP p).length false⟩ : Mc) = t at *
  generalize (madeP p).length = m at *
  refine (show c6.wp Tryd.prog (Q6 ⟨w, fun _ => False⟩) a3 w3 from wpS (by kernel_rfl) (wpS (by kernel_rfl) ?_))
  refine pieceT0 (c := cfgM) cfgM_ok n6b t6_reg hA4 (all_ret fun env5 a5 w5 hA5 => ?_)
  simp only [Ex.to, Exit.then]
  have hA6 := hA5.gvals (v6 p m ++ [SVal.int .i64 ((0 : Nat) : Int)]) rfl
  refine wpB 0 (by kernel_rfl) (wpL (by kernel_rfl) (Inv6 ⟨w, fun _ => False⟩ p q m) (fun j => 200 - j.i) ⟨0, s, t⟩ ⟨by simp, hs, ht, hrel, env5, hA6⟩ ?_)
  intro j a w h
  exact round6_ok h
end Go.Proofs.YthofahgnglfaeaaDoor

/- TicketSame: its row and its card. -/
namespace Go.Proofs.YthofahgnglfaeaaDoor
open Go Go.Proofs.YthofahgnglfaeaaDoor.Sx Go.ChangeShapes Go.WideShapes Go.ChangeAt Go.RowKit
set_option linter.unusedVariables false
theorem open_two {H : Type} {enc : TypeId × Value → H} {W W0 : World} {r : Reach} {b0 base : Nat} {spare : Nat → Bool} {held : Bool} {v : Value} {d : DataW H} {ps : List MemPlace} (hval : Value.okWide Tryd.prog W0 r b0 24 v) (hd : DataW.Trod enc Tryd.prog W base spare held 24 v d ps) :
    ∃ a b, v = .agg #[.int .u32 a, .int .u32 b] ∧ (0 ≤ a ∧ a < 4294967296) ∧ (0 ≤ b ∧ b < 4294967296) := by
  have hv : ∃ cs, v = .agg cs := by
    simp only [Value.okWide, Tryd.underlying24] at hval
    obtain ⟨cs, e, _⟩ := hval
    exact ⟨cs, e⟩
  obtain ⟨cs, rfl⟩ := hv
  obtain ⟨fuel, hf⟩ := hd
  obtain ⟨xs, m, _, _, hlen, hxl, hel⟩ := DataW.trod_array Tryd.underlying24 hf
  have k24 : Tryd.prog.cellsOf 24 = 2 := by kernel_rfl
  have k23 : Tryd.prog.cellsOf 23 = 1 := by kernel_rfl
  rw [k24] at hlen
  rw [k23] at hel
  obtain ⟨l⟩ := cs
  simp only [Value.cells] at hlen hel
  match l, hlen with
  | [c0, c1], _ =>
    match xs, hxl with
    | [y0, y1], _ =>
      have f0 : DataW.trod _ Tryd.prog W base spare held m 23 [c0] = some y0 := hel 0 (by omega)
      have f1 : DataW.trod _ Tryd.prog W base spare held m 23 [c1] = some y1 := hel 1 (by omega)
      obtain ⟨a0, h0, e0, w0⟩ := DataW.trod_int Tryd.underlying23 f0
      obtain ⟨a1, h1, e1, w1⟩ := DataW.trod_int Tryd.underlying23 f1
      simp at h0 h1
      subst h0 h1
      exact ⟨a0, a1, rfl, wf_u32 w0, wf_u32 w1⟩
set_option maxRecDepth 100000 in
theorem ticketSame_lifted (os : Os) (started : os.Started) (H : Type) (enc : TypeId × Value → H) :
    ReturnsInHanded {} Tryd.checked os 6 .any (fun w args => (Rows.ticketSameSpec.pre enc Tryd.prog Tryd.f6 [] false w args ∧ laidMetH Tryd.prog laid1 w) ∧ sizedMet enc Tryd.prog Tryd.f6 (OpenSpec.ofChange Rows.ticketSameSpec) false w args)
      (Rows.ticketSameSpec.post enc Tryd.prog Tryd.f6 false true false false) := by
  refine returnsInHanded_of_change_and (C := Tryd.checked) (X := fun w _ => laidMetH Tryd.prog laid1 w) (fun _ _ _ hh h => h.of_heap hh) Tryd.own started (by kernel_rfl) Tryd.func6
    (ChangeSpec.witness_shaped (enc := enc) (C := Tryd.checked) (os := os) (X := fun w _ => laidMetH Tryd.prog laid1 w) false (World.doorLaid Tryd.prog 400 os) #[.slice none 0 0, .agg #[.int .u32 0, .int .u32 0], .slice none 0 0] 8 rfl (World.shaped_of_RefB (by kernel_rfl) (by kernel_rfl)) (by kernel_rfl) (by kernel_rfl) (by kernel_rfl) (door_met os _)) ?_
  intro W base args ds gs before hval0 hW _ _ hL _
  have hval : ∀ (j : Nat) t v, Tryd.f6.params[j]? = some t → args[j]? = some v → Value.okWide Tryd.prog W .any base t v := hval0
  have hW' := hW
  obtain ⟨p, q, hA0, hV, rfl, hfz, hnd⟩ := hW
  have hA : DataW.TrodAll enc Tryd.prog W 0 (fun _ => true) true Tryd.f6.params.toList args.toList ds p := hA0
  rw [Tryd.params6] at hA hval
  obtain ⟨v0, v1, v2, d0, d1, d2, p0, p1, p2, rfl, rfl, rfl, h0, h1, h2⟩ := trodAll_three hA
  obtain ⟨rfl, rfl⟩ := trodVars_none hV
  obtain ⟨f, g, rfl, wf, wg⟩ := open_two (hval 1 24 v1 rfl rfl) h1
  clear hA0 hval0
  have hlt0 : ∀ x ∈ p0, x.block < W.heap.size := fun x hx => by simpa using hW'.lt x (by simp [hx])
  have hlt1 : ∀ x ∈ p1, x.block < W.heap.size := fun x hx => by simpa using hW'.lt x (by simp [hx])
  have hlt2 : ∀ x ∈ p2, x.block < W.heap.size := fun x hx => by simpa using hW'.lt x (by simp [hx])
  obtain ⟨e0, he, hr0⟩ := of_laid hL
  have fin : ∀ e W', Said ⟨W, fun _ => False⟩ e W' → ∃ v, e = .returned v ∧ Rows.ticketSameSpec.post enc Tryd.prog Tryd.f6 false true false false W #[v0, .agg #[.int .u32 f, .int .u32 g], v2] v W' := by
    rintro e W' ⟨rfl, hsz, hk, hc⟩
    have hk' : ∀ x, x < W.heap.size → W'.heap[x]? = W.heap[x]? := fun x hx => hk x hx (fun h => h)
    refine ⟨_, rfl, _, _, _, [], _, [], hW', ⟨[], [], shut_bool Tryd.underlying4 true, rfl, rfl⟩, trodAll_mk3 (trod_same Tryd.laidOut (by kernel_rfl) (of_decide_eq_true (by kernel_rfl)) h0 hk' hlt0) (trod_same Tryd.laidOut (by kernel_rfl) (of_decide_eq_true (by kernel_rfl)) h1 hk' hlt1) (trod_same Tryd.laidOut (by kernel_rfl) (of_decide_eq_true (by kernel_rfl)) h2 hk' hlt2), rfl, keptBut_of _ hc hk', fun h => by cases h⟩
  obtain ⟨xs, cap, e1, hr1, hd1⟩ := open_sli encU8 Tryd.underlying50 (by kernel_rfl) open_u8 rfl (hval 0 50 v0 rfl rfl) h0
  obtain ⟨ys, cap', e2, hr2, hd2⟩ := open_sli (encInt .i64) Tryd.underlying25 (by kernel_rfl) open_i64 rfl (hval 2 25 v2 rfl rfl) h2
  obtain ⟨hr3, hn3⟩ := ro_add hr0 (by intro b hb e; rw [List.mem_singleton.1 hb]; rfl) rfl hr1
  obtain ⟨hr, _⟩ := ro_add hr3 hn3 rfl hr2
  have hv : Den ([e0, e1] ++ [e2]) (timesV ⟨xs, cap, ys, cap'⟩ 1) v0 := den_wide (den_add (env := [e0]) (n := 1) hd1 rfl)
  have hv' : Den ([e0, e1] ++ [e2]) (picksV ⟨xs, cap, ys, cap'⟩ 2) v2 := den_add (env := [e0, e1]) (n := 2) hd2 rfl
  exact (ticketSame_call (p := ⟨xs, cap, ys, cap'⟩) (q := (f, g)) wf wg he hr hv ⟨[.int .u32 f, .int .u32 g], rfl, by simp [DenL, Den]⟩ hv').mono fun e W' h => fin e W' h
theorem ticketSame_row : Rows.TicketSameSaid :=
  OpenClaim.holds_of_wide 6 Tryd.f6 rfl rfl rfl rfl rfl rfl rfl ⟨rfl, rfl, rfl, rfl, rfl⟩ rfl rfl rfl rfl rfl (by kernel_rfl) Tryd.func6 (by kernel_rfl)
    (of_decide_eq_true (by kernel_rfl)) (by unfold Func.isWrapper; first | (rw [if_pos (by decide +kernel)]; kernel_rfl) | (rw [if_neg (by decide +kernel)]; exact ⟨rfl, rfl⟩))
    (fun os started H enc _ => ticketSame_lifted os started H enc)
theorem ticketSame_holds : Rows.TicketSameCardSaid :=
  Claim7.holds_tied_plain_at .later [] [.data] true _ _ ticketSame_row (fun _ h => by cases h) (by kernel_rfl) (fun _ h => by cases h) ticketSame_row_tie rfl ⟨rfl, rfl⟩ (by kernel_rfl) rfl
    (fun f fn hf hfn => by
      obtain rfl : f = 6 := Option.some.inj ((show Tryd.prog.funcNamed "purlin/purlinlaw09.TicketSame" = some 6 by kernel_rfl).symm.trans hf) |>.symm
      obtain rfl : fn = Tryd.f6 := (Option.some.inj (Tryd.func6.symm.trans hfn)).symm
      exact ⟨by kernel_rfl, fun j t ht => by
        rw [Tryd.params6] at ht
        have hm : t ∈ [50, 24, 25] := by simpa using Array.mem_of_getElem? ht
        have hall : ([50, 24, 25].all fun u => !Tryd.prog.wantsStandIn u) = true := by kernel_rfl
        exact (show Tryd.prog.wantsStandIn t = false by simpa using List.all_eq_true.1 hall t hm)⟩)
    (by kernel_rfl)
end Go.Proofs.YthofahgnglfaeaaDoor

