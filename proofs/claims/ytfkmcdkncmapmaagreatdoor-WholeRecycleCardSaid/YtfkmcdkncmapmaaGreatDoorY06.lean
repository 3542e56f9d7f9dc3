/- The program's structs as Lean's, and their cells. -/
import Derived.Test.YtfkmcdkncmapmaaGreatDoorY02
import Derived.Test.YtfkmcdkncmapmaaGreatDoorY00
set_option linter.unusedVariables false
namespace Go.Proofs.YtfkmcdkncmapmaaGreatDoor.D
open Go
structure Conf where
 data : Int
 pool : Int
 asids : Int
 sets : Int
def Conf.enc (x : Conf) : Value := .agg #[.int .i64 (x.data), .int .i64 (x.pool), .int .i64 (x.asids), .int .i64 (x.sets)]
def Conf.cs (x : Conf) : Array Value := #[.int .i64 (x.data), .int .i64 (x.pool), .int .i64 (x.asids), .int .i64 (x.sets)]
def Conf.cells (x : Conf) : List Value := [.int .i64 (x.data), .int .i64 (x.pool), .int .i64 (x.asids), .int .i64 (x.sets)]
structure Mem where
 size : Nat
 f : Nat → Nat
def Mem.enc (x : Mem) (s1 : SX.Sl) : Value := .agg #[.int .u64 (((x.size : Nat) : Int)), .slice s1.a s1.n s1.c]
def Mem.cs (x : Mem) (s1 : SX.Sl) : Array Value := #[.int .u64 (((x.size : Nat) : Int)), .slice s1.a s1.n s1.c]
structure Perm where
 r : Bool
 w : Bool
 x : Bool
 u : Bool
def Perm.enc (x : Perm) : Value := .agg #[.bool x.r, .bool x.w, .bool x.x, .bool x.u]
def Perm.cs (x : Perm) : Array Value := #[.bool x.r, .bool x.w, .bool x.x, .bool x.u]
def Perm.cells (x : Perm) : List Value := [.bool x.r, .bool x.w, .bool x.x, .bool x.u]
structure Entry where
 valid : Bool
 asid : Nat
 global : Bool
 level : Int
 vpn : Nat
 ppn : Nat
 perm : Perm
 dirty : Bool
def Entry.enc (x : Entry) : Value := .agg #[.bool x.valid, .int .u64 (((x.asid : Nat) : Int)), .bool x.global, .int .i64 (x.level), .int .u64 (((x.vpn : Nat) : Int)), .int .u64 (((x.ppn : Nat) : Int)), .bool x.perm.r, .bool x.perm.w, .bool x.perm.x, .bool x.perm.u, .bool x.dirty]
def Entry.cs (x : Entry) : Array Value := #[.bool x.valid, .int .u64 (((x.asid : Nat) : Int)), .bool x.global, .int .i64 (x.level), .int .u64 (((x.vpn : Nat) : Int)), .int .u64 (((x.ppn : Nat) : Int)), .bool x.perm.r, .bool x.perm.w, .bool x.perm.x, .bool x.perm.u, .bool x.dirty]
def Entry.cells (x : Entry) : List Value := [.bool x.valid, .int .u64 (((x.asid : Nat) : Int)), .bool x.global, .int .i64 (x.level), .int .u64 (((x.vpn : Nat) : Int)), .int .u64 (((x.ppn : Nat) : Int)), .bool x.perm.r, .bool x.perm.w, .bool x.perm.x, .bool x.perm.u, .bool x.dirty]
structure Set where
 w0 : Entry
 w1 : Entry
 w2 : Entry
 w3 : Entry
 tree : Nat
def Set.enc (x : Set) : Value := .agg #[.bool x.w0.valid, .int .u64 (((x.w0.asid : Nat) : Int)), .bool x.w0.global, .int .i64 (x.w0.level), .int .u64 (((x.w0.vpn : Nat) : Int)), .int .u64 (((x.w0.ppn : Nat) : Int)), .bool x.w0.perm.r, .bool x.w0.perm.w, .bool x.w0.perm.x, .bool x.w0.perm.u, .bool x.w0.dirty, .bool x.w1.valid, .int .u64 (((x.w1.asid : Nat) : Int)), .bool x.w1.global, .int .i64 (x.w1.level), .int .u64 (((x.w1.vpn : Nat) : Int)), .int .u64 (((x.w1.ppn : Nat) : Int)), .bool x.w1.perm.r, .bool x.w1.perm.w, .bool x.w1.perm.x, .bool x.w1.perm.u, .bool x.w1.dirty, .bool x.w2.valid, .int .u64 (((x.w2.asid : Nat) : Int)), .bool x.w2.global, .int .i64 (x.w2.level), .int .u64 (((x.w2.vpn : Nat) : Int)), .int .u64 (((x.w2.ppn : Nat) : Int)), .bool x.w2.perm.r, .bool x.w2.perm.w, .bool x.w2.perm.x, .bool x.w2.perm.u, .bool x.w2.dirty, .bool x.w3.valid, .int .u64 (((x.w3.asid : Nat) : Int)), .bool x.w3.global, .int .i64 (x.w3.level), .int .u64 (((x.w3.vpn : Nat) : Int)), .int .u64 (((x.w3.ppn : Nat) : Int)), .bool x.w3.perm.r, .bool x.w3.perm.w, .bool x.w3.perm.x, .bool x.w3.perm.u, .bool x.w3.dirty, .int .u8 (((x.tree : Nat) : Int))]
def Set.cs (x : Set) : Array Value := #[.bool x.w0.valid, .int .u64 (((x.w0.asid : Nat) : Int)), .bool x.w0.global, .int .i64 (x.w0.level), .int .u64 (((x.w0.vpn : Nat) : Int)), .int .u64 (((x.w0.ppn : Nat) : Int)), .bool x.w0.perm.r, .bool x.w0.perm.w, .bool x.w0.perm.x, .bool x.w0.perm.u, .bool x.w0.dirty, .bool x.w1.valid, .int .u64 (((x.w1.asid : Nat) : Int)), .bool x.w1.global, .int .i64 (x.w1.level), .int .u64 (((x.w1.vpn : Nat) : Int)), .int .u64 (((x.w1.ppn : Nat) : Int)), .bool x.w1.perm.r, .bool x.w1.perm.w, .bool x.w1.perm.x, .bool x.w1.perm.u, .bool x.w1.dirty, .bool x.w2.valid, .int .u64 (((x.w2.asid : Nat) : Int)), .bool x.w2.global, .int .i64 (x.w2.level), .int .u64 (((x.w2.vpn : Nat) : Int)), .int .u64 (((x.w2.ppn : Nat) : Int)), .bool x.w2.perm.r, .bool x.w2.perm.w, .bool x.w2.perm.x, .bool x.w2.perm.u, .bool x.w2.dirty, .bool x.w3.valid, .int .u64 (((x.w3.asid : Nat) : Int)), .bool x.w3.global, .int .i64 (x.w3.level), .int .u64 (((x.w3.vpn : Nat) : Int)), .int .u64 (((x.w3.ppn : Nat) : Int)), .bool x.w3.perm.r, .bool x.w3.perm.w, .bool x.w3.perm.x, .bool x.w3.perm.u, .bool x.w3.dirty, .int .u8 (((x.tree : Nat) : Int))]
def Set.cells (x : Set) : List Value := [.bool x.w0.valid, .int .u64 (((x.w0.asid : Nat) : Int)), .bool x.w0.global, .int .i64 (x.w0.level), .int .u64 (((x.w0.vpn : Nat) : Int)), .int .u64 (((x.w0.ppn : Nat) : Int)), .bool x.w0.perm.r, .bool x.w0.perm.w, .bool x.w0.perm.x, .bool x.w0.perm.u, .bool x.w0.dirty, .bool x.w1.valid, .int .u64 (((x.w1.asid : Nat) : Int)), .bool x.w1.global, .int .i64 (x.w1.level), .int .u64 (((x.w1.vpn : Nat) : Int)), .int .u64 (((x.w1.ppn : Nat) : Int)), .bool x.w1.perm.r, .bool x.w1.perm.w, .bool x.w1.perm.x, .bool x.w1.perm.u, .bool x.w1.dirty, .bool x.w2.valid, .int .u64 (((x.w2.asid : Nat) : Int)), .bool x.w2.global, .int .i64 (x.w2.level), .int .u64 (((x.w2.vpn : Nat) : Int)), .int .u64 (((x.w2.ppn : Nat) : Int)), .bool x.w2.perm.r, .bool x.w2.perm.w, .bool x.w2.perm.x, .bool x.w2.perm.u, .bool x.w2.dirty, .bool x.w3.valid, .int .u64 (((x.w3.asid : Nat) : Int)), .bool x.w3.global, .int .i64 (x.w3.level), .int .u64 (((x.w3.vpn : Nat) : Int)), .int .u64 (((x.w3.ppn : Nat) : Int)), .bool x.w3.perm.r, .bool x.w3.perm.w, .bool x.w3.perm.x, .bool x.w3.perm.u, .bool x.w3.dirty, .int .u8 (((x.tree : Nat) : Int))]
structure Tlb where
 sets : List Set
def Tlb.enc (x : Tlb) (s1 : SX.Sl) : Value := .agg #[.slice s1.a s1.n s1.c]
def Tlb.cs (x : Tlb) (s1 : SX.Sl) : Array Value := #[.slice s1.a s1.n s1.c]
structure Satp where
 mode : Nat
 asid : Nat
 ppn : Nat
def Satp.enc (x : Satp) : Value := .agg #[.int .u64 (((x.mode : Nat) : Int)), .int .u64 (((x.asid : Nat) : Int)), .int .u64 (((x.ppn : Nat) : Int))]
def Satp.cs (x : Satp) : Array Value := #[.int .u64 (((x.mode : Nat) : Int)), .int .u64 (((x.asid : Nat) : Int)), .int .u64 (((x.ppn : Nat) : Int))]
def Satp.cells (x : Satp) : List Value := [.int .u64 (((x.mode : Nat) : Int)), .int .u64 (((x.asid : Nat) : Int)), .int .u64 (((x.ppn : Nat) : Int))]
structure Hart where
 tlb : Tlb
 satp : Satp
 priv : Int
 sum : Bool
 mxr : Bool
 victim : Int
def Hart.enc (x : Hart) (s1 : SX.Sl) : Value := .agg #[.slice s1.a s1.n s1.c, .int .u64 (((x.satp.mode : Nat) : Int)), .int .u64 (((x.satp.asid : Nat) : Int)), .int .u64 (((x.satp.ppn : Nat) : Int)), .int .i64 (x.priv), .bool x.sum, .bool x.mxr, .int .i64 (x.victim)]
def Hart.cs (x : Hart) (s1 : SX.Sl) : Array Value := #[.slice s1.a s1.n s1.c, .int .u64 (((x.satp.mode : Nat) : Int)), .int .u64 (((x.satp.asid : Nat) : Int)), .int .u64 (((x.satp.ppn : Nat) : Int)), .int .i64 (x.priv), .bool x.sum, .bool x.mxr, .int .i64 (x.victim)]
structure Pool where
 base : Nat
 many : Int
 free : Nat
def Pool.enc (x : Pool) : Value := .agg #[.int .u64 (((x.base : Nat) : Int)), .int .i64 (x.many), .int .u64 (((x.free : Nat) : Int))]
def Pool.cs (x : Pool) : Array Value := #[.int .u64 (((x.base : Nat) : Int)), .int .i64 (x.many), .int .u64 (((x.free : Nat) : Int))]
def Pool.cells (x : Pool) : List Value := [.int .u64 (((x.base : Nat) : Int)), .int .i64 (x.many), .int .u64 (((x.free : Nat) : Int))]
structure Asids where
 many : Int
 free : Nat
 owned : Nat
def Asids.enc (x : Asids) : Value := .agg #[.int .i64 (x.many), .int .u64 (((x.free : Nat) : Int)), .int .u64 (((x.owned : Nat) : Int))]
def Asids.cs (x : Asids) : Array Value := #[.int .i64 (x.many), .int .u64 (((x.free : Nat) : Int)), .int .u64 (((x.owned : Nat) : Int))]
def Asids.cells (x : Asids) : List Value := [.int .i64 (x.many), .int .u64 (((x.free : Nat) : Int)), .int .u64 (((x.owned : Nat) : Int))]
structure Space where
 root : Nat
 asid : Nat
 live : Bool
def Space.enc (x : Space) : Value := .agg #[.int .u64 (((x.root : Nat) : Int)), .int .u64 (((x.asid : Nat) : Int)), .bool x.live]
def Space.cs (x : Space) : Array Value := #[.int .u64 (((x.root : Nat) : Int)), .int .u64 (((x.asid : Nat) : Int)), .bool x.live]
def Space.cells (x : Space) : List Value := [.int .u64 (((x.root : Nat) : Int)), .int .u64 (((x.asid : Nat) : Int)), .bool x.live]
structure Fence where
 hasAddr : Bool
 addr : Nat
 hasAsid : Bool
 asid : Nat
def Fence.enc (x : Fence) : Value := .agg #[.bool x.hasAddr, .int .u64 (((x.addr : Nat) : Int)), .bool x.hasAsid, .int .u64 (((x.asid : Nat) : Int))]
def Fence.cs (x : Fence) : Array Value := #[.bool x.hasAddr, .int .u64 (((x.addr : Nat) : Int)), .bool x.hasAsid, .int .u64 (((x.asid : Nat) : Int))]
def Fence.cells (x : Fence) : List Value := [.bool x.hasAddr, .int .u64 (((x.addr : Nat) : Int)), .bool x.hasAsid, .int .u64 (((x.asid : Nat) : Int))]
structure Kernel where
 conf : Conf
 mem : Mem
 hart : Hart
 pool : Pool
 asids : Asids
 spaces : List Space
 now : Int
 shared : Nat
 fences : List Fence
def Kernel.enc (x : Kernel) (s1 s2 s3 s4 : SX.Sl) : Value := .agg #[.int .i64 (x.conf.data), .int .i64 (x.conf.pool), .int .i64 (x.conf.asids), .int .i64 (x.conf.sets), .int .u64 (((x.mem.size : Nat) : Int)), .slice s1.a s1.n s1.c, .slice s2.a s2.n s2.c, .int .u64 (((x.hart.satp.mode : Nat) : Int)), .int .u64 (((x.hart.satp.asid : Nat) : Int)), .int .u64 (((x.hart.satp.ppn : Nat) : Int)), .int .i64 (x.hart.priv), .bool x.hart.sum, .bool x.hart.mxr, .int .i64 (x.hart.victim), .int .u64 (((x.pool.base : Nat) : Int)), .int .i64 (x.pool.many), .int .u64 (((x.pool.free : Nat) : Int)), .int .i64 (x.asids.many), .int .u64 (((x.asids.free : Nat) : Int)), .int .u64 (((x.asids.owned : Nat) : Int)), .slice s3.a s3.n s3.c, .int .i64 (x.now), .int .u64 (((x.shared : Nat) : Int)), .slice s4.a s4.n s4.c]
def Kernel.cs (x : Kernel) (s1 s2 s3 s4 : SX.Sl) : Array Value := #[.int .i64 (x.conf.data), .int .i64 (x.conf.pool), .int .i64 (x.conf.asids), .int .i64 (x.conf.sets), .int .u64 (((x.mem.size : Nat) : Int)), .slice s1.a s1.n s1.c, .slice s2.a s2.n s2.c, .int .u64 (((x.hart.satp.mode : Nat) : Int)), .int .u64 (((x.hart.satp.asid : Nat) : Int)), .int .u64 (((x.hart.satp.ppn : Nat) : Int)), .int .i64 (x.hart.priv), .bool x.hart.sum, .bool x.hart.mxr, .int .i64 (x.hart.victim), .int .u64 (((x.pool.base : Nat) : Int)), .int .i64 (x.pool.many), .int .u64 (((x.pool.free : Nat) : Int)), .int .i64 (x.asids.many), .int .u64 (((x.asids.free : Nat) : Int)), .int .u64 (((x.asids.owned : Nat) : Int)), .slice s3.a s3.n s3.c, .int .i64 (x.now), .int .u64 (((x.shared : Nat) : Int)), .slice s4.a s4.n s4.c]
structure Fault where
 is_ : Bool
 cause : Int
 addr : Nat
def Fault.enc (x : Fault) : Value := .agg #[.bool x.is_, .int .i64 (x.cause), .int .u64 (((x.addr : Nat) : Int))]
def Fault.cs (x : Fault) : Array Value := #[.bool x.is_, .int .i64 (x.cause), .int .u64 (((x.addr : Nat) : Int))]
def Fault.cells (x : Fault) : List Value := [.bool x.is_, .int .i64 (x.cause), .int .u64 (((x.addr : Nat) : Int))]
structure Result where
 val : Nat
 fault : Fault
def Result.enc (x : Result) : Value := .agg #[.int .u64 (((x.val : Nat) : Int)), .bool x.fault.is_, .int .i64 (x.fault.cause), .int .u64 (((x.fault.addr : Nat) : Int))]
def Result.cs (x : Result) : Array Value := #[.int .u64 (((x.val : Nat) : Int)), .bool x.fault.is_, .int .i64 (x.fault.cause), .int .u64 (((x.fault.addr : Nat) : Int))]
def Result.cells (x : Result) : List Value := [.int .u64 (((x.val : Nat) : Int)), .bool x.fault.is_, .int .i64 (x.fault.cause), .int .u64 (((x.fault.addr : Nat) : Int))]
structure Answer where
 err : Int
 id : Int
 result : Result
def Answer.enc (x : Answer) : Value := .agg #[.int .i64 (x.err), .int .i64 (x.id), .int .u64 (((x.result.val : Nat) : Int)), .bool x.result.fault.is_, .int .i64 (x.result.fault.cause), .int .u64 (((x.result.fault.addr : Nat) : Int))]
def Answer.cs (x : Answer) : Array Value := #[.int .i64 (x.err), .int .i64 (x.id), .int .u64 (((x.result.val : Nat) : Int)), .bool x.result.fault.is_, .int .i64 (x.result.fault.cause), .int .u64 (((x.result.fault.addr : Nat) : Int))]
def Answer.cells (x : Answer) : List Value := [.int .i64 (x.err), .int .i64 (x.id), .int .u64 (((x.result.val : Nat) : Int)), .bool x.result.fault.is_, .int .i64 (x.result.fault.cause), .int .u64 (((x.result.fault.addr : Nat) : Int))]
structure Op where
 kind : Int
 id : Int
 va : Nat
 pa : Nat
 level : Int
 perm : Perm
 acc : Int
 size : Int
 val : Nat
def Op.enc (x : Op) : Value := .agg #[.int .i64 (x.kind), .int .i64 (x.id), .int .u64 (((x.va : Nat) : Int)), .int .u64 (((x.pa : Nat) : Int)), .int .i64 (x.level), .bool x.perm.r, .bool x.perm.w, .bool x.perm.x, .bool x.perm.u, .int .i64 (x.acc), .int .i64 (x.size), .int .u64 (((x.val : Nat) : Int))]
def Op.cs (x : Op) : Array Value := #[.int .i64 (x.kind), .int .i64 (x.id), .int .u64 (((x.va : Nat) : Int)), .int .u64 (((x.pa : Nat) : Int)), .int .i64 (x.level), .bool x.perm.r, .bool x.perm.w, .bool x.perm.x, .bool x.perm.u, .int .i64 (x.acc), .int .i64 (x.size), .int .u64 (((x.val : Nat) : Int))]
def Op.cells (x : Op) : List Value := [.int .i64 (x.kind), .int .i64 (x.id), .int .u64 (((x.va : Nat) : Int)), .int .u64 (((x.pa : Nat) : Int)), .int .i64 (x.level), .bool x.perm.r, .bool x.perm.w, .bool x.perm.x, .bool x.perm.u, .int .i64 (x.acc), .int .i64 (x.size), .int .u64 (((x.val : Nat) : Int))]
structure Pte where
 v : Bool
 r : Bool
 w : Bool
 x : Bool
 u : Bool
 g : Bool
 a : Bool
 d : Bool
 rsw : Nat
 ppn : Nat
 high : Nat
def Pte.enc (x : Pte) : Value := .agg #[.bool x.v, .bool x.r, .bool x.w, .bool x.x, .bool x.u, .bool x.g, .bool x.a, .bool x.d, .int .u64 (((x.rsw : Nat) : Int)), .int .u64 (((x.ppn : Nat) : Int)), .int .u64 (((x.high : Nat) : Int))]
def Pte.cs (x : Pte) : Array Value := #[.bool x.v, .bool x.r, .bool x.w, .bool x.x, .bool x.u, .bool x.g, .bool x.a, .bool x.d, .int .u64 (((x.rsw : Nat) : Int)), .int .u64 (((x.ppn : Nat) : Int)), .int .u64 (((x.high : Nat) : Int))]
def Pte.cells (x : Pte) : List Value := [.bool x.v, .bool x.r, .bool x.w, .bool x.x, .bool x.u, .bool x.g, .bool x.a, .bool x.d, .int .u64 (((x.rsw : Nat) : Int)), .int .u64 (((x.ppn : Nat) : Int)), .int .u64 (((x.high : Nat) : Int))]
structure Spot where
 table : Nat
 level : Int
 pte : Pte
def Spot.enc (x : Spot) : Value := .agg #[.int .u64 (((x.table : Nat) : Int)), .int .i64 (x.level), .bool x.pte.v, .bool x.pte.r, .bool x.pte.w, .bool x.pte.x, .bool x.pte.u, .bool x.pte.g, .bool x.pte.a, .bool x.pte.d, .int .u64 (((x.pte.rsw : Nat) : Int)), .int .u64 (((x.pte.ppn : Nat) : Int)), .int .u64 (((x.pte.high : Nat) : Int))]
def Spot.cs (x : Spot) : Array Value := #[.int .u64 (((x.table : Nat) : Int)), .int .i64 (x.level), .bool x.pte.v, .bool x.pte.r, .bool x.pte.w, .bool x.pte.x, .bool x.pte.u, .bool x.pte.g, .bool x.pte.a, .bool x.pte.d, .int .u64 (((x.pte.rsw : Nat) : Int)), .int .u64 (((x.pte.ppn : Nat) : Int)), .int .u64 (((x.pte.high : Nat) : Int))]
def Spot.cells (x : Spot) : List Value := [.int .u64 (((x.table : Nat) : Int)), .int .i64 (x.level), .bool x.pte.v, .bool x.pte.r, .bool x.pte.w, .bool x.pte.x, .bool x.pte.u, .bool x.pte.g, .bool x.pte.a, .bool x.pte.d, .int .u64 (((x.pte.rsw : Nat) : Int)), .int .u64 (((x.pte.ppn : Nat) : Int)), .int .u64 (((x.pte.high : Nat) : Int))]
structure Way where
 kind : Int
 priv : Int
 sum : Bool
 mxr : Bool
def Way.enc (x : Way) : Value := .agg #[.int .i64 (x.kind), .int .i64 (x.priv), .bool x.sum, .bool x.mxr]
def Way.cs (x : Way) : Array Value := #[.int .i64 (x.kind), .int .i64 (x.priv), .bool x.sum, .bool x.mxr]
def Way.cells (x : Way) : List Value := [.int .i64 (x.kind), .int .i64 (x.priv), .bool x.sum, .bool x.mxr]
structure Cell where
 at_ : Nat
 val : Nat
def Cell.enc (x : Cell) : Value := .agg #[.int .u64 (((x.at_ : Nat) : Int)), .int .u64 (((x.val : Nat) : Int))]
def Cell.cs (x : Cell) : Array Value := #[.int .u64 (((x.at_ : Nat) : Int)), .int .u64 (((x.val : Nat) : Int))]
def Cell.cells (x : Cell) : List Value := [.int .u64 (((x.at_ : Nat) : Int)), .int .u64 (((x.val : Nat) : Int))]
structure Leaf where
 level : Int
 at_ : Nat
 pte : Pte
def Leaf.enc (x : Leaf) : Value := .agg #[.int .i64 (x.level), .int .u64 (((x.at_ : Nat) : Int)), .bool x.pte.v, .bool x.pte.r, .bool x.pte.w, .bool x.pte.x, .bool x.pte.u, .bool x.pte.g, .bool x.pte.a, .bool x.pte.d, .int .u64 (((x.pte.rsw : Nat) : Int)), .int .u64 (((x.pte.ppn : Nat) : Int)), .int .u64 (((x.pte.high : Nat) : Int))]
def Leaf.cs (x : Leaf) : Array Value := #[.int .i64 (x.level), .int .u64 (((x.at_ : Nat) : Int)), .bool x.pte.v, .bool x.pte.r, .bool x.pte.w, .bool x.pte.x, .bool x.pte.u, .bool x.pte.g, .bool x.pte.a, .bool x.pte.d, .int .u64 (((x.pte.rsw : Nat) : Int)), .int .u64 (((x.pte.ppn : Nat) : Int)), .int .u64 (((x.pte.high : Nat) : Int))]
def Leaf.cells (x : Leaf) : List Value := [.int .i64 (x.level), .int .u64 (((x.at_ : Nat) : Int)), .bool x.pte.v, .bool x.pte.r, .bool x.pte.w, .bool x.pte.x, .bool x.pte.u, .bool x.pte.g, .bool x.pte.a, .bool x.pte.d, .int .u64 (((x.pte.rsw : Nat) : Int)), .int .u64 (((x.pte.ppn : Nat) : Int)), .int .u64 (((x.pte.high : Nat) : Int))]
structure Page where
 va : Nat
 pa : Nat
 level : Int
 perm : Perm
 stored : Bool
def Page.enc (x : Page) : Value := .agg #[.int .u64 (((x.va : Nat) : Int)), .int .u64 (((x.pa : Nat) : Int)), .int .i64 (x.level), .bool x.perm.r, .bool x.perm.w, .bool x.perm.x, .bool x.perm.u, .bool x.stored]
def Page.cs (x : Page) : Array Value := #[.int .u64 (((x.va : Nat) : Int)), .int .u64 (((x.pa : Nat) : Int)), .int .i64 (x.level), .bool x.perm.r, .bool x.perm.w, .bool x.perm.x, .bool x.perm.u, .bool x.stored]
def Page.cells (x : Page) : List Value := [.int .u64 (((x.va : Nat) : Int)), .int .u64 (((x.pa : Nat) : Int)), .int .i64 (x.level), .bool x.perm.r, .bool x.perm.w, .bool x.perm.x, .bool x.perm.u, .bool x.stored]
structure Acc where
 hart : Hart
 mem : Mem
 kind : Int
 addr : Nat
def Acc.enc (x : Acc) (s1 s2 : SX.Sl) : Value := .agg #[.slice s1.a s1.n s1.c, .int .u64 (((x.hart.satp.mode : Nat) : Int)), .int .u64 (((x.hart.satp.asid : Nat) : Int)), .int .u64 (((x.hart.satp.ppn : Nat) : Int)), .int .i64 (x.hart.priv), .bool x.hart.sum, .bool x.hart.mxr, .int .i64 (x.hart.victim), .int .u64 (((x.mem.size : Nat) : Int)), .slice s2.a s2.n s2.c, .int .i64 (x.kind), .int .u64 (((x.addr : Nat) : Int))]
def Acc.cs (x : Acc) (s1 s2 : SX.Sl) : Array Value := #[.slice s1.a s1.n s1.c, .int .u64 (((x.hart.satp.mode : Nat) : Int)), .int .u64 (((x.hart.satp.asid : Nat) : Int)), .int .u64 (((x.hart.satp.ppn : Nat) : Int)), .int .i64 (x.hart.priv), .bool x.hart.sum, .bool x.hart.mxr, .int .i64 (x.hart.victim), .int .u64 (((x.mem.size : Nat) : Int)), .slice s2.a s2.n s2.c, .int .i64 (x.kind), .int .u64 (((x.addr : Nat) : Int))]
end Go.Proofs.YtfkmcdkncmapmaaGreatDoor.D
set_option linter.unusedVariables false
namespace Go.Proofs.YtfkmcdkncmapmaaGreatDoor
open Go Go.RowKit
namespace D
def rd : List Cell → Nat → Nat
 | [], _ => 0
 | c :: l, k => if c.at_ = k then c.val else rd l k
/-- Cells in the order of their places, none twice, none that is nought. -/
structure MemOk (l : List Cell) (f : Nat → Nat) : Prop where
 sorted : l.Pairwise fun a b => a.at_ < b.at_
 small : ∀ c ∈ l, c.at_ < 137438953472
 val : ∀ c ∈ l, c.val < 18446744073709551616
 rd : ∀ k, f k = rd l k
theorem Cell.len (c : Cell) : c.cells.length = 2 := rfl
theorem Set.len (c : Set) : c.cells.length = 45 := rfl
theorem Space.len (c : Space) : c.cells.length = 3 := rfl
theorem Fence.len (c : Fence) : c.cells.length = 4 := rfl
def memF (s : SX.Sl) (f : Nat → Nat) : SX.Fact := ⟨fun w no => ∃ l : List Cell, SX.SlAt w no s 2 (l.flatMap Cell.cells) ∧ MemOk l f, fun _ _ _ _ hk ⟨l, h, hm⟩ => ⟨l, SX.SlAt.keep h hk, hm⟩⟩
def tlbF (s : SX.Sl) (l : List Set) : SX.Fact := SX.slF s 45 (l.flatMap Set.cells)
def spsF (s : SX.Sl) (l : List Space) : SX.Fact := SX.slF s 3 (l.flatMap Space.cells)
def fnsF (s : SX.Sl) (l : List Fence) : SX.Fact := SX.slF s 4 (l.flatMap Fence.cells)
def nat1 (n : Nat) : List Value := [.int .u64 ((n : Nat) : Int)]
def int1 (n : Int) : List Value := [.int .i64 n]
def wsF (s : SX.Sl) (l : List Nat) : SX.Fact := SX.slF s 1 (l.flatMap nat1)
def isF (s : SX.Sl) (l : List Int) : SX.Fact := SX.slF s 1 (l.flatMap int1)
theorem memNil {w : World} {no : List Nat} : (memF SX.Sl.nil (fun _ => 0)).P w no := ⟨[], .inl ⟨rfl, rfl⟩, ⟨List.Pairwise.nil, (fun _ h => nomatch h), (fun _ h => nomatch h), fun _ => rfl⟩⟩
theorem tlbNil {w : World} {no : List Nat} : (tlbF SX.Sl.nil []).P w no := .inl ⟨rfl, rfl⟩
theorem spsNil {w : World} {no : List Nat} : (spsF SX.Sl.nil []).P w no := .inl ⟨rfl, rfl⟩
theorem fnsNil {w : World} {no : List Nat} : (fnsF SX.Sl.nil []).P w no := .inl ⟨rfl, rfl⟩
theorem wsNil {w : World} {no : List Nat} : (wsF SX.Sl.nil []).P w no := .inl ⟨rfl, rfl⟩
theorem isNil {w : World} {no : List Nat} : (isF SX.Sl.nil []).P w no := .inl ⟨rfl, rfl⟩
theorem sorted_length : ∀ (l : List Cell) (lo hi : Nat), l.Pairwise (fun a b => a.at_ < b.at_) → (∀ c ∈ l, lo ≤ c.at_ ∧ c.at_ < hi) → l.length ≤ hi - lo
 | [], _, _, _, _ => by simp
 | c :: l, lo, hi, hs, hb => by
  rw [List.pairwise_cons] at hs
  have h1 := hb c List.mem_cons_self
  have := sorted_length l (c.at_ + 1) hi hs.2 fun d hd => ⟨hs.1 d hd, (hb d (List.mem_cons_of_mem _ hd)).2⟩
  simp only [List.length_cons]; omega
theorem MemOk.short {l : List Cell} {f : Nat → Nat} (h : MemOk l f) : l.length ≤ 137438953472 := sorted_length l 0 _ h.sorted fun c hc => ⟨Nat.zero_le _, h.small c hc⟩
/-- How many cells lie before a place. -/
def low : List Cell → Nat → Nat
 | [], _ => 0
 | c :: l, k => if c.at_ < k then low l k + 1 else 0
def has : List Cell → Nat → Bool
 | [], _ => false
 | c :: l, k => if c.at_ = k then true else has l k
theorem low_le : ∀ (l : List Cell) (k : Nat), low l k ≤ l.length
 | [], _ => Nat.le_refl _
 | c :: l, k => by unfold low; split <;> simp; exact low_le l k
/-- The place is told by what stands before it and behind. -/
theorem low_of : ∀ (l : List Cell) (k i : Nat), i ≤ l.length → (∀ j c, j < i → l[j]? = some c → c.at_ < k) → (∀ c, l[i]? = some c → k ≤ c.at_) → low l k = i
 | [], k, i, hi, _, _ => by simp at hi; simp [low, hi]
 | c :: l, k, 0, _, _, h2 => by
  have := h2 c (by simp)
  unfold low; rw [if_neg ko]
 | c :: l, k, i + 1, hi, h1, h2 => by
  have h0 := h1 0 c ko (by simp)
  unfold low; rw [if_pos h0, low_of l k i (by simpa using hi) (fun j d hj hd => h1 (j + 1) d ko (by simpa using hd)) (fun d hd => h2 d (by simpa using hd))]
theorem sorted_lt {l : List Cell} (h : l.Pairwise fun a b => a.at_ < b.at_) {i j : Nat} {c d : Cell} (hi : l[i]? = some c) (hj : l[j]? = some d) (hij : i < j) : c.at_ < d.at_ := by
 obtain ⟨hi', rfl⟩ := List.getElem?_eq_some_iff.1 hi
 obtain ⟨hj', rfl⟩ := List.getElem?_eq_some_iff.1 hj
 exact List.pairwise_iff_getElem.1 h i j hi' hj' hij
theorem low_spec : ∀ {l : List Cell} (_ : l.Pairwise fun a b => a.at_ < b.at_) (k : Nat), (∀ j c, j < low l k → l[j]? = some c → c.at_ < k) ∧ (∀ j c, low l k ≤ j → l[j]? = some c → k ≤ c.at_)
 | [], _, k => ⟨fun j c _ h => by simp at h, fun j c _ h => by simp at h⟩
 | c :: l, hs, k => by
  have hs' := List.pairwise_cons.1 hs
  have ih := low_spec hs'.2 k
  unfold low
  by_cases hc : c.at_ < k
  · rw [if_pos hc]
    refine ⟨fun j d hj hd => ?_, fun j d hj hd => ?_⟩
    · cases j with
      | zero => simp at hd; subst hd; exact hc
      | succ j => exact ih.1 j d ko (by simpa using hd)
    · cases j with
      | zero => omega
      | succ j => exact ih.2 j d ko (by simpa using hd)
  · rw [if_neg hc]
    refine ⟨fun j d hj _ => by omega, fun j d _ hd => ?_⟩
    cases j with
    | zero => simp at hd; subst hd; omega
    | succ j =>
     have := hs'.1 d (List.mem_of_getElem? (by simpa using hd))
     omega
theorem rd_none : ∀ (l : List Cell) (k : Nat), (∀ c ∈ l, c.at_ ≠ k) → rd l k = 0
 | [], _, _ => rfl
 | c :: l, k, h => by unfold rd; rw [if_neg (h c List.mem_cons_self)]; exact rd_none l k fun d hd => h d (List.mem_cons_of_mem _ hd)
theorem rd_at : ∀ {l : List Cell} (_ : l.Pairwise fun a b => a.at_ < b.at_) {i : Nat} {c : Cell}, l[i]? = some c → rd l c.at_ = c.val
 | [], _, i, c, h => by simp at h
 | d :: l, hs, 0, c, h => by simp at h; subst h; simp [rd]
 | d :: l, hs, i + 1, c, h => by
  have hs' := List.pairwise_cons.1 hs
  have hm : l[i]? = some c := by simpa using h
  have := hs'.1 c (List.mem_of_getElem? hm)
  unfold rd; rw [if_neg ko]; exact rd_at hs'.2 hm
theorem has_low {l : List Cell} (hs : l.Pairwise fun a b => a.at_ < b.at_) (k : Nat) : has l k = (match l[low l k]? with | some c => decide (c.at_ = k) | none => false) := by
 induction l with
 | nil => rfl
 | cons c l ih =>
  have hs' := List.pairwise_cons.1 hs
  unfold has low
  by_cases h1 : c.at_ < k
  · rw [if_pos h1, if_neg ko, ih hs'.2]; simp
  · rw [if_neg h1]
    by_cases h2 : c.at_ = k
    · simp [h2]
    · simp only [h2, if_false, List.getElem?_cons_zero, decide_false]
      have : ∀ c ∈ l, c.at_ ≠ k := fun d hd => by have := hs'.1 d hd; omega
      clear ih hs hs'
      induction l with
      | nil => rfl
      | cons d l ih => unfold has; rw [if_neg (this d List.mem_cons_self)]; exact ih fun e he => this e (List.mem_cons_of_mem _ he)
theorem has_rd {l : List Cell} {f : Nat → Nat} (h : MemOk l f) (k : Nat) (hk : has l k = false) : f k = 0 := by
 rw [h.rd]; refine rd_none l k fun c hc hck => ?_
 have : ∀ l : List Cell, c ∈ l → has l k = true := by
  intro l
  induction l with
  | nil => intro h; cases h
  | cons d l ih =>
   intro hm; unfold has
   by_cases hd : d.at_ = k
   · rw [if_pos hd]
   · rw [if_neg hd]
     rcases List.mem_cons.1 hm with rfl | hm
     · exact absurd hck hd
     · exact ih hm
 rw [this l hc] at hk; cases hk
theorem low_get {l : List Cell} {f : Nat → Nat} (h : MemOk l f) (k : Nat) (hk : has l k = true) : ∃ c, l[low l k]? = some c ∧ c.at_ = k ∧ c.val = f k := by
 rw [has_low h.sorted] at hk
 cases hc : l[low l k]? with
 | none => rw [hc] at hk; cases hk
 | some c =>
  rw [hc] at hk
  have hck : c.at_ = k := by simpa using hk
  exact ⟨c, rfl, hck, by rw [h.rd, ← hck]; exact (rd_at h.sorted hc).symm⟩
theorem MemOk.lt {l : List Cell} {f : Nat → Nat} (h : MemOk l f) (k : Nat) : f k < 18446744073709551616 := by
 cases hk : has l k with
 | false => rw [has_rd h k hk]; decide
 | true => obtain ⟨c, hc, _, hv⟩ := low_get h k hk; rw [← hv]; exact h.val c (List.mem_of_getElem? hc)
end D
end Go.Proofs.YtfkmcdkncmapmaaGreatDoor
