/- A part of the proof: lemmas about the walk of the program and about plain integers and lists. No conditions beyond those that each lemma states. -/
import Derived.Test.YtjpkddhpkohiaaaSxSet
/-! The data of the program: keys, types, data, values; how they lie in cells. -/
namespace Go.Sx

structure KeyD where
  kind : Int
  text : List UInt8
  deriving DecidableEq
def encKey (k : KeyD) : List C := [.int .i64 k.kind, .str k.text]

structure FieldD where
  key : KeyD
  node : Int
  opt : Bool
  deriving DecidableEq
def encField (f : FieldD) : List C := [.int .i64 f.key.kind, .str f.key.text, .int .i64 f.node, .bool f.opt]

def encInt (n : Int) : List C := [.int .i64 n]
def encStr (l : List UInt8) : List C := [.str l]

structure NodeD where
  kind : Int
  lo : Int
  hi : Int
  text : List UInt8
  kids : List Int
  fields : List FieldD
  r0 : Int
  r1 : Int
  deriving DecidableEq
def encNode (n : NodeD) : List C := [.int .i64 n.kind, .int .i64 n.lo, .int .i64 n.hi, .str n.text, .sl 1 (n.kids.map encInt), .sl 4 (n.fields.map encField), .int .i64 n.r0, .int .i64 n.r1]

structure Dat where
  kind : Int
  num : Int
  text : List UInt8
  kids : List Dat
  keys : List KeyD
  mod : List UInt8
  version : Int
  routine : Int
  wrapped : Bool
  nodes : List NodeD
  root : Int
  inner : List UInt8
  outer : List UInt8

mutual
def encDat : Dat → List C
  | ⟨kind, num, text, kids, keys, mod, version, routine, wrapped, nodes, root, inner, outer⟩ =>
    [.int .i64 kind, .int .i64 num, .str text, .sl 13 (encDats kids), .sl 2 (keys.map encKey), .str mod, .int .i64 version, .int .i64 routine, .bool wrapped, .sl 8 (nodes.map encNode), .int .i64 root, .str inner, .str outer]
def encDats : List Dat → List (List C)
  | [] => []
  | d :: ds => encDat d :: encDats ds
end
theorem encDats_eq : ∀ l : List Dat, encDats l = l.map encDat
  | [] => by simp only [encDats, List.map_nil]
  | d :: l => by simp only [encDats, List.map_cons, encDats_eq l]
theorem encDat_eq (d : Dat) : encDat d = [.int .i64 d.kind, .int .i64 d.num, .str d.text, .sl 13 (d.kids.map encDat), .sl 2 (d.keys.map encKey), .str d.mod, .int .i64 d.version, .int .i64 d.routine, .bool d.wrapped, .sl 8 (d.nodes.map encNode), .int .i64 d.root, .str d.inner, .str d.outer] := by
  cases d
  simp only [encDat, encDats_eq]

structure Val where
  kind : Int
  num : Int
  text : List UInt8
  kids : List Val
  keys : List KeyD
  ents : List (List Val × Bool × Val)
  labels : List (List UInt8)

mutual
def encVal : Val → List C
  | ⟨kind, num, text, kids, keys, ents, labels⟩ => [.int .i64 kind, .int .i64 num, .str text, .sl 7 (encVals kids), .sl 2 (keys.map encKey), .sl 9 (encEnts ents), .sl 1 (labels.map encStr)]
def encVals : List Val → List (List C)
  | [] => []
  | d :: ds => encVal d :: encVals ds
def encEnt : List Val × Bool × Val → List C
  | (args, fails, result) => .sl 7 (encVals args) :: .bool fails :: encVal result
def encEnts : List (List Val × Bool × Val) → List (List C)
  | [] => []
  | e :: es => encEnt e :: encEnts es
end
theorem encVals_eq : ∀ l : List Val, encVals l = l.map encVal
  | [] => by simp only [encVals, List.map_nil]
  | d :: l => by simp only [encVals, List.map_cons, encVals_eq l]
theorem encEnts_eq : ∀ l : List (List Val × Bool × Val), encEnts l = l.map encEnt
  | [] => by simp only [encEnts, List.map_nil]
  | d :: l => by simp only [encEnts, List.map_cons, encEnts_eq l]
theorem encVal_eq (v : Val) : encVal v = [.int .i64 v.kind, .int .i64 v.num, .str v.text, .sl 7 (v.kids.map encVal), .sl 2 (v.keys.map encKey), .sl 9 (v.ents.map encEnt), .sl 1 (v.labels.map encStr)] := by
  cases v
  simp only [encVal, encVals_eq, encEnts_eq]
theorem encEnt_eq (e : List Val × Bool × Val) : encEnt e = [.sl 7 (e.1.map encVal), .bool e.2.1, .int .i64 e.2.2.kind, .int .i64 e.2.2.num, .str e.2.2.text, .sl 7 (e.2.2.kids.map encVal), .sl 2 (e.2.2.keys.map encKey), .sl 9 (e.2.2.ents.map encEnt), .sl 1 (e.2.2.labels.map encStr)] := by
  obtain ⟨a, f, r⟩ := e
  simp only [encEnt, encVals_eq, encVal_eq]

/-- the datum of a kind, all else zero -/
def zeroDat : Dat := ⟨0, 0, [], [], [], [], 0, 0, false, [], 0, [], []⟩
def atomDat (s : List UInt8) : Dat := { zeroDat with kind := 3, text := s }
def intDat (n : Int) : Dat := { zeroDat with kind := 1, num := n }
end Go.Sx
