/- Hosts and addresses as plain data, and the cells that hold them. -/
import Derived.Great.Ranges
import Derived.Deep.MidRow
import Derived.Test.YtjgenpooedkfmaaDoorProg
import Derived.Test.YtjgenpooedkfmaaDoorGBase
import Derived.Test.YtjgenpooedkfmaaDoorGSlic
namespace Go.Proofs.YtjgenpooedkfmaaDoor
open Go.RowKit
set_option maxRecDepth 10000

structure Hst where
  kind : Int
  name : Bytes
  four : Int
  six : List Int
structure Url where
  sch : Bytes
  usr : Bytes
  pas : Bytes
  host : Hst
  hasPort : Bool
  port : Int
  opq : Bool
  flat : Bytes
  path : List Bytes
  hasQ : Bool
  q : Bytes
  hasF : Bool
  f : Bytes

/-- a host's eleven cells -/
def hstCells (h : Hst) : List Value := .int .i64 h.kind :: S h.name :: .int .u32 h.four :: h.six.map (Value.int .u16)
/-- numbers that may stand in a host -/
structure HstOk (h : Hst) : Prop where
  k : -9223372036854775808 ≤ h.kind ∧ h.kind ≤ 9223372036854775807
  f : 0 ≤ h.four ∧ h.four < 4294967296
  l : h.six.length = 8
  s : ∀ n ∈ h.six, 0 ≤ n ∧ n < 65536
structure UrlOk (u : Url) : Prop where
  h : HstOk u.host
  p : -9223372036854775808 ≤ u.port ∧ u.port ≤ 9223372036854775807

/-- these cells are an address's -/
structure UrlAt (cs : Array Value) (pv : Value) (u : Url) : Prop where
  sz : cs.size = 23
  sch : cs[0]? = some (S u.sch)
  usr : cs[1]? = some (S u.usr)
  pas : cs[2]? = some (S u.pas)
  kind : cs[3]? = some (.int .i64 u.host.kind)
  hostC : ∀ k, k < 11 → cs[3 + k]? = (hstCells u.host)[k]?
  hasPort : cs[14]? = some (.bool u.hasPort)
  port : cs[15]? = some (.int .i64 u.port)
  opq : cs[16]? = some (.bool u.opq)
  flat : cs[17]? = some (S u.flat)
  path : cs[18]? = some pv
  hasQ : cs[19]? = some (.bool u.hasQ)
  q : cs[20]? = some (S u.q)
  hasF : cs[21]? = some (.bool u.hasF)
  f : cs[22]? = some (S u.f)
  ok : UrlOk u

theorem eight {α : Type} {l : List α} (h : l.length = 8) : ∃ a b c d e f g i, l = [a, b, c, d, e, f, g, i] := by
  match l, h with
  | [a, b, c, d, e, f, g, i], _ => exact ⟨a, b, c, d, e, f, g, i, rfl⟩
/-- an address as an argument -/
def IsUrl (B : Nat) (w : World) (cs : Array Value) (u : Url) : Prop := ∃ pv, UrlAt cs pv u ∧ Sl B w pv (u.path.map S)
theorem IsUrl.below {B : Nat} {w w' : World} {cs : Array Value} {u : Url} (h : IsUrl B w cs u) (hb : Below B w w') : IsUrl B w' cs u := by
  obtain ⟨pv, h1, h2⟩ := h
  exact ⟨pv, h1, h2.below hb⟩

theorem host_info : (Tryd.prog.info? 27).map (·.size) = some 11 := by kernel_rfl
end Go.Proofs.YtjgenpooedkfmaaDoor
