/- Hosts and addresses as plain data, and the cells that hold them. -/
import Derived.Great.Ranges
import Derived.Deep.MidRow
import Derived.Test.YtpckaimpjccjhaaGreatDoorProg
import Derived.Test.YtpckaimpjccjhaaGreatDoorGBase
import Derived.Test.YtpckaimpjccjhaaGreatDoorGSlic
set_option maxHeartbeats 40000000
namespace Go.Proofs.YtpckaimpjccjhaaGreatDoor
open Go.RowKit
set_option maxRecDepth 10000
structure Hst where
 kind : Int
 name : Bytes
 four : Int
 six : List Int
structure Url where
 sch : Bytes
 usr : Bytes
 pas : Bytes
 host : Hst
 hasPort : Bool
 port : Int
 opq : Bool
 flat : Bytes
 path : List Bytes
 hasQ : Bool
 q : Bytes
 hasF : Bool
 f : Bytes
def hstCells (h : Hst) : List Value := .int .i64 h.kind :: S h.name :: .int .u32 h.four :: h.six.map (Value.int .u16)
def urlCells (pv : Value) (u : Url) : List Value :=
 [S u.sch, S u.usr, S u.pas] ++ hstCells u.host ++ [.bool u.hasPort, .int .i64 u.port, .bool u.opq, S u.flat, pv, .bool u.hasQ, S u.q, .bool u.hasF, S u.f]
structure HstOk (h : Hst) : Prop where
 k : -9223372036854775808 <= h.kind ∧ h.kind <= 9223372036854775807
 f : 0 <= h.four ∧ h.four < 4294967296
 l : h.six.length = 8
 s : ∀ n ∈ h.six, 0 <= n ∧ n < 65536
structure UrlOk (u : Url) : Prop where
 h : HstOk u.host
 p : -9223372036854775808 <= u.port ∧ u.port <= 9223372036854775807
structure HstAt (cs : Array Value) (h : Hst) : Prop where
 sz : cs.size = 11
 kind : cs[0]? = some (.int .i64 h.kind)
 name : cs[1]? = some (S h.name)
 four : cs[2]? = some (.int .u32 h.four)
 six : ∀ k (hk : k < h.six.length), cs[3 + k]? = some (.int .u16 h.six[k])
 ok : HstOk h
structure UrlAt (cs : Array Value) (pv : Value) (u : Url) : Prop where
 sz : cs.size = 23
 sch : cs[0]? = some (S u.sch)
 usr : cs[1]? = some (S u.usr)
 pas : cs[2]? = some (S u.pas)
 kind : cs[3]? = some (.int .i64 u.host.kind)
 hostC : ∀ k, k < 11 -> cs[3 + k]? = (hstCells u.host)[k]?
 hasPort : cs[14]? = some (.bool u.hasPort)
 port : cs[15]? = some (.int .i64 u.port)
 opq : cs[16]? = some (.bool u.opq)
 flat : cs[17]? = some (S u.flat)
 path : cs[18]? = some pv
 hasQ : cs[19]? = some (.bool u.hasQ)
 q : cs[20]? = some (S u.q)
 hasF : cs[21]? = some (.bool u.hasF)
 f : cs[22]? = some (S u.f)
 ok : UrlOk u
theorem eight {α : Type} {l : List α} (h : l.length = 8) : ∃ a b c d e f g i, l = [a, b, c, d, e, f, g, i] := by
 match l, h with
 | [a, b, c, d, e, f, g, i], _ => exact ⟨a, b, c, d, e, f, g, i, rfl⟩
theorem hstAt_of {h : Hst} (ok : HstOk h) : HstAt (hstCells h).toArray h := by
 obtain ⟨a, b, c, d, e, f, g, i, hl⟩ := eight ok.l
 refine ⟨?_, rfl, rfl, rfl, ?_, ok⟩
 ·simp [hstCells, ok.l]
 ·intro k hk
  have h8 : k < 8 := by rw [ok.l] at hk; exact hk
  simp only [hstCells, List.getElem?_toArray]
  rw [show 3 + k = k + 1 + 1 + 1 by omega]
  simp [hk]
theorem urlAt_of {u : Url} (pv : Value) (ok : UrlOk u) : UrlAt (urlCells pv u).toArray pv u := by
 obtain ⟨sch, usr, pas, ⟨hk, hn, hf, six⟩, a1, a2, a3, a4, a5, a6, a7, a8, a9⟩ := u
 have hl := ok.h.l
 simp only at hl
 obtain ⟨a, b, c, d, e, f, g, i, rfl⟩ := eight hl
 refine ⟨rfl, rfl, rfl, rfl, rfl, ?_, rfl, rfl, rfl, rfl, rfl, rfl, rfl, rfl, rfl, ok⟩
 intro k hk
 match k, hk with
 | 0, _ => rfl
 | 1, _ => rfl
 | 2, _ => rfl
 | 3, _ => rfl
 | 4, _ => rfl
 | 5, _ => rfl
 | 6, _ => rfl
 | 7, _ => rfl
 | 8, _ => rfl
 | 9, _ => rfl
 | 10, _ => rfl
def IsUrl (B : Nat) (w : World) (cs : Array Value) (u : Url) : Prop := ∃ pv, UrlAt cs pv u ∧ Sl B w pv (u.path.map S)
theorem IsUrl.below {B : Nat} {w w' : World} {cs : Array Value} {u : Url} (h : IsUrl B w cs u) (hb : Below B w w') : IsUrl B w' cs u := by
 obtain ⟨pv, h1, h2⟩ := h
 exact ⟨pv, h1, h2.below hb⟩
theorem host_info : (Tryz.prog.info? 27).map (·.size) = some 11 := by kernel_rfl
end Go.Proofs.YtpckaimpjccjhaaGreatDoor
