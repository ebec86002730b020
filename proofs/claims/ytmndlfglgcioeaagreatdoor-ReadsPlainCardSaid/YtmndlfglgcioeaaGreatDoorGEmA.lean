/- Hosts and addresses as plain data, and the cells that hold them. -/
import Derived.Great.Ranges
import Derived.Deep.MidRow
import Derived.Test.YtmndlfglgcioeaaGreatDoorProg
import Derived.Test.YtmndlfglgcioeaaGreatDoorGBase
import Derived.Test.YtmndlfglgcioeaaGreatDoorGTextA
set_option maxHeartbeats 40000000
namespace Go.Proofs.YtmndlfglgcioeaaGreatDoor
open Tryz
open Go.RowKit
set_option maxRecDepth 10000
structure gE where
 kind:Int
 name:Bytes
 four:Int
 six:List Int
structure Url where
 aC:Bytes
 usr:Bytes
 ed:Bytes
 host:gE
 aZ:Bool
 port:Int
 opq:Bool
 flat:Bytes
 path:List Bytes
 bP:Bool
 q:Bytes
 bS:Bool
 f:Bytes
def aW (h:gE):List Value:=.int .i64 h.kind::S h.name::.int .u32 h.four::h.six.map (Value.int .u16)
def bH (pv:Value) (u:Url):List Value :=
 [S u.aC,S u.usr,S u.ed]++aW u.host++[.bool u.aZ,.int .i64 u.port,.bool u.opq,S u.flat,pv,.bool u.bP,S u.q,.bool u.bS,S u.f]
structure Js (h:gE):Prop where
 k:-9223372036854775808<=h.kind∧h.kind<=9223372036854775807
 f:0<=h.four∧h.four<4294967296
 l:h.six.length=8
 s:∀ n∈h.six,0<=n∧n<65536
structure sf (u:Url):Prop where
 h:Js u.host
 p:-9223372036854775808<=u.port∧u.port<=9223372036854775807
structure Yh (cs:Array Value) (pv:Value) (u:Url):Prop where
 sz:cs.size=23
 aC:cs[0]? = some (S u.aC)
 usr:cs[1]? = some (S u.usr)
 ed:cs[2]? = some (S u.ed)
 kind:cs[3]? = some (.int .i64 u.host.kind)
 a6D:∀ k,k<11->cs[3+k]? = (aW u.host)[k]?
 aZ:cs[14]? = some (.bool u.aZ)
 port:cs[15]? = some (.int .i64 u.port)
 opq:cs[16]? = some (.bool u.opq)
 flat:cs[17]? = some (S u.flat)
 path:cs[18]? = some pv
 bP:cs[19]? = some (.bool u.bP)
 q:cs[20]? = some (S u.q)
 bS:cs[21]? = some (.bool u.bS)
 f:cs[22]? = some (S u.f)
 ok:sf u
theorem eight {α:Type} {l:List α} (h:l.length=8):∃ a b c d e f g i,l=[a,b,c,d,e,f,g,i]:=by
 match l,h with
 | [a,b,c,d,e,f,g,i],_=>exact⟨a,b,c,d,e,f,g,i,rfl⟩
def JK (B:Nat) (w:World) (cs:Array Value) (u:Url):Prop:=∃ pv,Yh cs pv u∧Sl B w pv (u.path.map S)
theorem JK.below {B:Nat} {w w':World} {cs:Array Value} {u:Url} (h:JK B w cs u) (hb:Below B w w'):JK B w' cs u:=by
 obtain⟨pv,h1,h2⟩:=h
 exact⟨pv,h1,h2.below hb⟩
theorem gR:(prog.info? 27).map (·.size)=some 11:=by kernel_rfl
end Go.Proofs.YtmndlfglgcioeaaGreatDoor
