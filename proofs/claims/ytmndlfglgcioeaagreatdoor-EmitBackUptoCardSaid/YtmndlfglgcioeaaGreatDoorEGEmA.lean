/- Hosts and addresses as plain data, and the cells that hold them. -/
import Derived.Great.Ranges
import Derived.Deep.MidRow
import Derived.Test.YtmndlfglgcioeaaGreatDoorEGTextA
set_option maxHeartbeats 40000000
namespace Go.Proofs.YtmndlfglgcioeaaGreatDoor
open Tryz
open Go.RowKit
set_option maxRecDepth 10000
structure ie where
 kind:Int
 name:Bytes
 four:Int
 six:List Int
structure Url where
 aH:Bytes
 usr:Bytes
 fp:Bytes
 host:ie
 bq:Bool
 port:Int
 opq:Bool
 flat:Bytes
 path:List Bytes
 bS:Bool
 q:Bytes
 bZ:Bool
 f:Bytes
def aZ(h:ie):List Value:=.int .i64 h.kind::S h.name::.int .u32 h.four::h.six.map (Value.int .u16)
def aV(pv:Value)(u:Url):List Value :=
 [S u.aH,S u.usr,S u.fp]++aZ u.host++[.bool u.bq,.int .i64 u.port,.bool u.opq,S u.flat,pv,.bool u.bS,S u.q,.bool u.bZ,S u.f]
structure yF (h:ie):Prop where
 k:-9223372036854775808<=h.kind∧h.kind<=9223372036854775807
 f:0<=h.four∧h.four<4294967296
 l:h.six.length=8
 s:∀ n∈h.six,0<=n∧n<65536
structure gI (u:Url):Prop where
 h:yF u.host
 p:-9223372036854775808<=u.port∧u.port<=9223372036854775807
structure IY (cs:Array Value) (h:ie):Prop where
 sz:cs.size=11
 kind:cs[0]? = some (.int .i64 h.kind)
 name:cs[1]? = some (S h.name)
 four:cs[2]? = some (.int .u32 h.four)
 six:∀ k (hk:k<h.six.length),cs[3+k]? = some (.int .u16 h.six[k])
 ok:yF h
structure vo (cs:Array Value) (pv:Value) (u:Url):Prop where
 sz:cs.size=23
 aH:cs[0]? = some (S u.aH)
 usr:cs[1]? = some (S u.usr)
 fp:cs[2]? = some (S u.fp)
 kind:cs[3]? = some (.int .i64 u.host.kind)
 a4R:∀ k,k<11->cs[3+k]? = (aZ u.host)[k]?
 bq:cs[14]? = some (.bool u.bq)
 port:cs[15]? = some (.int .i64 u.port)
 opq:cs[16]? = some (.bool u.opq)
 flat:cs[17]? = some (S u.flat)
 path:cs[18]? = some pv
 bS:cs[19]? = some (.bool u.bS)
 q:cs[20]? = some (S u.q)
 bZ:cs[21]? = some (.bool u.bZ)
 f:cs[22]? = some (S u.f)
 ok:gI u
theorem eight{α:Type}{l:List α}(h:l.length=8):∃ a b c d e f g i,l=[a,b,c,d,e,f,g,i]:=by
 match l,h with
 | [a,b,c,d,e,f,g,i],_=>exact⟨a,b,c,d,e,f,g,i,rfl⟩
theorem Rc{h:ie}(ok:yF h):IY (aZ h).toArray h:=by
 obtain⟨a,b,c,d,e,f,g,i,hl⟩:=eight ok.l;refine⟨?_,rfl,rfl,rfl,?_,ok⟩
 ·simp[aZ,ok.l]
 intro k hk;have h8:k<8:=by rw[ok.l]at hk;exact hk
 simp only[aZ,bT];rw[show 3+k=k+1+1+1 by omega];simp[hk]
theorem sj{u:Url}(pv:Value)(ok:gI u):vo (aV pv u).toArray pv u:=by
 obtain⟨aH,usr,fp,⟨hk,hn,hf,six⟩,a1,a2,a3,a4,a5,a6,a7,a8,a9⟩:=u;have hl:=ok.h.l;simp only at hl;obtain⟨a,b,c,d,e,f,g,i,rfl⟩:=eight hl;refine⟨rfl,rfl,rfl,rfl,rfl,?_,rfl,rfl,rfl,rfl,rfl,rfl,rfl,rfl,rfl,ok⟩;intro k hk
 match k,hk with
 |0,_=>rfl
 |1,_=>rfl
 |2,_=>rfl
 |3,_=>rfl
 |4,_=>rfl
 |5,_=>rfl
 |6,_=>rfl
 |7,_=>rfl
 |8,_=>rfl
 |9,_=>rfl
 |10,_=>rfl
theorem jQ:(prog.info? 27).map (·.size)=some 11:=by kernel_rfl
end Go.Proofs.YtmndlfglgcioeaaGreatDoor
