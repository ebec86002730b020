/- The base of layers 24 to 26's statements: what it answers, for texts up to 1048576 bytes. -/
import Derived.Test.YtmndlfglgcioeaaGreatDoorEGWlkY
set_option maxHeartbeats 40000000
namespace Go.Proofs.YtmndlfglgcioeaaGreatDoor
open Tryz
open Go.RowKit
set_option maxRecDepth 10000
theorem Eu{s:Bytes}{u:Url}(h:gM s=some u):u.host.six.length=8:=by
 unfold gM at h
 split at h
 ·exact oS (b:=U0) rfl h
 cases h
def a2x(t:ByteArray)(w:World):Option Url->Ending->World->Prop
 |none,e,w'=>e=.returned (.tuple #[.agg (ai aR U0),.bool false])∧Below w.heap.size w w'
 |some u,e,w'=>∃ pv,e=.returned (.tuple #[.agg (ai pv u),.bool (decide (t.size<=300))])∧w'.ownsRow w.heap.size 9 1 pv u.path.length (Strs u.path)∧Below w.heap.size w w'
theorem FP(t:ByteArray)(w:World)(ub:t.size<=1048576)(hE:Env w):Calls prog 10 #[.string t] w (a2x t w (gM (ls t))):=by
 have hp:=fun(W:World) (hW:Below w.heap.size w W)=>IE (ls t) W (by rw[fx];omega) (hE.below hW);rw[ql]at hp;cases hR:gM (ls t)with
 |none =>
  rw[hR]at hp;have HP:=h_ (show ∀W,Below w.heap.size w W->bN prog 28 #[.string t] W (.tuple #[.agg (ai aR U0),.bool false])from hp);clear hp hR hE;go_enter func10,ntmps10
  go_upto_region 1 with(first
   |(refine aS rfl 30 rfl _ _ (ef _) ?_)
   |fail)
  have IA:=h_ (OB.fresh w 30 (ai aR U0));obtain⟨w1,hw1⟩:=az (w.alloc (.cells (ai aR U0) 30));rw[<-hw1]at IA ⊢;clear hw1
  go_wp2_with (first
   |(go_at_call 28;refine(HP.out _ IA.out.bL).mono ?_;rintro e w2 ⟨rfl,hb⟩;have I2:=h_ (IA.out.below hb);clear hb)
   |(refine aS rfl 30 rfl _ _ (ef _) ?_)
   |(refine fP rfl (.tmp 4) (.tmp 9) rfl aR U0 rfl rfl rfl rfl rfl ?_;intro w4 h4 hb;have H4:=h_ h4;have I4:=h_ (I2.out.below hb);clear h4 hb)
   |(refine j7 (by rfl) (.tmp 4) rfl _ aR U0 rfl rfl H4.out ?_)
   |(refine fU rfl (.tmp 2) (.tmp 11) rfl w w.heap.size I4.out aR U0 rfl rfl rfl rfl ?_;intro w5 i5 _;have I5:=h_ i5;clear i5)
   |fail)
  exact rf (u:=U0) (q:=false) results10 rfl rfl rfl I5.out ⟨rfl,I5.out.bL⟩
 |some u =>
  rw[hR]at hp;have HP:=h_ (show ∀W,Below w.heap.size w W->Calls prog 28 #[.string t] W fun e w'=>∃ pv,e=.returned (.tuple #[.agg (ai pv u),.bool true])∧w'.ownsRow W.heap.size 9 1 pv u.path.length (Strs u.path)∧Below W.heap.size W w' from hp);have U8:=h_ (Eu hR);clear hp hR hE;obtain⟨q,hq⟩:=az (decide (t.size<=300));show Calls _ _ _ _ fun e w'=>∃ pv,e=.returned (.tuple #[.agg (ai pv u),.bool (decide (t.size<=300))])∧w'.ownsRow w.heap.size 9 1 pv u.path.length (Strs u.path)∧Below w.heap.size w w';rw[<-hq];have hqi:decide ((t.size:Int)<=300)=q:=by rw[hq,decide_eq_decide];omega
  clear hq;cases q <;>
  ·go_enter func10,ntmps10
   go_upto_region 1 with(first
    |(refine aS rfl 30 rfl _ _ (ef _) ?_)
    |fail)
   have IA:=h_ (OB.fresh w 30 (ai aR U0));obtain⟨w1,hw1⟩:=az (w.alloc (.cells (ai aR U0) 30));rw[<-hw1]at IA ⊢;clear hw1
   go_wp2_with (first
    |(go_at_call 28;refine(HP.out _ IA.out.bL).mono ?_;rintro e w2 ⟨pv,rfl,oo,hb⟩;have I2:=h_ (IA.out.below hb);have O2:=h_ (bh oo (show w.heap.size+1<=_ from IA.out.lt));clear hb oo)
    |(refine aS rfl 30 rfl _ _ (ef _) ?_)
    |(refine fP rfl (.tmp 4) (.tmp 9) rfl pv u U8.out (bm O2.out) rfl rfl rfl ?_;intro w4 h4 hb;have H4:=h_ h4;have I4:=h_ (I2.out.below hb);have O4:=h_ (own_below' O2.out hb);clear h4 hb)
    |(refine j7 (by rfl) (.tmp 4) rfl _ pv u U8.out rfl H4.out ?_)
    |(refine fU rfl (.tmp 2) (.tmp 11) rfl w w.heap.size I4.out pv u U8.out (bm O4.out) rfl rfl ?_;intro w5 i5 t5;have I5:=h_ i5;have O5:=h_ (bh (t5.row O4.out (bO _)) (gQ _));clear i5 t5)
    |fail)
   exact rf (u:=u) results10 U8.out rfl rfl I5.out ⟨pv,rfl,O5.out,I5.out.bL⟩
end Go.Proofs.YtmndlfglgcioeaaGreatDoor
