/- The base of layers 24 to 26's statements: what it answers, for texts up to 1048576 bytes. -/
import Derived.Test.YtmndlfglgcioeaaGreatDoorGWlkY
set_option maxHeartbeats 40000000
namespace Go.Proofs.YtmndlfglgcioeaaGreatDoor
open Tryz
open Go.RowKit
set_option maxRecDepth 10000
theorem mD {s:Bytes} {u:Url} (h:gv s=some u):u.host.six.length=8:=by
 unfold gv at h
 split at h
 ·exact mx (b:=U0) rfl h
 cases h
def Xj (t:ByteArray) (w:World):Option Url->Ending->World->Prop
 |none,e,w'=>e=.returned (.tuple #[.agg (ah aD U0),.bool false])∧Below w.heap.size w w'
 |some u,e,w'=>∃ pv,e=.returned (.tuple #[.agg (ah pv u),.bool (decide (t.size<=300))])∧w'.ownsRow w.heap.size 9 1 pv u.path.length (Strs u.path)∧Below w.heap.size w w'
theorem kP (t:ByteArray) (w:World) (ub:t.size<=1048576) (hE:Env w):Calls prog 10 #[.string t] w (Xj t w (gv (ls t))):=by
 have hp:=fun(W:World) (hW:Below w.heap.size w W)=>uw (ls t) W (by rw[de];omega) (hE.below hW)
 rw[nJ]at hp
 cases hR:gv (ls t)with
 |none =>
  rw[hR]at hp
  have HP:=h_ (show ∀W,Below w.heap.size w W->Calls prog 28 #[.string t] W fun e w'=>e=.returned (.tuple #[.agg (ah aD U0),.bool false])∧Below W.heap.size W w' from hp)
  clear hp hR hE
  go_enter func10,ntmps10
  go_upto_region 1 with(first
   |(refine aE rfl 30 rfl _ _ (cD _) ?_)
   |fail)
  have IA:=h_ (OB.fresh w 30 (ah aD U0))
  obtain⟨w1,hw1⟩:=ap (w.alloc (.cells (ah aD U0) 30))
  rw[<-hw1]at IA ⊢
  clear hw1
  go_wp2_with (first
   |(go_at_call 28;refine(HP.out _ IA.out.bq).mono ?_;rintro e w2 ⟨rfl,hb⟩;have I2:=h_ (IA.out.below hb);clear hb)
   |(refine aE rfl 30 rfl _ _ (cD _) ?_)
   |(refine cN rfl (.tmp 4) (.tmp 9) rfl aD U0 rfl rfl rfl rfl rfl ?_;intro w4 h4 hb;have H4:=h_ h4;have I4:=h_ (I2.out.below hb);clear h4 hb)
   |(refine dB (by rfl) (.tmp 4) rfl _ aD U0 rfl rfl H4.out ?_)
   |(refine eG rfl (.tmp 2) (.tmp 11) rfl w w.heap.size I4.out aD U0 rfl rfl rfl rfl ?_;intro w5 i5 _;have I5:=h_ i5;clear i5)
   |fail)
  exact oE (u:=U0) (q:=false) results10 rfl rfl rfl I5.out ⟨rfl,I5.out.bq⟩
 |some u =>
  rw[hR]at hp
  have HP:=h_ (show ∀W,Below w.heap.size w W->Calls prog 28 #[.string t] W fun e w'=>∃ pv,e=.returned (.tuple #[.agg (ah pv u),.bool true])∧w'.ownsRow W.heap.size 9 1 pv u.path.length (Strs u.path)∧Below W.heap.size W w' from hp)
  have U8:=h_ (mD hR)
  clear hp hR hE
  obtain⟨q,hq⟩:=ap (decide (t.size<=300))
  show Calls _ _ _ _ fun e w'=>∃ pv,e=.returned (.tuple #[.agg (ah pv u),.bool (decide (t.size<=300))])∧w'.ownsRow w.heap.size 9 1 pv u.path.length (Strs u.path)∧Below w.heap.size w w'
  rw[<-hq]
  have hqi:decide ((t.size:Int)<=300)=q:=by rw[hq,decide_eq_decide];omega
  clear hq
  cases q <;>
  ·go_enter func10,ntmps10
   go_upto_region 1 with(first
    |(refine aE rfl 30 rfl _ _ (cD _) ?_)
    |fail)
   have IA:=h_ (OB.fresh w 30 (ah aD U0))
   obtain⟨w1,hw1⟩:=ap (w.alloc (.cells (ah aD U0) 30))
   rw[<-hw1]at IA ⊢
   clear hw1
   go_wp2_with (first
    |(go_at_call 28;refine(HP.out _ IA.out.bq).mono ?_;rintro e w2 ⟨pv,rfl,oo,hb⟩;have I2:=h_ (IA.out.below hb);have O2:=h_ (aU oo (show w.heap.size+1<=_ from IA.out.lt));clear hb oo)
    |(refine aE rfl 30 rfl _ _ (cD _) ?_)
    |(refine cN rfl (.tmp 4) (.tmp 9) rfl pv u U8.out (aS O2.out) rfl rfl rfl ?_;intro w4 h4 hb;have H4:=h_ h4;have I4:=h_ (I2.out.below hb);have O4:=h_ (own_below' O2.out hb);clear h4 hb)
    |(refine dB (by rfl) (.tmp 4) rfl _ pv u U8.out rfl H4.out ?_)
    |(refine eG rfl (.tmp 2) (.tmp 11) rfl w w.heap.size I4.out pv u U8.out (aS O4.out) rfl rfl ?_;intro w5 i5 t5;have I5:=h_ i5;have O5:=h_ (aU (t5.row O4.out (bB _)) (fb _));clear i5 t5)
    |fail)
   exact oE (u:=u) results10 U8.out rfl rfl I5.out ⟨pv,rfl,O5.out,I5.out.bq⟩
end Go.Proofs.YtmndlfglgcioeaaGreatDoor
