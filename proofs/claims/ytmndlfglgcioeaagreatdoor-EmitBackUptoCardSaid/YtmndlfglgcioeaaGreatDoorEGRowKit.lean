/- What the rows' proofs share: arguments opened to lists. -/
import Derived.ProofKit
import Derived.OpenShut
import Derived.ShutString
import Derived.ChangeOld
import Derived.Below
import Derived.Test.YtmndlfglgcioeaaGreatDoorEGBase
set_option maxHeartbeats 40000000
namespace Go.Proofs.YtmndlfglgcioeaaGreatDoor
open Go.ChangeShapes Go.WideShapes Go.ChangeAt Go.RowKit
open Go.ChangeMaps (open_string shut_string)
def Ja(k:IntKind)(w:World)(a:Option Addr)(len cap:Nat)(zs:List Int):Prop :=
 (a=none∧len=0∧cap=0∧zs=[]) ∨
 ∃x,a=some x∧len<=cap∧cap<=maxLen∧zs.length=cap∧(∀i,i<zs.length->w.cell? (x.add i)=some (.int k (zs.getD i 0)))∧∀ n∈zs,(Lit.int k n).wf=true
theorem Ja.sl{k:IntKind}{w:World}{a:Option Addr}{len cap:Nat}{zs:List Int}(h:Ja k w a len cap zs):Sl w.heap.size w (.slice a len cap) ((zs.take len).map (Value.int k)):=by
 rcases h with⟨rfl,rfl,rfl,rfl⟩|⟨x,rfl,hl,hm,hz,hcell,hwz⟩
 ·exact Sl.nil
 have hlen:((zs.take len).map (Value.int k)).length=len:=by rw[am,aE];omega
 refine⟨cap,by omega,hm,?_⟩;by_cases h0:len=0
 ·subst h0
  exact .inl ⟨by simp,_,rfl⟩
 obtain⟨b,off,spot⟩:=x;have hc:=hcell 0 (by omega);have hspot:spot=none:=by simpa[Addr.add]using World.cell?_spot hc
 subst hspot;refine .inr ⟨b,off,?_,by rw[hlen],fun j hj=>?_⟩
 ·have hc0:w.cell? ⟨b,off,none⟩=some (.int k (zs.getD 0 0)):=by simpa[Addr.add]using hc
  rcases cZ b w.heap.size with hlt|hge
  ·exact hlt
  simp[World.cell?,Array.getElem?_eq_none hge]at hc0
 rw[hlen]at hj;have:=hcell j (by omega);rw[addr_add]at this;rw[this];have hj2:j<zs.length:=by omega
 simp[List.getD_eq_getElem?_getD,List.getElem?_eq_getElem hj2]
theorem a56{n:Int}(h:(Lit.int .u8 n).wf=true):0<=n∧n<256:=by
 simp[Lit.wf,IntKind.min,IntKind.max,IntKind.signed,IntKind.bits]at h;omega
theorem Ja.bytes{w:World}{a:Option Addr}{len cap:Nat}{zs:List Int}(h:Ja .u8 w a len cap zs):∃ l:Bytes,Sl w.heap.size w (.slice a len cap) (Lib.byteCells l):=by
 have hs:=h.sl;refine⟨(zs.take len).map fun z=>UInt8.ofNat z.toNat,?_⟩
 have e:Lib.byteCells ((zs.take len).map fun z=>UInt8.ofNat z.toNat)=(zs.take len).map (Value.int .u8):=by
  unfold Lib.byteCells;rw[gP];refine eN fun z hz=>?_;have hz':z∈zs:=Cf hz;rcases h with⟨_,_,_,rfl⟩|⟨x,rfl,hl,hm,hz2,hcell,hwz⟩
  ·simp at hz'
  have:=a56 (hwz z hz');simp only[Function.comp,Value.int.injEq,true_and,ga];omega
 rw[e];exact hs
end Go.Proofs.YtmndlfglgcioeaaGreatDoor
