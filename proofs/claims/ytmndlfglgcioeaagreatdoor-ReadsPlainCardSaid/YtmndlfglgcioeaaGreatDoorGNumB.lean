/- NumB NumC NumD NumF HstW: joined. -/
import Derived.Shelf.Strconv.AppendUint10
import Derived.Lib.SmallJoins
import Derived.Laws.BitsLemmas
import Derived.Deep.DeepCutAuto
import Derived.Test.YtmndlfglgcioeaaGreatDoorGNumA
import Derived.Test.YtmndlfglgcioeaaGreatDoorShelf
import Derived.Test.YtmndlfglgcioeaaGreatDoorGArr
import Derived.Test.YtmndlfglgcioeaaGreatDoorGReg
set_option maxHeartbeats 40000000
namespace Go.Proofs.YtmndlfglgcioeaaGreatDoor
open Tryz
open Go.RowKit
set_option maxRecDepth 10000
structure NE (w:World):Prop where
 tab:Lib.TabIs prog w "internal/strconv.uint64pow10" .u64 Lib.pow10Tab
 tz:w.cell? ⟨5,15,none⟩=some (.int .u8 4)
theorem NE.below {w w':World} (h:NE w) (hb:Below w.heap.size w w'):NE w' :=
 ⟨Lib.tabBelow_of_tabIs h.tab w' hb,by
  have h2:=h.tz
  have hlt:5<w.heap.size:=by
   rcases cU 5 w.heap.size with hlt|hge
   ·exact hlt
   simp[World.cell?,Array.getElem?_eq_none hge]at h2
  exact(hb.cell (p:=⟨5,15,none⟩) hlt).trans h2⟩
def xL (n:Nat):UInt8:=UInt8.ofNat (if n<10 then 48+n else 87+n)
def uS (u:Nat):Bytes:=if _h:u<16 then [xL u]else uS (u/16)++[xL (u%16)]
termination_by u
decreasing_by omega
theorem GJ {u:Nat} (h:u<16):uS u=[xL u]:=by rw[uS,dif_pos h]
theorem PZ {u:Nat} (h:¬ u<16):uS u=uS (u/16)++[xL (u%16)]:=by rw[uS,dif_neg h]
def Z65:Array Value:=Array.replicate 65 (.int .u8 0)
structure Oz (w:World) (b:Nat) (l:Bytes) (wr:World):Prop where
 blk:∃ c,wr.heap[b]? = some (.cells c 190 (0,0))∧c.size=65∧∀ t (h:t<l.length),c[65-l.length+t]? = some (.int .u8 (b2 l[t]))
 bq:Below w.heap.size w wr
theorem Oz.fresh (w:World):Oz w w.heap.size [] (w.alloc (.cells Z65 190)) :=
 ⟨⟨_,heap_alloc_new w _,by simp[Z65],fun t h=>by simp at h⟩,(Below.refl _ _).alloc (ae _) _⟩
theorem Oz.cell {w wr:World} {b:Nat} {l:Bytes} (h:Oz w b l wr) (i:Nat) (hi:i<65):(∃v,wr.cell? ⟨b,i,none⟩=some v)∧wr.frozen? ⟨b,i,none⟩=false:=by
 obtain⟨⟨c,h1,h2,_⟩,_⟩:=h
 refine⟨⟨c[i],?_⟩,Go.Joins.unfrozen_of_block h1 i⟩
 rw[Go.Joins.cell_of_block h1]
 simp[h2,hi]
theorem Oz.put {w wr:World} {b:Nat} {l:Bytes} (h:Oz w b l wr) (hb:w.heap.size<=b) (x:UInt8) (hl:l.length<65) (i:Nat) (hi:i=64-l.length):Oz w b (x::l) (wr.setCell ⟨b,i,none⟩ (.int .u8 (b2 x))):=by
 obtain⟨⟨c,h1,h2,h3⟩,h4⟩:=h
 subst hi
 refine⟨⟨_,Go.Joins.block_setCell h1 _,by simp[h2],fun t ht=>?_⟩,h4.setCell hb _⟩
 rw[Array.getElem?_setIfInBounds]
 simp only[ag]at ht ⊢
 cases t with
 |zero =>
  rw[if_pos (by omega),if_pos (by omega)]
  rfl
 |succ t =>
  rw[if_neg (by omega)]
  have:=h3 t (by omega)
  rw[show 65-(l.length+1)+(t+1)=65-l.length+t by omega,this]
  rfl
theorem Oz.at {w wr:World} {b:Nat} {l:Bytes} (h:Oz w b l wr) (_:l.length<=65):At wr b (65-l.length) (Lib.byteCells l):=by
 obtain⟨⟨c,h1,h2,h3⟩,_⟩:=h
 intro j hj
 have hj':j<l.length:=by simpa[Lib.byteCells]using hj
 rw[Go.Joins.cell_of_block h1,h3 j hj']
 simp[Lib.byteCells,b2]

def YU (n:Nat):Bytes:=Lib.decDigits (n/16777216)++[46]++Lib.decDigits (n/65536%256)++[46]++Lib.decDigits (n/256%256)++[46]++Lib.decDigits (n%256)

def Nv (z:List Bool) (j:Nat):Nat:=j+((z.drop j).takeWhile id).length
def VV (z:List Bool):Nat->Nat->Nat->Nat->Nat×Nat
 |0,_,b,e=>(b,e)
 |f+1,i,b,e=>if i<8 then(if 2<=Nv z i-i∧e-b<Nv z i-i then VV z f (Nv z i+1) i (Nv z i)else VV z f (Nv z i+1) b e)else(b,e)
def lrP (z:List Bool):Nat×Nat:=VV z 9 0 0 0
def Wt (b e:Nat):Nat->Nat->List Nat
 |0,_=>[]
 |f+1,i=>if i<8 then(if i=b∧b<e then 101::Wt b e f e else(if 0<i∧(i≠e∨e=b)then [100]else [])++i::Wt b e f (i+1))else []
def a0v (a:List Int) (t:Nat):Bytes:=if t=100 then [58]else if t=101 then [58,58]else uS (a.getD t 0).toNat
def a0u (a:List Int) (l:List Nat):Bytes:=l.flatMap (a0v a)
def zer (a:List Int):List Bool:=a.map fun n=>decide (n=0)
def a4N (a:List Int):Bytes:=a0u a (Wt (lrP (zer a)).1 (lrP (zer a)).2 9 0)

structure RV (l:Bytes) (c:Bool):Prop where
 yes:c=true->∃ p x,l=p++[x]∧x≠58
 no:c=false->l=[]∨∃ p,l=p++[58]
theorem EM (n:Nat) (h:n<16):xL n≠58:=by
 have:∀ k:Fin 16,xL k.val≠58:=by decide +kernel
 exact this ⟨n,h⟩
theorem LI (u:Nat):∃ p x,uS u=p++[x]∧x≠58:=by
 by_cases h:u<16
 ·exact⟨[],xL u,by rw[GJ h];rfl,EM u h⟩
 exact⟨uS (u/16),xL (u%16),PZ h,EM _ (by omega)⟩
theorem RV.hex (l:Bytes) (u:Nat):RV (l++uS u) true:=by
 obtain⟨p,x,h1,h2⟩:=LI u
 refine⟨fun _=>⟨l++p,x,by rw[h1,aX],h2⟩,fun h=>by cases h⟩

def ZH (h:gE):Bytes:=if h.kind=2∨h.kind=5 then h.name else if h.kind=3 then YU h.four.toNat else if h.kind=4 then [91]++a4N h.six++[93]else []
end Go.Proofs.YtmndlfglgcioeaaGreatDoor
