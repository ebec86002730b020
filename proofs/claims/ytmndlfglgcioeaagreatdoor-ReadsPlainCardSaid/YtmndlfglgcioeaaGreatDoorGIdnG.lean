/- idna.written: a label as it stands in a name. -/
import Derived.Test.YtmndlfglgcioeaaGreatDoorGIdnC
import Derived.Test.YtmndlfglgcioeaaGreatDoorGPunJ
import Derived.Test.YtmndlfglgcioeaaGreatDoorGUtfD
set_option maxHeartbeats 40000000
namespace Go.Proofs.YtmndlfglgcioeaaGreatDoor
open Tryz
open Go.RowKit
set_option maxRecDepth 10000
def jt:Bytes:=[120,110,45,45]
def uV (b:Bytes):Option Bytes :=
 if Lib.hasPrefix b jt=true then
  (if py b=true then(match BQ (b.drop 4)with|some l=>if pr l=true then some b else none|none=>none)else none)
 else if py b=true then some b
 else if pr (signs b)=true then(if(encR (signs b)).2=true then some (jt++(encR (signs b)).1)else none)else none
def p8 (w:World) (o:Option Bytes):Ending->World->Prop:=fun e w'=>∃ x,e=.returned (.tuple #[S x,.bool o.isSome])∧(∀y,o=some y->x=y)∧Below w.heap.size w w'
theorem p8.none {w w':World} {o:Option Bytes} (x:Bytes) (h:o=none) (hb:Below w.heap.size w w'):p8 w o (.returned (.tuple #[S x,.bool false])) w':=by
 subst h;exact⟨_,rfl,fun _ h=>(by cases h),hb⟩
theorem p8.some {w w':World} {o:Option Bytes} {x:Bytes} {s:ByteArray} (h:o=some x) (hs:s=bs x) (hb:Below w.heap.size w w'):p8 w o (.returned (.tuple #[.string s,.bool true])) w':=by
 subst h;subst hs;exact⟨_,rfl,fun _ h=>bw h,hb⟩
theorem a4Z {b:Bytes} (h:Lib.hasPrefix b jt=true) (h2:py b=false):uV b=none:=by unfold uV;rw[if_pos h,if_neg (by simp[h2])]
theorem a40 {b:Bytes} (h:Lib.hasPrefix b jt=true) (h2:py b=true) (h3:BQ (b.drop 4)=none):uV b=none:=by unfold uV;rw[if_pos h,if_pos h2,h3]
theorem a41 {b:Bytes} {l:List Int} (h:Lib.hasPrefix b jt=true) (h2:py b=true) (h3:BQ (b.drop 4)=some l):uV b=if pr l=true then some b else none:=by unfold uV;rw[if_pos h,if_pos h2,h3]
theorem a42 {b:Bytes} (h:Lib.hasPrefix b jt=false) (h2:py b=true):uV b=some b:=by unfold uV;rw[if_neg (by simp[h]),if_pos h2]
theorem a43 {b:Bytes} (h:Lib.hasPrefix b jt=false) (h2:py b=false) (h3:pr (signs b)=false):uV b=none:=by unfold uV;rw[if_neg (by simp[h]),if_neg (by simp[h2]),if_neg (by simp[h3])]
theorem a44 {b:Bytes} (h:Lib.hasPrefix b jt=false) (h2:py b=false) (h3:pr (signs b)=true):uV b=if(encR (signs b)).2=true then some (jt++(encR (signs b)).1)else none:=by unfold uV;rw[if_neg (by simp[h]),if_neg (by simp[h2]),if_pos h3]
theorem zv (l:List Int):(encR l).1.length<=3000:=by
 unfold encR
 split
 ·simp
 next h =>
 have h1:l.all sg=true:=by
  by_cases h2:l.all sg=true
  ·exact h2
  exact absurd (.inr h2) h
 exact KT (ch.mp h1) (by omega)
theorem NO (b:Bytes) (w:World) (hb:b.length<=307200000) (hT:rx w):Calls prog 208 #[.string (bs b)] w fun e w'=>fd w 3 (dw (signs b)) e w':=by
 have h:=DD (bs b) w (by rw[aB];exact hb) hT
 rw[du,Dw]at h
 exact h
theorem AP (b:Bytes) (w:World) (hb:b.length<=102400000) (hT:rx w):Calls prog 211 #[.string (bs b)] w fun e w'=>p8 w (uV b) e w':=by
 have hlow:=fun W=>GU b W (by unfold maxLen;omega)
 have hcut:=fun W=>Any.strings_CutPrefix laysCut (bs b) (bs jt) W
 have hsg:=fun W (h:rx W)=>NO b W (by omega) h
 have hdec:=fun W=>zn (b.drop 4) W (by rw[ai];omega)
 have e1:(bs b).data.toList=b:=du b
 have e2:(bs jt).data.toList=jt:=du jt
 rw[e1,e2]at hcut
 have q8:∀ W,Calls prog 95 #[.string (bs b),.string ⟨#[120,110,45,45]⟩] W fun e w'=>e=.returned (.tuple #[.string (bs (Lib.trimPrefix b jt)),.bool (Lib.hasPrefix b jt)])∧w'=W:=hcut
 clear hcut e1 e2
 have EP:Lib.hasPrefix b jt=true->Lib.trimPrefix b jt=b.drop 4:=fun h=>by unfold Lib.trimPrefix;rw[if_pos h];rfl
 obtain⟨O,hO⟩:=ap (uV b)
 rw[<-hO]
 obtain⟨R,hR⟩:=ap (Lib.trimPrefix b jt)
 rw[<-hR]at q8 EP
 clear hR
 have HT:=h_ hT;clear hT
 cases hp:Lib.hasPrefix b jt
 ·rw[hp]at q8
  have pY:=h_ q8;clear q8 EP hdec
  cases hl:py b
  ·rw[hl]at hlow
   have nS:=h_ hlow;clear hlow
   have kJ:=h_ hsg;clear hsg
   cases hla:pr (signs b)
   ·have ho:=hO.trans (a43 hp hl hla)
    have HO:=h_ ho;clear ho hO hp hl
    obtain⟨L,hL⟩:=ap (signs b)
    rw[<-hL]at hla kJ
    have IJ:=h_ hla;clear hla hL
    obtain⟨s,hs⟩:=ap (bs b)
    rw[<-hs]at nS pY kJ ⊢
    clear hs
    go_enter func211,ntmps211
    go_wp2_with (first
     |(go_at_call 222;refine(nS.out _).mono ?_;rintro e w2 ⟨rfl,rfl⟩)
     |(go_at_call 95;refine(pY.out _).mono ?_;rintro e w2 ⟨rfl,hw2⟩;subst w2)
     |(go_at_call 208;refine(kJ.out _ HT.out).mono ?_;rintro e w3 ⟨v3,rfl,ho3,hb3⟩;have HB3:=h_ hb3;clear hb3;have Og:=h_ (Sl.bL ho3);clear ho3)
     |(go_at_call 224;refine(qw L _ _ (Og.out.more (ae _))).mono ?_;rw[IJ.out];rintro e w4 ⟨rfl,hb4⟩;have eZ:=h_ (HB3.out.trans (hb4.mono HB3.out.size));clear hb4)
     |fail)
    go_ret2
    exact p8.none [] HO.out eZ.out
   have ho:=hO.trans (a44 hp hl hla)
   have henc:=Ce (signs b)
   have hal:=zv (signs b)
   obtain⟨L,hL⟩:=ap (signs b)
   rw[<-hL]at hla kJ ho henc hal
   clear hL hO hp hl
   obtain⟨A,hA⟩:=ap ((encR L).1)
   obtain⟨a,ha⟩:=ap ((encR L).2)
   rw[<-hA,<-ha]at ho henc
   rw[<-hA]at hal
   clear hA ha
   have IJ:=h_ hla;clear hla
   have xf:=h_ henc;clear henc
   obtain⟨s,hs⟩:=ap (bs b)
   rw[<-hs]at nS pY kJ ⊢
   clear hs
   have rC:(⟨#[120,110,45,45]⟩:ByteArray)++bs A=bs (jt++A):=gO jt A
   have Rw:=h_ rC;clear rC
   cases a
   all_goals
    have HO:=h_ ho;clear ho
    go_enter func211,ntmps211
    go_wp2_with (first
     |(go_at_call 222;refine(nS.out _).mono ?_;rintro e w2 ⟨rfl,rfl⟩)
     |(go_at_call 95;refine(pY.out _).mono ?_;rintro e w2 ⟨rfl,hw2⟩;subst w2)
     |(go_at_call 208;refine(kJ.out _ HT.out).mono ?_;rintro e w3 ⟨v3,rfl,ho3,hb3⟩;have HB3:=h_ hb3;clear hb3;have Og:=h_ (Sl.bL ho3);clear ho3)
     |(go_at_call 224;refine(qw L _ _ (Og.out.more (ae _))).mono ?_;rw[IJ.out];rintro e w4 ⟨rfl,hb4⟩;have HS4:=h_ ((Og.out.below hb4).more hb4.size);have eZ:=h_ (HB3.out.trans (hb4.mono HB3.out.size));clear hb4)
     |(go_at_call 225;refine(xf.out _ _ HS4.out).mono ?_;rintro e w5 ⟨rfl,hb5⟩;have fK:=h_ (eZ.out.trans (hb5.mono eZ.out.size));clear hb5)
     |fail)
    go_ret2
    first
     |exact p8.some HO.out Rw.out fK.out
     |(rw[Rw.out];exact p8.none _ HO.out fK.out)
  rw[hl]at hlow
  have ho:=hO.trans (a42 hp hl)
  have HO:=h_ ho;clear ho hO hp hl hsg
  have nS:=h_ hlow;clear hlow
  obtain⟨s,hs⟩:=ap (bs b)
  rw[<-hs]at nS pY ⊢
  have HS:=h_ hs;clear hs
  go_enter func211,ntmps211
  go_wp2_with (first
   |(go_at_call 222;refine(nS.out _).mono ?_;rintro e w2 ⟨rfl,rfl⟩)
   |(go_at_call 95;refine(pY.out _).mono ?_;rintro e w2 ⟨rfl,hw2⟩;subst w2)
   |fail)
  go_ret2
  exact p8.some HO.out HS.out (Below.refl _ _)
 rw[hp]at q8
 have htr:=EP hp
 subst htr
 have pY:=h_ q8;clear q8 EP hsg
 cases hl:py b
 ·rw[hl]at hlow
  have ho:=hO.trans (a4Z hp hl)
  have HO:=h_ ho;clear ho hO hp hl hdec
  have nS:=h_ hlow;clear hlow
  obtain⟨s,hs⟩:=ap (bs b)
  rw[<-hs]at nS pY ⊢
  clear hs
  go_enter func211,ntmps211
  go_wp2_with (first
   |(go_at_call 222;refine(nS.out _).mono ?_;rintro e w2 ⟨rfl,rfl⟩)
   |(go_at_call 95;refine(pY.out _).mono ?_;rintro e w2 ⟨rfl,hw2⟩;subst w2)
   |fail)
  go_ret2
  exact p8.none [] HO.out (Below.refl _ _)
 rw[hl]at hlow
 have nS:=h_ hlow;clear hlow
 cases hd:BQ (b.drop 4)with
 |none =>
  have ho:=hO.trans (a40 hp hl hd)
  rw[hd]at hdec
  have HO:=h_ ho;clear ho hO hp hl hd
  have ID:=h_ hdec;clear hdec
  generalize b.drop 4=r at *
  obtain⟨s,hs⟩:=ap (bs b)
  rw[<-hs]at nS pY ⊢
  have HS:=h_ hs;clear hs
  go_enter func211,ntmps211
  go_wp2_with (first
   |(go_at_call 222;refine(nS.out _).mono ?_;rintro e w2 ⟨rfl,rfl⟩)
   |(go_at_call 95;refine(pY.out _).mono ?_;rintro e w2 ⟨rfl,hw2⟩;subst w2)
   |(go_at_call 223;refine(ID.out _).mono ?_;rintro e w3 ⟨v3,rfl,ho3,hz3,hb3⟩;have HB3:=h_ hb3;clear hb3 hz3 ho3)
   |fail)
  go_ret2
  rw[HS.out]
  exact p8.none b HO.out HB3.out
 |some l =>
  have ho:=hO.trans (a41 hp hl hd)
  rw[hd]at hdec
  clear hO hp hl hd
  have ID:=h_ hdec;clear hdec
  generalize b.drop 4=r at *
  obtain⟨s,hs⟩:=ap (bs b)
  rw[<-hs]at nS pY ⊢
  have HS:=h_ hs;clear hs
  have hla:=qw l
  obtain⟨m,hm⟩:=ap (pr l)
  rw[<-hm]at hla ho
  clear hm
  have IJ:=h_ hla;clear hla
  cases m
  all_goals
   have HO:=h_ ho;clear ho
   go_enter func211,ntmps211
   go_wp2_with (first
    |(go_at_call 222;refine(nS.out _).mono ?_;rintro e w2 ⟨rfl,rfl⟩)
    |(go_at_call 95;refine(pY.out _).mono ?_;rintro e w2 ⟨rfl,hw2⟩;subst w2)
    |(go_at_call 223;refine(ID.out _).mono ?_;rintro e w3 ⟨v3,rfl,ho3,hz3,hb3⟩;have HB3:=h_ hb3;clear hb3 hz3;simp only[cP]at ho3;have Og:=h_ (Sl.bL ho3);clear ho3)
    |(go_at_call 224;refine(IJ.out _ _ Og.out).mono ?_;rintro e w4 ⟨rfl,hb4⟩;have eZ:=h_ (HB3.out.trans (hb4.mono HB3.out.size));clear hb4)
    |fail)
   go_ret2
   first
    |exact p8.some HO.out HS.out eZ.out
    |(rw[HS.out];exact p8.none b HO.out eZ.out)
end Go.Proofs.YtmndlfglgcioeaaGreatDoor
