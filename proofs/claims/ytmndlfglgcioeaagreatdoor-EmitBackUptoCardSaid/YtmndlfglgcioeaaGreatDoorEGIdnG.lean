/- Joined texts. -/
import Derived.Test.YtmndlfglgcioeaaGreatDoorEGIdnC
import Derived.Test.YtmndlfglgcioeaaGreatDoorEGPunJ
import Derived.Test.YtmndlfglgcioeaaGreatDoorEGUtfD
set_option maxHeartbeats 40000000
namespace Go.Proofs.YtmndlfglgcioeaaGreatDoor
open Tryz
open Go.RowKit
set_option maxRecDepth 10000
def iY:Bytes:=[120,110,45,45]
def yg(b:Bytes):Option Bytes :=
 if Lib.hasPrefix b iY=true then
  (if km b=true then(match vB (b.drop 4)with|some l=>if ny l=true then some b else none|none=>none)else none)
 else if km b=true then some b
 else if ny (signs b)=true then(if(encR (signs b)).2=true then some (iY++(encR (signs b)).1)else none)else none
def sD(w:World)(o:Option Bytes):Ending->World->Prop:=fun e w'=>∃ x,e=.returned (.tuple #[S x,.bool o.isSome])∧(∀y,o=some y->x=y)∧Below w.heap.size w w'
theorem sD.none{w w':World}{o:Option Bytes}(x:Bytes)(h:o=none)(hb:Below w.heap.size w w'):sD w o (.returned (.tuple #[S x,.bool false])) w':=by
 subst h;exact⟨_,rfl,fun _ h=>(by cases h),hb⟩
theorem sD.some{w w':World}{o:Option Bytes}{x:Bytes}{s:ByteArray}(h:o=some x)(hs:s=bs x)(hb:Below w.heap.size w w'):sD w o (.returned (.tuple #[.string s,.bool true])) w':=by
 subst h;subst hs;exact⟨_,rfl,fun _ h=>bp h,hb⟩
theorem a6b{b:Bytes}(h:Lib.hasPrefix b iY=true)(h2:km b=false):yg b=none:=by unfold yg;rw[if_pos h,if_neg (by simp[h2])]
theorem a6c{b:Bytes}(h:Lib.hasPrefix b iY=true)(h2:km b=true)(h3:vB (b.drop 4)=none):yg b=none:=by unfold yg;rw[if_pos h,if_pos h2,h3]
theorem a1S{b:Bytes}{l:List Int}(h:Lib.hasPrefix b iY=true)(h2:km b=true)(h3:vB (b.drop 4)=some l):yg b=if ny l=true then some b else none:=by unfold yg;rw[if_pos h,if_pos h2,h3]
theorem a1T{b:Bytes}(h:Lib.hasPrefix b iY=false)(h2:km b=true):yg b=some b:=by unfold yg;rw[if_neg (by simp[h]),if_pos h2]
theorem a6d{b:Bytes}(h:Lib.hasPrefix b iY=false)(h2:km b=false)(h3:ny (signs b)=false):yg b=none:=by unfold yg;rw[if_neg (by simp[h]),if_neg (by simp[h2]),if_neg (by simp[h3])]
theorem a6e{b:Bytes}(h:Lib.hasPrefix b iY=false)(h2:km b=false)(h3:ny (signs b)=true):yg b=if(encR (signs b)).2=true then some (iY++(encR (signs b)).1)else none:=by unfold yg;rw[if_neg (by simp[h]),if_neg (by simp[h2]),if_pos h3]
theorem Dq(l:List Int):(encR l).1.length<=3000:=by
 unfold encR
 split
 ·simp
 next h =>
 have h1:l.all sg=true:=by
  by_cases h2:l.all sg=true
  ·exact h2
  exact absurd (.inr h2) h
 exact Qk (bo.mp h1) (by omega)
theorem TD(b:Bytes)(w:World)(hb:b.length<=307200000)(hT:up w):Calls prog 208 #[.string (bs b)] w fun e w'=>gU w 3 (ed (signs b)) e w':=by
 have h:=Ii (bs b) w (by rw[aM];exact hb) hT;rw[dR,Id]at h;exact h
theorem Fl(b:Bytes)(w:World)(hb:b.length<=102400000)(hT:up w):Calls prog 211 #[.string (bs b)] w fun e w'=>sD w (yg b) e w':=by
 have hlow:=fun W=>MA b W (by unfold maxLen;omega);have hcut:=fun W=>Any.strings_CutPrefix laysCut (bs b) (bs iY) W;have hsg:=fun W (h:up W)=>TD b W (by omega) h;have hdec:=fun W=>Dj (b.drop 4) W (by rw[ah];omega);have e1:(bs b).data.toList=b:=dR b;have e2:(bs iY).data.toList=iY:=dR iY;rw[e1,e2]at hcut;have tS:∀ W,bV prog 95 #[.string (bs b),.string ⟨#[120,110,45,45]⟩] W (.tuple #[.string (bs (Lib.trimPrefix b iY)),.bool (Lib.hasPrefix b iY)]):=hcut;clear hcut e1 e2;have JR:Lib.hasPrefix b iY=true->Lib.trimPrefix b iY=b.drop 4:=fun h=>by unfold Lib.trimPrefix;rw[if_pos h];rfl
 obtain⟨O,hO⟩:=az (yg b);rw[<-hO];obtain⟨R,hR⟩:=az (Lib.trimPrefix b iY);rw[<-hR]at tS JR;clear hR;have HT:=h_ hT;clear hT;cases hp:Lib.hasPrefix b iY
 ·rw[hp]at tS
  have sx:=h_ tS;clear tS JR hdec;cases hl:km b
  ·rw[hl]at hlow
   have qz:=h_ hlow;clear hlow;have mX:=h_ hsg;clear hsg;cases hla:ny (signs b)
   ·have ho:=hO.trans (a6d hp hl hla)
    have HO:=h_ ho;clear ho hO hp hl;obtain⟨L,hL⟩:=az (signs b);rw[<-hL]at hla mX;have Od:=h_ hla;clear hla hL;obtain⟨s,hs⟩:=az (bs b);rw[<-hs]at qz sx mX ⊢;clear hs;go_enter func211,ntmps211
    go_wp2_with (first
     |(go_at_call 222;refine(qz.out _).mono ?_;rintro e w2 ⟨rfl,rfl⟩)
     |(go_at_call 95;refine(sx.out _).mono ?_;rintro e w2 ⟨rfl,hw2⟩;subst w2)
     |(go_at_call 208;refine(mX.out _ HT.out).mono ?_;rintro e w3 ⟨v3,rfl,ho3,hb3⟩;have HB3:=h_ hb3;clear hb3;have Ue:=h_ (Sl.dM ho3);clear ho3)
     |(go_at_call 224;refine(sU L _ _ (Ue.out.more (af _))).mono ?_;rw[Od.out];rintro e w4 ⟨rfl,hb4⟩;have eM:=h_ (HB3.out.trans (hb4.mono HB3.out.size));clear hb4)
     |fail)
    go_ret2
    exact sD.none [] HO.out eM.out
   have ho:=hO.trans (a6e hp hl hla);have henc:=Gp (signs b);have hal:=Dq (signs b);obtain⟨L,hL⟩:=az (signs b);rw[<-hL]at hla mX ho henc hal;clear hL hO hp hl;obtain⟨A,hA⟩:=az ((encR L).1);obtain⟨a,ha⟩:=az ((encR L).2);rw[<-hA,<-ha]at ho henc;rw[<-hA]at hal;clear hA ha;have Od:=h_ hla;clear hla;have Am:=h_ henc;clear henc;obtain⟨s,hs⟩:=az (bs b);rw[<-hs]at qz sx mX ⊢;clear hs;have Gy:(⟨#[120,110,45,45]⟩:ByteArray)++bs A=bs (iY++A):=sH iY A;have XO:=h_ Gy;clear Gy;cases a
   all_goals
    have HO:=h_ ho;clear ho;go_enter func211,ntmps211
    go_wp2_with (first
     |(go_at_call 222;refine(qz.out _).mono ?_;rintro e w2 ⟨rfl,rfl⟩)
     |(go_at_call 95;refine(sx.out _).mono ?_;rintro e w2 ⟨rfl,hw2⟩;subst w2)
     |(go_at_call 208;refine(mX.out _ HT.out).mono ?_;rintro e w3 ⟨v3,rfl,ho3,hb3⟩;have HB3:=h_ hb3;clear hb3;have Ue:=h_ (Sl.dM ho3);clear ho3)
     |(go_at_call 224;refine(sU L _ _ (Ue.out.more (af _))).mono ?_;rw[Od.out];rintro e w4 ⟨rfl,hb4⟩;have HS4:=h_ ((Ue.out.below hb4).more hb4.size);have eM:=h_ (HB3.out.trans (hb4.mono HB3.out.size));clear hb4)
     |(go_at_call 225;refine(Am.out _ _ HS4.out).mono ?_;rintro e w5 ⟨rfl,hb5⟩;have gH:=h_ (eM.out.trans (hb5.mono eM.out.size));clear hb5)
     |fail)
    go_ret2
    first
     |exact sD.some HO.out XO.out gH.out
     |(rw[XO.out];exact sD.none _ HO.out gH.out)
  rw[hl]at hlow;have ho:=hO.trans (a1T hp hl);have HO:=h_ ho;clear ho hO hp hl hsg;have qz:=h_ hlow;clear hlow;obtain⟨s,hs⟩:=az (bs b);rw[<-hs]at qz sx ⊢;have HS:=h_ hs;clear hs;go_enter func211,ntmps211
  go_wp2_with (first
   |(go_at_call 222;refine(qz.out _).mono ?_;rintro e w2 ⟨rfl,rfl⟩)
   |(go_at_call 95;refine(sx.out _).mono ?_;rintro e w2 ⟨rfl,hw2⟩;subst w2)
   |fail)
  go_ret2
  exact sD.some HO.out HS.out (Below.refl _ _)
 rw[hp]at tS;have htr:=JR hp;subst htr;have sx:=h_ tS;clear tS JR hsg;cases hl:km b
 ·rw[hl]at hlow
  have ho:=hO.trans (a6b hp hl);have HO:=h_ ho;clear ho hO hp hl hdec;have qz:=h_ hlow;clear hlow;obtain⟨s,hs⟩:=az (bs b);rw[<-hs]at qz sx ⊢;clear hs;go_enter func211,ntmps211
  go_wp2_with (first
   |(go_at_call 222;refine(qz.out _).mono ?_;rintro e w2 ⟨rfl,rfl⟩)
   |(go_at_call 95;refine(sx.out _).mono ?_;rintro e w2 ⟨rfl,hw2⟩;subst w2)
   |fail)
  go_ret2
  exact sD.none [] HO.out (Below.refl _ _)
 rw[hl]at hlow;have qz:=h_ hlow;clear hlow;cases hd:vB (b.drop 4)with
 |none =>
  have ho:=hO.trans (a6c hp hl hd);rw[hd]at hdec;have HO:=h_ ho;clear ho hO hp hl hd;have UH:=h_ hdec;clear hdec;generalize b.drop 4=r at *;obtain⟨s,hs⟩:=az (bs b);rw[<-hs]at qz sx ⊢;have HS:=h_ hs;clear hs;go_enter func211,ntmps211
  go_wp2_with (first
   |(go_at_call 222;refine(qz.out _).mono ?_;rintro e w2 ⟨rfl,rfl⟩)
   |(go_at_call 95;refine(sx.out _).mono ?_;rintro e w2 ⟨rfl,hw2⟩;subst w2)
   |(go_at_call 223;refine(UH.out _).mono ?_;rintro e w3 ⟨v3,rfl,ho3,hz3,hb3⟩;have HB3:=h_ hb3;clear hb3 hz3 ho3)
   |fail)
  go_ret2
  rw[HS.out];exact sD.none b HO.out HB3.out
 |some l =>
  have ho:=hO.trans (a1S hp hl hd);rw[hd]at hdec;clear hO hp hl hd;have UH:=h_ hdec;clear hdec;generalize b.drop 4=r at *;obtain⟨s,hs⟩:=az (bs b);rw[<-hs]at qz sx ⊢;have HS:=h_ hs;clear hs;have hla:=sU l;obtain⟨m,hm⟩:=az (ny l);rw[<-hm]at hla ho;clear hm;have Od:=h_ hla;clear hla;cases m
  all_goals
   have HO:=h_ ho;clear ho;go_enter func211,ntmps211
   go_wp2_with (first
    |(go_at_call 222;refine(qz.out _).mono ?_;rintro e w2 ⟨rfl,rfl⟩)
    |(go_at_call 95;refine(sx.out _).mono ?_;rintro e w2 ⟨rfl,hw2⟩;subst w2)
    |(go_at_call 223;refine(UH.out _).mono ?_;rintro e w3 ⟨v3,rfl,ho3,hz3,hb3⟩;have HB3:=h_ hb3;clear hb3 hz3;simp only[dy]at ho3;have Ue:=h_ (Sl.dM ho3);clear ho3)
    |(go_at_call 224;refine(Od.out _ _ Ue.out).mono ?_;rintro e w4 ⟨rfl,hb4⟩;have eM:=h_ (HB3.out.trans (hb4.mono HB3.out.size));clear hb4)
    |fail)
   go_ret2
   first
    |exact sD.some HO.out HS.out eM.out
    |(rw[HS.out];exact sD.none b HO.out eM.out)

theorem Qn{c:Int}(hv:Utf8.valid c=true)(h:¬ c<0x80):2<=(enc c).length∧km (enc c)=false:=by
 have hr:=(dG c).mp hv;by_cases h2:c<0x800
 ·rw[vQ (by omega) h2]
  refine⟨by simp,?_⟩;unfold km;simp only[tG];rw[ry (by omega),decide_eq_false (by omega)];rfl
 by_cases h3:c<0x10000
 ·rw[rF (by omega) h3 (by omega)]
  refine⟨by simp,?_⟩;unfold km;simp only[tG];rw[ry (by omega),decide_eq_false (by omega)];rfl
 rw[vR (by omega) (by omega)];refine⟨by simp,?_⟩;unfold km;simp only[tG];rw[ry (by omega),decide_eq_false (by omega)];rfl
theorem Ww(a b:Bytes):km (a++b)=(km a&&km b):=by unfold km;rw[X9]
end Go.Proofs.YtmndlfglgcioeaaGreatDoor
