/- Plain laws of utf8: the signs of a text. -/
import Derived.Lib.ValidLaws
import Derived.Test.YtmndlfglgcioeaaGreatDoorEGTextI
set_option maxHeartbeats 40000000
namespace Go.Proofs.YtmndlfglgcioeaaGreatDoor
section
open Go.RowKit Lib
def gm(a:Nat):Nat:=if a=0xe0 then 0xa0 else if a=0xf0 then 0x90 else 0x80
def gj(a:Nat):Nat:=if a=0xed then 0x9f else if a=0xf4 then 0x8f else 0xbf
theorem a3S{n a b c d:Nat}(h:a<0x80):decodeN n a b c d=(a,1):=by
 unfold decodeN;rw[if_pos h]
theorem a3R{n a b c d:Nat}(h:0x80<=a∧a<0xc2∨0xf4<a∧a<256):decodeN n a b c d=(65533,1):=by
 unfold decodeN;rw[if_neg (by omega)]
 repeat' split
 all_goals first|rfl|(exfalso;omega)
theorem a3T{n a b c d:Nat}(h:0xc2<=a∧a<0xe0):decodeN n a b c d=if 1<n∧0x80<=b∧b<=0xbf then(64*(a%32)+b-128,2)else(65533,1):=by
 unfold decodeN;rw[if_neg (by omega)];by_cases hc:1<n∧0x80<=b∧b<=0xbf
 ·rw[if_pos hc,if_pos (by omega),if_pos (by omega)]
  simp only[a6D,and_true];omega
 rw[if_neg hc,if_neg (by omega),if_neg (by omega),if_neg (by omega)]
theorem a3U{n a b c d:Nat}(h:0xe0<=a∧a<0xf0):decodeN n a b c d=if(1<n∧gm a<=b∧b<=gj a)∧2<n∧0x80<=c∧c<=0xbf then(4096*(a%16)+64*b+c-8320,3)else(65533,1):=by
 unfold decodeN;rw[if_neg (by omega),if_neg (by omega)];have e1:gm a=if a=0xe0 then 0xa0 else 0x80:=by unfold gm;split;rfl;rw[if_neg (by omega)]
 have e2:gj a=if a=0xed then 0x9f else 0xbf:=by unfold gj;split;rfl;rw[if_neg (by omega)]
 rw[e1,e2];by_cases hc:(1<n∧(if a=0xe0 then 0xa0 else 0x80)<=b∧b<=(if a=0xed then 0x9f else 0xbf))∧2<n∧0x80<=c∧c<=0xbf
 ·rw[if_pos hc]
  have h1:a=0xe0->0xa0<=b:=fun h=>by rw[if_pos h]at hc;exact hc.1.2.1
  have h2:a=0xed->b<=0x9f:=fun h=>by rw[if_pos h]at hc;exact hc.1.2.2
  have h3:0x80<=b∧b<=0xbf:=by
   obtain⟨⟨_,p,q⟩,_⟩:=hc;constructor
   ·split at p <;>omega
   split at q <;>omega
  rw[if_pos (by omega),if_pos (by omega)];simp only[a6D,and_true];omega
 rw[if_neg hc]
 have hbad:¬ ((1<n∧0x80<=b∧b<=0xbf)∧2<n∧0x80<=c∧c<=0xbf)∨(a=0xe0∧b<0xa0)∨(a=0xed∧0x9f<b):=by
  by_cases k:(1<n∧0x80<=b∧b<=0xbf)∧2<n∧0x80<=c∧c<=0xbf
  ·right
   by_cases k1:a=0xe0
   ·left;refine⟨k1,?_⟩
    rw[if_pos k1,if_neg (by omega)]at hc;omega
   by_cases k2:a=0xed
   ·right;refine⟨k2,?_⟩
    rw[if_neg k1,if_pos k2]at hc;omega
   rw[if_neg k1,if_neg k2]at hc;omega
  left;exact k
 repeat' split
 all_goals first|rfl|(exfalso;omega)
theorem a3V{n a b c d:Nat}(h:0xf0<=a∧a<=0xf4):decodeN n a b c d=if(1<n∧gm a<=b∧b<=gj a)∧(2<n∧0x80<=c∧c<=0xbf)∧3<n∧0x80<=d∧d<=0xbf then(262144*(a%8)+4096*b+64*c+d-532608,4)else(65533,1):=by
 unfold decodeN;rw[if_neg (by omega),if_neg (by omega),if_neg (by omega)];have e1:gm a=if a=0xf0 then 0x90 else 0x80:=by unfold gm;rw[if_neg (by omega)]
 have e2:gj a=if a=0xf4 then 0x8f else 0xbf:=by unfold gj;rw[if_neg (by omega)]
 rw[e1,e2];by_cases hc:(1<n∧(if a=0xf0 then 0x90 else 0x80)<=b∧b<=(if a=0xf4 then 0x8f else 0xbf))∧(2<n∧0x80<=c∧c<=0xbf)∧3<n∧0x80<=d∧d<=0xbf
 ·rw[if_pos hc]
  have h1:a=0xf0->0x90<=b:=fun h=>by rw[if_pos h]at hc;exact hc.1.2.1
  have h2:a=0xf4->b<=0x8f:=fun h=>by rw[if_pos h]at hc;exact hc.1.2.2
  have h3:0x80<=b∧b<=0xbf:=by
   obtain⟨⟨_,p,q⟩,_⟩:=hc;constructor
   ·split at p <;>omega
   split at q <;>omega
  rw[if_pos (by omega),if_pos (by omega)];simp only[a6D,and_true];omega
 rw[if_neg hc]
 have hbad:¬ ((1<n∧0x80<=b∧b<=0xbf)∧(2<n∧0x80<=c∧c<=0xbf)∧3<n∧0x80<=d∧d<=0xbf)∨(a=0xf0∧b<0x90)∨(a=0xf4∧0x8f<b):=by
  by_cases k:(1<n∧0x80<=b∧b<=0xbf)∧(2<n∧0x80<=c∧c<=0xbf)∧3<n∧0x80<=d∧d<=0xbf
  ·right
   by_cases k1:a=0xf0
   ·left;refine⟨k1,?_⟩
    rw[if_pos k1,if_neg (by omega)]at hc;omega
   by_cases k2:a=0xf4
   ·right;refine⟨k2,?_⟩
    rw[if_neg k1,if_pos k2]at hc;omega
   rw[if_neg k1,if_neg k2]at hc;omega
  left;exact k
 repeat' split
 all_goals first|rfl|(exfalso;omega)
theorem RT{a:Nat}(h:a<0x80):dY (a:Int)=(1,0,0):=by unfold dY;rw[if_pos (by omega)]
theorem a02{a:Nat}(h:0x80<=a∧a<0xc2∨0xf4<a):dY (a:Int)=(0,0,0):=by unfold dY;rw[if_neg (by omega),if_pos (by omega)]
theorem RV{a:Nat}(h:0xc2<=a∧a<0xe0):dY (a:Int)=(2,0x80,0xbf):=by
 unfold dY;rw[if_neg (by omega),if_neg (by omega),if_pos (by omega)]
theorem RW{a:Nat}(h:0xe0<=a∧a<0xf0):dY (a:Int)=(3,(gm a:Int),(gj a:Int)):=by
 unfold dY gm gj;rw[if_neg (by omega),if_neg (by omega),if_neg (by omega)];by_cases k1:a=0xe0
 ·subst k1;rfl
 by_cases k2:a=0xed
 ·subst k2;rfl
 rw[if_neg (by omega),if_neg (by omega),if_neg (by omega),if_neg (by omega),if_pos (by omega),if_neg k1,if_neg (by omega),if_neg k2,if_neg (by omega)];rfl
theorem RX{a:Nat}(h:0xf0<=a∧a<=0xf4):dY (a:Int)=(4,(gm a:Int),(gj a:Int)):=by
 unfold dY gm gj;rw[if_neg (by omega),if_neg (by omega),if_neg (by omega),if_neg (by omega),if_neg (by omega)];by_cases k1:a=0xf0
 ·subst k1;rfl
 by_cases k2:a=0xf4
 ·subst k2;rfl
 rw[if_neg (by omega),if_neg (by omega),if_neg (by omega),if_neg (by omega),if_neg k1,if_neg (by omega),if_neg k2];rfl
theorem b8(n:Nat)(x:UInt8)(h:x.toNat=n):x=UInt8.ofNat n:=by
 apply fH.1
 rw[h,ga];have:=x.toNat_lt;omega
end
section
open Go.RowKit Lib
theorem Pv{a:Nat}(h:a<0xc2∨0xf4<a):cN (a:Int)=(0,0,1):=by
 unfold cN;rw[if_neg (by omega),if_neg (by omega),if_neg (by omega),if_neg (by omega),if_neg (by omega),if_neg (by omega),if_neg (by omega)]
theorem Pw{a:Nat}(h:0xc2<=a∧a<0xe0):cN (a:Int)=(0x80,0xbf,2):=by unfold cN;rw[if_pos (by omega)]
theorem Px{a:Nat}(h:0xe0<=a∧a<0xf0):cN (a:Int)=((gm a:Int),(gj a:Int),3):=by
 unfold cN gm gj;rw[if_neg (by omega)];by_cases k1:a=0xe0
 ·subst k1;rfl
 by_cases k2:a=0xed
 ·subst k2;rfl
 rw[if_neg (by omega),if_neg (by omega),if_pos (by omega),if_neg k1,if_neg (by omega),if_neg k2,if_neg (by omega)];rfl
theorem Py{a:Nat}(h:0xf0<=a∧a<=0xf4):cN (a:Int)=((gm a:Int),(gj a:Int),4):=by
 unfold cN gm gj;rw[if_neg (by omega),if_neg (by omega),if_neg (by omega),if_neg (by omega)];by_cases k1:a=0xf0
 ·subst k1;rfl
 by_cases k2:a=0xf4
 ·subst k2;rfl
 rw[if_neg (by omega),if_pos (by omega),if_neg (by omega),if_neg k1,if_neg (by omega),if_neg k2];rfl
theorem xf:∀ (r:Bytes) (m k:Nat) (c lo hi:Int),(ct r m k c lo hi).2.1=(iL r m k lo hi:Int)
 |_,0,k,c,_,_=>by simp[ct,iL]
 | [],_+1,k,_,_,_=>by simp[ct,iL]
 |x::r,m+1,k,c,lo,hi=>by
  unfold ct iL;by_cases h:b2 x<lo∨hi<b2 x
  ·rw[if_pos h,if_neg (by omega)]
  rw[if_neg h,if_pos (by omega)];exact xf r m (k+1) _ _ _
def First(x:UInt8)(r:Bytes):Prop :=
 ((dZ (x::r)).2.2=true∧(dr (x::r)).2=dL (x::r)∧((dr (x::r)).1:Int)=(dZ (x::r)).1∧enc (dZ (x::r)).1=(x::r).take (dL (x::r))∧¬ ((dr (x::r)).1=65533∧(dr (x::r)).2=1) ∧
  Utf8.valid (dZ (x::r)).1=true) ∨
 ((dZ (x::r)).2.2=false∧(dZ (x::r)).1=65533∧(dr (x::r)).1=65533∧(dr (x::r)).2=1∧nc (x::r)=dL (x::r))
theorem sk{c:Int}(h:0<=c∧c<0xd800∨0xe000<=c∧c<=0x10ffff):Utf8.valid c=true:=by
 unfold Utf8.valid;simp only[fF,bD,decide_eq_true_eq];omega
theorem Wv(a:Nat):0x80<=gm a∧gj a<=0xbf:=by
 unfold gm gj;constructor
 ·repeat' split
  all_goals omega
 repeat' split
 all_goals omega
theorem ofNat_eq{n:Nat}{x:UInt8}(h:n=x.toNat):UInt8.ofNat n=x:=by subst h;exact cM
theorem VP(x:UInt8)(r:Bytes)(h:x.toNat<0x80):First x r:=by
 have hl:dY (b2 x)=(1,0,0):=RT h;have hn:dZ (x::r)=(b2 x,1,true):=by simp[dZ,hl]
 have hN:dL (x::r)=1:=by unfold dL;rw[hn];rfl
 have hd:dr (x::r)=(x.toNat,1):=by rw[tN];exact a3S h
 left
 rw[hn,hN,hd];refine⟨rfl,rfl,rfl,?_,by simp;omega,sk (by unfold b2;omega)⟩;rw[rE (jr x).1 (by unfold b2;omega)];simp[b2]
theorem VO(x:UInt8)(r:Bytes)(h:0x80<=x.toNat∧x.toNat<0xc2∨0xf4<x.toNat):First x r:=by
 have hx:=x.toNat_lt;have hl:dY (b2 x)=(0,0,0):=a02 h;have hn:dZ (x::r)=(65533,1,false):=by simp[dZ,hl]
 have hN:dL (x::r)=1:=by unfold dL;rw[hn];rfl
 have hd:dr (x::r)=(65533,1):=by rw[tN];exact a3R (by simp only[d8,dy];omega)
 have hb:cN (b2 x)=(0,0,1):=Pv (by omega)
 right
 rw[hn,hN,hd];exact⟨rfl,rfl,rfl,rfl,by simp[nc,hb,iL]⟩
theorem fw{x:UInt8}{r:Bytes}{n:Nat}{c lo hi:Int}(hn:dZ (x::r)=ct r n 1 c lo hi)(hb:cN (b2 x)=(lo,hi,((n+1:Nat):Int)))(hf:(ct r n 1 c lo hi).2.2=false)
  (h1:(ct r n 1 c lo hi).1=65533) (hd:dr (x::r)=(65533,1)):First x r:=by
 right
 have hN:nc (x::r)=dL (x::r):=by
  unfold dL;rw[hn,xf];simp[nc,hb]
 rw[hn,hd];exact⟨hf,h1,rfl,rfl,hN⟩
theorem VQ(x:UInt8)(r:Bytes)(h:0xc2<=x.toNat∧x.toNat<0xe0):First x r:=by
 have hl:dY (b2 x)=(2,0x80,0xbf):=RV h;have hb:cN (b2 x)=(0x80,0xbf,2):=Pw h;have hn:dZ (x::r)=ct r 1 1 (b2 x%32) 0x80 0xbf:=by simp[dZ,hl]
 have hd:dr (x::r)=decodeN (r.length+1) x.toNat (r[0]?.getD 0).toNat (r[1]?.getD 0).toNat (r[2]?.getD 0).toNat:=by rw[tN];simp
 rw[a3T h]at hd;cases r with
 |nil=>exact fw hn hb rfl rfl (by rw[hd,if_neg (by simp)])
 |cons y r =>
  simp only[d8,dy,ag]at hd;by_cases hc:0x80<=y.toNat∧y.toNat<=0xbf
  ·have e:ct (y::r) 1 1 (b2 x%32) 0x80 0xbf=(64*(b2 x%32)+b2 y-0x80,2,true):=by
    simp only[ct];rw[if_neg (by unfold b2;omega)];rfl
   rw[e]at hn;have hN:dL (x::y::r)=2:=by unfold dL;rw[hn];rfl
   rw[if_pos (by omega)]at hd
   left
   rw[hn,hN,hd];refine⟨rfl,rfl,by simp only[b2];omega,?_,by simp,sk (by simp only[b2];omega)⟩;rw[vQ (by simp only[b2];omega) (by simp only[b2];omega)];rw[ofNat_eq (x:=x) (by simp only[b2];omega),ofNat_eq (x:=y) (by simp only[b2];omega)];rfl
  refine fw hn hb ?_ ?_ (by rw[hd,if_neg (by omega)])
  all_goals simp only[ct];rw[if_pos (by unfold b2;omega)]
theorem VR(x:UInt8)(r:Bytes)(h:0xe0<=x.toNat∧x.toNat<0xf0):First x r:=by
 have hl:dY (b2 x)=(3,(gm x.toNat:Int),(gj x.toNat:Int)):=RW h;have hb:cN (b2 x)=((gm x.toNat:Int),(gj x.toNat:Int),3):=Px h;have hn:dZ (x::r)=ct r 2 1 (b2 x%16) (gm x.toNat) (gj x.toNat):=by simp[dZ,hl]
 have hd:dr (x::r)=decodeN (r.length+1) x.toNat (r[0]?.getD 0).toNat (r[1]?.getD 0).toNat (r[2]?.getD 0).toNat:=by rw[tN];simp
 rw[a3U h]at hd
 have hlo:0x80<=gm x.toNat∧gj x.toNat<=0xbf∧(x.toNat=0xe0->gm x.toNat=0xa0)∧(x.toNat=0xed->gj x.toNat=0x9f):=by
  exact⟨(Wv _).1,(Wv _).2,fun h=>by rw[h];rfl,fun h=>by rw[h];rfl⟩
 obtain⟨hlo1,hlo2,hlo3,a9z⟩:=hlo;generalize gm x.toNat=lo at *;generalize gj x.toNat=hi at *;cases r with
 |nil=>exact fw hn hb rfl rfl (by rw[hd,if_neg (by simp)])
 |cons y r =>
  simp only[d8,cC,dy,ag]at hd;by_cases hc:lo<=y.toNat∧y.toNat<=hi
  ·have e:ct (y::r) 2 1 (b2 x%16) lo hi=ct r 1 2 (64*(b2 x%16)+b2 y-0x80) 0x80 0xbf:=by
    simp only[ct];rw[if_neg (by unfold b2;omega)]
   cases r with
   |nil=>exact fw hn hb (by rw[e];rfl) (by rw[e];rfl) (by rw[hd,if_neg (by simp)])
   |cons z r =>
    simp only[d8,dy,ag]at hd;by_cases hz:0x80<=z.toNat∧z.toNat<=0xbf
    ·have e2:ct (z::r) 1 2 (64*(b2 x%16)+b2 y-0x80) 0x80 0xbf=(64*(64*(b2 x%16)+b2 y-0x80)+b2 z-0x80,3,true):=by
      simp only[ct];rw[if_neg (by unfold b2;omega)];rfl
     rw[e,e2]at hn;have hN:dL (x::y::z::r)=3:=by unfold dL;rw[hn];rfl
     rw[if_pos (by omega)]at hd
     left
     rw[hn,hN,hd];refine⟨rfl,rfl,by simp only[b2];omega,?_,by simp,sk (by simp only[b2];omega)⟩;rw[rF (by simp only[b2];omega) (by simp only[b2];omega) (by simp only[b2];omega)];rw[ofNat_eq (x:=x) (by simp only[b2];omega),ofNat_eq (x:=y) (by simp only[b2];omega),ofNat_eq (x:=z) (by simp only[b2];omega)];rfl
    refine fw hn hb ?_ ?_ (by rw[hd,if_neg (by omega)])
    all_goals rw[e];simp only[ct];rw[if_pos (by unfold b2;omega)]
  refine fw hn hb ?_ ?_ (by rw[hd,if_neg (by omega)])
  all_goals simp only[ct];rw[if_pos (by unfold b2;omega)]
theorem VS(x:UInt8)(r:Bytes)(h:0xf0<=x.toNat∧x.toNat<=0xf4):First x r:=by
 have hl:dY (b2 x)=(4,(gm x.toNat:Int),(gj x.toNat:Int)):=RX h;have hb:cN (b2 x)=((gm x.toNat:Int),(gj x.toNat:Int),4):=Py h;have hn:dZ (x::r)=ct r 3 1 (b2 x%8) (gm x.toNat) (gj x.toNat):=by simp[dZ,hl]
 have hd:dr (x::r)=decodeN (r.length+1) x.toNat (r[0]?.getD 0).toNat (r[1]?.getD 0).toNat (r[2]?.getD 0).toNat:=by rw[tN];simp
 rw[a3V h]at hd
 have hlo:0x80<=gm x.toNat∧gj x.toNat<=0xbf∧(x.toNat=0xf0->gm x.toNat=0x90)∧(x.toNat=0xf4->gj x.toNat=0x8f):=by
  exact⟨(Wv _).1,(Wv _).2,fun h=>by rw[h];rfl,fun h=>by rw[h];rfl⟩
 obtain⟨hlo1,hlo2,hlo3,a9z⟩:=hlo;generalize gm x.toNat=lo at *;generalize gj x.toNat=hi at *;cases r with
 |nil=>exact fw hn hb rfl rfl (by rw[hd,if_neg (by simp)])
 |cons y r =>
  simp only[d8,cC,dy,ag]at hd;by_cases hc:lo<=y.toNat∧y.toNat<=hi
  ·have e:ct (y::r) 3 1 (b2 x%8) lo hi=ct r 2 2 (64*(b2 x%8)+b2 y-0x80) 0x80 0xbf:=by
    simp only[ct];rw[if_neg (by unfold b2;omega)]
   cases r with
   |nil=>exact fw hn hb (by rw[e];rfl) (by rw[e];rfl) (by rw[hd,if_neg (by simp)])
   |cons z r =>
    simp only[d8,cC,dy,ag]at hd;by_cases hz:0x80<=z.toNat∧z.toNat<=0xbf
    ·have e2:ct (z::r) 2 2 (64*(b2 x%8)+b2 y-0x80) 0x80 0xbf=ct r 1 3 (64*(64*(b2 x%8)+b2 y-0x80)+b2 z-0x80) 0x80 0xbf:=by
      simp only[ct];rw[if_neg (by unfold b2;omega)]
     cases r with
     |nil=>exact fw hn hb (by rw[e,e2];rfl) (by rw[e,e2];rfl) (by rw[hd,if_neg (by simp)])
     |cons u r =>
      simp only[d8,dy,ag]at hd;by_cases hu:0x80<=u.toNat∧u.toNat<=0xbf
      ·have e3:ct (u::r) 1 3 (64*(64*(b2 x%8)+b2 y-0x80)+b2 z-0x80) 0x80 0xbf=(64*(64*(64*(b2 x%8)+b2 y-0x80)+b2 z-0x80)+b2 u-0x80,4,true):=by
        simp only[ct];rw[if_neg (by unfold b2;omega)];rfl
       rw[e,e2,e3]at hn;have hN:dL (x::y::z::u::r)=4:=by unfold dL;rw[hn];rfl
       rw[if_pos (by omega)]at hd
       left
       rw[hn,hN,hd];refine⟨rfl,rfl,by simp only[b2];omega,?_,by simp,sk (by simp only[b2];omega)⟩;rw[vR (by simp only[b2];omega) (by simp only[b2];omega)];rw[ofNat_eq (x:=x) (by simp only[b2];omega),ofNat_eq (x:=y) (by simp only[b2];omega),ofNat_eq (x:=z) (by simp only[b2];omega),ofNat_eq (x:=u) (by simp only[b2];omega)];rfl
      refine fw hn hb ?_ ?_ (by rw[hd,if_neg (by omega)])
      all_goals rw[e,e2];simp only[ct];rw[if_pos (by unfold b2;omega)]
    refine fw hn hb ?_ ?_ (by rw[hd,if_neg (by omega)])
    all_goals rw[e];simp only[ct];rw[if_pos (by unfold b2;omega)]
  refine fw hn hb ?_ ?_ (by rw[hd,if_neg (by omega)])
  all_goals simp only[ct];rw[if_pos (by unfold b2;omega)]
theorem mI(x:UInt8)(r:Bytes):First x r:=by
 by_cases h1:x.toNat<0x80
 ·exact VP x r h1
 by_cases h2:x.toNat<0xc2∨0xf4<x.toNat
 ·exact VO x r (by omega)
 by_cases h3:x.toNat<0xe0
 ·exact VQ x r (by omega)
 by_cases h4:x.toNat<0xf0
 ·exact VR x r (by omega)
 exact VS x r (by omega)
end
section
open Go.RowKit Lib
theorem yT{p:Bytes->Prop}(h0:p [])(h1:∀ x r,(∀t:Bytes,t.length<=r.length->p t)->p (x::r)):∀ l,p l:=by
 have:∀ (n:Nat) (l:Bytes),l.length<=n->p l:=by
  intro n
  induction n with
  |zero=>intro l h;obtain rfl:l=[]:=ak (by omega);exact h0
  |succ n ih =>
   intro l h;cases l with
   |nil=>exact h0
   |cons x r=>exact h1 x r (fun t ht=>ih t (by simp at h;omega))
 exact fun l=>this l.length l (af _)
theorem a5Z{t:Int×Int×Bool}{a b:Int}{c:Bool}(h:t=(a,b,c)):t.2.2=c:=by subst h;rfl
theorem vS:enc 65533=[0xef,0xbf,0xbd]:=by rw[rF (by omega) (by omega) (by omega)];rfl
theorem vM(x:UInt8)(r:Bytes){n:Nat}(h:1<=n):((x::r).drop n).length<=r.length:=by rw[ah,ag];omega
theorem AG:∀ l,kJ l=oY l:=by
 refine yT rfl ?_;intro x r ih;have hn:=nB x r;unfold oY;rw[lu,dW];rcases mI x r with⟨h1,h2,h3,h4,h5,_⟩|⟨h1,h2,h3,h4,h5⟩
 ·rw[decT_ok h5,h4,h2,ih _ (vM x r (by omega))]
  rfl
 rw[decT_bad ⟨h3,h4⟩,h2,vS,h5,ih _ (vM x r (by omega))];rfl
theorem ya:Utf8.valid 65533=true:=by decide
theorem ph:∀ l:Bytes,∀c∈signs l,Utf8.valid c=true:=by
 refine yT (by simp[pP]) ?_;intro x r ih c hc;have hn:=nB x r;rw[lu,aj]at hc;rcases hc with hc|hc
 ·rw[hc]
  rcases mI x r with⟨h1,h2,h3,h4,h5,h⟩|⟨h1,h,h3,h4,h5⟩
  ·exact h
  rw[h];exact ya
 exact ih _ (vM x r (by omega)) c hc
theorem dG(c:Int):Utf8.valid c=true ↔ (0<=c∧c<0xd800∨0xe000<=c∧c<=0x10ffff):=by
 unfold Utf8.valid;simp only[fF,bD,decide_eq_true_eq]
theorem ck{n:Nat}(h:n<256):(UInt8.ofNat n).toNat=n:=by rw[ga];omega
theorem zt{c:Int}(hv:Utf8.valid c=true)(t:Bytes):dZ (enc c++t)=(c,((enc c).length:Int),true):=by
 rw[dG]at hv;by_cases h1:c<0x80
 ·rw[rE (by omega) h1]
  have e:(UInt8.ofNat c.toNat).toNat=c.toNat:=ck (by omega);have hl:dY (b2 (UInt8.ofNat c.toNat))=(1,0,0):=RT (by omega);have hx:dZ (UInt8.ofNat c.toNat::t)=(b2 (UInt8.ofNat c.toNat),1,true):=by simp[dZ,hl]
  rw[bd,bJ,hx];have hc:b2 (UInt8.ofNat c.toNat)=c:=by unfold b2;omega
  rw[hc];rfl
 by_cases h2:c<0x800
 ·rw[vQ (by omega) h2]
  have e:(UInt8.ofNat (192+c/64).toNat).toNat=(192+c/64).toNat:=ck (by omega);have e':(UInt8.ofNat (128+c%64).toNat).toNat=(128+c%64).toNat:=ck (by omega);generalize UInt8.ofNat (192+c/64).toNat=x at *;generalize UInt8.ofNat (128+c%64).toNat=y at *;have hl:dY (b2 x)=(2,0x80,0xbf):=RV (by omega);have hb:¬ (b2 y<0x80∨0xbf<b2 y):=by unfold b2;omega
  have hc:64*(b2 x%32)+b2 y-0x80=c:=by unfold b2;omega
  simp[dZ,hl,ct,hb,hc]
 by_cases h3:c<0x10000
 ·rw[rF (by omega) h3 (by omega)]
  have e:(UInt8.ofNat (224+c/4096).toNat).toNat=(224+c/4096).toNat:=ck (by omega);have e':(UInt8.ofNat (128+c/64%64).toNat).toNat=(128+c/64%64).toNat:=ck (by omega);have e'':(UInt8.ofNat (128+c%64).toNat).toNat=(128+c%64).toNat:=ck (by omega);generalize UInt8.ofNat (224+c/4096).toNat=x at *;generalize UInt8.ofNat (128+c/64%64).toNat=y at *;generalize UInt8.ofNat (128+c%64).toNat=z at *;have hl:dY (b2 x)=(3,(gm x.toNat:Int),(gj x.toNat:Int)):=RW (by omega)
  have hlo:(x.toNat=0xe0->gm x.toNat=0xa0)∧(x.toNat≠0xe0->gm x.toNat=0x80)∧(x.toNat=0xed->gj x.toNat=0x9f)∧(x.toNat≠0xed->gj x.toNat=0xbf):=by
   unfold gm gj;refine⟨fun h=>by rw[h];rfl,fun h=>by rw[if_neg h,if_neg (by omega)],fun h=>by rw[h];rfl,fun h=>by rw[if_neg h,if_neg (by omega)]⟩
  generalize gm x.toNat=lo at *;generalize gj x.toNat=hi at *;obtain⟨l1,l2,l3,l4⟩:=hlo
  have hb:¬ (b2 y<(lo:Int)∨(hi:Int)<b2 y):=by
   unfold b2;by_cases k1:x.toNat=0xe0
   ·have:=l1 k1;have:=l4 (by omega);omega
   by_cases k2:x.toNat=0xed
   ·have:=l2 k1;have:=l3 k2;omega
   have:=l2 k1;have:=l4 k2;omega
  have hb2:¬ (b2 z<0x80∨0xbf<b2 z):=by unfold b2;omega
  have hc:64*(64*(b2 x%16)+b2 y-0x80)+b2 z-0x80=c:=by unfold b2;omega
  simp[dZ,hl,ct,hb,hb2,hc]
 rw[vR (by omega) (by omega)];have e:(UInt8.ofNat (240+c/262144).toNat).toNat=(240+c/262144).toNat:=ck (by omega);have e0:(UInt8.ofNat (128+c/4096%64).toNat).toNat=(128+c/4096%64).toNat:=ck (by omega);have e':(UInt8.ofNat (128+c/64%64).toNat).toNat=(128+c/64%64).toNat:=ck (by omega);have e'':(UInt8.ofNat (128+c%64).toNat).toNat=(128+c%64).toNat:=ck (by omega);generalize UInt8.ofNat (240+c/262144).toNat=x at *;generalize UInt8.ofNat (128+c/4096%64).toNat=y at *;generalize UInt8.ofNat (128+c/64%64).toNat=z at *;generalize UInt8.ofNat (128+c%64).toNat=u at *;have hl:dY (b2 x)=(4,(gm x.toNat:Int),(gj x.toNat:Int)):=RX (by omega)
 have hlo:(x.toNat=0xf0->gm x.toNat=0x90)∧(x.toNat≠0xf0->gm x.toNat=0x80)∧(x.toNat=0xf4->gj x.toNat=0x8f)∧(x.toNat≠0xf4->gj x.toNat=0xbf):=by
  unfold gm gj;refine⟨fun h=>by rw[h];rfl,fun h=>by rw[if_neg (by omega),if_neg h],fun h=>by rw[h];rfl,fun h=>by rw[if_neg (by omega),if_neg h]⟩
 generalize gm x.toNat=lo at *;generalize gj x.toNat=hi at *;obtain⟨l1,l2,l3,l4⟩:=hlo
 have hb:¬ (b2 y<(lo:Int)∨(hi:Int)<b2 y):=by
  unfold b2;by_cases k1:x.toNat=0xf0
  ·have:=l1 k1;have:=l4 (by omega);omega
  by_cases k2:x.toNat=0xf4
  ·have:=l2 k1;have:=l3 k2;omega
  have:=l2 k1;have:=l4 k2;omega
 have hb2:¬ (b2 z<0x80∨0xbf<b2 z):=by unfold b2;omega
 have hb3:¬ (b2 u<0x80∨0xbf<b2 u):=by unfold b2;omega
 have hc:64*(64*(64*(b2 x%8)+b2 y-0x80)+b2 z-0x80)+b2 u-0x80=c:=by unfold b2;omega
 simp[dZ,hl,ct,hb,hb2,hb3,hc]
def fix(c:Int):Int:=if Utf8.valid c=true then c else 65533
theorem Mc(c:Int):Utf8.valid (fix c)=true:=by
 unfold fix
 split
 ·assumption
 exact ya
theorem JB(c:Int):enc (fix c)=enc c:=by
 unfold fix
 split
 ·rfl
 next h =>
 rw[vS,AO];rw[dG]at h;omega
theorem Qz{c:Int}(h:Utf8.valid c=true):fix c=c:=by unfold fix;rw[if_pos h]
theorem zT(c:Int)(t:Bytes):signs (enc c++t)=fix c::signs t:=by
 have h:=zt (Mc c) t;rw[JB]at h;have hl:=(ns c).1;cases he:enc c with
 |nil=>rw[he]at hl;simp at hl
 |cons x r =>
  rw[he]at h;rw[bd,lu]
  have hN:dL (x::(r++t))=(x::r).length:=by
   unfold dL;rw[<-List.cons_append,h];simp
  rw[hN,<-List.cons_append,h,mn]
theorem q9:∀ (l:List Int) (t:Bytes),signs (cf l++t)=l.map fix++signs t
 | [],t=>rfl
 |c::l,t=>by rw[dW,aT,zT,q9 l t];rfl
theorem RO(l:List Int):cf (l.map fix)=cf l:=by
 induction l with
 |nil=>rfl
 |cons c l ih=>rw[dw,dW,dW,JB,ih]
theorem Wz{l:List Int}(h:∀ c∈l,Utf8.valid c=true):l.map fix=l:=by
 induction l with
 |nil=>rfl
 |cons c l ih=>rw[dw,Qz (h c (by simp)),ih (fun d hd=>h d (by simp[hd]))]
theorem Ng(l:List Int)(t:Bytes):oY (cf l++t)=cf l++oY t:=by
 unfold oY;rw[q9,nu,RO]
theorem Hx(l:List Int):oY (cf l)=cf l:=by
 have:=Ng l [];rw[aG]at this;rw[this,show oY []=[]from rfl,aG]
theorem xE:∀ (l:List Int),(∀c∈l,Utf8.valid c=true)->runes (cf l)=l
 | [],_=>rfl
 |c::l,h=>by
  have hc:=h c (by simp);have hn:=zt hc (cf l);have hl:=(ns c).1;have ih:=xE l (fun d hd=>h d (by simp[hd]));rw[dW];cases he:enc c with
  |nil=>rw[he]at hl;simp at hl
  |cons x r =>
   rw[he]at hn;rw[bd]at hn ⊢;rw[xD];have hN:dL (x::(r++cf l))=(x::r).length:=by unfold dL;rw[hn];simp
   rcases mI x (r++cf l)with⟨h1,h2,h3,h4,h5,h6⟩|⟨h1,h2,h3,h4,h5⟩
   ·rw[h3,h2,hN,hn,<-List.cons_append,mn,ih]
   have h7:(dZ (x::(r++cf l))).2.2=true:=a5Z hn;rw[h7]at h1;exact absurd h1 (by simp)
theorem Id(l:Bytes):runes (kJ l)=signs l:=by
 rw[AG];exact xE _ (ph l)
end
section
open Go.RowKit Lib
theorem RY(c:Int)(h:¬ (dY c).1=1)(h0:¬ (dY c).1=0):0x80<=(dY c).2.1∧(dY c).2.2<=0xbf:=by
 revert h h0;unfold dY
 repeat (first|split|(intro h h0;simp at *))
theorem xg{x:UInt8}(r:Bytes)(h:b2 x<0x80):dZ (x::r)=(b2 x,1,true):=by
 have:(dY (b2 x)).1=1:=by unfold dY;rw[if_pos h]
 simp only[dZ];rw[if_pos this]
theorem Nz{x:UInt8}(r:Bytes)(h:b2 x<0x80):signs (x::r)=b2 x::signs r:=by
 have hN:dL (x::r)=1:=by unfold dL;rw[xg r h];rfl
 rw[lu,hN,xg r h];rfl
theorem AN{x:UInt8}(h:b2 x<0x80):enc (b2 x)=[x]:=by
 rw[rE (jr x).1 h];have:(b2 x).toNat=x.toNat:=by unfold b2;simp
 rw[this,cM]
theorem S5{x:UInt8}(r:Bytes)(h:b2 x<0x80):oY (x::r)=x::oY r:=by
 unfold oY;rw[Nz r h,dW,AN h];rfl
theorem zG:∀ (a:Bytes),(∀x∈a,b2 x<0x80)->∀ t,oY (a++t)=a++oY t
 | [],_,_=>rfl
 |x::a,h,t=>by
  rw[bd,S5 _ (h x (by simp)),zG a (fun y hy=>h y (by simp[hy])) t];rfl
theorem xp(a:Bytes)(h:∀ x∈a,b2 x<0x80):oY a=a:=by
 have:=zG a h [];rw[aG]at this;rw[this,show oY []=[]from rfl,aG]
theorem nC:∀ (r:Bytes) (m k:Nat) (c lo hi:Int),0x80<=lo->∀ y∈r.take ((ct r m k c lo hi).2.1-k).toNat,0x80<=b2 y
 |r,0,k,c,lo,hi,_,y,hy=>by simp[ct]at hy
 | [],m+1,k,c,lo,hi,_,y,hy=>by simp at hy
 |x::r,m+1,k,c,lo,hi,h,y,hy=>by
  unfold ct at hy
  split at hy
  ·simp at hy
  have hle:=mP r m (k+1) (64*c+b2 x-0x80) 0x80 0xbf;obtain⟨j,hj⟩:∃ j:Nat,((ct r m (k+1) (64*c+b2 x-0x80) 0x80 0xbf).2.1-k).toNat=j+1:=⟨((ct r m (k+1) (64*c+b2 x-0x80) 0x80 0xbf).2.1-k).toNat-1,by omega⟩;have ih:=nC r m (k+1) (64*c+b2 x-0x80) 0x80 0xbf (by omega) y;rw[hj,cY,aj]at hy;rcases hy with rfl|hy
  ·omega
  refine ih ?_;have:((ct r m (k+1) (64*c+b2 x-0x80) 0x80 0xbf).2.1-((k+1:Nat):Int)).toNat=j:=by omega
  rw[this];exact hy
theorem Hh{x:UInt8}(r:Bytes)(h:0x80<=b2 x):∀ y∈(x::r).take (dL (x::r)),0x80<=b2 y:=by
 intro y hy;have hn:=nB x r;obtain⟨j,hj⟩:∃ j:Nat,dL (x::r)=j+1:=⟨dL (x::r)-1,by omega⟩;have hj2:j=((dZ (x::r)).2.1-((1:Nat):Int)).toNat:=by omega
 rw[hj,cY,aj]at hy;rcases hy with rfl|hy
 ·exact h
 rw[hj2]at hy;revert hy;simp only[dZ]
 have hl1:¬ (dY (b2 x)).1=1:=by
  intro h1;revert h1;unfold dY;rw[if_neg (by omega)]
  repeat (first|split|simp)
 rw[if_neg hl1];by_cases h0:(dY (b2 x)).1=0
 ·rw[if_pos h0];simp
 rw[if_neg h0];have hb:=(RY _ hl1 h0).1
 split
 ·exact nC _ _ _ _ _ _ hb y
 split
 iterate 2
  ·exact nC _ _ _ _ _ _ hb y
theorem fB{x y:UInt8}(h:b2 x=b2 y):x=y:=by
 unfold b2 at h;exact fH.mp (by omega)
end
end Go.Proofs.YtmndlfglgcioeaaGreatDoor
