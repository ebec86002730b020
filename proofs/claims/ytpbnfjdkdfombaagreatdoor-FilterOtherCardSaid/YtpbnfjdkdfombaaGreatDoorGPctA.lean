/- Joined texts. -/
import Derived.Shelf.Spec.DecodeRune
import Derived.Test.YtpbnfjdkdfombaaGreatDoorGGlu
import Derived.Test.YtpbnfjdkdfombaaGreatDoorGBld
set_option maxHeartbeats 40000000
namespace Go.Proofs.YtpbnfjdkdfombaaGreatDoor
open Tryz
open Go.RowKit
set_option maxRecDepth 10000
def uL(w:H):Prop:=Lib.Utf8Tabs 1 2 w
theorem uL.below{w w':H}(h:uL w)(U:r7 w w'):uL w':=Utf8Tabs_below h U
def dr(l:O):Nat×Nat:=Utf8.decode (E l) 0
theorem Ab(l:O)(k:Nat):((E l).get! k).toNat=(l[k]?.getD 0).toNat:=by
 have:(E l).get! k=l[k]?.getD 0:=by
  show(l.toArray)[k]! = _;simp[List.getElem!_toArray,List.getElem!_eq_getElem?_getD];rfl
 rw[this]
theorem td(l:O):dr l=Lib.decodeN l.length (l[0]?.getD 0).toNat (l[1]?.getD 0).toNat (l[2]?.getD 0).toNat (l[3]?.getD 0).toNat:=by
 unfold dr;rw[Lib.decode_at,aF];simp only[bM,pA,Ab]
theorem nV(x:UInt8)(r:O):1<=(dr (x::r)).2/\(dr (x::r)).2<=r.length+1:=by
 rw[td];unfold Lib.decodeN
 repeat' split
 all_goals simp only[ah]at *
 all_goals omega
theorem a0H(x:UInt8)(r:O)(b o cap:Nat)(w:H)(hT:uL w)(h:At w b o (Lib.byteCells (x::r))) :
  bF prog 95 #[.slice (some ⟨b,o,none⟩) (x::r).length cap] w (.tuple #[.int .i32 ((dr (x::r)).1:Int),.int .i64 ((dr (x::r)).2:Int)]):=by
 have hd:=Any7.utf8_DecodeRune laysDR (E (x::r)) b o cap w hT (λj hj=>by
  have Y:=h j (by simpa[Lib.byteCells]using hj);rw[Y];have e:=Ab (x::r) j;rw[e];have hj':j<(x::r).length:=by simpa using hj
  rw[aG hj'];simp only[Lib.byteCells,cU];rfl)
 rw[aF]at hd
 have e:Lib.decodeGo (E (x::r))=dr (x::r):=by
  unfold Lib.decodeGo;rw[if_neg (by rw[aF];simp)];rfl
 rw[e]at hd;exact hd
def s9:Nat->O->O
 |0,_=>[]
 |_,[]=>[]
 |f+1,x::r =>
  if(dr (x::r)).1=65533/\(dr (x::r)).2=1 then [0xef,0xbf,0xbd]++s9 f ((x::r).drop (ml (x::r)))
  else(x::r).take (dr (x::r)).2++s9 f ((x::r).drop (dr (x::r)).2)
def kz(l:O):O:=s9 l.length l
theorem mw(f:Nat)(x:UInt8)(r:O):s9 (f+1) (x::r)=if(dr (x::r)).1=65533/\(dr (x::r)).2=1 then [0xef,0xbf,0xbd]++s9 f ((x::r).drop (ml (x::r)))
  else(x::r).take (dr (x::r)).2++s9 f ((x::r).drop (dr (x::r)).2):=rfl
theorem mx:∀ (f g:Nat) (l:O),l.length<=f->l.length<=g->s9 f l=s9 g l
 |0,g,l,h,_=>by
  obtain rfl:l=[]:=az M0;cases g <;>rfl
 |f+1,0,l,_,h=>by
  obtain rfl:l=[]:=az M0;rfl
 |f+1,g+1,[],_,_=>rfl
 |f+1,g+1,x::r,h,h'=>by
  have hn:=nV x r;have U:=um x r;rw[ah]at h h';have hd:((x::r).drop (dr (x::r)).2).length<=r.length:=by rw[aj,ah];omega
  have hd2:((x::r).drop (ml (x::r))).length<=r.length:=by rw[aj,ah];omega
  rw[mw,mw,mx f g _ M0 M0,mx f g _ M0 M0]
theorem Ca:kz []=[]:=rfl
theorem decT_bad{x:UInt8}{r:O}(h:(dr (x::r)).1=65533/\(dr (x::r)).2=1):kz (x::r)=[0xef,0xbf,0xbd]++kz ((x::r).drop (ml (x::r))):=by
 have U:=um x r;have hd2:((x::r).drop (ml (x::r))).length<=r.length:=by rw[aj,ah];omega
 unfold kz;rw[ah,mw,if_pos h,mx r.length _ _ hd2 (ag _)]
theorem decT_ok{x:UInt8}{r:O}(h:¬ ((dr (x::r)).1=65533/\(dr (x::r)).2=1)):kz (x::r)=(x::r).take (dr (x::r)).2++kz ((x::r).drop (dr (x::r)).2):=by
 have hn:=nV x r;have hd:((x::r).drop (dr (x::r)).2).length<=r.length:=by rw[aj,ah];omega
 unfold kz;rw[ah,mw,if_neg h,mx r.length _ _ hd (ag _)]
theorem nT:∀ (n:Nat) (l:O),l.length<=n->(kz l).length<=3*l.length
 |_,[],_=>by simp[Ca]
 |0,x::r,h=>by simp at h
 |n+1,x::r,h=>by
  have hn:=nV x r;have U:=um x r;rw[ah]at h;have hd:((x::r).drop (dr (x::r)).2).length=r.length+1-(dr (x::r)).2:=by rw[aj,ah]
  have hd2:((x::r).drop (ml (x::r))).length=r.length+1-ml (x::r):=by rw[aj,ah]
  by_cases hc:(dr (x::r)).1=65533/\(dr (x::r)).2=1
  ·have:=nT n _ (show((x::r).drop (ml (x::r))).length<=n by omega)
   rw[decT_bad hc,ae,ah];simp only[ah,aO];omega
  have:=nT n _ (show((x::r).drop (dr (x::r)).2).length<=n by omega);rw[decT_ok hc,ae,ah,aD,ah];omega
theorem Fs(l:O):(dr l).1<2147483648:=by
 rw[td];have h0:=(l[0]?.getD 0).toNat_lt;unfold Lib.decodeN
 repeat' split
 all_goals simp only
 all_goals omega
theorem AY(l0:O)(bb o0 c0:Nat)(w:H)(hbb:bb<w.heap.size)(hl0:l0.length<=1024000000)(a4m:l0.length<=c0)(hcm0:c0<=maxLen)(hat:At w bb o0 (Lib.byteCells l0))(hT:uL w) :
  Calls prog 58 #[.slice (some ⟨bb,o0,none⟩) l0.length c0] w λe w'=>TW w (kz l0) e w':=by
 obtain⟨i8,tA,Bl,lK,nC⟩:=info_parts jn;obtain⟨L0,hL0⟩:=V (l0.length);rw[<-hL0]at hl0 a4m ⊢;have HL0:=F hL0;clear hL0;obtain⟨T,Tb⟩:=V (kz l0);rw[<-Tb];have TL:=F Tb;clear Tb;have HT:=F hT;clear hT;have HAT:=F hat;clear hat;go_enter func58,ntmps58
 go_wp2
 go_loopw [0] (λb wr=>∃ (l acc:O) (o c:Nat) (g:Option Nat),b=.slice (some ⟨bb,o,none⟩) l.length c/\l.length<=c/\c<=maxLen/\At wr bb o (Lib.byteCells l) /\
   sR w.heap.size g acc wr/\(∀k,g=some k->w.heap.size<k)/\acc++kz l=T/\acc.length+3*l.length<=4096000000/\r7 w wr) (λb _=>Gm b)
 case atStart =>
  have hL:=HL0.o;exact⟨l0,[],o0,c0,none,by rw[hL],by rw[<-hL];exact a4m,hcm0,(HAT.o).keep (Below.heap_alloc _ _ _ hbb),sR.fresh w,Oc,by rw[dg];exact TL.o.symm,by rw[<-hL];simp;omega,(Below.refl _ _).alloc (ag _) _⟩
 case round =>
  obtain⟨l,acc,o,c,g,rfl,hlc,hcm,hA,hbd,hg,hacc,hlen,hbel⟩:=hrel;have HA:=F hA;clear hA;have HD:=F hbd;clear hbd;have HG:=F hg;clear hg;have HB:=F hbel;clear hbel;have HC:=F hacc;clear hacc;cases l with
  |nil =>
   simp only[aO];have hstr:=kX w.heap.size HD.o (ag _) (λk hk=>by have:=HG.o k hk;omega);have hT':acc=T:=by have:=HC.o;rwa [Ca,aV]at this
   rw[hT']at hstr;clear hT';have HS:=F hstr;clear hstr
   go_wp2_with (go_at_call 73;refine(HS.o).m ?_;rintro e w1 ⟨rfl,hb1⟩;have HB1:=F hb1;clear hb1)
   go_ret;exact⟨rfl,HB.o.trans HB1.o⟩
  |cons x r =>
   have hdr:=a0H x r bb o c wr ((HT.o).below HB.o) HA.o;have hn:=nV x r;have hbn:=um x r;have hbg:=xC (x::r) c bb o;obtain⟨rn,sz,hD⟩:∃ rn sz,dr (x::r)=(rn,sz):=⟨_,_,rfl⟩;have hbad:=@decT_bad x r;have hok:=@decT_ok x r;have hrl:=Fs (x::r);rw[hD]at hdr hn hbad hok hrl;simp only at hdr hn hbad hok hrl;clear hD;obtain⟨nb,hnb⟩:=V (ml (x::r));rw[<-hnb]at hbad hbn hbg;clear hnb;obtain⟨hn1,hn2⟩:=hn;obtain⟨b4p,a9q⟩:=hbn;have HBAD:=F hbad;clear hbad;have Kd:=F hok;clear hok;obtain⟨L,hL⟩:=V ((x::r).length);have hLr:L=r.length+1:=hL;rw[<-hL]at hlc hlen hdr hbg ⊢;have HL:=F hL;clear hL;have HDR:=F hdr;clear hdr;have HBG:=F hbg;clear hbg;have CN:sz<=L:=M0;have a33:nb<=L:=M0;have hL0:0<L:=M0;clear hLr hn2 a9q;have hcm':L<=maxLen:=M0;obtain⟨o',ho',hcut⟩:=wK (P:=prog) underlying25 tA lK bb o L c sz CN hlc;obtain⟨o'',a4s,ts⟩:=wK (P:=prog) underlying25 tA lK bb o L c nb a33 hlc;have HO':=F ho';clear ho';have a7P:=F a4s;clear a4s;have XU:∀ w1,r7 wr w1->At w1 bb o (Lib.byteCells (x::r)):=λw1 h=>(HA.o).keep (h.block bb (by have:=HB.o.size;omega));have NB:=F XU;clear XU;by_cases hc:rn=65533/\sz=1
   ·have U:=HBAD.o hc
    have pN:=F U;clear U;have e1:((rn:Int)==65533)=true:=by simp;omega
    have e2:((sz:Int)==1)=true:=by simp;omega
    clear hc;clear Kd
    have step:∀ w1 w2,r7 wr w1->EM w1 w.heap.size g (acc++[0xef,0xbf,0xbd]) w2 ->
      At w2 bb o (Lib.byteCells (x::r))/\r7 w w2/\∃ g',sR w.heap.size g' (acc++[0xef,0xbf,0xbd]) w2/\∀ k,g'=some k->w.heap.size<k:=by
     rintro w1 w2 Y ⟨g',a1,a2,a3⟩;have hb0:=(HD.o).lt;have hs1:=Y.size;have hg:=HG.o;refine⟨(NB.o w1 Y).keep (a3.block bb M0 ?_),(HB.o.trans (Y.m M0)).trans (a3.below M0 ?_),g',a1,?_⟩
     ·rintro(h|h)
      ·omega
      have:=hg _ h;omega
     ·rintro k (h|h)
      ·omega
      have:=hg _ h;omega
     intro k hk;rcases a2 with h|⟨k',h,h'⟩
     ·exact hg k (h▸hk)
     rw[h]at hk;injection hk with hk;omega
    have STEP:=F step;clear step
    go_wp2_with (first|(go_at_call 95;refine(HDR.o).m ?_;rintro e w1 ⟨rfl,hb1⟩;have HB1:=F hb1;clear hb1)|(go_at_call 68;go_must (refine(gP [0xef,0xbf,0xbd] ((HD.o).below HB1.o) (by simp;omega)).m ?_);rintro e w2 ⟨rfl,hrb⟩;have xo:=F hrb;clear hrb;obtain⟨hA2,hB2,g2,hD2,hg2⟩:=STEP.o _ _ HB1.o xo.o;have HA2:=F hA2;clear hA2;have HB2:=F hB2;clear hB2;have HD2:=F hD2;clear hD2;have HG2:=F hg2;clear hg2)|(go_at_call 96;go_must (refine(HBG.o _ hcm' hL0 HA2.o).m ?_);rintro e w' ⟨rfl,rfl⟩))
    go_roundw
    case rel =>
     have hL:=HL.o;refine⟨(x::r).drop nb,acc++[0xef,0xbf,0xbd],o'',c-nb,g2,by rw[aj,<-hL],by rw[aj,<-hL];omega,M0,?_,HD2.o,HG2.o,?_,?_,HB2.o⟩
     ·exact At.from' HA2.o (by rw[<-hL];exact hlc) a7P.o
     ·rw[bB,<-pN.o];exact HC.o
     rw[ae,aj,<-hL];simp only[ah,aO];omega
    case measure=>simp[Gm];omega
   have U:=Kd.o hc;have pN:=F U;clear U;have b16:=kI (P:=prog) underlying25 tA bb o L c sz M0
   have step:∀ w1 w2,r7 wr w1->EM w1 w.heap.size g (acc++(x::r).take sz) w2 ->
     At w2 bb o (Lib.byteCells (x::r))/\r7 w w2/\∃ g',sR w.heap.size g' (acc++(x::r).take sz) w2/\∀ k,g'=some k->w.heap.size<k:=by
    rintro w1 w2 Y ⟨g',a1,a2,a3⟩;have hb0:=(HD.o).lt;have hs1:=Y.size;have hg:=HG.o;refine⟨(NB.o w1 Y).keep (a3.block bb M0 ?_),(HB.o.trans (Y.m M0)).trans (a3.below M0 ?_),g',a1,?_⟩
    ·rintro(h|h)
     ·omega
     have:=hg _ h;omega
    ·rintro k (h|h)
     ·omega
     have:=hg _ h;omega
    intro k hk;rcases a2 with h|⟨k',h,h'⟩
    ·exact hg k (h▸hk)
    rw[h]at hk;injection hk with hk;omega
   have STEP:=F step;clear step
   have slx:∀ w1,r7 wr w1->Sl w.heap.size w1 (.slice (some ⟨bb,o,none⟩) sz c) (Lib.byteCells ((x::r).take sz)):=by
    intro w1 Y;have hl:(Lib.byteCells ((x::r).take sz)).length=sz:=by rw[Lib.byteCells_length,aD,<-HL.o];omega
    refine⟨c,M0,hcm,.inr ⟨bb,o,hbb,by rw[hl],λj hj=>?_⟩⟩;rw[hl]at hj;have:=NB.o w1 Y j (by rw[Lib.byteCells_length,<-HL.o];omega);rw[this];simp[Lib.byteCells]
   have SLX:=F slx;clear slx;have hlt3:acc.length+((x::r).take sz).length<=1099511627776:=by rw[aD];omega
   have a7J:=F hlt3;clear hlt3;clear HBAD
   have hsplit:(((rn:Int)==65533)=true/\((sz:Int)==1)=false)\/((rn:Int)==65533)=false:=by
    by_cases Y:rn=65533
    ·exact .inl ⟨by simp;omega,by simp;omega⟩
    exact .inr (by simp;omega)
   clear hc;rcases hsplit with⟨e1,e2⟩|e1
   all_goals
    go_wp2_with (first|(go_at_call 95;refine(HDR.o).m ?_;rintro e w1 ⟨rfl,hb1⟩;have HB1:=F hb1;clear hb1)|(go_at_call 97;go_must (refine(Fb ((x::r).take sz) _ w.heap.size (SLX.o _ HB1.o) (ag _) ((HD.o).below HB1.o) a7J.o).m ?_);rintro e w2 ⟨rfl,hrb⟩;have xo:=F hrb;clear hrb))
    obtain⟨hA2,hB2,g2,hD2,hg2⟩:=STEP.o _ _ HB1.o xo.o;go_roundw
    case rel =>
     have hL:=HL.o;refine⟨(x::r).drop sz,acc++(x::r).take sz,o',c-sz,g2,by rw[aj,<-hL],by rw[aj,<-hL];omega,M0,?_,hD2,hg2,?_,?_,hB2⟩
     ·exact At.from' hA2 (by rw[<-hL];exact hlc) HO'.o
     ·rw[bB,<-pN.o];exact HC.o
     rw[ae,aj,aD,<-hL];omega
    case measure=>simp[Gm];omega
theorem a08(l:O)(v:Z)(w:H)(h:Sl w.heap.size w v (Lib.byteCells l))(hl:l.length<=1024000000)(hT:uL w) :
  Calls prog 58 #[v] w λe w'=>TW w (kz l) e w':=by
 obtain⟨c,hc,hm,h⟩:=h;rcases h with⟨hn,a,rfl⟩|⟨b,o,U,rfl,ha⟩
 ·obtain rfl:l=[]:=by simpa[Lib.byteCells]using hn
  have hstr:=λW h=>kX (b:=w.heap.size) (g:=none) (l:=[]) (w:=W) w.heap.size h (ag _) (λk hk=>by cases hk);have hfr:=sR.fresh w;have HS:=F hstr;clear hstr;have HF:=F hfr;clear hfr hT;go_enter func58,ntmps58
  go_wp2
  refine wp_loop_rounds 1 ?_;rw[rounds_succ]
  go_wp2_with (go_at_call 73;refine(HS.o _ HF.o).m ?_;rintro e w1 ⟨rfl,hb1⟩;have HB1:=F hb1;clear hb1)
  go_ret;exact⟨rfl,((Below.refl _ _).alloc (ag _) _).trans HB1.o⟩
 rw[Lib.byteCells_length]at hc ⊢;exact AY l b o c w U hl hc hm ha hT
end Go.Proofs.YtpbnfjdkdfombaaGreatDoor
set_option maxHeartbeats 40000000
namespace Go.Proofs.YtpbnfjdkdfombaaGreatDoor
open Tryz
open Go.RowKit
set_option maxRecDepth 10000
def iO(l:O)(c:Int):Bool:=l.any λx=>G x==c
def pJ(set:Int):O :=
 if set=1 then [32,34,60,62,96]else if set=2 then [32,34,35,60,62]else if set=3 then [32,34,35,60,62,39]else if set=4 then [32,34,35,60,62,63,94,96,123,125]
 else if set=5 then [32,34,35,60,62,63,94,96,123,125,47,58,59,61,64,91,92,93,124]
 else if set=6 then [32,34,35,60,62,63,94,96,123,125,47,58,59,61,64,91,92,93,124,36,37,38,43,44]else []
def jU(c:Int):Bool:=decide (c<32\/126<c)
def k6(set c:Int):Bool:=if set<0\/6<set then false else jU c||iO (pJ set) c
theorem oe:∀ (l:O) (x:UInt8),(0<=Lib.indexByte l x) ↔ iO l (G x)=true
 | [],x=>by simp[Lib.indexByte,iO]
 |y::l,x=>by
  have ih:=oe l x
  have hxy:(G y=G x) ↔ y=x:=by
   constructor
   ·intro h
    apply eZ.mp
    have Y:(y.toNat:Int)=x.toNat:=h;omega
   rintro rfl;rfl
  unfold Lib.indexByte;by_cases h:y=x
  ·subst h
   simp[iO]
  have I:(y==x)=false:=by simpa using h
  have h3:iO (y::l) (G x)=iO l (G x):=by
   have:(G y==G x)=false:=by simpa using λe=>h (hxy.mp e)
   simp[iO,this]
  rw[I,h3];simp only[eH,if_false];by_cases Y:Lib.indexByte l x=-1
  ·rw[<-ih,Y];simp
  have h4:(Lib.indexByte l x == -1)=false:=by simpa using Y
  rw[h4];simp only[eH,if_false];rw[<-ih]
  have:-1<=Lib.indexByte l x:=by
   clear ih Y h4 h3 I h hxy
   induction l with
   |nil=>simp[Lib.indexByte]
   |cons z l ih =>
    unfold Lib.indexByte
    split
    ·omega
    split
    ·omega
    omega
  omega
theorem lC(l:O)(c:Int)(h0:0<=c)(Y:c<256)(w:H):bP prog 213 #[.string (E l),.int .u8 c] w (.bool (iO l c)):=by
 obtain⟨x,rfl⟩:∃ x:UInt8,c=G x:=⟨UInt8.ofNat c.toNat,by simp[G];omega⟩;have hib:=λW=>Any.strings_IndexByte laysIB (E l) (G x) W;rw[show(E l).data.toList=l from cW l,show(G x).toNat.toUInt8=x by simp[G]]at hib;have FV:∀ W,bP prog 75 #[.string (E l),.int .u8 (G x)] W (.int .i64 (Lib.indexByte l x)):=hib;have hi:=oe l x;generalize Lib.indexByte l x=I' at FV hi;generalize iO l (G x)=a at hi ⊢;have HI:=F FV;clear FV hib h0 Y;have HA:=F hi;clear hi;go_enter func213,ntmps213
 go_wp2_with (first|(go_at_call 75;refine(HI.o _).m ?_;rintro e w2 ⟨rfl,hw2⟩;subst hw2))
 all_goals
  go_ret;refine⟨eA ?_,rfl⟩;have:=HA.o;cases a <;>simp_all

theorem pR(l m:O)(c:Int):iO (l++m) c=(iO l c||iO m c):=by simp[iO]
theorem Qn(c:Int) :
  k6 0 c=jU c/\k6 2 c=(iO [32,34,35,60,62] c||jU c) /\
  k6 4 c=(iO [63,94,96,123,125] c||(iO [32,34,35,60,62] c||jU c)) /\
  k6 5 c=(iO [47,58,59,61,64,91,92,93,124] c||(iO [63,94,96,123,125] c||(iO [32,34,35,60,62] c||jU c))) /\
  k6 6 c=(iO [36,37,38,43,44] c||(iO [47,58,59,61,64,91,92,93,124] c||(iO [63,94,96,123,125] c||(iO [32,34,35,60,62] c||jU c)))) /\
  k6 3 c=(decide (c=39)||k6 2 c)/\k6 1 c=(iO [32,34,60,62,96] c||k6 0 c):=by
 have e4:pJ 4=[32,34,35,60,62]++[63,94,96,123,125]:=rfl;have e5:pJ 5=([32,34,35,60,62]++[63,94,96,123,125])++[47,58,59,61,64,91,92,93,124]:=rfl;have e6:pJ 6=(([32,34,35,60,62]++[63,94,96,123,125])++[47,58,59,61,64,91,92,93,124])++[36,37,38,43,44]:=rfl;have e3:pJ 3=[32,34,35,60,62]++[39]:=rfl
 have e39:iO [39] c=decide (c=39):=by
  have:(G 39==c)=decide (c=39):=by
   by_cases h:c=39
   ·subst h;rfl
   have:(G 39==c)=false:=by simpa[G]using λe=>h e.symm
   simp[this,h]
  simp[iO,this]
 refine⟨?_,?_,?_,?_,?_,?_,?_⟩
 ·simp[k6,pJ,iO]
 ·show(if(2:Int)<0\/6<(2:Int)then false else jU c||iO [32,34,35,60,62] c)=_
  rw[if_neg M0,Bool.or_comm]
 ·show(if(4:Int)<0\/6<(4:Int)then false else jU c||iO (pJ 4) c)=_
  rw[if_neg M0,e4,pR];generalize jU c=a,iO [32,34,35,60,62] c=b,iO [63,94,96,123,125] c=d;revert a b d;decide
 ·show(if(5:Int)<0\/6<(5:Int)then false else jU c||iO (pJ 5) c)=_
  rw[if_neg M0,e5,pR,pR];generalize jU c=a,iO [32,34,35,60,62] c=b,iO [63,94,96,123,125] c=d,iO [47,58,59,61,64,91,92,93,124] c=e;revert a b d e;decide
 ·show(if(6:Int)<0\/6<(6:Int)then false else jU c||iO (pJ 6) c)=_
  rw[if_neg M0,e6,pR,pR,pR];generalize jU c=a,iO [32,34,35,60,62] c=b,iO [63,94,96,123,125] c=d,iO [47,58,59,61,64,91,92,93,124] c=e,iO [36,37,38,43,44] c=f;revert a b d e f;decide
 ·show(if(3:Int)<0\/6<(3:Int)then false else jU c||iO (pJ 3) c)=(_||if(2:Int)<0\/6<(2:Int)then false else jU c||iO [32,34,35,60,62] c)
  rw[if_neg M0,if_neg M0,e3,pR,e39];generalize jU c=a,iO [32,34,35,60,62] c=b,decide (c=39)=d;revert a b d;decide
 show(if(1:Int)<0\/6<(1:Int)then false else jU c||iO [32,34,60,62,96] c)=(_||if(0:Int)<0\/6<(0:Int)then false else jU c||iO [] c);rw[if_neg M0,if_neg M0];have:iO [] c=false:=rfl;rw[this];generalize jU c=a,iO [32,34,60,62,96] c=b;revert a b;decide
theorem Gf(set c:Int)(h0:0<=c)(Y:c<256)(hs:set=0\/set=2\/set=4\/set=5\/set=6)(w:H):bP prog 190 #[.int .i64 set,.int .u8 c] w (.bool (k6 set c)):=by
 obtain⟨i0,i2,i4,i5,i6,-,-⟩:=Qn c;obtain⟨A2,hA2⟩:=V (iO [32,34,35,60,62] c);obtain⟨A4,hA4⟩:=V (iO [63,94,96,123,125] c);obtain⟨A5,hA5⟩:=V (iO [47,58,59,61,64,91,92,93,124] c);obtain⟨A6,hA6⟩:=V (iO [36,37,38,43,44] c);rw[<-hA2]at i2;rw[<-hA2,<-hA4]at i4;rw[<-hA2,<-hA4,<-hA5]at i5;rw[<-hA2,<-hA4,<-hA5,<-hA6]at i6;have m2:Hid (∀W,bP prog 213 #[.string {data:=#[32,34,35,60,62]},.int .u8 c] W (.bool A2)):=F (λW=>by rw[hA2];exact lC [32,34,35,60,62] c h0 Y W);have m4:Hid (∀W,bP prog 213 #[.string {data:=#[63,94,96,123,125]},.int .u8 c] W (.bool A4)):=F (λW=>by rw[hA4];exact lC [63,94,96,123,125] c h0 Y W);have m5:Hid (∀W,bP prog 213 #[.string {data:=#[47,58,59,61,64,91,92,93,124]},.int .u8 c] W (.bool A5)):=F (λW=>by rw[hA5];exact lC [47,58,59,61,64,91,92,93,124] c h0 Y W);have m6:Hid (∀W,bP prog 213 #[.string {data:=#[36,37,38,43,44]},.int .u8 c] W (.bool A6)):=F (λW=>by rw[hA6];exact lC [36,37,38,43,44] c h0 Y W);clear hA2 hA4 hA5 hA6
 have hct:(c<32/\jU c=true)\/(¬c<32/\126<c/\jU c=true)\/(¬c<32/\¬ 126<c/\jU c=false):=by
  unfold jU;by_cases a:c<32
  ·simp[a]
  by_cases b:126<c
  ·simp[a,b]
  simp[a,b]
 obtain⟨C,hC⟩:=V (jU c);rw[<-hC]at i0 i2 i4 i5 i6 hct;clear hC;obtain⟨F',hF⟩:=V (k6 set c);rw[<-hF];obtain h|h|h|h|h:=hs
 all_goals
  subst h
  first|rw[i0]at hF|rw[i2]at hF|rw[i4]at hF|rw[i5]at hF|rw[i6]at hF
  clear i0 i2 i4 i5 i6;obtain⟨hc,rfl⟩|⟨hc,hc2,rfl⟩|⟨hc,hc2,rfl⟩:=hct
  all_goals
   have HF:=F hF;clear hF;go_enter func190,ntmps190
   go_wp2_with (first|(go_at_call 213;(with_reducible first|refine(m6.o _).m ?_|refine(m5.o _).m ?_|refine(m4.o _).m ?_|refine(m2.o _).m ?_);rintro e w2 ⟨rfl,hw2⟩;subst hw2))
   all_goals
    go_ret;refine⟨eA ?_,rfl⟩;have:=HF.o;simp_all

def np(c:Int):Bool:=decide (c=0\/c=9\/c=10\/c=13\/c=32\/c=35\/c=47\/c=58\/c=60\/c=62\/c=63\/c=64\/c=91\/c=92\/c=93\/c=94\/c=124)
theorem Im(c:Int)(w:H):bP prog 211 #[.int .u8 c] w (.bool (np c)):=by
 go_enter func211,ntmps211;go_wp2_with fail
 all_goals
  go_ret;refine⟨eA ?_,rfl⟩;unfold np
  first
   |(rw[eq_comm,decide_eq_true_eq];omega)
   |(rw[eq_comm,decide_eq_false_iff_not];simp_all;done)
   |(simp_all;done)

theorem VT(set c:Int)(h0:0<=c)(Y:c<256)(w:H):bP prog 190 #[.int .i64 set,.int .u8 c] w (.bool (k6 set c)):=by
 obtain⟨-,-,-,-,-,i3,i1⟩:=Qn c;by_cases hs:set=0\/set=2\/set=4\/set=5\/set=6
 ·exact Gf set c h0 Y hs w
 by_cases h3:set=3
 ·subst h3
  clear hs i1;have m2:Hid (∀W,bP prog 190 #[.int .i64 2,.int .u8 c] W (.bool (k6 2 c))):=F<|λW=>Gf 2 c h0 Y Oc W;generalize k6 3 c=F' at i3 ⊢;generalize k6 2 c=G' at i3 m2;by_cases hc:c=39
  ·subst hc
   simp at i3;subst i3;go_enter func190,ntmps190
   go_wp2_with (first|(go_at_call 190;(with_reducible refine(m2.o _).m ?_);rintro e w2 ⟨rfl,hw2⟩;subst hw2))
   all_goals
    go_ret
    try exact⟨rfl,rfl⟩
  have hd:decide (c=39)=false:=by simpa using hc
  rw[hd,Bool.false_or]at i3;subst i3;clear hd;go_enter func190,ntmps190
  go_wp2_with (first|(go_at_call 190;(with_reducible refine(m2.o _).m ?_);rintro e w2 ⟨rfl,hw2⟩;subst hw2))
  all_goals
   go_ret
   first
   |exact⟨rfl,rfl⟩
   |(refine⟨eA ?_,rfl⟩;simp[hc])
 by_cases h3:set=1
 ·subst h3
  clear hs i3;have m2:Hid (∀W,bP prog 190 #[.int .i64 0,.int .u8 c] W (.bool (k6 0 c))):=F<|λW=>Gf 0 c h0 Y Oc W;obtain⟨A',hA⟩:=V (iO [32,34,60,62,96] c);rw[<-hA]at i1;have m1:Hid (∀W,bP prog 213 #[.string {data:=#[32,34,60,62,96]},.int .u8 c] W (.bool A')):=F (λW=>by rw[hA];exact lC [32,34,60,62,96] c h0 Y W);generalize k6 1 c=F' at i1 ⊢;generalize k6 0 c=G' at i1 m2;clear hA;cases A'
  iterate 2
   ·simp at i1
    subst i1;go_enter func190,ntmps190
    go_wp2_with (first|(go_at_call 213;(with_reducible refine(m1.o _).m ?_);rintro e w2 ⟨rfl,hw2⟩;subst hw2)|(go_at_call 190;(with_reducible refine(m2.o _).m ?_);rintro e w2 ⟨rfl,hw2⟩;subst hw2))
    all_goals
     go_ret
     try exact⟨rfl,rfl⟩
 have hF:k6 set c=false:=by
  unfold k6;rw[if_pos M0]
 rw[hF];have n6:¬ set=6:=M0;have n5:¬ set=5:=M0;have n4:¬ set=4:=M0;have n2:¬ set=2:=M0;have n0:¬ set=0:=M0;have n3:¬ set=3:=M0;have n1:¬ set=1:=M0;clear hs hF i3 i1;go_enter func190,ntmps190;go_wp2_with fail
 all_goals
  go_ret
  try exact⟨rfl,rfl⟩
