/- text's Decode. -/
import Derived.Shelf.Spec.DecodeRune
import Derived.Test.YtmndlfglgcioeaaGreatDoorEGTextD
import Derived.Test.YtmndlfglgcioeaaGreatDoorEGBld
set_option maxHeartbeats 40000000
namespace Go.Proofs.YtmndlfglgcioeaaGreatDoor
open Tryz
open Go.RowKit
set_option maxRecDepth 10000
def up(w:World):Prop:=Lib.Utf8Tabs 0 1 w
theorem up.below{w w':World}(h:up w)(hb:Below w.heap.size w w'):up w':=Utf8Tabs_below h hb
def dr(l:Bytes):Nat×Nat:=Utf8.decode (bs l) 0
theorem AW(l:Bytes)(k:Nat):((bs l).get! k).toNat=(l[k]?.getD 0).toNat:=by
 have:(bs l).get! k=l[k]?.getD 0:=by
  show(l.toArray)[k]! = _;simp[List.getElem!_toArray,List.getElem!_eq_getElem?_getD];rfl
 rw[this]
theorem tN(l:Bytes):dr l=Lib.decodeN l.length (l[0]?.getD 0).toNat (l[1]?.getD 0).toNat (l[2]?.getD 0).toNat (l[3]?.getD 0).toNat:=by
 unfold dr;rw[Lib.decode_at,aM];simp only[bC,qj,AW]
theorem oF(x:UInt8)(r:Bytes):1<=(dr (x::r)).2∧(dr (x::r)).2<=r.length+1:=by
 rw[tN];unfold Lib.decodeN
 repeat' split
 all_goals simp only[ag]at *
 all_goals omega
theorem vE(x:UInt8)(r:Bytes)(b o cap:Nat)(w:World)(hT:up w)(h:At w b o (Lib.byteCells (x::r))) :
  bN prog 48 #[.slice (some ⟨b,o,none⟩) (x::r).length cap] w (.tuple #[.int .i32 ((dr (x::r)).1:Int),.int .i64 ((dr (x::r)).2:Int)]):=by
 have hd:=Any7.utf8_DecodeRune laysDR (bs (x::r)) b o cap w hT (fun j hj=>by
  have h1:=h j (by simpa[Lib.byteCells]using hj);rw[h1];have e:=AW (x::r) j;rw[e];have hj':j<(x::r).length:=by simpa using hj
  rw[aJ hj'];simp only[Lib.byteCells,cR];rfl)
 rw[aM]at hd
 have e:Lib.decodeGo (bs (x::r))=dr (x::r):=by
  unfold Lib.decodeGo;rw[if_neg (by rw[aM];simp)];rfl
 rw[e]at hd;exact hd
def tL:Nat->Bytes->Bytes
 |0,_=>[]
 |_,[]=>[]
 |f+1,x::r =>
  if(dr (x::r)).1=65533∧(dr (x::r)).2=1 then [0xef,0xbf,0xbd]++tL f ((x::r).drop (nc (x::r)))
  else(x::r).take (dr (x::r)).2++tL f ((x::r).drop (dr (x::r)).2)
def kJ(l:Bytes):Bytes:=tL l.length l
theorem ni(f:Nat)(x:UInt8)(r:Bytes):tL (f+1) (x::r)=if(dr (x::r)).1=65533∧(dr (x::r)).2=1 then [0xef,0xbf,0xbd]++tL f ((x::r).drop (nc (x::r)))
  else(x::r).take (dr (x::r)).2++tL f ((x::r).drop (dr (x::r)).2):=rfl
theorem nj:∀ (f g:Nat) (l:Bytes),l.length<=f->l.length<=g->tL f l=tL g l
 |0,g,l,h,_=>by
  obtain rfl:l=[]:=ak (by omega);cases g <;>rfl
 |f+1,0,l,_,h=>by
  obtain rfl:l=[]:=ak (by omega);rfl
 |f+1,g+1,[],_,_=>rfl
 |f+1,g+1,x::r,h,h'=>by
  have hn:=oF x r;have hb:=uW x r;rw[ag]at h h';have hd:((x::r).drop (dr (x::r)).2).length<=r.length:=by rw[ah,ag];omega
  have hd2:((x::r).drop (nc (x::r))).length<=r.length:=by rw[ah,ag];omega
  rw[ni,ni,nj f g _ (by omega) (by omega),nj f g _ (by omega) (by omega)]
theorem Dh:kJ []=[]:=rfl
theorem decT_bad{x:UInt8}{r:Bytes}(h:(dr (x::r)).1=65533∧(dr (x::r)).2=1):kJ (x::r)=[0xef,0xbf,0xbd]++kJ ((x::r).drop (nc (x::r))):=by
 have hb:=uW x r;have hd2:((x::r).drop (nc (x::r))).length<=r.length:=by rw[ah,ag];omega
 unfold kJ;rw[ag,ni,if_pos h,nj r.length _ _ hd2 (af _)]
theorem decT_ok{x:UInt8}{r:Bytes}(h:¬ ((dr (x::r)).1=65533∧(dr (x::r)).2=1)):kJ (x::r)=(x::r).take (dr (x::r)).2++kJ ((x::r).drop (dr (x::r)).2):=by
 have hn:=oF x r;have hd:((x::r).drop (dr (x::r)).2).length<=r.length:=by rw[ah,ag];omega
 unfold kJ;rw[ag,ni,if_neg h,nj r.length _ _ hd (af _)]
theorem oD:∀ (n:Nat) (l:Bytes),l.length<=n->(kJ l).length<=3*l.length
 |_,[],_=>by simp[Dh]
 |0,x::r,h=>by simp at h
 |n+1,x::r,h=>by
  have hn:=oF x r;have hb:=uW x r;rw[ag]at h;have hd:((x::r).drop (dr (x::r)).2).length=r.length+1-(dr (x::r)).2:=by rw[ah,ag]
  have hd2:((x::r).drop (nc (x::r))).length=r.length+1-nc (x::r):=by rw[ah,ag]
  by_cases hc:(dr (x::r)).1=65533∧(dr (x::r)).2=1
  ·have:=oD n _ (show((x::r).drop (nc (x::r))).length<=n by omega)
   rw[decT_bad hc,ae,ag];simp only[ag,aN];omega
  have:=oD n _ (show((x::r).drop (dr (x::r)).2).length<=n by omega);rw[decT_ok hc,ae,ag,aE,ag];omega
theorem Gk(l:Bytes):(dr l).1<2147483648:=by
 rw[tN];have h0:=(l[0]?.getD 0).toNat_lt;unfold Lib.decodeN
 repeat' split
 all_goals simp only
 all_goals omega
theorem BS(l0:Bytes)(bb o0 c0:Nat)(w:World)(hbb:bb<w.heap.size)(hl0:l0.length<=1024000000)(a4I:l0.length<=c0)(hcm0:c0<=maxLen)(hat:At w bb o0 (Lib.byteCells l0))(hT:up w) :
  Calls prog 20 #[.slice (some ⟨bb,o0,none⟩) l0.length c0] w fun e w'=>Vd w (kJ l0) e w':=by
 obtain⟨i8,tT,Ch,mK,n9⟩:=info_parts j8;obtain⟨L0,hL0⟩:=az (l0.length);rw[<-hL0]at hl0 a4I ⊢;have HL0:=h_ hL0;clear hL0;obtain⟨T,Uo⟩:=az (kJ l0);rw[<-Uo];have UX:=h_ Uo;clear Uo;have HT:=h_ hT;clear hT;have HAT:=h_ hat;clear hat;go_enter func20,ntmps20
 go_wp2
 go_loopw [0] (fun b wr=>∃ (l acc:Bytes) (o c:Nat) (g:Option Nat),b=.slice (some ⟨bb,o,none⟩) l.length c∧l.length<=c∧c<=maxLen∧At wr bb o (Lib.byteCells l) ∧
   tD w.heap.size g acc wr∧(∀k,g=some k->w.heap.size<k)∧acc++kJ l=T∧acc.length+3*l.length<=4096000000∧Below w.heap.size w wr) (fun b _=>G6 b)
 case atStart =>
  have hL:=HL0.out;exact⟨l0,[],o0,c0,none,by rw[hL],by rw[<-hL];exact a4I,hcm0,(HAT.out).keep (Below.heap_alloc _ _ _ hbb),tD.fresh w,by simp,by rw[bJ];exact UX.out.symm,by rw[<-hL];simp;omega,(Below.refl _ _).alloc (af _) _⟩
 case round =>
  obtain⟨l,acc,o,c,g,rfl,hlc,hcm,hA,hbd,hg,hacc,hlen,hbel⟩:=hrel;have HA:=h_ hA;clear hA;have HD:=h_ hbd;clear hbd;have HG:=h_ hg;clear hg;have HB:=h_ hbel;clear hbel;have HC:=h_ hacc;clear hacc;cases l with
  |nil =>
   simp only[aN];have hstr:=lM w.heap.size HD.out (af _) (fun k hk=>by have:=HG.out k hk;omega);have hT':acc=T:=by have:=HC.out;rwa [Dh,aG]at this
   rw[hT']at hstr;clear hT';have HS:=h_ hstr;clear hstr
   go_wp2_with (go_at_call 52;refine(HS.out).mono ?_;rintro e w1 ⟨rfl,hb1⟩;have HB1:=h_ hb1;clear hb1)
   go_ret;exact⟨rfl,HB.out.trans HB1.out⟩
  |cons x r =>
   have hdr:=vE x r bb o c wr ((HT.out).below HB.out) HA.out;have hn:=oF x r;have hbn:=uW x r;have hbg:=yx (x::r) c bb o;obtain⟨rn,sz,hD⟩:∃ rn sz,dr (x::r)=(rn,sz):=⟨_,_,rfl⟩;have hbad:=@decT_bad x r;have hok:=@decT_ok x r;have hrl:=Gk (x::r);rw[hD]at hdr hn hbad hok hrl;simp only at hdr hn hbad hok hrl;clear hD;obtain⟨nb,hnb⟩:=az (nc (x::r));rw[<-hnb]at hbad hbn hbg;clear hnb;obtain⟨hn1,hn2⟩:=hn;obtain⟨b3s,a9f⟩:=hbn;have HBAD:=h_ hbad;clear hbad;have OM:=h_ hok;clear hok;obtain⟨L,hL⟩:=az ((x::r).length);have hLr:L=r.length+1:=hL;rw[<-hL]at hlc hlen hdr hbg ⊢;have HL:=h_ hL;clear hL;have HDR:=h_ hdr;clear hdr;have HBG:=h_ hbg;clear hbg;have DT:sz<=L:=by omega
   have a4t:nb<=L:=by omega
   have hL0:0<L:=by omega
   clear hLr hn2 a9f;have hcm':L<=maxLen:=by omega
   obtain⟨o',ho',hcut⟩:=xK (P:=prog) underlying50 tT mK bb o L c sz DT hlc;obtain⟨o'',a4P,tS⟩:=xK (P:=prog) underlying50 tT mK bb o L c nb a4t hlc;have HO':=h_ ho';clear ho';have a7W:=h_ a4P;clear a4P;have YC:∀ w1,Below wr.heap.size wr w1->At w1 bb o (Lib.byteCells (x::r)):=fun w1 h=>(HA.out).keep (h.block bb (by have:=HB.out.size;omega));have OU:=h_ YC;clear YC;by_cases hc:rn=65533∧sz=1
   ·have hb:=HBAD.out hc
    have qy:=h_ hb;clear hb;have e1:((rn:Int)==65533)=true:=by simp;omega
    have e2:((sz:Int)==1)=true:=by simp;omega
    clear hc;clear OM
    have step:∀ w1 w2,Below wr.heap.size wr w1->FJ w1 w.heap.size g (acc++[0xef,0xbf,0xbd]) w2 ->
      At w2 bb o (Lib.byteCells (x::r))∧Below w.heap.size w w2∧∃ g',tD w.heap.size g' (acc++[0xef,0xbf,0xbd]) w2∧∀ k,g'=some k->w.heap.size<k:=by
     rintro w1 w2 h1 ⟨g',a1,a2,a3⟩;have hb0:=(HD.out).lt;have hs1:=h1.size;have hg:=HG.out;refine⟨(OU.out w1 h1).keep (a3.block bb (by omega) ?_),(HB.out.trans (h1.mono (by omega))).trans (a3.below (by omega) ?_),g',a1,?_⟩
     ·rintro(h|h)
      ·omega
      have:=hg _ h;omega
     ·rintro k (h|h)
      ·omega
      have:=hg _ h;omega
     intro k hk;rcases a2 with h|⟨k',h,h'⟩
     ·exact hg k (h▸hk)
     rw[h]at hk;injection hk with hk;omega
    have STEP:=h_ step;clear step
    go_wp2_with (first|(go_at_call 48;refine(HDR.out).mono ?_;rintro e w1 ⟨rfl,hb1⟩;have HB1:=h_ hb1;clear hb1)|(go_at_call 49;go_must (refine(iT [0xef,0xbf,0xbd] ((HD.out).below HB1.out) (by simp;omega)).mono ?_);rintro e w2 ⟨rfl,hrb⟩;have uK:=h_ hrb;clear hrb;obtain⟨hA2,hB2,g2,hD2,hg2⟩:=STEP.out _ _ HB1.out uK.out;have HA2:=h_ hA2;clear hA2;have HB2:=h_ hB2;clear hB2;have HD2:=h_ hD2;clear hD2;have HG2:=h_ hg2;clear hg2)|(go_at_call 50;go_must (refine(HBG.out _ hcm' hL0 HA2.out).mono ?_);rintro e w' ⟨rfl,rfl⟩))
    go_roundw
    case rel =>
     have hL:=HL.out;refine⟨(x::r).drop nb,acc++[0xef,0xbf,0xbd],o'',c-nb,g2,by rw[ah,<-hL],by rw[ah,<-hL];omega,by omega,?_,HD2.out,HG2.out,?_,?_,HB2.out⟩
     ·exact At.from' HA2.out (by rw[<-hL];exact hlc) a7W.out
     ·rw[aT,<-qy.out];exact HC.out
     rw[ae,ah,<-hL];simp only[ag,aN];omega
    case measure=>simp[G6];omega
   have hb:=OM.out hc;have qy:=h_ hb;clear hb;have b1g:=lw (P:=prog) underlying50 tT bb o L c sz (by omega)
   have step:∀ w1 w2,Below wr.heap.size wr w1->FJ w1 w.heap.size g (acc++(x::r).take sz) w2 ->
     At w2 bb o (Lib.byteCells (x::r))∧Below w.heap.size w w2∧∃ g',tD w.heap.size g' (acc++(x::r).take sz) w2∧∀ k,g'=some k->w.heap.size<k:=by
    rintro w1 w2 h1 ⟨g',a1,a2,a3⟩;have hb0:=(HD.out).lt;have hs1:=h1.size;have hg:=HG.out;refine⟨(OU.out w1 h1).keep (a3.block bb (by omega) ?_),(HB.out.trans (h1.mono (by omega))).trans (a3.below (by omega) ?_),g',a1,?_⟩
    ·rintro(h|h)
     ·omega
     have:=hg _ h;omega
    ·rintro k (h|h)
     ·omega
     have:=hg _ h;omega
    intro k hk;rcases a2 with h|⟨k',h,h'⟩
    ·exact hg k (h▸hk)
    rw[h]at hk;injection hk with hk;omega
   have STEP:=h_ step;clear step
   have slx:∀ w1,Below wr.heap.size wr w1->Sl w.heap.size w1 (.slice (some ⟨bb,o,none⟩) sz c) (Lib.byteCells ((x::r).take sz)):=by
    intro w1 h1;have hl:(Lib.byteCells ((x::r).take sz)).length=sz:=by rw[Lib.byteCells_length,aE,<-HL.out];omega
    refine⟨c,by omega,hcm,.inr ⟨bb,o,hbb,by rw[hl],fun j hj=>?_⟩⟩;rw[hl]at hj;have:=OU.out w1 h1 j (by rw[Lib.byteCells_length,<-HL.out];omega);rw[this];simp[Lib.byteCells]
   have SLX:=h_ slx;clear slx;have hlt3:acc.length+((x::r).take sz).length<=1099511627776:=by rw[aE];omega
   have a7R:=h_ hlt3;clear hlt3;clear HBAD
   have hsplit:(((rn:Int)==65533)=true∧((sz:Int)==1)=false)∨((rn:Int)==65533)=false:=by
    by_cases h1:rn=65533
    ·exact .inl ⟨by simp;omega,by simp;omega⟩
    exact .inr (by simp;omega)
   clear hc;rcases hsplit with⟨e1,e2⟩|e1
   all_goals
    go_wp2_with (first|(go_at_call 48;refine(HDR.out).mono ?_;rintro e w1 ⟨rfl,hb1⟩;have HB1:=h_ hb1;clear hb1)|(go_at_call 51;go_must (refine(F6 ((x::r).take sz) _ w.heap.size (SLX.out _ HB1.out) (af _) ((HD.out).below HB1.out) a7R.out).mono ?_);rintro e w2 ⟨rfl,hrb⟩;have uK:=h_ hrb;clear hrb))
    obtain⟨hA2,hB2,g2,hD2,hg2⟩:=STEP.out _ _ HB1.out uK.out;go_roundw
    case rel =>
     have hL:=HL.out;refine⟨(x::r).drop sz,acc++(x::r).take sz,o',c-sz,g2,by rw[ah,<-hL],by rw[ah,<-hL];omega,by omega,?_,hD2,hg2,?_,?_,hB2⟩
     ·exact At.from' hA2 (by rw[<-hL];exact hlc) HO'.out
     ·rw[aT,<-qy.out];exact HC.out
     rw[ae,ah,aE,<-hL];omega
    case measure=>simp[G6];omega
theorem vF(l:Bytes)(v:Value)(w:World)(h:Sl w.heap.size w v (Lib.byteCells l))(hl:l.length<=1024000000)(hT:up w) :
  Calls prog 20 #[v] w fun e w'=>Vd w (kJ l) e w':=by
 obtain⟨c,hc,hm,h⟩:=h;rcases h with⟨hn,a,rfl⟩|⟨b,o,hb,rfl,ha⟩
 ·obtain rfl:l=[]:=by simpa[Lib.byteCells]using hn
  have hstr:=fun W h=>lM (b:=w.heap.size) (g:=none) (l:=[]) (w:=W) w.heap.size h (af _) (fun k hk=>by cases hk);have hfr:=tD.fresh w;have HS:=h_ hstr;clear hstr;have HF:=h_ hfr;clear hfr hT;go_enter func20,ntmps20
  go_wp2
  refine wp_loop_rounds 1 ?_;rw[rounds_succ]
  go_wp2_with (go_at_call 52;refine(HS.out _ HF.out).mono ?_;rintro e w1 ⟨rfl,hb1⟩;have HB1:=h_ hb1;clear hb1)
  go_ret;exact⟨rfl,((Below.refl _ _).alloc (af _) _).trans HB1.out⟩
 rw[Lib.byteCells_length]at hc ⊢;exact BS l b o c w hb hl hc hm ha hT
end Go.Proofs.YtmndlfglgcioeaaGreatDoor
