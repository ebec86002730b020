/- text's Decode. -/
import Derived.Shelf.Spec.DecodeRune
import Derived.Test.YtmndlfglgcioeaaGreatDoorGTextD
import Derived.Test.YtmndlfglgcioeaaGreatDoorGBld
set_option maxHeartbeats 40000000
namespace Go.Proofs.YtmndlfglgcioeaaGreatDoor
open Tryz
open Go.RowKit
set_option maxRecDepth 10000
def rx (w:World):Prop:=Lib.Utf8Tabs 0 1 w
theorem rx.below {w w':World} (h:rx w) (hb:Below w.heap.size w w'):rx w':=Utf8Tabs_below h hb
def dr (l:Bytes):Nat×Nat:=Utf8.decode (bs l) 0
theorem xJ (l:Bytes) (k:Nat):((bs l).get! k).toNat=(l[k]?.getD 0).toNat:=by
 have:(bs l).get! k=l[k]?.getD 0:=by
  show(l.toArray)[k]! = _
  simp[List.getElem!_toArray,List.getElem!_eq_getElem?_getD]
  rfl
 rw[this]
theorem qY (l:Bytes):dr l=Lib.decodeN l.length (l[0]?.getD 0).toNat (l[1]?.getD 0).toNat (l[2]?.getD 0).toNat (l[3]?.getD 0).toNat:=by
 unfold dr
 rw[Lib.decode_at,aB]
 simp only[bk,nG,xJ]
theorem ml (x:UInt8) (r:Bytes):1<=(dr (x::r)).2∧(dr (x::r)).2<=r.length+1:=by
 rw[qY]
 unfold Lib.decodeN
 repeat' split
 all_goals simp only[ag]at *
 all_goals omega
theorem sD (x:UInt8) (r:Bytes) (b o cap:Nat) (w:World) (hT:rx w) (h:At w b o (Lib.byteCells (x::r))) :
  Calls prog 48 #[.slice (some ⟨b,o,none⟩) (x::r).length cap] w fun e w'=>e=.returned (.tuple #[.int .i32 ((dr (x::r)).1:Int),.int .i64 ((dr (x::r)).2:Int)])∧Below w.heap.size w w':=by
 have hd:=Any7.utf8_DecodeRune laysDR (bs (x::r)) b o cap w hT (fun j hj=>by
  have h1:=h j (by simpa[Lib.byteCells]using hj)
  rw[h1]
  have e:=xJ (x::r) j
  rw[e]
  have hj':j<(x::r).length:=by simpa using hj
  rw[az hj']
  simp only[Lib.byteCells,bQ]
  rfl)
 rw[aB]at hd
 have e:Lib.decodeGo (bs (x::r))=dr (x::r):=by
  unfold Lib.decodeGo
  rw[if_neg (by rw[aB];simp)]
  rfl
 rw[e]at hd
 exact hd
def qW:Nat->Bytes->Bytes
 |0,_=>[]
 |_,[]=>[]
 |f+1,x::r =>
  if(dr (x::r)).1=65533∧(dr (x::r)).2=1 then [0xef,0xbf,0xbd]++qW f ((x::r).drop (kQ (x::r)))
  else(x::r).take (dr (x::r)).2++qW f ((x::r).drop (dr (x::r)).2)
def jH (l:Bytes):Bytes:=qW l.length l
theorem kV (f:Nat) (x:UInt8) (r:Bytes):qW (f+1) (x::r)=if(dr (x::r)).1=65533∧(dr (x::r)).2=1 then [0xef,0xbf,0xbd]++qW f ((x::r).drop (kQ (x::r)))
  else(x::r).take (dr (x::r)).2++qW f ((x::r).drop (dr (x::r)).2):=rfl
theorem kW:∀ (f g:Nat) (l:Bytes),l.length<=f->l.length<=g->qW f l=qW g l
 |0,g,l,h,_=>by
  obtain rfl:l=[]:=am (by omega)
  cases g <;>rfl
 |f+1,0,l,_,h=>by
  obtain rfl:l=[]:=am (by omega)
  rfl
 |f+1,g+1,[],_,_=>rfl
 |f+1,g+1,x::r,h,h'=>by
  have hn:=ml x r
  have hb:=rO x r
  rw[ag]at h h'
  have hd:((x::r).drop (dr (x::r)).2).length<=r.length:=by rw[ai,ag];omega
  have hd2:((x::r).drop (kQ (x::r))).length<=r.length:=by rw[ai,ag];omega
  rw[kV,kV,kW f g _ (by omega) (by omega),kW f g _ (by omega) (by omega)]
theorem zj:jH []=[]:=rfl
theorem decT_bad {x:UInt8} {r:Bytes} (h:(dr (x::r)).1=65533∧(dr (x::r)).2=1):jH (x::r)=[0xef,0xbf,0xbd]++jH ((x::r).drop (kQ (x::r))):=by
 have hb:=rO x r
 have hd2:((x::r).drop (kQ (x::r))).length<=r.length:=by rw[ai,ag];omega
 unfold jH
 rw[ag,kV,if_pos h,kW r.length _ _ hd2 (ae _)]
theorem decT_ok {x:UInt8} {r:Bytes} (h:¬ ((dr (x::r)).1=65533∧(dr (x::r)).2=1)):jH (x::r)=(x::r).take (dr (x::r)).2++jH ((x::r).drop (dr (x::r)).2):=by
 have hn:=ml x r
 have hd:((x::r).drop (dr (x::r)).2).length<=r.length:=by rw[ai,ag];omega
 unfold jH
 rw[ag,kV,if_neg h,kW r.length _ _ hd (ae _)]
theorem ks:∀ (n:Nat) (l:Bytes),l.length<=n->(jH l).length<=3*l.length
 |_,[],_=>by simp[zj]
 |0,x::r,h=>by simp at h
 |n+1,x::r,h=>by
  have hn:=ml x r
  have hb:=rO x r
  rw[ag]at h
  have hd:((x::r).drop (dr (x::r)).2).length=r.length+1-(dr (x::r)).2:=by rw[ai,ag]
  have hd2:((x::r).drop (kQ (x::r))).length=r.length+1-kQ (x::r):=by rw[ai,ag]
  by_cases hc:(dr (x::r)).1=65533∧(dr (x::r)).2=1
  ·have:=ks n _ (show((x::r).drop (kQ (x::r))).length<=n by omega)
   rw[decT_bad hc,af,ag]
   simp only[ag,aQ]
   omega
  have:=ks n _ (show((x::r).drop (dr (x::r)).2).length<=n by omega)
  rw[decT_ok hc,af,ag,aA,ag]
  omega
theorem BY (l:Bytes):(dr l).1<2147483648:=by
 rw[qY]
 have h0:=(l[0]?.getD 0).toNat_lt
 unfold Lib.decodeN
 repeat' split
 all_goals simp only
 all_goals omega
theorem yq (l0:Bytes) (bb o0 c0:Nat) (w:World) (hbb:bb<w.heap.size) (hl0:l0.length<=1024000000) (Zz:l0.length<=c0) (hcm0:c0<=maxLen) (hat:At w bb o0 (Lib.byteCells l0)) (hT:rx w) :
  Calls prog 20 #[.slice (some ⟨bb,o0,none⟩) l0.length c0] w fun e w'=>JP w (jH l0) e w':=by
 obtain⟨i8,q9,vJ,jK,ky⟩:=info_parts ly
 obtain⟨L0,hL0⟩:=ap (l0.length)
 rw[<-hL0]at hl0 Zz ⊢
 have HL0:=h_ hL0;clear hL0
 obtain⟨T,On⟩:=ap (jH l0)
 rw[<-On]
 have OW:=h_ On;clear On
 have HT:=h_ hT;clear hT
 have HAT:=h_ hat;clear hat
 go_enter func20,ntmps20
 go_wp2
 go_loopw [0] (fun b wr=>∃ (l acc:Bytes) (o c:Nat) (g:Option Nat),b=.slice (some ⟨bb,o,none⟩) l.length c∧l.length<=c∧c<=maxLen∧At wr bb o (Lib.byteCells l) ∧
   np w.heap.size g acc wr∧(∀k,g=some k->w.heap.size<k)∧acc++jH l=T∧acc.length+3*l.length<=4096000000∧Below w.heap.size w wr) (fun b _=>CT b)
 case atStart =>
  have hL:=HL0.out
  exact⟨l0,[],o0,c0,none,by rw[hL],by rw[<-hL];exact Zz,hcm0,(HAT.out).keep (Below.heap_alloc _ _ _ hbb),np.fresh w,by simp,by rw[bW];exact OW.out.symm,by rw[<-hL];simp;omega,(Below.refl _ _).alloc (ae _) _⟩
 case round =>
  obtain⟨l,acc,o,c,g,rfl,hlc,hcm,hA,hbd,hg,hacc,hlen,hbel⟩:=hrel
  have HA:=h_ hA;clear hA
  have HD:=h_ hbd;clear hbd
  have HG:=h_ hg;clear hg
  have HB:=h_ hbel;clear hbel
  have HC:=h_ hacc;clear hacc
  cases l with
  |nil =>
   simp only[aQ]
   have hstr:=jQ w.heap.size HD.out (ae _) (fun k hk=>by have:=HG.out k hk;omega)
   have hT':acc=T:=by have:=HC.out;rwa [zj,aV]at this
   rw[hT']at hstr
   clear hT'
   have HS:=h_ hstr;clear hstr
   go_wp2_with (go_at_call 52;refine(HS.out).mono ?_;rintro e w1 ⟨rfl,hb1⟩;have HB1:=h_ hb1;clear hb1)
   go_ret
   exact⟨rfl,HB.out.trans HB1.out⟩
  |cons x r =>
   have hdr:=sD x r bb o c wr ((HT.out).below HB.out) HA.out
   have hn:=ml x r
   have hbn:=rO x r
   have hbg:=uP (x::r) c bb o
   obtain⟨rn,sz,hD⟩:∃ rn sz,dr (x::r)=(rn,sz):=⟨_,_,rfl⟩
   have hbad:=@decT_bad x r
   have hok:=@decT_ok x r
   have hrl:=BY (x::r)
   rw[hD]at hdr hn hbad hok hrl
   simp only at hdr hn hbad hok hrl
   clear hD
   obtain⟨nb,hnb⟩:=ap (kQ (x::r))
   rw[<-hnb]at hbad hbn hbg
   clear hnb
   obtain⟨hn1,hn2⟩:=hn
   obtain⟨a8J,a3Y⟩:=hbn
   have HBAD:=h_ hbad;clear hbad
   have RH:=h_ hok;clear hok
   obtain⟨L,hL⟩:=ap ((x::r).length)
   have hLr:L=r.length+1:=hL
   rw[<-hL]at hlc hlen hdr hbg ⊢
   have HL:=h_ hL;clear hL
   have HDR:=h_ hdr;clear hdr
   have HBG:=h_ hbg;clear hbg
   have zX:sz<=L:=by omega
   have Zh:nb<=L:=by omega
   have hL0:0<L:=by omega
   clear hLr hn2 a3Y
   have hcm':L<=maxLen:=by omega
   obtain⟨o',ho',hcut⟩:=ug (P:=prog) underlying50 q9 jK bb o L c sz zX hlc
   obtain⟨o'',ZF,q8⟩:=ug (P:=prog) underlying50 q9 jK bb o L c nb Zh hlc
   have HO':=h_ ho';clear ho'
   have a2p:=h_ ZF;clear ZF
   have S9:∀ w1,Below wr.heap.size wr w1->At w1 bb o (Lib.byteCells (x::r)):=fun w1 h=>(HA.out).keep (h.block bb (by have:=HB.out.size;omega))
   have JM:=h_ S9;clear S9
   by_cases hc:rn=65533∧sz=1
   ·have hb:=HBAD.out hc
    have qR:=h_ hb;clear hb
    have e1:((rn:Int)==65533)=true:=by simp;omega
    have e2:((sz:Int)==1)=true:=by simp;omega
    clear hc
    clear RH
    have step:∀ w1 w2,Below wr.heap.size wr w1->Bm w1 w.heap.size g (acc++[0xef,0xbf,0xbd]) w2 ->
      At w2 bb o (Lib.byteCells (x::r))∧Below w.heap.size w w2∧∃ g',np w.heap.size g' (acc++[0xef,0xbf,0xbd]) w2∧∀ k,g'=some k->w.heap.size<k:=by
     rintro w1 w2 h1 ⟨g',a1,a2,a3⟩
     have hb0:=(HD.out).lt
     have hs1:=h1.size
     have hg:=HG.out
     refine⟨(JM.out w1 h1).keep (a3.block bb (by omega) ?_),(HB.out.trans (h1.mono (by omega))).trans (a3.below (by omega) ?_),g',a1,?_⟩
     ·rintro(h|h)
      ·omega
      have:=hg _ h;omega
     ·rintro k (h|h)
      ·omega
      have:=hg _ h;omega
     intro k hk
     rcases a2 with h|⟨k',h,h'⟩
     ·exact hg k (h▸hk)
     rw[h]at hk;injection hk with hk;omega
    have STEP:=h_ step;clear step
    go_wp2_with (first|(go_at_call 48;refine(HDR.out).mono ?_;rintro e w1 ⟨rfl,hb1⟩;have HB1:=h_ hb1;clear hb1)|(go_at_call 49;go_must (refine(iz [0xef,0xbf,0xbd] ((HD.out).below HB1.out) (by simp;omega)).mono ?_);rintro e w2 ⟨rfl,hrb⟩;have ru:=h_ hrb;clear hrb;obtain⟨hA2,hB2,g2,hD2,hg2⟩:=STEP.out _ _ HB1.out ru.out;have HA2:=h_ hA2;clear hA2;have HB2:=h_ hB2;clear hB2;have HD2:=h_ hD2;clear hD2;have HG2:=h_ hg2;clear hg2)|(go_at_call 50;go_must (refine(HBG.out _ hcm' hL0 HA2.out).mono ?_);rintro e w' ⟨rfl,rfl⟩))
    go_roundw
    case rel =>
     have hL:=HL.out
     refine⟨(x::r).drop nb,acc++[0xef,0xbf,0xbd],o'',c-nb,g2,by rw[ai,<-hL],by rw[ai,<-hL];omega,by omega,?_,HD2.out,HG2.out,?_,?_,HB2.out⟩
     ·exact At.from' HA2.out (by rw[<-hL];exact hlc) a2p.out
     ·rw[aX,<-qR.out];exact HC.out
     rw[af,ai,<-hL];simp only[ag,aQ];omega
    case measure=>simp[CT];omega
   have hb:=RH.out hc
   have qR:=h_ hb;clear hb
   have a6s:=jx (P:=prog) underlying50 q9 bb o L c sz (by omega)
   have step:∀ w1 w2,Below wr.heap.size wr w1->Bm w1 w.heap.size g (acc++(x::r).take sz) w2 ->
     At w2 bb o (Lib.byteCells (x::r))∧Below w.heap.size w w2∧∃ g',np w.heap.size g' (acc++(x::r).take sz) w2∧∀ k,g'=some k->w.heap.size<k:=by
    rintro w1 w2 h1 ⟨g',a1,a2,a3⟩
    have hb0:=(HD.out).lt
    have hs1:=h1.size
    have hg:=HG.out
    refine⟨(JM.out w1 h1).keep (a3.block bb (by omega) ?_),(HB.out.trans (h1.mono (by omega))).trans (a3.below (by omega) ?_),g',a1,?_⟩
    ·rintro(h|h)
     ·omega
     have:=hg _ h;omega
    ·rintro k (h|h)
     ·omega
     have:=hg _ h;omega
    intro k hk
    rcases a2 with h|⟨k',h,h'⟩
    ·exact hg k (h▸hk)
    rw[h]at hk;injection hk with hk;omega
   have STEP:=h_ step;clear step
   have slx:∀ w1,Below wr.heap.size wr w1->Sl w.heap.size w1 (.slice (some ⟨bb,o,none⟩) sz c) (Lib.byteCells ((x::r).take sz)):=by
    intro w1 h1
    have hl:(Lib.byteCells ((x::r).take sz)).length=sz:=by rw[Lib.byteCells_length,aA,<-HL.out];omega
    refine⟨c,by omega,hcm,.inr ⟨bb,o,hbb,by rw[hl],fun j hj=>?_⟩⟩
    rw[hl]at hj
    have:=JM.out w1 h1 j (by rw[Lib.byteCells_length,<-HL.out];omega)
    rw[this]
    simp[Lib.byteCells]
   have SLX:=h_ slx;clear slx
   have hlt3:acc.length+((x::r).take sz).length<=1099511627776:=by rw[aA];omega
   have a2m:=h_ hlt3;clear hlt3
   clear HBAD
   have hsplit:(((rn:Int)==65533)=true∧((sz:Int)==1)=false)∨((rn:Int)==65533)=false:=by
    by_cases h1:rn=65533
    ·exact .inl ⟨by simp;omega,by simp;omega⟩
    exact .inr (by simp;omega)
   clear hc
   rcases hsplit with⟨e1,e2⟩|e1
   all_goals
    go_wp2_with (first|(go_at_call 48;refine(HDR.out).mono ?_;rintro e w1 ⟨rfl,hb1⟩;have HB1:=h_ hb1;clear hb1)|(go_at_call 51;go_must (refine(BH ((x::r).take sz) _ w.heap.size (SLX.out _ HB1.out) (ae _) ((HD.out).below HB1.out) a2m.out).mono ?_);rintro e w2 ⟨rfl,hrb⟩;have ru:=h_ hrb;clear hrb))
    obtain⟨hA2,hB2,g2,hD2,hg2⟩:=STEP.out _ _ HB1.out ru.out
    go_roundw
    case rel =>
     have hL:=HL.out
     refine⟨(x::r).drop sz,acc++(x::r).take sz,o',c-sz,g2,by rw[ai,<-hL],by rw[ai,<-hL];omega,by omega,?_,hD2,hg2,?_,?_,hB2⟩
     ·exact At.from' hA2 (by rw[<-hL];exact hlc) HO'.out
     ·rw[aX,<-qR.out];exact HC.out
     rw[af,ai,aA,<-hL];omega
    case measure=>simp[CT];omega
theorem nW (l:Bytes) (v:Value) (w:World) (h:Sl w.heap.size w v (Lib.byteCells l)) (hl:l.length<=1024000000) (hT:rx w) :
  Calls prog 20 #[v] w fun e w'=>JP w (jH l) e w':=by
 obtain⟨c,hc,hm,h⟩:=h
 rcases h with⟨hn,a,rfl⟩|⟨b,o,hb,rfl,ha⟩
 ·obtain rfl:l=[]:=by simpa[Lib.byteCells]using hn
  have hstr:=fun W h=>jQ (b:=w.heap.size) (g:=none) (l:=[]) (w:=W) w.heap.size h (ae _) (fun k hk=>by cases hk)
  have hfr:=np.fresh w
  have HS:=h_ hstr;clear hstr
  have HF:=h_ hfr;clear hfr hT
  go_enter func20,ntmps20
  go_wp2
  refine wp_loop_rounds 1 ?_
  rw[rounds_succ]
  go_wp2_with (go_at_call 52;refine(HS.out _ HF.out).mono ?_;rintro e w1 ⟨rfl,hb1⟩;have HB1:=h_ hb1;clear hb1)
  go_ret
  exact⟨rfl,((Below.refl _ _).alloc (ae _) _).trans HB1.out⟩
 rw[Lib.byteCells_length]at hc ⊢
 exact yq l b o c w hb hl hc hm ha hT
end Go.Proofs.YtmndlfglgcioeaaGreatDoor
