/- text's Decode. -/
import Derived.Shelf.Spec.DecodeRune
import Derived.Test.YtajblocgpkpmeaaGreatDoorSGIdnB
import Derived.Test.YtajblocgpkpmeaaGreatDoorSGBld
set_option maxHeartbeats 40000000
namespace Go.Proofs.YtajblocgpkpmeaaGreatDoor
open Tryz
open Go.RowKit
set_option maxRecDepth 10000
def uL(w:H):Prop:=Lib.Utf8Tabs 2 3 w
theorem uL.below{w a:H}(h:uL w)(U:r7 w a):uL a:=Utf8Tabs_below h U
def dr(l:O):Nat×Nat:=Utf8.decode (E l) 0
theorem Ab(l:O)(k:Nat):((E l).get! k).toNat=(l[k]?.getD 0).toNat:=by
 have:(E l).get! k=l[k]?.getD 0:=by
  show(l.toArray)[k]! = _;simp[List.getElem!_toArray,List.getElem!_eq_getElem?_getD];rfl
 rw[this]
theorem td(l:O):dr l=Lib.decodeN l.length (l[0]?.getD 0).toNat (l[1]?.getD 0).toNat (l[2]?.getD 0).toNat (l[3]?.getD 0).toNat:=by
 unfold dr;rw[Lib.decode_at,aF];simp only[bM,pA,Ab]
theorem nV(x:UInt8)(r:O):1<=(dr (x::r)).2/\(dr (x::r)).2<=r.length+1:=by
 rw[td];unfold Lib.decodeN
 repeat' split
 all_goals simp only[cz]at *
 all_goals omega
theorem a0H(x:UInt8)(r:O)(b o cap:Nat)(w:H)(d:uL w)(h:At w b o (Lib.byteCells (x::r))) :
  bF prog 113 #[.slice (some ⟨b,o,none⟩) (x::r).length cap] w (.tuple #[.int .i32 ((dr (x::r)).1:Int),.int .i64 ((dr (x::r)).2:Int)]):=by
 have hd:=Any7.utf8_DecodeRune laysDR (E (x::r)) b o cap w d (λj c=>by
  have Y:=h j (by simpa[Lib.byteCells]using c);rw[Y];have e:=Ab (x::r) j;rw[e];have a:j<(x::r).length:=by simpa using c
  rw[aG a];simp only[Lib.byteCells,cU];rfl)
 rw[aF]at hd
 have e:Lib.decodeGo (E (x::r))=dr (x::r):=by
  unfold Lib.decodeGo;rw[if_neg (by rw[aF];simp)];rfl
 rw[e]at hd;exact hd
def s9:Nat->O->O
 |0,_=>[]
 |_,[]=>[]
 |f+1,x::r =>
  if(dr (x::r)).1=65533/\(dr (x::r)).2=1 then [0xef,0xbf,0xbd]++s9 f ((x::r).drop (ml (x::r)))
  else(x::r).take (dr (x::r)).2++s9 f ((x::r).drop (dr (x::r)).2)
def kz(l:O):O:=s9 l.length l
theorem b6Z(f:Nat)(x:UInt8)(r:O):s9 (f+1) (x::r)=if(dr (x::r)).1=65533/\(dr (x::r)).2=1 then [0xef,0xbf,0xbd]++s9 f ((x::r).drop (ml (x::r)))
  else(x::r).take (dr (x::r)).2++s9 f ((x::r).drop (dr (x::r)).2):=rfl
theorem mx:∀ (f g:Nat) (l:O),l.length<=f->l.length<=g->s9 f l=s9 g l
 |0,g,l,h,_=>by
  obtain rfl:l=[]:=az M0;cases g <;>rfl
 |f+1,0,l,_,h=>by
  obtain rfl:l=[]:=az M0;rfl
 |f+1,g+1,[],_,_=>rfl
 |f+1,g+1,x::r,h,a=>by
  have hn:=nV x r;have U:=um x r;rw[cz]at h a;have hd:((x::r).drop (dr (x::r)).2).length<=r.length:=by rw[aj,cz];omega
  have hd2:((x::r).drop (ml (x::r))).length<=r.length:=by rw[aj,cz];omega
  rw[b6Z,b6Z,mx f g _ M0 M0,mx f g _ M0 M0]
theorem Ca:kz []=[]:=rfl
theorem decT_bad{x:UInt8}{r:O}(h:(dr (x::r)).1=65533/\(dr (x::r)).2=1):kz (x::r)=[0xef,0xbf,0xbd]++kz ((x::r).drop (ml (x::r))):=by
 have U:=um x r;have a:((x::r).drop (ml (x::r))).length<=r.length:=by rw[aj,cz];omega
 unfold kz;rw[cz,b6Z,if_pos h,mx r.length _ _ a (ag _)]
theorem decT_ok{x:UInt8}{r:O}(h:¬ ((dr (x::r)).1=65533/\(dr (x::r)).2=1)):kz (x::r)=(x::r).take (dr (x::r)).2++kz ((x::r).drop (dr (x::r)).2):=by
 have hn:=nV x r;have hd:((x::r).drop (dr (x::r)).2).length<=r.length:=by rw[aj,cz];omega
 unfold kz;rw[cz,b6Z,if_neg h,mx r.length _ _ hd (ag _)]
theorem nT:∀ (n:Nat) (l:O),l.length<=n->(kz l).length<=3*l.length
 |_,[],_=>by simp[Ca]
 |0,x::r,h=>by simp at h
 |n+1,x::r,h=>by
  have hn:=nV x r;have U:=um x r;rw[cz]at h;have hd:((x::r).drop (dr (x::r)).2).length=r.length+1-(dr (x::r)).2:=by rw[aj,cz]
  have hd2:((x::r).drop (ml (x::r))).length=r.length+1-ml (x::r):=by rw[aj,cz]
  by_cases a:(dr (x::r)).1=65533/\(dr (x::r)).2=1
  ·have:=nT n _ (show((x::r).drop (ml (x::r))).length<=n by omega)
   rw[decT_bad a,ae,cz];simp only[cz,aO];omega
  have:=nT n _ (show((x::r).drop (dr (x::r)).2).length<=n by omega);rw[decT_ok a,ae,cz,aD,cz];omega
theorem Fs(l:O):(dr l).1<2147483648:=by
 rw[td];have h0:=(l[0]?.getD 0).toNat_lt;unfold Lib.decodeN
 repeat' split
 all_goals simp only
 all_goals omega
theorem AY(M:O)(d o0 c0:Nat)(w:H)(hbb:d<w.heap.size)(hl0:M.length<=1024000000)(W:M.length<=c0)(hcm0:c0<=maxLen)(hat:At w d o0 (Lib.byteCells M))(hT:uL w) :
  Calls prog 70 #[.slice (some ⟨d,o0,none⟩) M.length c0] w λe w'=>TW w (kz M) e w':=by
 obtain⟨i8,tA,Bl,lK,nC⟩:=info_parts jn;obtain⟨L0,p⟩:=V (M.length);rw[<-p]at hl0 W ⊢;have HL0:=F p;clear p;obtain⟨T,Tb⟩:=V (kz M);rw[<-Tb];have TL:=F Tb;clear Tb;have HT:=F hT;clear hT;have HAT:=F hat;clear hat;go_enter func70,ntmps70
 go_wp2
 go_loopw [0] (λb wr=>∃ (l acc:O) (o c:Nat) (g:Option Nat),b=.slice (some ⟨d,o,none⟩) l.length c/\l.length<=c/\c<=maxLen/\At wr d o (Lib.byteCells l) /\
   sR w.heap.size g acc wr/\(∀k,g=some k->w.heap.size<k)/\acc++kz l=T/\acc.length+3*l.length<=4096000000/\r7 w wr) (λb _=>Gm b)
 case atStart =>
  have f:=HL0.o;exact⟨M,[],o0,c0,none,by rw[f],by rw[<-f];exact W,hcm0,(HAT.o).keep (Below.heap_alloc _ _ _ hbb),sR.fresh w,Oc,by rw[f9];exact TL.o.symm,by rw[<-f];simp;omega,(Below.refl _ _).alloc (ag _) _⟩
 case round =>
  obtain⟨l,acc,o,c,g,rfl,t,hcm,hA,hbd,v,hacc,hlen,hbel⟩:=hrel;have HA:=F hA;clear hA;have Q:=F hbd;clear hbd;have HG:=F v;clear v;have HB:=F hbel;clear hbel;have HC:=F hacc;clear hacc;cases l with
  |nil =>
   simp only[aO];have hstr:=kX w.heap.size Q.o (ag _) (λk s=>by have:=HG.o k s;omega);have hT':acc=T:=by have:=HC.o;rwa [Ca,aV]at this
   rw[hT']at hstr;clear hT';have HS:=F hstr;clear hstr
   go_wp2_with (go_at_call 43;refine(HS.o).m ?_;rintro e w1 ⟨rfl,n⟩;have i:=F n;clear n)
   go_ret;exact⟨rfl,HB.o.trans i.o⟩
  |cons x r =>
   have q:=a0H x r d o c wr ((HT.o).below HB.o) HA.o;have hn:=nV x r;have hbn:=um x r;have D:=xC (x::r) c d o;obtain⟨rn,a,hD⟩:∃ rn a,dr (x::r)=(rn,a):=⟨_,_,rfl⟩;have hbad:=@decT_bad x r;have K:=@decT_ok x r;have hrl:=Fs (x::r);rw[hD]at q hn hbad K hrl;simp only at q hn hbad K hrl;clear hD;obtain⟨nb,hnb⟩:=V (ml (x::r));rw[<-hnb]at hbad hbn D;clear hnb;obtain⟨hn1,hn2⟩:=hn;obtain⟨b4p,a9q⟩:=hbn;have HBAD:=F hbad;clear hbad;have Kd:=F K;clear K;obtain⟨L,f⟩:=V ((x::r).length);have hLr:L=r.length+1:=f;rw[<-f]at t hlen q D ⊢;have HL:=F f;clear f;have R:=F q;clear q;have HBG:=F D;clear D;have CN:a<=L:=M0;have a33:nb<=L:=M0;have p:0<L:=M0;clear hLr hn2 a9q;have hcm':L<=maxLen:=M0;obtain⟨o',ho',hcut⟩:=wK (P:=prog) underlying46 tA lK d o L c a CN t;obtain⟨o'',a4s,ts⟩:=wK (P:=prog) underlying46 tA lK d o L c nb a33 t;have HO':=F ho';clear ho';have a7P:=F a4s;clear a4s;have XU:∀ w1,r7 wr w1->At w1 d o (Lib.byteCells (x::r)):=λw1 h=>(HA.o).keep (h.block d (by have:=HB.o.size;omega));have NB:=F XU;clear XU;by_cases hc:rn=65533/\a=1
   ·have U:=HBAD.o hc
    have pN:=F U;clear U;have e1:((rn:Int)==65533)=true:=by simp;omega
    have e2:((a:Int)==1)=true:=by simp;omega
    clear hc;clear Kd
    have step:∀ w1 w2,r7 wr w1->EM w1 w.heap.size g (acc++[0xef,0xbf,0xbd]) w2 ->
      At w2 d o (Lib.byteCells (x::r))/\r7 w w2/\∃ y,sR w.heap.size y (acc++[0xef,0xbf,0xbd]) w2/\∀ k,y=some k->w.heap.size<k:=by
     rintro w1 w2 Y ⟨y,a1,a2,a3⟩;have hb0:=(Q.o).lt;have hs1:=Y.size;have v:=HG.o;refine⟨(NB.o w1 Y).keep (a3.block d M0 ?_),(HB.o.trans (Y.m M0)).trans (a3.below M0 ?_),y,a1,?_⟩
     ·rintro(h|h)
      ·omega
      have:=v _ h;omega
     ·rintro k (h|h)
      ·omega
      have:=v _ h;omega
     intro k s;rcases a2 with h|⟨k',h,h'⟩
     ·exact v k (h▸s)
     rw[h]at s;injection s with s;omega
    have STEP:=F step;clear step
    go_wp2_with (first|(go_at_call 113;refine(R.o).m ?_;rintro e w1 ⟨rfl,n⟩;have i:=F n;clear n)|(go_at_call 37;go_must (refine(py [0xef,0xbf,0xbd] ((Q.o).below i.o) (by simp;omega)).m ?_);rintro e w2 ⟨rfl,u⟩;have xo:=F u;clear u;obtain⟨z,B,g2,C,J⟩:=STEP.o _ _ i.o xo.o;have N:=F z;clear z;have HB2:=F B;clear B;have HD2:=F C;clear C;have HG2:=F J;clear J)|(go_at_call 114;go_must (refine(HBG.o _ hcm' p N.o).m ?_);rintro e w' ⟨rfl,rfl⟩))
    go_roundw
    case rel =>
     have f:=HL.o;refine⟨(x::r).drop nb,acc++[0xef,0xbf,0xbd],o'',c-nb,g2,by rw[aj,<-f],by rw[aj,<-f];omega,M0,?_,HD2.o,HG2.o,?_,?_,HB2.o⟩
     ·exact At.from' N.o (by rw[<-f];exact t) a7P.o
     ·rw[bB,<-pN.o];exact HC.o
     rw[ae,aj,<-f];simp only[cz,aO];omega
    case measure=>simp[Gm];omega
   have U:=Kd.o hc;have pN:=F U;clear U;have b16:=kI (P:=prog) underlying46 tA d o L c a M0
   have step:∀ w1 w2,r7 wr w1->EM w1 w.heap.size g (acc++(x::r).take a) w2 ->
     At w2 d o (Lib.byteCells (x::r))/\r7 w w2/\∃ y,sR w.heap.size y (acc++(x::r).take a) w2/\∀ k,y=some k->w.heap.size<k:=by
    rintro w1 w2 Y ⟨y,a1,a2,a3⟩;have hb0:=(Q.o).lt;have hs1:=Y.size;have v:=HG.o;refine⟨(NB.o w1 Y).keep (a3.block d M0 ?_),(HB.o.trans (Y.m M0)).trans (a3.below M0 ?_),y,a1,?_⟩
    ·rintro(h|h)
     ·omega
     have:=v _ h;omega
    ·rintro k (h|h)
     ·omega
     have:=v _ h;omega
    intro k s;rcases a2 with h|⟨k',h,h'⟩
    ·exact v k (h▸s)
    rw[h]at s;injection s with s;omega
   have STEP:=F step;clear step
   have slx:∀ w1,r7 wr w1->Sl w.heap.size w1 (.slice (some ⟨d,o,none⟩) a c) (Lib.byteCells ((x::r).take a)):=by
    intro w1 Y;have hl:(Lib.byteCells ((x::r).take a)).length=a:=by rw[Lib.byteCells_length,aD,<-HL.o];omega
    refine⟨c,M0,hcm,.inr ⟨d,o,hbb,by rw[hl],λj hj=>?_⟩⟩;rw[hl]at hj;have:=NB.o w1 Y j (by rw[Lib.byteCells_length,<-HL.o];omega);rw[this];simp[Lib.byteCells]
   have SLX:=F slx;clear slx;have hlt3:acc.length+((x::r).take a).length<=1099511627776:=by rw[aD];omega
   have a7J:=F hlt3;clear hlt3;clear HBAD
   have hsplit:(((rn:Int)==65533)=true/\((a:Int)==1)=false)\/((rn:Int)==65533)=false:=by
    by_cases Y:rn=65533
    ·exact .inl ⟨by simp;omega,by simp;omega⟩
    exact .inr (by simp;omega)
   clear hc;rcases hsplit with⟨e1,e2⟩|e1
   all_goals
    go_wp2_with (first|(go_at_call 113;refine(R.o).m ?_;rintro e w1 ⟨rfl,n⟩;have i:=F n;clear n)|(go_at_call 115;go_must (refine(Fb ((x::r).take a) _ w.heap.size (SLX.o _ i.o) (ag _) ((Q.o).below i.o) a7J.o).m ?_);rintro e w2 ⟨rfl,u⟩;have xo:=F u;clear u))
    obtain⟨z,B,g2,C,J⟩:=STEP.o _ _ i.o xo.o;go_roundw
    case rel =>
     have f:=HL.o;refine⟨(x::r).drop a,acc++(x::r).take a,o',c-a,g2,by rw[aj,<-f],by rw[aj,<-f];omega,M0,?_,C,J,?_,?_,B⟩
     ·exact At.from' z (by rw[<-f];exact t) HO'.o
     ·rw[bB,<-pN.o];exact HC.o
     rw[ae,aj,aD,<-f];omega
    case measure=>simp[Gm];omega
theorem a08(l:O)(v:Z)(w:H)(h:Sl w.heap.size w v (Lib.byteCells l))(t:l.length<=1024000000)(j:uL w) :
  Calls prog 70 #[v] w λe x=>TW w (kz l) e x:=by
 obtain⟨c,n,hm,h⟩:=h;rcases h with⟨u,a,rfl⟩|⟨b,o,U,rfl,r⟩
 ·obtain rfl:l=[]:=by simpa[Lib.byteCells]using u
  have hstr:=λW h=>kX (b:=w.heap.size) (g:=none) (l:=[]) (w:=W) w.heap.size h (ag _) (λk s=>by cases s);have f:=sR.fresh w;have q:=F hstr;clear hstr;have p:=F f;clear f j;go_enter func70,ntmps70
  go_wp2
  refine wp_loop_rounds 1 ?_;rw[rounds_succ]
  go_wp2_with (go_at_call 43;refine(q.o _ p.o).m ?_;rintro e w1 ⟨rfl,d⟩;have i:=F d;clear d)
  go_ret;exact⟨rfl,((Below.refl _ _).alloc (ag _) _).trans i.o⟩
 rw[Lib.byteCells_length]at n ⊢;exact AY l b o c w U t n hm r j
