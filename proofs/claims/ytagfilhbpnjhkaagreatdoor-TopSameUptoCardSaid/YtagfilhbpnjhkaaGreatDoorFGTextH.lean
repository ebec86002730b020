import Derived.Shelf.Spec.DecodeRune
import Derived.Test.YtagfilhbpnjhkaaGreatDoorFGIdnB
import Derived.Test.YtagfilhbpnjhkaaGreatDoorFGBld
set_option maxRecDepth 10000
set_option maxHeartbeats 0
namespace Go.Proofs.Q
open Tryz Go.RowKit
def uL(w:H):Prop:=Lib.Utf8Tabs 1 2 w
theorem uL.below{w a:H}(h:uL w)(U:r7 w a):uL a:=Utf8Tabs_below h U
def dr(l:O):Nat×Nat:=Utf8.decode (E l) 0
theorem Ab(l:O)(k:Nat):((E l).get! k).toNat=(l[k]?.getD 0).toNat:=by
 have:(E l).get! k=l[k]?.getD 0:=by
  show(l.toArray)[k]! = _;simp[List.getElem!_toArray,List.getElem!_eq_getElem?_getD];rfl
 rw[this]
theorem td(l:O):dr l=Lib.decodeN l.length (l[0]?.getD 0).toNat (l[1]?.getD 0).toNat (l[2]?.getD 0).toNat (l[3]?.getD 0).toNat:=by
 unfold dr;rw[Lib.decode_at,aF];simp only[bM,pA,Ab]
theorem nV(x:UInt8)(r:O):1<=(dr (x::r)).2/\(dr (x::r)).2<=r.length+1:=by
 rw[td];unfold Lib.decodeN
 repeat' split
 all_goals simp only[cz]at *
 all_goals omega
theorem a0H(x:UInt8)(r:O)(b o cap:Nat)(w:H)(d:uL w)(h:At w b o (Lib.byteCells (x::r))) :
  bF prog 100 #[.slice (some ⟨b,o,none⟩) (x::r).length cap] w (.tuple #[.int .i32 ((dr (x::r)).1:Int),.int .i64 ((dr (x::r)).2:Int)]):=by
 have hd:=Any7.utf8_DecodeRune laysDR (E (x::r)) b o cap w d (λj c=>by
  have Y:=h j (by simpa[Lib.byteCells]using c);rw[Y];have e:=Ab (x::r) j;rw[e];have a:j<(x::r).length:=by simpa using c
  rw[aG a];simp only[Lib.byteCells,cU];rfl)
 rw[aF]at hd
 have e:Lib.decodeGo (E (x::r))=dr (x::r):=by
  unfold Lib.decodeGo;rw[gc (by rw[aF];simp)];rfl
 rw[e]at hd;exact hd
def s9:Nat->O->O
 |0,_=>[]
 |_,[]=>[]
 |f+1,x::r =>
  if(dr (x::r)).1=65533/\(dr (x::r)).2=1 then [0xef,0xbf,0xbd]++s9 f ((x::r).drop (ml (x::r)))
  else(x::r).take (dr (x::r)).2++s9 f ((x::r).drop (dr (x::r)).2)
def kz(l:O):O:=s9 l.length l
theorem b6Z(f:Nat)(x:UInt8)(r:O):s9 (f+1) (x::r)=if(dr (x::r)).1=65533/\(dr (x::r)).2=1 then [0xef,0xbf,0xbd]++s9 f ((x::r).drop (ml (x::r)))
  else(x::r).take (dr (x::r)).2++s9 f ((x::r).drop (dr (x::r)).2):=rfl
theorem mx:∀(f g:Nat) (l:O),l.length<=f->l.length<=g->s9 f l=s9 g l
 |0,g,l,h,_=>by
  obtain rfl:l=[]:=az M0;cases g <;>rfl
 |f+1,0,l,_,h=>by
  obtain rfl:l=[]:=az M0;rfl
 |f+1,g+1,[],_,_=>rfl
 |f+1,g+1,x::r,h,a=>by
  have hn:=nV x r;have U:=um x r;rw[cz]at h a;have hd:((x::r).drop (dr (x::r)).2).length<=r.length:=by rw[aj,cz];omega
  have hd2:((x::r).drop (ml (x::r))).length<=r.length:=by rw[aj,cz];omega
  rw[b6Z,b6Z,mx f g _ M0 M0,mx f g _ M0 M0]
theorem Ca:kz []=[]:=rfl
theorem decT_bad{x:UInt8}{r:O}(h:(dr (x::r)).1=65533/\(dr (x::r)).2=1):kz (x::r)=[0xef,0xbf,0xbd]++kz ((x::r).drop (ml (x::r))):=by
 have U:=um x r;have a:((x::r).drop (ml (x::r))).length<=r.length:=by rw[aj,cz];omega
 unfold kz;rw[cz,b6Z,ge h,mx r.length _ _ a (ag _)]
theorem decT_ok{x:UInt8}{r:O}(h:¬((dr (x::r)).1=65533/\(dr (x::r)).2=1)):kz (x::r)=(x::r).take (dr (x::r)).2++kz ((x::r).drop (dr (x::r)).2):=by
 have hn:=nV x r;have hd:((x::r).drop (dr (x::r)).2).length<=r.length:=by rw[aj,cz];omega
 unfold kz;rw[cz,b6Z,gc h,mx r.length _ _ hd (ag _)]
theorem nT:∀(n:Nat) (l:O),l.length<=n->(kz l).length<=3*l.length
 |_,[],_=>by simp[Ca]
 |0,x::r,h=>by simp at h
 |n+1,x::r,h=>by
  have hn:=nV x r;have U:=um x r;rw[cz]at h;have hd:((x::r).drop (dr (x::r)).2).length=r.length+1-(dr (x::r)).2:=by rw[aj,cz]
  have hd2:((x::r).drop (ml (x::r))).length=r.length+1-ml (x::r):=by rw[aj,cz]
  by_cases a:(dr (x::r)).1=65533/\(dr (x::r)).2=1
  ·have:=nT n _ (show((x::r).drop (ml (x::r))).length<=n by omega)
   rw[decT_bad a,ae,cz];simp only[cz,aO];omega
  have:=nT n _ (show((x::r).drop (dr (x::r)).2).length<=n by omega);rw[decT_ok a,ae,cz,aD,cz];omega
theorem Fs(l:O):(dr l).1<2147483648:=by
 rw[td];have h0:=(l[0]?.getD 0).toNat_lt;unfold Lib.decodeN
 repeat' split
 all_goals simp only
 all_goals omega
theorem AY(Q:O)(f o0 c0:Nat)(w:H)(hbb:f<w.heap.size)(hl0:Q.length<=1024000000)(a4m:Q.length<=c0)(hcm0:c0<=maxLen)(hat:At w f o0 (Lib.byteCells Q))(hT:uL w) :
  Calls prog 59 #[.slice (some ⟨f,o0,none⟩) Q.length c0] w λe w'=>TW w (kz Q) e w':=by
 obtain⟨i8,tA,Bl,lK,nC⟩:=info_parts jn;obtain⟨L0,HL0⟩:=ey (Q.length);rw[<-HL0.o]at hl0 a4m⊢;obtain⟨T,TL⟩:=ey (kz Q);rw[<-TL.o];have HT:=F hT;clear hT;have HAT:=F hat;clear hat;go_enter func59,ntmps59
 go_wp2
 go_loopw [0] (λb wr=>∃(l acc:O) (o c:Nat) (g:Option Nat),b=.slice (some ⟨f,o,none⟩) l.length c/\l.length<=c/\c<=maxLen/\At wr f o (Lib.byteCells l) /\
   sR w.heap.size g acc wr/\(∀k,g=some k->w.heap.size<k)/\acc++kz l=T/\acc.length+3*l.length<=4096000000/\r7 w wr) (λb _=>Gm b)
 case atStart =>
  have i:=HL0.o;exact⟨Q,[],o0,c0,none,by rw[i],by rw[<-i];exact a4m,hcm0,(HAT.o).keep (Below.heap_alloc _ _ _ hbb),sR.fresh w,Oc,by rw[f9];exact TL.o.symm,by rw[<-i];simp;omega,(gT _ _).alloc (ag _) _⟩
 case round =>
  obtain⟨l,acc,o,c,g,rfl,v,hcm,hA,hbd,z,hacc,hlen,hbel⟩:=hrel;have HA:=F hA;clear hA;have W:=F hbd;clear hbd;have HG:=F z;clear z;have HB:=F hbel;clear hbel;have HC:=F hacc;clear hacc;cases l with
  |nil =>
   simp only[aO];have hstr:=kX w.heap.size W.o (ag _) (λk u=>by have:=HG.o k u;omega);have hT':acc=T:=by have:=HC.o;rwa [Ca,aV]at this
   rw[hT']at hstr;clear hT';have HS:=F hstr;clear hstr
   go_wp2_with(go_at_call 33;refine(HS.o).k λa n=>?_)
   go_ret;exact⟨rfl,HB.o.trans n.o⟩
  |cons x r =>
   have t:=a0H x r f o c wr ((HT.o).below HB.o) HA.o;have hn:=nV x r;have hbn:=um x r;have K:=xC (x::r) c f o;obtain⟨rn,d,hD⟩:∃rn d,dr (x::r)=(rn,d):=⟨_,_,rfl⟩;have hbad:=@decT_bad x r;have N:=@decT_ok x r;have hrl:=Fs (x::r);rw[hD]at t hn hbad N hrl;simp only at t hn hbad N hrl;clear hD;obtain⟨nb,hnb⟩:=V (ml (x::r));rw[<-hnb]at hbad hbn K;clear hnb;obtain⟨hn1,hn2⟩:=hn;obtain⟨b4p,a9q⟩:=hbn;have HBAD:=F hbad;clear hbad;have Kd:=F N;clear N;obtain⟨L,HL⟩:=ey ((x::r).length);have hLr:L=r.length+1:=HL.o;rw[<-HL.o]at v hlen t K⊢;have HDR:=F t;clear t;have HBG:=F K;clear K;have CN:d<=L:=M0;have a33:nb<=L:=M0;have s:0<L:=M0;clear hLr hn2 a9q;have hcm':L<=maxLen:=M0;obtain⟨o',ho',hcut⟩:=wK (P:=prog) underlying25 tA lK f o L c d CN v;obtain⟨o'',a4s,ts⟩:=wK (P:=prog) underlying25 tA lK f o L c nb a33 v;have HO':=F ho';clear ho';have a7P:=F a4s;clear a4s;have XU:∀a,r7 wr a->At a f o (Lib.byteCells (x::r)):=λa h=>(HA.o).keep (h.block f (by have:=HB.o.size;omega));have NB:=F XU;clear XU;by_cases hc:rn=65533/\d=1
   ·have U:=HBAD.o hc
    have pN:=F U;clear U;have e1:((rn:Int)==65533)=true:=by simp;omega
    have e2:((d:Int)==1)=true:=by simp;omega
    clear hc;clear Kd
    have step:∀a q,r7 wr a->EM a w.heap.size g (acc++[0xef,0xbf,0xbd]) q ->
      At q f o (Lib.byteCells (x::r))/\r7 w q/\∃B,sR w.heap.size B (acc++[0xef,0xbf,0xbd]) q/\∀k,B=some k->w.heap.size<k:=by
     rintro a q Y⟨B,a1,a2,a3⟩;have hb0:=(W.o).lt;have hs1:=Y.size;have z:=HG.o;refine⟨(NB.o a Y).keep (a3.block f M0 ?_),(HB.o.trans (Y.m M0)).trans (a3.below M0 ?_),B,a1,?_⟩
     ·rintro(h|h)
      ·omega
      have:=z _ h;omega
     ·rintro k (h|h)
      ·omega
      have:=z _ h;omega
     intro k u;rcases a2 with h|⟨k',h,h'⟩
     ·exact z k (h▸u)
     rw[h]at u;injection u with u;omega
    have STEP:=F step;clear step
    go_wp2_with(first|(go_at_call 100;refine(HDR.o).k λa n=>?_)|(go_at_call 27;go_must (refine(py [0xef,0xbf,0xbd] ((W.o).below n.o) (by simp;omega)).m ?_);rintro e q⟨rfl,y⟩;have xo:=F y;clear y;obtain⟨C,D,g2,J,M⟩:=STEP.o _ _ n.o xo.o;have R:=F C;clear C;have HB2:=F D;clear D;have HD2:=F J;clear J;have HG2:=F M;clear M)|(go_at_call 101;go_must (refine(HBG.o _ hcm' s R.o).m ?_);rintro e w'⟨rfl,rfl⟩))
    go_roundw
    ·have i:=HL.o;refine⟨(x::r).drop nb,acc++[0xef,0xbf,0xbd],o'',c-nb,g2,by rw[aj,<-i],by rw[aj,<-i];omega,M0,?_,HD2.o,HG2.o,?_,?_,HB2.o⟩
     ·exact At.from' R.o (by rw[<-i];exact v) a7P.o
     ·rw[bB,<-pN.o];exact HC.o
     rw[ae,aj,<-i];simp only[cz,aO];omega
    ·simp[Gm];omega
   have U:=Kd.o hc;have pN:=F U;clear U;have b16:=kI (P:=prog) underlying25 tA f o L c d M0
   have step:∀a q,r7 wr a->EM a w.heap.size g (acc++(x::r).take d) q ->
     At q f o (Lib.byteCells (x::r))/\r7 w q/\∃B,sR w.heap.size B (acc++(x::r).take d) q/\∀k,B=some k->w.heap.size<k:=by
    rintro a q Y⟨B,a1,a2,a3⟩;have hb0:=(W.o).lt;have hs1:=Y.size;have z:=HG.o;refine⟨(NB.o a Y).keep (a3.block f M0 ?_),(HB.o.trans (Y.m M0)).trans (a3.below M0 ?_),B,a1,?_⟩
    ·rintro(h|h)
     ·omega
     have:=z _ h;omega
    ·rintro k (h|h)
     ·omega
     have:=z _ h;omega
    intro k u;rcases a2 with h|⟨k',h,h'⟩
    ·exact z k (h▸u)
    rw[h]at u;injection u with u;omega
   have STEP:=F step;clear step
   have slx:∀a,r7 wr a->Sl w.heap.size a (.slice (some ⟨f,o,none⟩) d c) (Lib.byteCells ((x::r).take d)):=by
    intro a Y;have hl:(Lib.byteCells ((x::r).take d)).length=d:=by rw[hb,aD,<-HL.o];omega
    refine⟨c,M0,hcm,.inr ⟨f,o,hbb,by rw[hl],λj hj=>?_⟩⟩;rw[hl]at hj;have:=NB.o a Y j (by rw[hb,<-HL.o];omega);rw[this];simp[Lib.byteCells]
   have SLX:=F slx;clear slx;have hlt3:acc.length+((x::r).take d).length<=1099511627776:=by rw[aD];omega
   have a7J:=F hlt3;clear hlt3;clear HBAD
   have hsplit:(((rn:Int)==65533)=true/\((d:Int)==1)=false)\/((rn:Int)==65533)=false:=by
    by_cases Y:rn=65533
    ·exact .inl ⟨by simp;omega,by simp;omega⟩
    exact .inr (by simp;omega)
   clear hc;rcases hsplit with⟨e1,e2⟩|e1
   all_goals
    go_wp2_with(first|(go_at_call 100;refine(HDR.o).k λa n=>?_)|(go_at_call 102;go_must (refine(Fb ((x::r).take d) _ w.heap.size (SLX.o _ n.o) (ag _) ((W.o).below n.o) a7J.o).m ?_);rintro e q⟨rfl,y⟩;have xo:=F y;clear y))
    obtain⟨C,D,g2,J,M⟩:=STEP.o _ _ n.o xo.o;go_roundw
    ·have i:=HL.o;refine⟨(x::r).drop d,acc++(x::r).take d,o',c-d,g2,by rw[aj,<-i],by rw[aj,<-i];omega,M0,?_,J,M,?_,?_,D⟩
     ·exact At.from' C (by rw[<-i];exact v) HO'.o
     ·rw[bB,<-pN.o];exact HC.o
     rw[ae,aj,aD,<-i];omega
    ·simp[Gm];omega
theorem a08(l:O)(v:Z)(w:H)(h:Sl w.heap.size w v (Lib.byteCells l))(t:l.length<=1024000000)(j:uL w) :
  Calls prog 59 #[v] w λe x=>TW w (kz l) e x:=by
 obtain⟨c,n,hm,h⟩:=h;rcases h with⟨u,a,rfl⟩|⟨b,o,U,rfl,r⟩
 ·obtain rfl:l=[]:=by simpa[Lib.byteCells]using u
  have hstr:=λW h=>kX (b:=w.heap.size) (g:=none) (l:=[]) (w:=W) w.heap.size h (ag _) (λk s=>by cases s);have f:=sR.fresh w;have q:=F hstr;clear hstr;have p:=F f;clear f j;go_enter func59,ntmps59
  go_wp2
  refine wp_loop_rounds 1 ?_;rw[rounds_succ]
  go_wp2_with(go_at_call 33;refine(q.o _ p.o).k λw1 i=>?_)
  go_ret;exact⟨rfl,((gT _ _).alloc (ag _) _).trans i.o⟩
 rw[hb]at n⊢;exact AY l b o c w U t n hm r j
