/- percent.Decode. -/
import Derived.Laws.MakeOwn
import Derived.BigQuiet
import Derived.Test.YtmndlfglgcioeaaGreatDoorEGEmB
import Derived.Test.YtmndlfglgcioeaaGreatDoorEGArr
set_option maxHeartbeats 40000000
namespace Go.Proofs.YtmndlfglgcioeaaGreatDoor
open Tryz
open Go.RowKit
set_option maxRecDepth 10000
def pdV(x y:UInt8):Int:=fI (b2 x) 16*16+fI (b2 y) 16
def mQ:Bytes->Bytes
 |c::x::y::t=>if b2 c=37∧0<=fI (b2 x) 16∧0<=fI (b2 y) 16 then UInt8.ofNat (pdV x y).toNat::mQ t else c::mQ (x::y::t)
 |l=>l
theorem AK(c:Int):fI c 16<16:=by unfold fI;simp only;split <;>omega
theorem P9(c:Int):-1<=fI c 16:=by unfold fI;simp only;split <;>(try split) <;>(try split) <;>(try split) <;>omega
theorem a1j{l:Bytes}{k:Nat}(h:k+2<l.length)(hc:b2 l[k]=37)(hx:0<=fI (b2 l[k+1]) 16)(hy:0<=fI (b2 l[k+2]) 16):mQ (l.drop k)=UInt8.ofNat (pdV l[k+1] l[k+2]).toNat::mQ (l.drop (k+3)):=by
 rw[aq (show k<l.length by omega),aq (show k+1<l.length by omega),aq (show k+1+1<l.length by omega)];rw[mQ,if_pos ⟨hc,hx,hy⟩]
theorem WS{l:Bytes}{k:Nat}(h:k<l.length)(hm:¬ (b2 l[k]=37∧∃ h2:k+2<l.length,0<=fI (b2 l[k+1]) 16∧0<=fI (b2 l[k+2]) 16)):mQ (l.drop k)=l[k]::mQ (l.drop (k+1)):=by
 rw[aq h];rcases cZ (k+2) l.length with h2|h2
 ·rw[aq (show k+1<l.length by omega),aq (show k+1+1<l.length by omega)]
  rw[mQ,if_neg (fun a=>hm ⟨a.1,h2,a.2⟩)]
 have e:(l.drop (k+1)).length<=1:=by rw[ah];omega
 generalize l.drop (k+1)=t at e
 match t,e with
 | [],_=>simp[mQ]
 | [x],_=>simp[mQ]
theorem Em(l:Bytes)(w:World)(hl:l.length<=1024000000):Calls prog 201 #[.string (bs l)] w (gU w 5 (Lib.byteCells (mQ l))):=by
 obtain⟨i8,tT,Ch,mK,n9⟩:=info_parts j8;obtain⟨s,hs⟩:=az (bs l);have hsz:s.size=l.length:=by rw[hs,aM]
 have hby:∀ k (hk:k<s.size) (hk2:k<l.length),((s[k]'hk).toNat:Int)=b2 l[k]:=fun k hk hk2=>cJ hs hk hk2;rw[<-hs];clear hs;obtain⟨N,hN⟩:=az (s.size);have lk:s.size=N:=hN.symm;have p7:N<=1024000000:=by omega
 have kd:=h_ hby;clear hby;have fL:=h_ hsz;clear hsz hl hN;go_enter func201,ntmps201
 go_wp2_with fail
 obtain⟨w1,hr,hown0,hgr⟩:=run_make_own (P:=prog) w w.heap.size 50 5 i8 (.int .u8 0) 1 underlying50 tT Ch mK .i64 .i64 N (by rw[n9];omega) (ap p7 (by decide)) (af _);have hb1:Below w.heap.size w w1:=⟨hgr.os,hgr.tape,hgr.output,hgr.size,fun k hk=>hgr.block k hk (by simp)⟩;have HO0:=h_ hown0;clear hown0;have HB1:=h_ hb1;clear hb1 hgr;obtain⟨T,hT⟩:=az (mQ l);rw[<-hT];have HT:=h_ hT;clear hT;rw[hr];clear hr
 go_wp2_with fail
 go_loopw [3,4] (fun ov iv wr=>∃ (k:Nat) (o:Bytes),k<=N∧iv=.int .i64 k∧wr.ownsRow w.heap.size 5 1 ov o.length (Lib.byteCells o)∧o++mQ (l.drop k)=T∧o.length<=k∧w.heap.size<=wr.heap.size∧Below w.heap.size w wr) (fun _ i _=>N-(intOf i).toNat)
 case atStart=>exact⟨0,[],by omega,by simp,HO0.out,by rw[HT.out];rfl,by simp,HB1.out.size,HB1.out⟩
 case round =>
  obtain⟨k,o,hk,rfl,hown,ho,hol,hwz,hbel⟩:=hrel;have HO:=h_ hown;clear hown;have HB:=h_ hbel;clear hbel;have HC:=h_ ho;clear ho;by_cases hlt:k<N
  ·have nS:k<s.size:=by omega
   have hkl:k<l.length:=by have:=fL.out;omega
   have hx:=kd.out k nS hkl;obtain⟨al,wF⟩:∃ al,al=o.length:=⟨_,rfl⟩;have ho:=HO.out;rw[<-wF]at hol ho;have yn:=h_ ho;clear ho HO;have pp:=h_ wF;clear wF;have hmiss:=WS (l:=l) (k:=k) hkl;have hhit:=a1j (l:=l) (k:=k);obtain⟨X,hX⟩:∃ X:Int,X=b2 l[k]:=⟨_,rfl⟩;rw[<-hX]at hx
   have qM:¬ (b2 l[k]=37∧∃ h2:k+2<l.length,0<=fI (b2 l[k+1]) 16∧0<=fI (b2 l[k+2]) 16)->∀ (v2:Value) (w2:World),w2.ownsRow w.heap.size 5 1 v2 (al+1) (Lib.byteCells o++[.int .u8 X])->∃ o',w2.ownsRow w.heap.size 5 1 v2 o'.length (Lib.byteCells o')∧o'++mQ (l.drop (k+1))=T∧o'.length=al+1:=fun hm v2 w2 h2=>by
    refine⟨o++[l[k]],?_,?_,?_⟩
    ·rw[ae,<-pp.out,dV,<-hX]
     exact h2
    ·rw[<-HC.out,hmiss hm];simp
    rw[ae,<-pp.out];rfl
   clear hmiss;have hw2:IntKind.i64.wrap ((k:Int)+2)=(k:Int)+2:=IntWalk.i64_in _ (by omega);have hw1:IntKind.i64.wrap ((k:Int)+1)=(k:Int)+1:=IntWalk.i64_in _ (by omega);by_cases h37:X=37
   ·by_cases hin:k+2<N
    ·have hk1:k+1<s.size:=by omega
     have hk2:k+2<s.size:=by omega
     have a0y:k+1<l.length:=by have:=fL.out;omega
     have V9:k+2<l.length:=by have:=fL.out;omega
     have hx1:=kd.out (k+1) hk1 a0y;have hx2:=kd.out (k+2) hk2 V9;have r1:=jr l[k+1];have r2:=jr l[k+2];have hd1:∀ W,bV prog 62 #[.int .u8 (b2 l[k+1]),.int .i64 16] W (.int .i64 (fI (b2 l[k+1]) 16)):=fun W=>(dB (b2 l[k+1]) 16 W r1 (by omega)).mono (fun _ _ h=>⟨h.1,h.2.symm⟩);have hd2:∀ W,bV prog 62 #[.int .u8 (b2 l[k+2]),.int .i64 16] W (.int .i64 (fI (b2 l[k+2]) 16)):=fun W=>(dB (b2 l[k+2]) 16 W r2 (by omega)).mono (fun _ _ h=>⟨h.1,h.2.symm⟩);have g1:=AK (b2 l[k+1]);have g2:=AK (b2 l[k+2]);have f1:=P9 (b2 l[k+1]);have f2:=P9 (b2 l[k+2]);obtain⟨D,hD⟩:=az (fI (b2 l[k+1]) 16);obtain⟨E,hE⟩:=az (fI (b2 l[k+2]) 16);rw[<-hD]at hd1 g1 f1;rw[<-hE]at hd2 g2 f2;have HD:=h_ hD;clear hD;have HE:=h_ hE;clear hE;by_cases hdg:0<=D∧0<=E
     ·obtain⟨d0,e0⟩:=hdg
      have hv:pdV l[k+1] l[k+2]=D*16+E:=by unfold pdV;rw[<-HD.out,<-HE.out]
      have hh:=hhit V9 (by rw[<-hX];exact h37) (by rw[<-HD.out];exact d0) (by rw[<-HE.out];exact e0);rw[hv]at hh;have hm1:IntKind.i64.wrap (D*16)=D*16:=IntWalk.i64_in _ (by omega);have hm2:IntKind.i64.wrap (D*16+E)=D*16+E:=IntWalk.i64_in _ (by omega);have Wa:IntKind.u8.wrap (D*16+E)=D*16+E:=by rw[IntKind.wrap_u8];omega
      have hge:∀ (v2:Value) (w2:World),w2.ownsRow w.heap.size 5 1 v2 (al+1) (Lib.byteCells o++[.int .u8 (D*16+E)])->∃ o',w2.ownsRow w.heap.size 5 1 v2 o'.length (Lib.byteCells o')∧o'++mQ (l.drop (k+3))=T∧o'.length=al+1:=fun v2 w2 h2=>by
       refine⟨o++[UInt8.ofNat (D*16+E).toNat],?_,?_,?_⟩
       ·rw[ae,<-pp.out,dV,ry (by omega)]
        exact h2
       ·rw[<-HC.out,hh];simp
       rw[ae,<-pp.out];rfl
      have HM:=h_ hge;clear hge qM hhit hh hv;clear hX f1 f2;subst h37;have HD1:=h_ hd1;clear hd1;have HD2:=h_ hd2;clear hd2;obtain⟨x1,Ri⟩:∃ x,x=b2 l[k+1]:=⟨_,rfl⟩;obtain⟨x2,Rk⟩:∃ x,x=b2 l[k+2]:=⟨_,rfl⟩;rw[<-Ri]at hx1 HD1 r1;rw[<-Rk]at hx2 HD2 r2;clear Ri Rk HD HE;obtain⟨K1,hK1⟩:=az (k+1);obtain⟨K2,hK2⟩:=az (k+2);have Rj:∀ h:K1<s.size,((s[K1]'h).toNat:Int)=x1:=fun h=>by subst hK1;exact hx1
      have Rl:∀ h:K2<s.size,((s[K2]'h).toNat:Int)=x2:=fun h=>by subst hK2;exact hx2
      have a0x:K1<s.size:=by omega
      have a0z:K2<s.size:=by omega
      have a0A:K2<N:=by omega
      have a9V:=Rj a0x;have a9W:=Rl a0z;have a9R:IntKind.i64.wrap ((k:Int)+1)=(K1:Int):=by rw[hw1];omega
      have a9S:IntKind.i64.wrap ((k:Int)+2)=(K2:Int):=by rw[hw2];omega
      have Zg:=h_ hK2;have HK1:=h_ hK1;clear hx1 hx2 Rj Rl hk1 hk2 hw1 hw2 hin hK1 hK2 a0y V9
      go_wp2_with fail
      go_quiet ((go_at_call 62;first|with_reducible exact Calls.quiet_of_same (HD1.out _)|with_reducible exact Calls.quiet_of_same (HD2.out _)))
      have p9:w.heap.size<=(wr.drewN nq).heap.size:=hwz;have ho2:=own_below yn.out (ei (Below.refl wr.heap.size wr) nq);have kq:=h_ ho2;clear ho2;have HB3:=h_ (ei HB.out nq)
      go_wp2_with (at_builtin;(refine eO rfl (.tmp 43) (.tmp 49) _ rfl w.heap.size 5 i8 (.int .u8 0) 1 underlying50 tT Ch mK n9 (by decide) _ _ _ (Lib.byteCells o) rfl kq.out (.int .u8 (D*16+E)) rfl rfl (by omega) (by decide) (by omega) ?_);intro v2 w2 hown2 hw2 hb2;have fg:=h_ hown2;clear hown2;have HB2:=h_ hb2;clear hb2)
      go_roundw
      case rel =>
       obtain⟨o',a1,a2,a3⟩:=HM.out _ _ fg.out;have V8:=Zg.out;subst V8;exact⟨k+3,o',by omega,by first|rfl|(simp;done)|(simp;omega),a1,a2,by omega,by omega,HB3.out.trans HB2.out⟩
      case measure=>have:=Zg.out;simp[intOf];omega
     have HM:=h_ (qM (fun a=>hdg ⟨by rw[HD.out];exact a.2.2.1,by rw[HE.out];exact a.2.2.2⟩));clear qM hhit;clear hX;subst h37;have HD1:=h_ hd1;clear hd1;have HD2:=h_ hd2;clear hd2;obtain⟨x1,Ri⟩:∃ x,x=b2 l[k+1]:=⟨_,rfl⟩;obtain⟨x2,Rk⟩:∃ x,x=b2 l[k+2]:=⟨_,rfl⟩;rw[<-Ri]at hx1 HD1 r1;rw[<-Rk]at hx2 HD2 r2;clear Ri Rk HD HE;obtain⟨K1,hK1⟩:=az (k+1);obtain⟨K2,hK2⟩:=az (k+2);have Rj:∀ h:K1<s.size,((s[K1]'h).toNat:Int)=x1:=fun h=>by subst hK1;exact hx1
     have Rl:∀ h:K2<s.size,((s[K2]'h).toNat:Int)=x2:=fun h=>by subst hK2;exact hx2
     have a0x:K1<s.size:=by omega
     have a0z:K2<s.size:=by omega
     have a0A:K2<N:=by omega
     have a9V:=Rj a0x;have a9W:=Rl a0z;have a9R:IntKind.i64.wrap ((k:Int)+1)=(K1:Int):=by rw[hw1];omega
     have a9S:IntKind.i64.wrap ((k:Int)+2)=(K2:Int):=by rw[hw2];omega
     have Zg:=h_ hK2;have HK1:=h_ hK1;clear hx1 hx2 Rj Rl hk1 hk2 hw1 hw2 hin hK1 hK2 a0y V9;have hDE:D<0∨(0<=D∧E<0):=by omega
     clear hdg;rcases hDE with hDE|⟨hDE,b3i⟩
     iterate 2
      ·go_wp2_with fail
       go_quiet ((go_at_call 62;first|with_reducible exact Calls.quiet_of_same (HD1.out _)|with_reducible exact Calls.quiet_of_same (HD2.out _)))
       have p9:w.heap.size<=(wr.drewN nq).heap.size:=hwz;have ho2:=own_below yn.out (ei (Below.refl wr.heap.size wr) nq);have kq:=h_ ho2;clear ho2;have HB3:=h_ (ei HB.out nq)
       go_wp2_with (at_builtin;(refine eO rfl (.tmp 53) (.tmp 57) _ rfl w.heap.size 5 i8 (.int .u8 0) 1 underlying50 tT Ch mK n9 (by decide) _ _ _ (Lib.byteCells o) rfl kq.out (.int .u8 37) rfl rfl (by omega) (by decide) (by omega) ?_);intro v2 w2 hown2 hw2 hb2;have fg:=h_ hown2;clear hown2;have HB2:=h_ hb2;clear hb2)
       go_roundw
       case rel =>
        obtain⟨o',a1,a2,a3⟩:=HM.out _ _ fg.out;have DR:=HK1.out;subst DR;exact⟨k+1,o',by omega,by first|rfl|(simp;done)|(simp;omega),a1,a2,by omega,by omega,HB3.out.trans HB2.out⟩
       case measure=>have:=HK1.out;simp[intOf];omega
    have HM:=h_ (qM (fun a=>hin (by have:=a.2.1;have:=fL.out;omega)));clear qM hhit;subst h37;have HX:=h_ hX;clear hX
    go_wp2_with (at_builtin;(refine eO rfl (.tmp 53) (.tmp 57) _ rfl w.heap.size 5 i8 (.int .u8 0) 1 underlying50 tT Ch mK n9 (by decide) _ _ _ (Lib.byteCells o) rfl yn.out (.int .u8 37) rfl rfl (by omega) (by decide) (by omega) ?_);intro v2 w2 hown2 hw2 hb2;have fg:=h_ hown2;clear hown2;have HB2:=h_ hb2;clear hb2)
    go_roundw
    case rel =>
     obtain⟨o',a1,a2,a3⟩:=HM.out _ _ fg.out;exact⟨k+1,o',by omega,by simp,a1,a2,by omega,by omega,HB.out.trans HB2.out⟩
    case measure=>simp[intOf];omega
   have HM:=h_ (qM (fun a=>h37 (by rw[hX];exact a.1)));clear qM hhit;have HX:=h_ hX;clear hX
   go_wp2_with (at_builtin;(refine eO rfl (.tmp 53) (.tmp 57) _ rfl w.heap.size 5 i8 (.int .u8 0) 1 underlying50 tT Ch mK n9 (by decide) _ _ _ (Lib.byteCells o) rfl yn.out (.int .u8 X) rfl rfl (by omega) (by decide) (by omega) ?_);intro v2 w2 hown2 hw2 hb2;have fg:=h_ hown2;clear hown2;have HB2:=h_ hb2;clear hb2)
   go_roundw
   case rel =>
    obtain⟨o',a1,a2,a3⟩:=HM.out _ _ fg.out;exact⟨k+1,o',by omega,by simp,a1,a2,by omega,by omega,HB.out.trans HB2.out⟩
   case measure=>simp[intOf];omega
  obtain rfl:k=N:=by omega
  have he:l.drop k=[]:=bB (by have:=fL.out;omega);have hc:=HC.out;rw[he,show mQ []=[]from by simp[mQ],aG]at hc;have kq:=h_ (show wr.ownsRow w.heap.size 5 1 _ (Lib.byteCells T).length (Lib.byteCells T) by rw[Lib.byteCells_length,<-hc];exact HO.out)
  go_wp2_with fail
  go_ret;have h3:=kq.out;rw[HT.out]at h3;exact⟨_,rfl,h3,HB.out⟩
end Go.Proofs.YtmndlfglgcioeaaGreatDoor
