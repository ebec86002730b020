import Derived.Laws.MakeOwn
import Derived.Test.YtagfilhbpnjhkaaGreatDoorFGEntC
set_option maxRecDepth 10000
set_option maxHeartbeats 0
namespace Go.Proofs.Q
open Tryz Go.RowKit
def pdV(x y:UInt8):Int:=fg (G x) 16*16+fg (G y) 16
def nJ:O->O
 |c::x::y::t=>if G c=37/\0<=fg (G x) 16/\0<=fg (G y) 16 then UInt8.ofNat (pdV x y).toNat::nJ t else c::nJ (x::y::t)
 |l=>l
theorem zX(c:Int):fg c 16<16:=by unfold fg;simp only;split <;>omega
theorem OH(c:Int):-1<=fg c 16:=by unfold fg;simp only;split <;>(try split) <;>(try split) <;>(try split) <;>omega
theorem a0D{l:O}{k:Nat}(h:k+2<l.length)(a:G l[k]=37)(X:0<=fg (G l[k+1]) 16)(hy:0<=fg (G l[k+2]) 16):nJ (l.drop k)=UInt8.ofNat (pdV l[k+1] l[k+2]).toNat::nJ (l.drop (k+3)):=by
 rw[aC (show k<l.length by omega),aC (show k+1<l.length by omega),aC (show k+1+1<l.length by omega)];rw[nJ,ge ⟨a,X,hy⟩]
theorem VS{l:O}{k:Nat}(h:k<l.length)(hm:¬(G l[k]=37/\∃I:k+2<l.length,0<=fg (G l[k+1]) 16/\0<=fg (G l[k+2]) 16)):nJ (l.drop k)=l[k]::nJ (l.drop (k+1)):=by
 rw[aC h];rcases cI (k+2) l.length with I|I
 ·rw[aC (show k+1<l.length by omega),aC (show k+1+1<l.length by omega)]
  rw[nJ,gc (λa=>hm ⟨a.1,I,a.2⟩)]
 have e:(l.drop (k+1)).length<=1:=by rw[aj];omega
 generalize l.drop (k+1)=t at e
 match t,e with
 | [],_=>simp[nJ]
 | [x],_=>simp[nJ]
theorem Dl(l:O)(w:H)(hl:l.length<=1024000000):Calls prog 238 #[.string (E l)] w (ga w 5 (Lib.byteCells (nJ l))):=by
 obtain⟨i8,tA,Bl,lK,nC⟩:=info_parts jn;obtain⟨s,hs⟩:=V (E l);have hsz:s.size=l.length:=by rw[hs,aF]
 have hby:∀k (hk:k<s.size) (p:k<l.length),((s[k]'hk).toNat:Int)=G l[k]:=λk hk p=>cy hs hk p;rw[<-hs];clear hs;obtain⟨N,hN⟩:=V (s.size);have iP:s.size=N:=hN.symm;have oP:N<=1024000000:=M0;have iV:=F hby;clear hby;have eM:=F hsz;clear hsz hl hN;go_enter func238,ntmps238;go_wp2_with fail;obtain⟨w1,hr,hown0,n⟩:=run_make_own (P:=prog) w w.heap.size 25 5 i8 (.int .u8 0) 1 underlying25 tA Bl lK .i64 .i64 N (by rw[nC];omega) (am oP P8) (ag _);have hb1:r7 w w1:=⟨n.os,n.tape,n.output,n.size,λk hk=>n.block k hk Oc⟩;have HO0:=F hown0;clear hown0;have HB1:=F hb1;clear hb1 n;obtain⟨T,HT⟩:=ey (nJ l);rw[<-HT.o];rw[hr];clear hr;go_wp2_with fail
 go_loopw [3,4] (λov iv wr=>∃(k:Nat) (o:O),k<=N/\iv=.int .i64 k/\wr.ownsRow w.heap.size 5 1 ov o.length (Lib.byteCells o)/\o++nJ (l.drop k)=T/\o.length<=k/\w.heap.size<=wr.heap.size/\r7 w wr) (λ_ i _=>N-(intOf i).toNat)
 exact⟨0,[],M0,Oc,HO0.o,by rw[HT.o];rfl,Oc,HB1.o.size,HB1.o⟩
 obtain⟨k,o,hk,rfl,hown,ho,hol,hwz,hbel⟩:=hrel;have HO:=F hown;clear hown;have HB:=F hbel;clear hbel;have HC:=F ho;clear ho;by_cases hlt:k<N
 ·have mf:k<s.size:=by omega
  have hkl:k<l.length:=by have:=eM.o;omega
  have X:=iV.o k mf hkl;obtain⟨al,mW⟩:=ey (o.length);have ho:=HO.o;rw[<-mW.o]at hol ho;have xu:=F ho;clear ho HO;have hmiss:=VS (l:=l) (k:=k) hkl;have hhit:=a0D (l:=l) (k:=k);obtain⟨X',K⟩:=V (G l[k]:Int);rw[<-K]at X
  have pU:¬(G l[k]=37/\∃I:k+2<l.length,0<=fg (G l[k+1]) 16/\0<=fg (G l[k+2]) 16)->∀(v2:Z) (C:H),C.ownsRow w.heap.size 5 1 v2 (al+1) (Lib.byteCells o++[.int .u8 X'])->∃e,C.ownsRow w.heap.size 5 1 v2 e.length (Lib.byteCells e)/\e++nJ (l.drop (k+1))=T/\e.length=al+1:=λhm v2 C I=>by
   refine⟨o++[l[k]],?_,?_,?_⟩
   ·rw[ae,<-mW.o,dR,<-K]
    exact I
   ·rw[<-HC.o,hmiss hm];simp
   rw[ae,<-mW.o];rfl
  clear hmiss;have d:IntKind.i64.wrap ((k:Int)+2)=(k:Int)+2:=gS _ M0;have M:IntKind.i64.wrap ((k:Int)+1)=(k:Int)+1:=gS _ M0;by_cases v:X'=37
  ·by_cases hin:k+2<N
   ·have hk1:k+1<s.size:=by omega
    have p:k+2<s.size:=M0;have b9z:k+1<l.length:=by have:=eM.o;omega
    have U9:k+2<l.length:=by have:=eM.o;omega
    have q:=iV.o (k+1) hk1 b9z;have r:=iV.o (k+2) p U9;have r1:=jL l[k+1];have r2:=jL l[k+2];have y:∀W,bP prog 93 #[.int .u8 (G l[k+1]),.int .i64 16] W (.int .i64 (fg (G l[k+1]) 16)):=λW=>(dm (G l[k+1]) 16 W r1 M0).m (λ_ _ h=>⟨h.1,h.2.symm⟩);have z:∀W,bP prog 93 #[.int .u8 (G l[k+2]),.int .i64 16] W (.int .i64 (fg (G l[k+2]) 16)):=λW=>(dm (G l[k+2]) 16 W r2 M0).m (λ_ _ h=>⟨h.1,h.2.symm⟩);have g1:=zX (G l[k+1]);have g2:=zX (G l[k+2]);have f1:=OH (G l[k+1]);have f2:=OH (G l[k+2]);obtain⟨D,HD⟩:=ey (fg (G l[k+1]) 16);obtain⟨J,HE⟩:=ey (fg (G l[k+2]) 16);rw[<-HD.o]at y g1 f1;rw[<-HE.o]at z g2 f2;by_cases hdg:0<=D/\0<=J
    ·obtain⟨d0,e0⟩:=hdg
     have hv:pdV l[k+1] l[k+2]=D*16+J:=by unfold pdV;rw[<-HD.o,<-HE.o]
     have hh:=hhit U9 (by rw[<-K];exact v) (by rw[<-HD.o];exact d0) (by rw[<-HE.o];exact e0);rw[hv]at hh;have hm1:IntKind.i64.wrap (D*16)=D*16:=gS _ M0;have hm2:IntKind.i64.wrap (D*16+J)=D*16+J:=gS _ M0;have Vb:IntKind.u8.wrap (D*16+J)=D*16+J:=by rw[IntKind.wrap_u8];omega
     have hge:∀(v2:Z) (C:H),C.ownsRow w.heap.size 5 1 v2 (al+1) (Lib.byteCells o++[.int .u8 (D*16+J)])->∃e,C.ownsRow w.heap.size 5 1 v2 e.length (Lib.byteCells e)/\e++nJ (l.drop (k+3))=T/\e.length=al+1:=λv2 C I=>by
      refine⟨o++[UInt8.ofNat (D*16+J).toNat],?_,?_,?_⟩
      ·rw[ae,<-mW.o,dR,Xn M0]
       exact I
      ·rw[<-HC.o,hh];simp
      rw[ae,<-mW.o];rfl
     have R:=F hge;clear hge pU hhit hh hv;clear K f1 f2;subst v;have t:=F y;clear y;have u:=F z;clear z;obtain⟨x1,Qc,x2,Qe⟩:=ac (G l[k+1]) (G l[k+2]);rw[<-Qc]at q t r1;rw[<-Qe]at r u r2;clear Qc Qe HD HE;obtain⟨L,g,K2,j⟩:=ac (k+1) (k+2);have Qd:∀h:L<s.size,((s[L]'h).toNat:Int)=x1:=λh=>by subst g;exact q
     have Qf:∀h:K2<s.size,((s[K2]'h).toNat:Int)=x2:=λh=>by subst j;exact r
     have ZO:L<s.size:=M0;have b9C:K2<s.size:=M0;have ZR:K2<N:=M0;have a99:=Qd ZO;have b0a:=Qf b9C;have a95:IntKind.i64.wrap ((k:Int)+1)=(L:Int):=by rw[M];omega
     have a96:IntKind.i64.wrap ((k:Int)+2)=(K2:Int):=by rw[d];omega
     have SZ:=F j;have Tz:=F g;clear q r Qd Qf hk1 p M d hin g j b9z U9;go_wp2_with fail
     go_quiet ((go_at_call 93;first|with_reducible exact Calls.quiet_of_same (t.o _)|with_reducible exact Calls.quiet_of_same (u.o _)))
     have pp:w.heap.size<=(wr.drewN nq).heap.size:=hwz;have B:=own_below xu.o (ft (gT wr.heap.size wr) nq);have jx:=F B;clear B;have Q:=F<|ft HB.o nq
     go_wp2_with(at_builtin;(refine et rfl 43 49 _ rfl w.heap.size 5 i8 (.int .u8 0) 1 underlying25 tA Bl lK nC P8 _ _ _ (Lib.byteCells o) rfl jx.o (.int .u8 (D*16+J)) rfl rfl M0 P8 M0 ?_);intro v2 C hown2 d c;have eJ:=F hown2;clear hown2;have f:=F c;clear c)
     go_roundw
     ·obtain⟨e,a1,a2,a3⟩:=R.o _ _ eJ.o;have U7:=SZ.o;subst U7;exact⟨k+3,e,M0,by first|rfl|(simp;done)|(simp;omega),a1,a2,M0,M0,Q.o.trans f.o⟩
     ·have:=SZ.o;simp[intOf];omega
    have R:=F<|pU (λa=>hdg ⟨by rw[HD.o];exact a.2.2.1,by rw[HE.o];exact a.2.2.2⟩);clear pU hhit;clear K;subst v;have t:=F y;clear y;have u:=F z;clear z;obtain⟨x1,Qc,x2,Qe⟩:=ac (G l[k+1]) (G l[k+2]);rw[<-Qc]at q t r1;rw[<-Qe]at r u r2;clear Qc Qe HD HE;obtain⟨L,g,K2,j⟩:=ac (k+1) (k+2);have Qd:∀h:L<s.size,((s[L]'h).toNat:Int)=x1:=λh=>by subst g;exact q
    have Qf:∀h:K2<s.size,((s[K2]'h).toNat:Int)=x2:=λh=>by subst j;exact r
    have ZO:L<s.size:=M0;have b9C:K2<s.size:=M0;have ZR:K2<N:=M0;have a99:=Qd ZO;have b0a:=Qf b9C;have a95:IntKind.i64.wrap ((k:Int)+1)=(L:Int):=by rw[M];omega
    have a96:IntKind.i64.wrap ((k:Int)+2)=(K2:Int):=by rw[d];omega
    have SZ:=F j;have Tz:=F g;clear q r Qd Qf hk1 p M d hin g j b9z U9;have hDE:D<0\/(0<=D/\J<0):=M0;clear hdg;rcases hDE with hDE|⟨hDE,b4g⟩
    iterate 2
     ·go_wp2_with fail
      go_quiet ((go_at_call 93;first|with_reducible exact Calls.quiet_of_same (t.o _)|with_reducible exact Calls.quiet_of_same (u.o _)))
      have pp:w.heap.size<=(wr.drewN nq).heap.size:=hwz;have B:=own_below xu.o (ft (gT wr.heap.size wr) nq);have jx:=F B;clear B;have Q:=F<|ft HB.o nq
      go_wp2_with(at_builtin;(refine et rfl 53 57 _ rfl w.heap.size 5 i8 (.int .u8 0) 1 underlying25 tA Bl lK nC P8 _ _ _ (Lib.byteCells o) rfl jx.o (.int .u8 37) rfl rfl M0 P8 M0 ?_);intro v2 C hown2 d c;have eJ:=F hown2;clear hown2;have f:=F c;clear c)
      go_roundw
      ·obtain⟨e,a1,a2,a3⟩:=R.o _ _ eJ.o;have CL:=Tz.o;subst CL;exact⟨k+1,e,M0,by first|rfl|(simp;done)|(simp;omega),a1,a2,M0,M0,Q.o.trans f.o⟩
      ·have:=Tz.o;simp[intOf];omega
   have R:=F<|pU (λa=>hin (by have:=a.2.1;have:=eM.o;omega));clear pU hhit;subst v;have HX:=F K;clear K
   go_wp2_with(at_builtin;(refine et rfl 53 57 _ rfl w.heap.size 5 i8 (.int .u8 0) 1 underlying25 tA Bl lK nC P8 _ _ _ (Lib.byteCells o) rfl xu.o (.int .u8 37) rfl rfl M0 P8 M0 ?_);intro v2 C hown2 d c;have eJ:=F hown2;clear hown2;have f:=F c;clear c)
   go_roundw
   ·obtain⟨e,a1,a2,a3⟩:=R.o _ _ eJ.o;exact⟨k+1,e,M0,Oc,a1,a2,M0,M0,HB.o.trans f.o⟩
   ·simp[intOf];omega
  have R:=F<|pU (λa=>v (by rw[K];exact a.1));clear pU hhit;have HX:=F K;clear K
  go_wp2_with(at_builtin;(refine et rfl 53 57 _ rfl w.heap.size 5 i8 (.int .u8 0) 1 underlying25 tA Bl lK nC P8 _ _ _ (Lib.byteCells o) rfl xu.o (.int .u8 X') rfl rfl M0 P8 M0 ?_);intro v2 C hown2 d c;have eJ:=F hown2;clear hown2;have f:=F c;clear c)
  go_roundw
  ·obtain⟨e,a1,a2,a3⟩:=R.o _ _ eJ.o;exact⟨k+1,e,M0,Oc,a1,a2,M0,M0,HB.o.trans f.o⟩
  ·simp[intOf];omega
 obtain rfl:k=N:=M0;have he:l.drop k=[]:=bE (by have:=eM.o;omega);have hc:=HC.o;rw[he,show nJ []=[]from by simp[nJ],aV]at hc;have jx:=F (show wr.ownsRow w.heap.size 5 1 _ (Lib.byteCells T).length (Lib.byteCells T) by rw[hb,<-hc];exact HO.o);go_wp2_with fail;go_ret;have h3:=jx.o;rw[HT.o]at h3;exact⟨_,rfl,h3,HB.o⟩
