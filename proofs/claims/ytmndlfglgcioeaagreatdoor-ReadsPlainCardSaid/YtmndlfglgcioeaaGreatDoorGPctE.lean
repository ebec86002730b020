/- percent.Decode. -/
import Derived.Laws.MakeOwn
import Derived.BigQuiet
import Derived.Test.YtmndlfglgcioeaaGreatDoorGEmB
import Derived.Test.YtmndlfglgcioeaaGreatDoorGTextA
import Derived.Test.YtmndlfglgcioeaaGreatDoorGArr
set_option maxHeartbeats 40000000
namespace Go.Proofs.YtmndlfglgcioeaaGreatDoor
open Tryz
open Go.RowKit
set_option maxRecDepth 10000
def pdV (x y:UInt8):Int:=eF (b2 x) 16*16+eF (b2 y) 16
def lQ:Bytes->Bytes
 |c::x::y::t=>if b2 c=37∧0<=eF (b2 x) 16∧0<=eF (b2 y) 16 then UInt8.ofNat (pdV x y).toNat::lQ t else c::lQ (x::y::t)
 |l=>l
theorem xA (c:Int):eF c 16<16:=by unfold eF;simp only;split <;>omega
theorem KH (c:Int):-1<=eF c 16:=by unfold eF;simp only;split <;>(try split) <;>(try split) <;>(try split) <;>omega
theorem V9 {l:Bytes} {k:Nat} (h:k+2<l.length) (hc:b2 l[k]=37) (hx:0<=eF (b2 l[k+1]) 16) (hy:0<=eF (b2 l[k+2]) 16):lQ (l.drop k)=UInt8.ofNat (pdV l[k+1] l[k+2]).toNat::lQ (l.drop (k+3)):=by
 rw[ay (show k<l.length by omega),ay (show k+1<l.length by omega),ay (show k+1+1<l.length by omega)]
 rw[lQ,if_pos ⟨hc,hx,hy⟩]
theorem QH {l:Bytes} {k:Nat} (h:k<l.length) (hm:¬ (b2 l[k]=37∧∃ h2:k+2<l.length,0<=eF (b2 l[k+1]) 16∧0<=eF (b2 l[k+2]) 16)):lQ (l.drop k)=l[k]::lQ (l.drop (k+1)):=by
 rw[ay h]
 rcases cU (k+2) l.length with h2|h2
 ·rw[ay (show k+1<l.length by omega),ay (show k+1+1<l.length by omega)]
  rw[lQ,if_neg (fun a=>hm ⟨a.1,h2,a.2⟩)]
 have e:(l.drop (k+1)).length<=1:=by rw[ai];omega
 generalize l.drop (k+1)=t at e
 match t,e with
 | [],_=>simp[lQ]
 | [x],_=>simp[lQ]
theorem Ac (l:Bytes) (w:World) (hl:l.length<=1024000000):Calls prog 201 #[.string (bs l)] w (fd w 5 (Lib.byteCells (lQ l))):=by
 obtain⟨i8,q9,vJ,jK,ky⟩:=info_parts ly
 obtain⟨s,hs⟩:=ap (bs l)
 have hsz:s.size=l.length:=by rw[hs,aB]
 have hby:∀ k (hk:k<s.size) (hk2:k<l.length),((s[k]'hk).toNat:Int)=b2 l[k]:=fun k hk hk2=>bV hs hk hk2
 rw[<-hs]
 clear hs
 obtain⟨N,hN⟩:=ap (s.size)
 have jF:s.size=N:=hN.symm
 have pg:N<=1024000000:=by omega
 have fF:=h_ hby;clear hby
 have e7:=h_ hsz;clear hsz hl hN
 go_enter func201,ntmps201
 go_wp2_with fail
 obtain⟨w1,hr,hown0,hgr⟩:=run_make_own (P:=prog) w w.heap.size 50 5 i8 (.int .u8 0) 1 underlying50 q9 vJ jK .i64 .i64 N (by rw[ky];omega) (aq pg (by decide)) (ae _)
 have hb1:Below w.heap.size w w1:=⟨hgr.os,hgr.tape,hgr.output,hgr.size,fun k hk=>hgr.block k hk (by simp)⟩
 have HO0:=h_ hown0;clear hown0
 have HB1:=h_ hb1;clear hb1 hgr
 obtain⟨T,hT⟩:=ap (lQ l)
 rw[<-hT]
 have HT:=h_ hT;clear hT
 rw[hr]
 clear hr
 go_wp2_with fail
 go_loopw [3,4] (fun ov iv wr=>∃ (k:Nat) (o:Bytes),k<=N∧iv=.int .i64 k∧wr.ownsRow w.heap.size 5 1 ov o.length (Lib.byteCells o)∧o++lQ (l.drop k)=T∧o.length<=k∧w.heap.size<=wr.heap.size∧Below w.heap.size w wr) (fun _ i _=>N-(intOf i).toNat)
 case atStart=>exact⟨0,[],by omega,by simp,HO0.out,by rw[HT.out];rfl,by simp,HB1.out.size,HB1.out⟩
 case round =>
  obtain⟨k,o,hk,rfl,hown,ho,hol,hwz,hbel⟩:=hrel
  have HO:=h_ hown;clear hown
  have HB:=h_ hbel;clear hbel
  have HC:=h_ ho;clear ho
  by_cases hlt:k<N
  ·have lV:k<s.size:=by omega
   have hkl:k<l.length:=by have:=e7.out;omega
   have hx:=fF.out k lV hkl
   obtain⟨al,s7⟩:∃ al,al=o.length:=⟨_,rfl⟩
   have ho:=HO.out
   rw[<-s7]at hol ho
   have uJ:=h_ ho;clear ho HO
   have lI:=h_ s7;clear s7
   have hmiss:=QH (l:=l) (k:=k) hkl
   have hhit:=V9 (l:=l) (k:=k)
   obtain⟨X,hX⟩:∃ X:Int,X=b2 l[k]:=⟨_,rfl⟩
   rw[<-hX]at hx
   have nZ:¬ (b2 l[k]=37∧∃ h2:k+2<l.length,0<=eF (b2 l[k+1]) 16∧0<=eF (b2 l[k+2]) 16)->∀ (v2:Value) (w2:World),w2.ownsRow w.heap.size 5 1 v2 (al+1) (Lib.byteCells o++[.int .u8 X])->∃ o',w2.ownsRow w.heap.size 5 1 v2 o'.length (Lib.byteCells o')∧o'++lQ (l.drop (k+1))=T∧o'.length=al+1:=fun hm v2 w2 h2=>by
    refine⟨o++[l[k]],?_,?_,?_⟩
    ·rw[af,<-lI.out,fO,<-hX]
     exact h2
    ·rw[<-HC.out,hmiss hm];simp
    rw[af,<-lI.out];rfl
   clear hmiss
   have hw2:IntKind.i64.wrap ((k:Int)+2)=(k:Int)+2:=IntWalk.i64_in _ (by omega)
   have hw1:IntKind.i64.wrap ((k:Int)+1)=(k:Int)+1:=IntWalk.i64_in _ (by omega)
   by_cases h37:X=37
   ·by_cases hin:k+2<N
    ·have hk1:k+1<s.size:=by omega
     have hk2:k+2<s.size:=by omega
     have Vw:k+1<l.length:=by have:=e7.out;omega
     have P5:k+2<l.length:=by have:=e7.out;omega
     have hx1:=fF.out (k+1) hk1 Vw
     have hx2:=fF.out (k+2) hk2 P5
     have r1:=iD l[k+1]
     have r2:=iD l[k+2]
     have hd1:∀ W,Calls prog 62 #[.int .u8 (b2 l[k+1]),.int .i64 16] W fun e w'=>e=.returned (.int .i64 (eF (b2 l[k+1]) 16))∧w'=W:=fun W=>(cY (b2 l[k+1]) 16 W r1 (by omega)).mono (fun _ _ h=>⟨h.1,h.2.symm⟩)
     have hd2:∀ W,Calls prog 62 #[.int .u8 (b2 l[k+2]),.int .i64 16] W fun e w'=>e=.returned (.int .i64 (eF (b2 l[k+2]) 16))∧w'=W:=fun W=>(cY (b2 l[k+2]) 16 W r2 (by omega)).mono (fun _ _ h=>⟨h.1,h.2.symm⟩)
     have g1:=xA (b2 l[k+1])
     have g2:=xA (b2 l[k+2])
     have f1:=KH (b2 l[k+1])
     have f2:=KH (b2 l[k+2])
     obtain⟨D,hD⟩:=ap (eF (b2 l[k+1]) 16)
     obtain⟨E,hE⟩:=ap (eF (b2 l[k+2]) 16)
     rw[<-hD]at hd1 g1 f1
     rw[<-hE]at hd2 g2 f2
     have HD:=h_ hD;clear hD
     have HE:=h_ hE;clear hE
     by_cases hdg:0<=D∧0<=E
     ·obtain⟨d0,e0⟩:=hdg
      have hv:pdV l[k+1] l[k+2]=D*16+E:=by unfold pdV;rw[<-HD.out,<-HE.out]
      have hh:=hhit P5 (by rw[<-hX];exact h37) (by rw[<-HD.out];exact d0) (by rw[<-HE.out];exact e0)
      rw[hv]at hh
      have hm1:IntKind.i64.wrap (D*16)=D*16:=IntWalk.i64_in _ (by omega)
      have hm2:IntKind.i64.wrap (D*16+E)=D*16+E:=IntWalk.i64_in _ (by omega)
      have P6:IntKind.u8.wrap (D*16+E)=D*16+E:=by rw[IntKind.wrap_u8];omega
      have hge:∀ (v2:Value) (w2:World),w2.ownsRow w.heap.size 5 1 v2 (al+1) (Lib.byteCells o++[.int .u8 (D*16+E)])->∃ o',w2.ownsRow w.heap.size 5 1 v2 o'.length (Lib.byteCells o')∧o'++lQ (l.drop (k+3))=T∧o'.length=al+1:=fun v2 w2 h2=>by
       refine⟨o++[UInt8.ofNat (D*16+E).toNat],?_,?_,?_⟩
       ·rw[af,<-lI.out,fO,Sq (by omega)]
        exact h2
       ·rw[<-HC.out,hh];simp
       rw[af,<-lI.out];rfl
      have HM:=h_ hge;clear hge nZ hhit hh hv
      clear hX f1 f2
      subst h37
      have HD1:=h_ hd1;clear hd1
      have HD2:=h_ hd2;clear hd2
      obtain⟨x1,LU⟩:∃ x,x=b2 l[k+1]:=⟨_,rfl⟩
      obtain⟨x2,LW⟩:∃ x,x=b2 l[k+2]:=⟨_,rfl⟩
      rw[<-LU]at hx1 HD1 r1
      rw[<-LW]at hx2 HD2 r2
      clear LU LW HD HE
      obtain⟨K1,hK1⟩:=ap (k+1)
      obtain⟨K2,hK2⟩:=ap (k+2)
      have LV:∀ h:K1<s.size,((s[K1]'h).toNat:Int)=x1:=fun h=>by subst hK1;exact hx1
      have LY:∀ h:K2<s.size,((s[K2]'h).toNat:Int)=x2:=fun h=>by subst hK2;exact hx2
      have Vv:K1<s.size:=by omega
      have Vx:K2<s.size:=by omega
      have Vy:K2<N:=by omega
      have a4z:=LV Vv
      have a4A:=LY Vx
      have a4v:IntKind.i64.wrap ((k:Int)+1)=(K1:Int):=by rw[hw1];omega
      have a4w:IntKind.i64.wrap ((k:Int)+2)=(K2:Int):=by rw[hw2];omega
      have Oe:=h_ hK2
      have Od:=h_ hK1
      clear hx1 hx2 LV LY hk1 hk2 hw1 hw2 hin hK1 hK2 Vw P5
      go_wp2_with fail
      go_quiet ((go_at_call 62;first|with_reducible exact Calls.quiet_of_same (HD1.out _)|with_reducible exact Calls.quiet_of_same (HD2.out _)))
      have nu:w.heap.size<=(wr.drewN nq).heap.size:=hwz
      have ho2:=own_below uJ.out (dF (Below.refl wr.heap.size wr) nq)
      have lB:=h_ ho2;clear ho2
      have HB3:=h_ (dF HB.out nq)
      go_wp2_with (at_builtin;(refine ez rfl (.tmp 43) (.tmp 49) _ rfl w.heap.size 5 i8 (.int .u8 0) 1 underlying50 q9 vJ jK ky (by decide) _ _ _ (Lib.byteCells o) rfl lB.out (.int .u8 (D*16+E)) rfl rfl (by omega) (by decide) (by omega) ?_);intro v2 w2 hown2 hw2 hb2;have eO:=h_ hown2;clear hown2;have HB2:=h_ hb2;clear hb2)
      go_roundw
      case rel =>
       obtain⟨o',a1,a2,a3⟩:=HM.out _ _ eO.out
       have P4:=Oe.out
       subst P4
       exact⟨k+3,o',by omega,by first|rfl|(simp;done)|(simp;omega),a1,a2,by omega,by omega,HB3.out.trans HB2.out⟩
      case measure=>have:=Oe.out;simp[intOf];omega
     have HM:=h_ (nZ (fun a=>hdg ⟨by rw[HD.out];exact a.2.2.1,by rw[HE.out];exact a.2.2.2⟩));clear nZ hhit
     clear hX
     subst h37
     have HD1:=h_ hd1;clear hd1
     have HD2:=h_ hd2;clear hd2
     obtain⟨x1,LU⟩:∃ x,x=b2 l[k+1]:=⟨_,rfl⟩
     obtain⟨x2,LW⟩:∃ x,x=b2 l[k+2]:=⟨_,rfl⟩
     rw[<-LU]at hx1 HD1 r1
     rw[<-LW]at hx2 HD2 r2
     clear LU LW HD HE
     obtain⟨K1,hK1⟩:=ap (k+1)
     obtain⟨K2,hK2⟩:=ap (k+2)
     have LV:∀ h:K1<s.size,((s[K1]'h).toNat:Int)=x1:=fun h=>by subst hK1;exact hx1
     have LY:∀ h:K2<s.size,((s[K2]'h).toNat:Int)=x2:=fun h=>by subst hK2;exact hx2
     have Vv:K1<s.size:=by omega
     have Vx:K2<s.size:=by omega
     have Vy:K2<N:=by omega
     have a4z:=LV Vv
     have a4A:=LY Vx
     have a4v:IntKind.i64.wrap ((k:Int)+1)=(K1:Int):=by rw[hw1];omega
     have a4w:IntKind.i64.wrap ((k:Int)+2)=(K2:Int):=by rw[hw2];omega
     have Oe:=h_ hK2
     have Od:=h_ hK1
     clear hx1 hx2 LV LY hk1 hk2 hw1 hw2 hin hK1 hK2 Vw P5
     have Y3:D<0∨(0<=D∧E<0):=by omega
     clear hdg
     rcases Y3 with Y3|⟨Y3,a8C⟩
     iterate 2
      ·go_wp2_with fail
       go_quiet ((go_at_call 62;first|with_reducible exact Calls.quiet_of_same (HD1.out _)|with_reducible exact Calls.quiet_of_same (HD2.out _)))
       have nu:w.heap.size<=(wr.drewN nq).heap.size:=hwz
       have ho2:=own_below uJ.out (dF (Below.refl wr.heap.size wr) nq)
       have lB:=h_ ho2;clear ho2
       have HB3:=h_ (dF HB.out nq)
       go_wp2_with (at_builtin;(refine ez rfl (.tmp 53) (.tmp 57) _ rfl w.heap.size 5 i8 (.int .u8 0) 1 underlying50 q9 vJ jK ky (by decide) _ _ _ (Lib.byteCells o) rfl lB.out (.int .u8 37) rfl rfl (by omega) (by decide) (by omega) ?_);intro v2 w2 hown2 hw2 hb2;have eO:=h_ hown2;clear hown2;have HB2:=h_ hb2;clear hb2)
       go_roundw
       case rel =>
        obtain⟨o',a1,a2,a3⟩:=HM.out _ _ eO.out
        have zV:=Od.out
        subst zV
        exact⟨k+1,o',by omega,by first|rfl|(simp;done)|(simp;omega),a1,a2,by omega,by omega,HB3.out.trans HB2.out⟩
       case measure=>have:=Od.out;simp[intOf];omega
    have HM:=h_ (nZ (fun a=>hin (by have:=a.2.1;have:=e7.out;omega)));clear nZ hhit
    subst h37
    have HX:=h_ hX;clear hX
    go_wp2_with (at_builtin;(refine ez rfl (.tmp 53) (.tmp 57) _ rfl w.heap.size 5 i8 (.int .u8 0) 1 underlying50 q9 vJ jK ky (by decide) _ _ _ (Lib.byteCells o) rfl uJ.out (.int .u8 37) rfl rfl (by omega) (by decide) (by omega) ?_);intro v2 w2 hown2 hw2 hb2;have eO:=h_ hown2;clear hown2;have HB2:=h_ hb2;clear hb2)
    go_roundw
    case rel =>
     obtain⟨o',a1,a2,a3⟩:=HM.out _ _ eO.out
     exact⟨k+1,o',by omega,by simp,a1,a2,by omega,by omega,HB.out.trans HB2.out⟩
    case measure=>simp[intOf];omega
   have HM:=h_ (nZ (fun a=>h37 (by rw[hX];exact a.1)));clear nZ hhit
   have HX:=h_ hX;clear hX
   go_wp2_with (at_builtin;(refine ez rfl (.tmp 53) (.tmp 57) _ rfl w.heap.size 5 i8 (.int .u8 0) 1 underlying50 q9 vJ jK ky (by decide) _ _ _ (Lib.byteCells o) rfl uJ.out (.int .u8 X) rfl rfl (by omega) (by decide) (by omega) ?_);intro v2 w2 hown2 hw2 hb2;have eO:=h_ hown2;clear hown2;have HB2:=h_ hb2;clear hb2)
   go_roundw
   case rel =>
    obtain⟨o',a1,a2,a3⟩:=HM.out _ _ eO.out
    exact⟨k+1,o',by omega,by simp,a1,a2,by omega,by omega,HB.out.trans HB2.out⟩
   case measure=>simp[intOf];omega
  obtain rfl:k=N:=by omega
  have he:l.drop k=[]:=bf (by have:=e7.out;omega)
  have hc:=HC.out
  rw[he,show lQ []=[]from by simp[lQ],aV]at hc
  have lB:=h_ (show wr.ownsRow w.heap.size 5 1 _ (Lib.byteCells T).length (Lib.byteCells T) by rw[Lib.byteCells_length,<-hc];exact HO.out)
  go_wp2_with fail
  go_ret
  have h3:=lB.out
  rw[HT.out]at h3
  exact⟨_,rfl,h3,HB.out⟩
end Go.Proofs.YtmndlfglgcioeaaGreatDoor
