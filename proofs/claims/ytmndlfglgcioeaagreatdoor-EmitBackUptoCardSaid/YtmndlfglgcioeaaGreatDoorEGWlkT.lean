/- Joined texts. -/
import Derived.Test.YtmndlfglgcioeaaGreatDoorEGWlkN
set_option maxHeartbeats 40000000
namespace Go.Proofs.YtmndlfglgcioeaaGreatDoor
open Tryz
open Go.RowKit
set_option maxRecDepth 10000
theorem zg{l:Bytes}{sp:Bool}{g:ie}(h:dh l sp=some g):g.six.length=8:=(oN (hkind h)).l
theorem xd(w0:World)(b:Nat)(u:Url)(s:Bytes)(w:World)(i:OB w0 b 30 (ai aR u) w)(h8:u.host.six.length=8)(hs:s.length<=307200000)(hA:Short (dO true s).1)(hE:Env w) :
  Calls prog 126 #[.pointer (some ⟨b,0,none⟩),.string (bs s)] w (YZ w0 b w (iF u s)):=by
 obtain⟨R,hR⟩:=az (iF u s);rw[<-hR];unfold iF at hR;have mY:=fun W=>CA s true W (by omega);have hcl:=ox true s;have hdr:=fun W=>pG (dO true s).1 W (by omega);have hpo:=fun W=>xj u.aH (dO true s).2 W (by omega);have hsg:=fun W=>gY u.aH s [] aR W Sl.nil hs (by simp) (by simp);have hho:=fun W (h:Below w.heap.size w W)=>wI (dO true s).1 true W hA (hE.below h);generalize dO true s=C at *;obtain⟨c1,c2⟩:=C;simp only at hR mY hcl hdr hpo hho hA;have H8:=h_ h8;have II:=h_ i;obtain⟨sc,hsc⟩:=az (bs u.aH);obtain⟨t,ht⟩:=az (bs s);obtain⟨k1,hk1⟩:=az (bs c1);obtain⟨k2,hk2⟩:=az (bs c2);rw[<-hsc]at hpo hsg;rw[<-ht]at mY hsg ⊢;rw[<-hk1]at hdr hho;rw[<-hk2]at hpo;have mt:=h_ (show ∀W,bN prog 133 #[.string t,.bool true] W (.tuple #[.string k1,.string k2])from by rw[hk1,hk2];exact mY);have HDR:=h_ hdr;have FE:=h_ hpo;have mX:=h_ hsg;have uL:=h_ hsc;have FB:=h_ (fun(W:World) (v:Value) (x:Url) (h1:OB w0 b 30 (ai v x) W) (h2:x.host.six.length=8) (h3:x.aH=u.aH)=>(show W.cell? ⟨b,0,none⟩=some (.string sc)from by rw[h1.aF (uF v x h2).aH,h3,uL.out]));have DR:k1.toList=[] ↔ c1=[]:=by rw[hk1,ay]
 have HR:=h_ hR;have IM:=h_ i.lt;obtain⟨PS,hPS⟩:=az (dc u.aH [] s);obtain⟨PO,hPO⟩:=az (gE u.aH c2);rw[<-hPS]at mX HR;rw[<-hPO]at FE HR;have c0:=FB.out _ _ _ II.out H8.out rfl;clear hR mY hdr hpo hsg hsc ht hk1 hk2 hcl hs hA h8 i hPS hPO;cases hD:dg c1 with
 |true =>
  have dH:=h_ (show R=some {u with path:=PS} by rw[HR.out,if_pos hD]);rw[hD]at HDR;clear hD hho DR;go_enter func126,ntmps126
  go_upto_region 2 with(first
   |(go_at_call 133;refine(mt.out _).mono ?_;rintro e w3 ⟨rfl,hb⟩;have I3:=h_ (II.out.below hb);have T3:=h_ (Tn.of_below (b:=b) hb);have c3:=FB.out _ _ _ (II.out.below hb) H8.out rfl;clear hb)
   |(go_at_call 159;refine(HDR.out _).mono ?_;rintro e w4 ⟨rfl,hw⟩;subst hw)
   |fail)
  go_wp2_with (first
   |(go_at_call 129;refine(mX.out _).mono ?_;rintro e w5 ⟨pv,rfl,o,hb⟩;have I5:=h_ (I3.out.below hb);have O5:=h_ (fE o);have T5:=h_ (T3.out.below hb);clear o hb)
   |(refine ex rfl 28 (.tmp 23) (.tmp 21) rfl w0 b 30 (ai aR u) I5.out 18 pv rfl rfl (gy H8.out (by decide)) dP (bm O5.out) (ai pv {u with path:=PS}) ((gw aR u H8.out).path _ _) ?_;intro w6 i1 t1;have I6:=h_ i1;have T6:=h_ (T5.out.trans t1);have O6:=h_ (t1.row O5.out I3.out.lt);clear i1 t1)
   |fail)
  go_end0
  rw[dH.out];exact⟨rfl,⟨pv,I6.out,bh O6.out T3.out.s⟩,T6.out⟩
 |false =>
  rw[hD]at HDR;by_cases he:c1=[]
  ·have dH:=h_ (show R=some {u with path:=PO} by rw[HR.out,if_neg (by simp[hD]),if_pos he])
   have he1:k1.toList.isEmpty=true:=by rw[DR.2 he];rfl
   clear hD hho DR he;go_enter func126,ntmps126
   go_upto_region 9 with(first
    |(go_at_call 133;refine(mt.out _).mono ?_;rintro e w3 ⟨rfl,hb⟩;have I3:=h_ (II.out.below hb);have T3:=h_ (Tn.of_below (b:=b) hb);have B3:=h_ hb;have c3:=FB.out _ _ _ (II.out.below hb) H8.out rfl;clear hb)
    |(go_at_call 159;refine(HDR.out _).mono ?_;rintro e w4 ⟨rfl,hw⟩;subst hw)
    |fail)
   go_wp2_with (first
    |(go_at_call 135;refine(FE.out _).mono ?_;rintro e w5 ⟨pv,rfl,o,hb⟩;have I5:=h_ (I3.out.below hb);have O5:=h_ (fE o);have T5:=h_ (T3.out.below hb);clear o hb)
    |(refine ex rfl 28 (.tmp 55) (.tmp 53) rfl w0 b 30 (ai aR u) I5.out 18 pv rfl rfl (gy H8.out (by decide)) dP (bm O5.out) (ai pv {u with path:=PO}) ((gw aR u H8.out).path _ _) ?_;intro w6 i1 t1;have I6:=h_ i1;have T6:=h_ (T5.out.trans t1);have O6:=h_ (t1.row O5.out I3.out.lt);clear i1 t1)
    |fail)
   go_end0
   rw[dH.out];exact⟨rfl,⟨pv,I6.out,bh O6.out T3.out.s⟩,T6.out⟩
  have he1:k1.toList.isEmpty=false:=by
   have:=fun h=>he (DR.1 h)
   simpa using this
  cases hO:dh c1 true with
  |none =>
   have dH:=h_ (show R=none by rw[HR.out,if_neg (by simp[hD]),if_neg he,hO]);rw[hO]at hho;have HHO:=h_ (show ∀W,Below w.heap.size w W->bN prog 160 #[.string k1,.bool true] W (.tuple #[.agg (cd H0),.bool false])from hho);clear hD hho DR he hO;go_enter func126,ntmps126
   go_wp2_with (first
    |(go_at_call 133;refine(mt.out _).mono ?_;rintro e w3 ⟨rfl,hb⟩;have I3:=h_ (II.out.below hb);have T3:=h_ (Tn.of_below (b:=b) hb);have B3:=h_ hb;have c3:=FB.out _ _ _ (II.out.below hb) H8.out rfl;clear hb)
    |(go_at_call 159;refine(HDR.out _).mono ?_;rintro e w4 ⟨rfl,hw⟩;subst hw)
    |(go_at_call 160;refine(HHO.out _ B3.out).mono ?_;rintro e w5 ⟨rfl,hb⟩;have B5:=h_ hb;clear hb)
    |(refine aS rfl 27 rfl _ _ (ro _) ?_)
    |(refine BL rfl (.tmp 6) (.tmp 29) rfl H0 rfl rfl rfl rfl ?_;intro w6 hh hb;have B6:=h_ (iK B5.out hb);clear hh hb)
    |fail)
   refine⟨rfl,?_⟩;rw[dH.out];exact⟨rfl,(I3.out.below B6.out).bL,T3.out.below B6.out⟩
  |some g =>
   have G8:=h_ (zg hO);have yo:=h_ (show R=some {u with host:=if g.kind=2∧g.name=[108,111,99,97,108,104,111,115,116]then u.host else g,path:=PO} by rw[HR.out,if_neg (by simp[hD]),if_neg he,hO]);rw[hO]at hho;have HHO:=h_ (show ∀W,Below w.heap.size w W->bN prog 160 #[.string k1,.bool true] W (.tuple #[.agg (cd g),.bool true])from hho);have HI:=h_ (show(prog.info? 27).map (·.size)=some (aZ g).length by rw[jQ];simp[aZ,G8.out]);clear hD hho DR he hO;go_enter func126,ntmps126
   go_upto_region 7 with(first
    |(go_at_call 133;refine(mt.out _).mono ?_;rintro e w3 ⟨rfl,hb⟩;have I3:=h_ (II.out.below hb);have T3:=h_ (Tn.of_below (b:=b) hb);have B3:=h_ hb;have c3:=FB.out _ _ _ (II.out.below hb) H8.out rfl;clear hb)
    |(go_at_call 159;refine(HDR.out _).mono ?_;rintro e w4 ⟨rfl,hw⟩;subst hw)
    |(go_at_call 160;refine(HHO.out _ B3.out).mono ?_;rintro e w5 ⟨rfl,hb⟩;have B5:=h_ hb;clear hb)
    |(refine aS rfl 27 rfl _ _ (ro _) ?_)
    |(refine BL rfl (.tmp 6) (.tmp 29) rfl g G8.out rfl rfl rfl ?_;intro w6 hh hb;have HH6:=h_ hh;have I6:=h_ (I3.out.below (iK B5.out hb));have T6:=h_ (T3.out.below (iK B5.out hb));clear hh hb)
    |fail)
   obtain⟨bt,hbt⟩:=az (w5.heap.size);rw[<-hbt]at HH6 ⊢;clear hbt c0 c3;have e0:w6.cell? ⟨bt,0,none⟩=some (.int .i64 g.kind):=HH6.out.cell 0;have e1:w6.cell? ⟨bt,1,none⟩=some (.string (bs g.name)):=HH6.out.cell 1;have c3:=FB.out _ _ _ I6.out H8.out rfl;have hnm:=ay g.name;obtain⟨nm,a4O⟩:=az (bs g.name);rw[<-a4O]at hnm e1;clear a4O;by_cases hk:g.kind=2
   ·by_cases hn:g.name=[108,111,99,97,108,104,111,115,116]
    ·have dH:=h_ (show R=some {u with path:=PO} by rw[yo.out,if_pos ⟨hk,hn⟩])
     have hl:(nm.toList == [108,111,99,97,108,104,111,115,116])=true:=by rw[hnm,hn];rfl
     rw[hk]at e0;clear hk hn hnm
     go_wp2_with (first
      |(go_at_call 135;refine(FE.out _).mono ?_;rintro e w8 ⟨pv,rfl,o,hb⟩;have I8:=h_ (I6.out.below hb);have O8:=h_ (fE o);have T8:=h_ (T6.out.below hb);clear o hb)
      |(refine ex rfl 28 (.tmp 55) (.tmp 53) rfl w0 b 30 (ai aR u) I8.out 18 pv rfl rfl (gy H8.out (by decide)) dP (bm O8.out) (ai pv {u with path:=PO}) ((gw aR u H8.out).path _ _) ?_;intro w9 i1 t1;have I9:=h_ i1;have T9:=h_ (T8.out.trans t1);have O9:=h_ (t1.row O8.out I6.out.lt);clear i1 t1)
      |fail)
     go_end0
     rw[dH.out];exact⟨rfl,⟨pv,I9.out,bh O9.out T6.out.s⟩,T9.out⟩
    have dH:=h_ (show R=some {{u with host:=g}with path:=PO} by rw[yo.out,if_neg (fun h=>hn h.2)]);have hl:(nm.toList == [108,111,99,97,108,104,111,115,116])=false:=by rw[hnm];simpa using hn
    rw[hk]at e0;clear hk hn hnm
    go_upto_region 9 with(first
     |(refine Sd rfl (.tmp 6) rfl bt g HH6.out rfl ?_)
     |(refine t4 rfl 27 (.tmp 46) (.tmp 44) rfl w0 b 30 (ai aR u) I6.out 3 (aZ g) rfl rfl (Aa H8.out G8.out) HI.out kM (ai aR {u with host:=g}) (tC aR u g G8.out H8.out) ?_;intro w7 i1 t1;have I7:=h_ i1;have T7:=h_ (T6.out.trans t1);clear i1 t1)
     |fail)
    clear c3 e0 e1;have c7:=FB.out _ _ _ I7.out G8.out rfl
    go_wp2_with (first
     |(go_at_call 135;refine(FE.out _).mono ?_;rintro e w8 ⟨pv,rfl,o,hb⟩;have I8:=h_ (I7.out.below hb);have O8:=h_ (fE o);have T8:=h_ (T7.out.below hb);clear o hb)
     |(refine ex rfl 28 (.tmp 55) (.tmp 53) rfl w0 b 30 (ai aR {u with host:=g}) I8.out 18 pv rfl rfl (gy G8.out (by decide)) dP (bm O8.out) (ai pv {{u with host:=g}with path:=PO}) ((gw aR {u with host:=g} G8.out).path _ _) ?_;intro w9 i1 t1;have I9:=h_ i1;have T9:=h_ (T8.out.trans t1);have O9:=h_ (t1.row O8.out I7.out.lt);clear i1 t1)
     |fail)
    go_end0
    rw[dH.out];exact⟨rfl,⟨pv,I9.out,bh O9.out T7.out.s⟩,T9.out⟩
   have dH:=h_ (show R=some {{u with host:=g}with path:=PO} by rw[yo.out,if_neg (fun h=>hk h.1)]);obtain⟨gk,hgk⟩:=az (g.kind);rw[<-hgk]at e0 hk;clear hnm hgk
   go_upto_region 9 with(first
    |(refine Sd rfl (.tmp 6) rfl bt g HH6.out rfl ?_)
    |(refine t4 rfl 27 (.tmp 46) (.tmp 44) rfl w0 b 30 (ai aR u) I6.out 3 (aZ g) rfl rfl (Aa H8.out G8.out) HI.out kM (ai aR {u with host:=g}) (tC aR u g G8.out H8.out) ?_;intro w7 i1 t1;have I7:=h_ i1;have T7:=h_ (T6.out.trans t1);clear i1 t1)
    |fail)
   clear c3 e0 e1;have c7:=FB.out _ _ _ I7.out G8.out rfl
   go_wp2_with (first
    |(go_at_call 135;refine(FE.out _).mono ?_;rintro e w8 ⟨pv,rfl,o,hb⟩;have I8:=h_ (I7.out.below hb);have O8:=h_ (fE o);have T8:=h_ (T7.out.below hb);clear o hb)
    |(refine ex rfl 28 (.tmp 55) (.tmp 53) rfl w0 b 30 (ai aR {u with host:=g}) I8.out 18 pv rfl rfl (gy G8.out (by decide)) dP (bm O8.out) (ai pv {{u with host:=g}with path:=PO}) ((gw aR {u with host:=g} G8.out).path _ _) ?_;intro w9 i1 t1;have I9:=h_ i1;have T9:=h_ (T8.out.trans t1);have O9:=h_ (t1.row O8.out I7.out.lt);clear i1 t1)
    |fail)
   go_end0
   rw[dH.out];exact⟨rfl,⟨pv,I9.out,bh O9.out T7.out.s⟩,T9.out⟩

def y6(b:Url)(rest:Bytes):List Bytes:=if(match b.path with|x::_=>iQ x | []=>false)=true∧fW rest=false then b.path.take 1 else []
def Oo(b:Url)(p:lH):Url:=if b.aH=aW then {dj aW p with host:=b.host}else {dj aW p with host:={H0 with kind:=1}}
theorem wd(b:Url)(p:lH):lP b p=if 2<=ra (eK aW) p.rest then iF {dj aW p with host:={H0 with kind:=1}} (p.rest.drop 2)
  else if ra (eK aW) p.rest=1 then some {Oo b p with path:=dc aW (if b.aH=aW then y6 b (p.rest.drop 1)else []) (p.rest.drop 1)}
  else if b.aH=aW∧p.rest=[]then some (gv (Oo b p) b)
  else if b.aH=aW∧fW p.rest=false then some {Oo b p with path:=dc aW (cI aW b.path) p.rest}
  else some {Oo b p with path:=dc aW [] p.rest}:=by
 unfold lP Oo y6;by_cases h:b.aH=aW
 ·simp only[h,decide_true,if_true,true_and]
  rfl
 simp only[h,decide_false,if_false,false_and,fd]
theorem zq{u v:Url}{s:Bytes}(hu:u.host.six.length=8)(h:iF u s=some v):v.host.six.length=8:=by
 unfold iF at h;dsimp only at h
 split at h
 ·cases h;exact hu
 split at h
 ·cases h;exact hu
 cases hO:dh (dO true s).1 true with
 |none=>rw[hO]at h;cases h
 |some g =>
  rw[hO]at h;cases h;dsimp only
  split
  ·exact hu
  exact zg hO
section
variable {P:Program} {ops:Array Oper} {rest:List Oper} {o:Oper} {a:Act} {w:World} {Q:Exit->Act->World->Prop}
theorem Se(hgd:o.guard=none)(T:TypeId)(x:Operand)(ho:o.op=.load T x)(b k:Nat)(vs:List Value)(d:TypeDesc)(hu:P.underlying T=some d)(hd:d.isRow=true)(hi:(P.info? T).map (·.size)=some vs.length)
  (hx:a.eval x=.pointer (some ⟨b,k,none⟩)) (hr:w.rangeAt b k vs) (K:wpList P ops Q rest (a.put o.dst (.agg vs.toArray)) w):wpList P ops Q (o::rest) a w :=
 lz hgd (.agg vs.toArray) (iX T x ho b k vs d hu hd hi hx hr) K
end
theorem NC{B:Nat}{W:World}{v:Value}(h:Sl B W v (([]:List Bytes).map S)):∃ a c,v=.slice a 0 c:=by
 obtain⟨c,_,_,h⟩:=h;rcases h with⟨_,a,h⟩|⟨b,o,_,h,_⟩
 ·exact⟨a,c,h⟩
 exact⟨some ⟨b,o,none⟩,c,h⟩
theorem Il{B:Nat}{W:World}{v:Value}{x:Bytes}{r:List Bytes}(h:Sl B W v ((x::r).map S)):∃ b o m c,0<m∧v=.slice (some ⟨b,o,none⟩) m c∧W.cell? ⟨b,o,none⟩=some (S x):=by
 obtain⟨c,_,_,h⟩:=h;rcases h with⟨h,_⟩|⟨b,o,_,h,ha⟩
 ·cases h
 refine⟨b,o,_,c,by simp,h,?_⟩;have:=ha 0 (by simp)
 simpa using this
theorem a3M(x:Bytes)(w:World):(Instr.buildSlice 28 1 #[(0,S x)]).run prog w=.ok (.slice (some ⟨w.heap.size,0,none⟩) 1 1) (w.alloc (.cells #[S x] 9)):=by kernel_rfl
section
variable {ops:Array Oper} {rest:List Oper} {o:Oper} {a:Act} {w:World} {Q:Exit->Act->World->Prop}
theorem Vw(hg:o.guard=none)(y:Operand)(ho:o.op=.buildSlice 28 1 #[(0,y)])(x:Bytes)(hy:a.eval y=S x)
  (h:∀ b w',Below w.heap.size w w'->Sl w'.heap.size w' (.slice (some ⟨b,0,none⟩) 1 1) ([x].map S)->wpList prog ops Q rest (a.put o.dst (.slice (some ⟨b,0,none⟩) 1 1)) w'):wpList prog ops Q (o::rest) a w:=by
 refine wpList_plain hg fun K hK=>?_;unfold Oper.wp execOp;have e:(#[(0,y)]:Array (Nat×Operand)).map (fun(i,x)=>(i,a.eval x))=#[(0,S x)]:=by simp[hy]
 simp only[ho,Sem.run_bind,Sem.run_pure,Result.andThen_ok,e,a3M];refine hK _ _ (h _ _ ((Below.refl _ _).alloc (af _) _) ?_);refine⟨1,by simp,by unfold maxLen;omega,.inr ⟨w.heap.size,0,by simp,by simp,fun j hj=>?_⟩⟩;have h0:j=0:=by simpa using hj
 subst h0;rw[World.cell?_alloc_mark];rfl
end
theorem Qv(bu:Url)(bv:Value)(p:lH)(w:World)(h8:bu.host.six.length=8)(hbv:Sl w.heap.size w bv (bu.path.map S))(hbs:Bs bu.path)(hr:Rs p.rest)(hq:p.q.length<=307200000)(hf:p.f.length<=307200000)(hE:Env w):Calls prog 97 #[.agg (ai bv bu),.agg (bg p)] w (Cy w (lP bu p)):=by
 have hst:=fun W=>pR aW p W (by omega) (by omega);have hsl:=fun W=>lY aW p.rest W (by have:=hr.l;omega);obtain⟨us,nT⟩:=az (dj aW p);have h8s:us.host.six.length=8:=by rw[nT];rfl
 have hsc:us.aH=aW:=by rw[nT];rfl
 have hup:us.path=[]:=by rw[nT];rfl
 have hho:{us with host:={us.host with kind:=1}}={us with host:={H0 with kind:=1}}:=by rw[nT];rfl
 rw[<-nT]at hst;obtain⟨R,hR⟩:=az (lP bu p);rw[<-hR];rw[wd]at hR;have hle:=BG (eK aW) p.rest;have HE:=h_ hE;have tE:=h_ hr;have H8:=h_ h8;have Ub:=h_ hbv;have BY:=h_ hbs;have Cc:=h_ h8s;have uL:=h_ hsc;have Cd:=h_ hup;have HHO:=h_ hho;have HU2:=h_ (show Oo bu p=if bu.aH=aW then {us with host:=bu.host}else {us with host:={H0 with kind:=1}} by unfold Oo;rw[nT]);obtain⟨u1,hu1⟩:∃ u1:Url,u1={us with host:={H0 with kind:=1}}:=⟨_,rfl⟩;rw[<-nT,<-hu1]at hR;have Ar:=h_ (show u1.host.six.length=8 by rw[hu1];rfl);have U1S:=h_ (show u1.aH=aW by rw[hu1];exact hsc);have U1P:=h_ (show u1.path=[] by rw[hu1];exact hup);have HU1:=h_ hu1;generalize ra (eK aW) p.rest=n at *;have HSL:=h_ hsl;have HR:=h_ hR;have hbq:=yC bu.aH aW;obtain⟨fs,hfs⟩:=az (bs aW);have HST:=h_ (show ∀W,bN prog 98 #[.string ⟨#[102,105,108,101]⟩,.agg (bg p)] W (.agg (ai aR us))from hst);obtain⟨bsc,DM⟩:=az (bs bu.aH);have hbe:(bsc.toList == [102,105,108,101])=decide (bu.aH=aW):=by rw[DM,<-hbq,ay,ay];rfl
 have Y9:=h_ DM;have HFS:=h_ hfs;obtain⟨t,ht⟩:=az (bs p.rest);have htz:t.size=p.rest.length:=by rw[ht,aM]
 have HT:=h_ ht;have ux:t.extract 1 t.size=bs (p.rest.drop 1):=by rw[ht];exact jy p.rest 1 _ (aM p.rest)
 have qL:t.extract 2 t.size=bs (p.rest.drop 2):=by rw[ht];exact jy p.rest 2 _ (aM p.rest)
 obtain⟨N,hN⟩:=az (t.size);have Re:t.size=N:=hN.symm;rw[Re]at ux qL;have hnN:n<=N:=by omega
 have Zd:=h_ ux;have OG:=h_ qL;have Cr:=h_ hnN;have HTZ:=h_ htz;rw[<-hfs,<-ht]at hsl;have HSL:=h_ hsl;clear h8 hbv hbs hr hq hf hE hsl h8s hsc hup hR hle nT ht ux qL hN hnN htz hho hu1 hst hbq hfs DM;go_enter func97,ntmps97
 go_upto_region 1 with(first
  |(refine aS rfl 30 rfl _ _ (ef _) ?_)
  |fail)
 obtain⟨w3,hw3,hz3,hb,k1,k2,k3⟩:=three w bv bu p
 try rw[show((w.alloc (.cells (ai bv bu) 30)).alloc (.cells (bg p) 68)).heap.size=w.heap.size+2 by simp]
 rw[hw3];clear hw3;obtain⟨br,hbr⟩:=az (w.heap.size+2);obtain⟨bx,hbx⟩:=az (w.heap.size+1);obtain⟨bb,hbb⟩:=az (w.heap.size);rw[<-hbr]at k3;rw[<-hbx]at k2;rw[<-hbb]at k1;rw[<-hbr,<-hbx,<-hbb];have jL:=h_ (show w.heap.size<=br by omega);have lC:=h_ hbb;have B3:=h_ hb;have V3:=h_ k1;have X3:=h_ k2;have R3:=h_ k3;have HD:=h_ (show bb<bx∧bx<br by omega);clear hz3 hb k1 k2 k3 hbr hbx hbb;have c0:=V3.out.aF (uF bv bu H8.out).aH
 go_upto_region 2 with(first
  |(refine lj rfl (.tmp 3) rfl bx p X3.out rfl ?_)
  |(go_at_call 98;refine(HST.out _).mono ?_;rintro e w4 ⟨rfl,hb⟩;have eM:=h_ hb;clear hb)
  |(refine aS rfl 30 rfl _ _ (ef _) ?_)
  |(refine fP rfl (.tmp 5) (.tmp 11) rfl aR us Cc.out rfl rfl rfl rfl ?_;intro w5 hh hb;have I5:=h_ (OB.of (w0:=w) hh (ap B3.out.size eM.out.size) (iK (iK B3.out eM.out) hb));have K5:=h_ (show K3 bb bx br w4.heap.size bv bu p w5 from⟨(V3.out.keep eM.out).keep hb,(X3.out.keep eM.out).keep hb,(R3.out.keep eM.out).keep hb,cV (aQ V3.out.lt eM.out.size),cV (aQ X3.out.lt eM.out.size),cV (aQ R3.out.lt eM.out.size)⟩);have kG:=h_ (show br<w4.heap.size+1 from sC (aQ R3.out.lt eM.out.size));have uJ:=h_ (show w.heap.size<=w4.heap.size+1 from sB (ap B3.out.size eM.out.size));clear hh hb)
  |fail)
 obtain⟨b,hbb⟩:=az (w4.heap.size);rw[<-hbb]at I5 K5 kG uJ ⊢;clear c0 hbb
 go_upto_region 3 with(first
  |(refine ex rfl 3 (.tmp 13) (.const (.int .i64 1)) rfl w b 30 (ai aR us) I5.out 3 (.int .i64 1) rfl rfl (gy Cc.out (by decide)) bU.2.1 rfl (ai aR u1) (by rw[HU1.out,<-HHO.out];exact(gw aR us Cc.out).kind 1) ?_;intro w6 i6 t6;have I6:=h_ i6;have K6:=h_ (K5.out.tn t6);clear i6 t6)
  |fail)
 have HBF:=h_ hbe;have SC:=h_ (fun(W:World) (v:Value) (x:Url) (i:OB w b 30 (ai v x) W) (h:x.host.six.length=8) (hs:x.aH=aW) (k:K3 bb bx br b bv bu p W)=>(show W.cell? ⟨b,0,none⟩=some (.string fs)∧W.cell? ⟨bx,2,none⟩=some (.string t)∧W.cell? ⟨bb,18,none⟩=some bv∧W.cell? ⟨bb,0,none⟩=some (.string bsc)from⟨by rw[i.aF (uF v x h).aH,hs,HFS.out],by rw[HT.out];exact k.cx.aF rfl,k.cb.aF (uF bv bu H8.out).path,by rw[Y9.out];exact k.cb.aF (uF bv bu H8.out).aH⟩));obtain⟨d0,d2,d18,db⟩:=SC.out _ _ _ I6.out Ar.out U1S.out K6.out;by_cases hn:2<=n
 ·have rl:=h_ (show R=iF u1 (p.rest.drop 2) by rw[HR.out,if_pos hn])
  have hni:(2:Int)<=n:=by omega
  have hN2:2<=N:=by have:=Cr.out;omega
  have a80:(2:Int)<=N:=by omega
  have qL:=OG.out;obtain⟨s2,hs2⟩:=az (bs (p.rest.drop 2));rw[<-hs2]at qL;have HNA:=h_ (fun W i=>(show Calls prog 126 #[.pointer (some ⟨b,0,none⟩),.string s2] W (YZ w b W (iF u1 (p.rest.drop 2)))from by rw[hs2];exact xd w b u1 (p.rest.drop 2) W i Ar.out (by have:=tE.out.l;rw[ah];omega) (tE.out.n _ 2) (HE.out.below i.bL)));clear hn hs2 hbe;generalize decide (bu.aH=aW)=fr at *
  go_upto_region 6 with(first
   |(go_at_call 125;refine(HSL.out _).mono ?_;rintro e w7 ⟨rfl,hw⟩;subst hw)
   |fail)
  cases hO:iF u1 (p.rest.drop 2)with
  |none =>
   have dH:=h_ (show R=none by rw[rl.out,hO]);have sw:=h_ (fun W i=>(show Calls prog 126 #[.pointer (some ⟨b,0,none⟩),.string s2] W fun e w'=>e=Fq∧Below w.heap.size w w'∧Tn b W w' from by have h:=HNA.out W i;rw[hO]at h;exact h));clear hO
   go_wp2_with (first
    |(go_at_call 126;refine(sw.out _ I6.out).mono ?_;rintro e w7 ⟨rfl,hb,_⟩;have B7:=h_ hb;clear hb)
    |fail)
   rw[dH.out];exact⟨rfl,rfl,B7.out⟩
  |some u =>
   have dH:=h_ (show R=some u by rw[rl.out,hO]);have sw:=h_ (fun W i=>(show Calls prog 126 #[.pointer (some ⟨b,0,none⟩),.string s2] W fun e w'=>e=.returned (.tuple #[])∧(∃pv,OB w b 30 (ai pv u) w'∧w'.ownsRow W.heap.size 9 1 pv u.path.length (Strs u.path))∧Tn b W w' from by have h:=HNA.out W i;rw[hO]at h;exact h));have U8:=h_ (zq Ar.out hO);clear hO
   go_upto_region 7 with(first
    |(go_at_call 126;refine(sw.out _ I6.out).mono ?_;rintro e w7 ⟨rfl,⟨pv,i7,o7⟩,t7⟩;have I7:=h_ i7;have O7:=h_ (bh o7 (show b+1<=_ from I6.out.lt));have K7:=h_ (K6.out.tn t7);clear i7 o7 t7)
    |fail)
   go_wp2_with (first
    |(refine fm rfl (.tmp 5) rfl w b pv u I7.out U8.out rfl ?_)
    |(refine fU rfl (.tmp 4) (.tmp 28) rfl w br (OB.of K7.out.cr jL.out I7.out.bL) pv u U8.out (bm O7.out) rfl rfl ?_;intro wZ iZ tZ;have IZ:=h_ iZ;have OZ:=h_ (bh (tZ.row O7.out kG.out) uJ.out);clear iZ tZ)
    |fail)
   rw[dH.out];exact ez (u:=u) results97 U8.out rfl IZ.out ⟨pv,rfl,OZ.out,IZ.out.bL⟩
 have HI:=h_ (show(prog.info? 27).map (·.size)=some (aZ bu.host).length by rw[jQ];simp[aZ,H8.out]);have a9C:n=1∨n=0:=by omega
 rcases a9C with rfl|rfl
 ·obtain⟨s1,hs1⟩:=az (bs (p.rest.drop 1))
  have mX:=h_ (fun W (l:List Bytes) v (h:Sl W.heap.size W v (l.map S)) (h1:l.length<=1) (h2:∀ x∈l,x.length<=1024000000)=>(show Calls prog 129 #[.string fs,v,.string s1] W (gU W 9 (Strs (dc aW l (p.rest.drop 1))))from by rw[HFS.out,hs1];exact gY aW (p.rest.drop 1) l v W h (by have:=tE.out.l;rw[ah];omega) (by omega) h2));have nO:=h_ (fun W=>mX.out W [] aR Sl.nil (by simp) (fun _ h=>(by cases h)));have uo:=h_ (show ∀W,bV prog 128 #[.string s1] W (.bool (fW (p.rest.drop 1)))from fun W=>by rw[hs1];exact xN (p.rest.drop 1) W (by have:=tE.out.l;rw[ah];omega));have hN1:1<=N:=Cr.out;have V4:(1:Int)<=N:=by omega
  have ux:=Zd.out;rw[<-hs1]at ux;clear hs1;by_cases hfr:bu.aH=aW
  ·rw[decide_eq_true hfr]at hbe
   obtain⟨u2,hu2⟩:=az ({u1 with host:=bu.host});have U2:=h_ hu2;have mo:=h_ (show u2.host.six.length=8 by rw[hu2];exact H8.out);have Uj:=h_ (show u2.aH=aW by rw[hu2];exact U1S.out);have uK:=h_ (show R=some {u2 with path:=dc aW (y6 bu (p.rest.drop 1)) (p.rest.drop 1)} by rw[HR.out,if_neg hn,if_pos rfl,if_pos hfr,HU2.out,if_pos hfr,hu2,HU1.out]);clear hfr hu2
   go_upto_region 12 with(first
    |(go_at_call 125;refine(HSL.out _).mono ?_;rintro e w7 ⟨rfl,hw⟩;subst hw)
    |(refine Se rfl 27 (.tmp 30) rfl bb 3 (aZ bu.host) _ underlying27 rfl HI.out rfl (fun j v hj=>K6.out.cb.aF ((uF bv bu H8.out).host j v hj)) ?_)
    |(refine t4 rfl 27 (.tmp 32) (.tmp 31) rfl w b 30 (ai aR u1) I6.out 3 (aZ bu.host) rfl rfl (Aa Ar.out H8.out) HI.out kM (ai aR u2) (by rw[U2.out];exact tC aR u1 bu.host H8.out Ar.out) ?_;intro w7 i7 t7;have I7:=h_ i7;have K7:=h_ (K6.out.tn t7);have e0:=(SC.out _ _ _ I7.out mo.out Uj.out K7.out).2.1;clear i7 t7)
    |fail)
   clear d0 d2 d18 db;obtain⟨d0,d2,d18,db⟩:=SC.out _ _ _ I7.out mo.out Uj.out K7.out;have QT:=Ub.out.below I7.out.bL;unfold y6 at uK;obtain⟨lp,hlp⟩:=az (bu.path);rw[<-hlp]at QT uK;have HXL:=h_ (show ∀x∈lp,x.length<=1024000000 from by rw[hlp];exact BY.out.all);clear hlp;cases lp with
   |nil =>
    obtain⟨ab,cb,rfl⟩:=NC QT;have dH:=h_ (show R=some {u2 with path:=dc aW [] (p.rest.drop 1)} by rw[uK.out];simp);clear QT
    go_upto_region 21 with(first
     |(go_at_call 129;refine(nO.out _).mono ?_;rintro e w9 ⟨pv,rfl,o9,hb⟩;have O9:=h_ (bh (fE o9) (show b+1<=_ from I7.out.lt));have I9:=h_ (I7.out.below hb);have K9:=h_ (K7.out.below hb);clear o9 hb)
     |(refine ex rfl 28 (.tmp 74) (.tmp 73) rfl w b 30 (ai aR u2) I9.out 18 pv rfl rfl (gy mo.out (by decide)) dP (bm O9.out) (ai pv {u2 with path:=dc aW [] (p.rest.drop 1)}) ((gw aR u2 mo.out).path _ _) ?_;intro BX rP t10;have nW:=h_ rP;have uN:=h_ (K9.out.tn t10);have qk:=h_ (t10.row O9.out (bO b));clear rP t10)
     |fail)
    go_wp2_with (first
     |(refine fm rfl (.tmp 5) rfl w b pv {u2 with path:=dc aW [] (p.rest.drop 1)} nW.out mo.out rfl ?_)
     |(refine fU rfl (.tmp 4) (.tmp 103) rfl w br (OB.of uN.out.cr jL.out nW.out.bL) pv {u2 with path:=dc aW [] (p.rest.drop 1)} mo.out (bm qk.out) rfl rfl ?_;intro wZ iZ tZ;have IZ:=h_ iZ;have OZ:=h_ (bh (tZ.row qk.out kG.out) uJ.out);clear iZ tZ)
     |fail)
    rw[dH.out];exact ez (u:={u2 with path:=dc aW [] (p.rest.drop 1)}) results97 mo.out rfl IZ.out ⟨pv,rfl,OZ.out,IZ.out.bL⟩
   |cons x r =>
    obtain⟨qb,qo,qm,qc,hqm,rfl,hqx⟩:=Il QT;have hqi:(0:Int)<qm:=by omega
    have hnm:=fun W=>qU x W (HXL.out x (by simp));have a8q:=h_ (HXL.out x (by simp));obtain⟨xx,mZ⟩:=az (bs x);rw[<-mZ]at hnm;have b3S:w7.cell? ⟨qb,qo,none⟩=some (.string xx):=by rw[mZ];exact hqx
    have HXX:=h_ mZ;clear QT hqx mZ;have Zk:=h_ (show R=some {u2 with path:=dc aW (if iQ x=true∧fW (p.rest.drop 1)=false then [x]else []) (p.rest.drop 1)}from uK.out);cases hN:iQ x with
    |false =>
     rw[hN]at hnm;have om:=h_ hnm;have dH:=h_ (show R=some {u2 with path:=dc aW [] (p.rest.drop 1)} by rw[Zk.out,if_neg (fun h=>by rw[hN]at h;cases h.1)]);clear hnm hN
     go_upto_region 21 with(first
      |(go_at_call 127;refine(om.out _).mono ?_;rintro e w8 ⟨rfl,hw⟩;subst hw)
      |(go_at_call 129;refine(nO.out _).mono ?_;rintro e w9 ⟨pv,rfl,o9,hb⟩;have O9:=h_ (bh (fE o9) (show b+1<=_ from I7.out.lt));have I9:=h_ (I7.out.below hb);have K9:=h_ (K7.out.below hb);clear o9 hb)
      |(refine ex rfl 28 (.tmp 74) (.tmp 73) rfl w b 30 (ai aR u2) I9.out 18 pv rfl rfl (gy mo.out (by decide)) dP (bm O9.out) (ai pv {u2 with path:=dc aW [] (p.rest.drop 1)}) ((gw aR u2 mo.out).path _ _) ?_;intro BX rP t10;have nW:=h_ rP;have uN:=h_ (K9.out.tn t10);have qk:=h_ (t10.row O9.out (bO b));clear rP t10)
      |fail)
     go_wp2_with (first
      |(refine fm rfl (.tmp 5) rfl w b pv {u2 with path:=dc aW [] (p.rest.drop 1)} nW.out mo.out rfl ?_)
      |(refine fU rfl (.tmp 4) (.tmp 103) rfl w br (OB.of uN.out.cr jL.out nW.out.bL) pv {u2 with path:=dc aW [] (p.rest.drop 1)} mo.out (bm qk.out) rfl rfl ?_;intro wZ iZ tZ;have IZ:=h_ iZ;have OZ:=h_ (bh (tZ.row qk.out kG.out) uJ.out);clear iZ tZ)
      |fail)
     rw[dH.out];exact ez (u:={u2 with path:=dc aW [] (p.rest.drop 1)}) results97 mo.out rfl IZ.out ⟨pv,rfl,OZ.out,IZ.out.bL⟩
    |true =>
     rw[hN]at hnm;have om:=h_ hnm;cases hS:fW (p.rest.drop 1)with
     |true =>
      rw[hS]at uo;have dH:=h_ (show R=some {u2 with path:=dc aW [] (p.rest.drop 1)} by rw[Zk.out,if_neg (fun h=>by rw[hS]at h;cases h.2)]);clear hnm hN hS
      go_upto_region 21 with(first
       |(go_at_call 127;refine(om.out _).mono ?_;rintro e w8 ⟨rfl,hw⟩;subst hw)
       |(go_at_call 128;refine(uo.out _).mono ?_;rintro e w8 ⟨rfl,hw⟩;subst hw)
       |(go_at_call 129;refine(nO.out _).mono ?_;rintro e w9 ⟨pv,rfl,o9,hb⟩;have O9:=h_ (bh (fE o9) (show b+1<=_ from I7.out.lt));have I9:=h_ (I7.out.below hb);have K9:=h_ (K7.out.below hb);clear o9 hb)
       |(refine ex rfl 28 (.tmp 74) (.tmp 73) rfl w b 30 (ai aR u2) I9.out 18 pv rfl rfl (gy mo.out (by decide)) dP (bm O9.out) (ai pv {u2 with path:=dc aW [] (p.rest.drop 1)}) ((gw aR u2 mo.out).path _ _) ?_;intro BX rP t10;have nW:=h_ rP;have uN:=h_ (K9.out.tn t10);have qk:=h_ (t10.row O9.out (bO b));clear rP t10)
       |fail)
      go_wp2_with (first
       |(refine fm rfl (.tmp 5) rfl w b pv {u2 with path:=dc aW [] (p.rest.drop 1)} nW.out mo.out rfl ?_)
       |(refine fU rfl (.tmp 4) (.tmp 103) rfl w br (OB.of uN.out.cr jL.out nW.out.bL) pv {u2 with path:=dc aW [] (p.rest.drop 1)} mo.out (bm qk.out) rfl rfl ?_;intro wZ iZ tZ;have IZ:=h_ iZ;have OZ:=h_ (bh (tZ.row qk.out kG.out) uJ.out);clear iZ tZ)
       |fail)
      rw[dH.out];exact ez (u:={u2 with path:=dc aW [] (p.rest.drop 1)}) results97 mo.out rfl IZ.out ⟨pv,rfl,OZ.out,IZ.out.bL⟩
     |false =>
      rw[hS]at uo;have dH:=h_ (show R=some {u2 with path:=dc aW [x] (p.rest.drop 1)} by rw[Zk.out,if_pos ⟨hN,hS⟩]);have Cv:=h_ (fun W v h=>mX.out W [x] v h (by simp) (fun y hy=>(bE.mp hy)▸a8q.out));clear hnm hN hS
      go_upto_region 21 with(first
       |(go_at_call 127;refine(om.out _).mono ?_;rintro e w8 ⟨rfl,hw⟩;subst hw)
       |(go_at_call 128;refine(uo.out _).mono ?_;rintro e w8 ⟨rfl,hw⟩;subst hw)
       |(refine Vw rfl (.tmp 67) rfl x (congrArg Value.string HXX.out) ?_;intro gb wB hb lx;have IB:=h_ (I7.out.below hb);have KB:=h_ (K7.out.below hb);have LX:=h_ lx;have eB:=(SC.out _ _ _ IB.out mo.out Uj.out KB.out).1;clear hb lx)
       |(go_at_call 129;refine(Cv.out _ _ LX.out).mono ?_;rintro e w9 ⟨pv,rfl,o9,hb⟩;have O9:=h_ (bh (fE o9) (show b+1<=_ from IB.out.lt));have I9:=h_ (IB.out.below hb);have K9:=h_ (KB.out.below hb);clear o9 hb)
       |(refine ex rfl 28 (.tmp 74) (.tmp 73) rfl w b 30 (ai aR u2) I9.out 18 pv rfl rfl (gy mo.out (by decide)) dP (bm O9.out) (ai pv {u2 with path:=dc aW [x] (p.rest.drop 1)}) ((gw aR u2 mo.out).path _ _) ?_;intro BX rP t10;have nW:=h_ rP;have uN:=h_ (K9.out.tn t10);have qk:=h_ (t10.row O9.out (bO b));clear rP t10)
       |fail)
      go_wp2_with (first
       |(refine fm rfl (.tmp 5) rfl w b pv {u2 with path:=dc aW [x] (p.rest.drop 1)} nW.out mo.out rfl ?_)
       |(refine fU rfl (.tmp 4) (.tmp 103) rfl w br (OB.of uN.out.cr jL.out nW.out.bL) pv {u2 with path:=dc aW [x] (p.rest.drop 1)} mo.out (bm qk.out) rfl rfl ?_;intro wZ iZ tZ;have IZ:=h_ iZ;have OZ:=h_ (bh (tZ.row qk.out kG.out) uJ.out);clear iZ tZ)
       |fail)
      rw[dH.out];exact ez (u:={u2 with path:=dc aW [x] (p.rest.drop 1)}) results97 mo.out rfl IZ.out ⟨pv,rfl,OZ.out,IZ.out.bL⟩
  rw[decide_eq_false hfr]at hbe;have dH:=h_ (show R=some {u1 with path:=dc aW [] (p.rest.drop 1)} by rw[HR.out,if_neg hn,if_pos rfl,if_neg hfr,HU2.out,if_neg hfr,HU1.out]);clear hfr
  go_upto_region 21 with(first
   |(go_at_call 125;refine(HSL.out _).mono ?_;rintro e w7 ⟨rfl,hw⟩;subst hw)
   |(go_at_call 129;refine(nO.out _).mono ?_;rintro e w9 ⟨pv,rfl,o9,hb⟩;have O9:=h_ (bh (fE o9) (show b+1<=_ from I6.out.lt));have I9:=h_ (I6.out.below hb);have K9:=h_ (K6.out.below hb);clear o9 hb)
   |(refine ex rfl 28 (.tmp 74) (.tmp 73) rfl w b 30 (ai aR u1) I9.out 18 pv rfl rfl (gy Ar.out (by decide)) dP (bm O9.out) (ai pv {u1 with path:=dc aW [] (p.rest.drop 1)}) ((gw aR u1 Ar.out).path _ _) ?_;intro BX rP t10;have nW:=h_ rP;have uN:=h_ (K9.out.tn t10);have qk:=h_ (t10.row O9.out (bO b));clear rP t10)
   |fail)
  go_wp2_with (first
   |(refine fm rfl (.tmp 5) rfl w b pv {u1 with path:=dc aW [] (p.rest.drop 1)} nW.out Ar.out rfl ?_)
   |(refine fU rfl (.tmp 4) (.tmp 103) rfl w br (OB.of uN.out.cr jL.out nW.out.bL) pv {u1 with path:=dc aW [] (p.rest.drop 1)} Ar.out (bm qk.out) rfl rfl ?_;intro wZ iZ tZ;have IZ:=h_ iZ;have OZ:=h_ (bh (tZ.row qk.out kG.out) uJ.out);clear iZ tZ)
   |fail)
  rw[dH.out];exact ez (u:={u1 with path:=dc aW [] (p.rest.drop 1)}) results97 Ar.out rfl IZ.out ⟨pv,rfl,OZ.out,IZ.out.bL⟩
 have mX:=h_ (fun W (l:List Bytes) v (h:Sl W.heap.size W v (l.map S)) (h1:l.length<=307200000) (h2:∀ x∈l,x.length<=1024000000)=>(show Calls prog 129 #[.string fs,v,.string t] W (gU W 9 (Strs (dc aW l p.rest)))from by rw[HFS.out,HT.out];exact gY aW p.rest l v W h tE.out.l h1 h2));have nO:=h_ (fun W=>mX.out W [] aR Sl.nil (by simp) (fun _ h=>(by cases h)));have uo:=h_ (show ∀W,bV prog 128 #[.string t] W (.bool (fW p.rest))from fun W=>by rw[HT.out];exact xN p.rest W (by have:=tE.out.l;omega));by_cases hfr:bu.aH=aW
 ·rw[decide_eq_true hfr]at hbe
  obtain⟨u2,hu2⟩:=az ({u1 with host:=bu.host});have U2:=h_ hu2;have mo:=h_ (show u2.host.six.length=8 by rw[hu2];exact H8.out);have Uj:=h_ (show u2.aH=aW by rw[hu2];exact U1S.out)
  have uK:=h_ (show R=if p.rest=[]then some (gv u2 bu)else if fW p.rest=false then some {u2 with path:=dc aW (cI aW bu.path) p.rest}else some {u2 with path:=dc aW [] p.rest} by
   rw[HR.out,if_neg hn,if_neg (by omega)];have e:Oo bu p=u2:=by rw[HU2.out,if_pos hfr,hu2,HU1.out]
   rw[e];simp only[hfr,true_and])
  clear hfr hu2
  go_upto_region 17 with(first
   |(go_at_call 125;refine(HSL.out _).mono ?_;rintro e w7 ⟨rfl,hw⟩;subst hw)
   |(refine Se rfl 27 (.tmp 30) rfl bb 3 (aZ bu.host) _ underlying27 rfl HI.out rfl (fun j v hj=>K6.out.cb.aF ((uF bv bu H8.out).host j v hj)) ?_)
   |(refine t4 rfl 27 (.tmp 32) (.tmp 31) rfl w b 30 (ai aR u1) I6.out 3 (aZ bu.host) rfl rfl (Aa Ar.out H8.out) HI.out kM (ai aR u2) (by rw[U2.out];exact tC aR u1 bu.host H8.out Ar.out) ?_;intro w7 i7 t7;have I7:=h_ i7;have K7:=h_ (K6.out.tn t7);have e0:=(SC.out _ _ _ I7.out mo.out Uj.out K7.out).2.1;clear i7 t7)
   |fail)
  clear d0 d2 d18 db;obtain⟨d0,d2,d18,db⟩:=SC.out _ _ _ I7.out mo.out Uj.out K7.out;by_cases hrest:p.rest=[]
  ·have dH:=h_ (show R=some (gv u2 bu) by rw[uK.out,if_pos hrest])
   have ZB:=h_ (show(gv u2 bu).host.six.length=8 by rw[nM];exact mo.out);have he1:t.toList.isEmpty=true:=by rw[HT.out,ay,hrest];rfl
   clear hrest
   go_upto_region 21 with(first
    |(refine fm rfl (.tmp 2) rfl w bb bv bu (OB.of K7.out.cb (bR lC.out.symm) I7.out.bL) H8.out rfl ?_)
    |(go_at_call 130;refine(sd w b aR bv u2 bu _ I7.out mo.out H8.out ((Ub.out.below I7.out.bL).more I7.out.bL.size) (by have:=BY.out.le;omega)).mono ?_;rintro e w8 ⟨rfl,pv,i8,o8,t8⟩;have I8:=h_ i8;have O8:=h_ (bh o8 (show b+1<=_ from I7.out.lt));have K8:=h_ (K7.out.tn t8);clear i8 o8 t8)
    |fail)
   go_wp2_with (first
    |(refine fm rfl (.tmp 5) rfl w b pv (gv u2 bu) I8.out ZB.out rfl ?_)
    |(refine fU rfl (.tmp 4) (.tmp 103) rfl w br (OB.of K8.out.cr jL.out I8.out.bL) pv (gv u2 bu) ZB.out (bm O8.out) rfl rfl ?_;intro wZ iZ tZ;have IZ:=h_ iZ;have OZ:=h_ (bh (tZ.row O8.out kG.out) uJ.out);clear iZ tZ)
    |fail)
   rw[dH.out];exact ez (u:=(gv u2 bu)) results97 ZB.out rfl IZ.out ⟨pv,rfl,by rw[xP];exact OZ.out,IZ.out.bL⟩
  have he1:t.toList.isEmpty=false:=by
   have:¬ t.toList=[]:=by rw[HT.out,ay];exact hrest
   simpa using this
  cases hS:fW p.rest with
  |true =>
   rw[hS]at uo;have dH:=h_ (show R=some {u2 with path:=dc aW [] p.rest} by rw[uK.out,if_neg hrest,if_neg (by simp[hS])]);clear hrest hS
   go_upto_region 21 with(first
    |(go_at_call 128;refine(uo.out _).mono ?_;rintro e w8 ⟨rfl,hw⟩;subst hw)
    |(go_at_call 129;refine(nO.out _).mono ?_;rintro e w9 ⟨pv,rfl,o9,hb⟩;have O9:=h_ (bh (fE o9) (show b+1<=_ from I7.out.lt));have I9:=h_ (I7.out.below hb);have K9:=h_ (K7.out.below hb);clear o9 hb)
    |(refine ex rfl 28 (.tmp 38) (.tmp 37) rfl w b 30 (ai aR u2) I9.out 18 pv rfl rfl (gy mo.out (by decide)) dP (bm O9.out) (ai pv {u2 with path:=dc aW [] p.rest}) ((gw aR u2 mo.out).path _ _) ?_;intro BX rP t10;have nW:=h_ rP;have uN:=h_ (K9.out.tn t10);have qk:=h_ (t10.row O9.out (bO b));clear rP t10)
    |fail)
   go_wp2_with (first
    |(refine fm rfl (.tmp 5) rfl w b pv {u2 with path:=dc aW [] p.rest} nW.out mo.out rfl ?_)
    |(refine fU rfl (.tmp 4) (.tmp 103) rfl w br (OB.of uN.out.cr jL.out nW.out.bL) pv {u2 with path:=dc aW [] p.rest} mo.out (bm qk.out) rfl rfl ?_;intro wZ iZ tZ;have IZ:=h_ iZ;have OZ:=h_ (bh (tZ.row qk.out kG.out) uJ.out);clear iZ tZ)
    |fail)
   rw[dH.out];exact ez (u:={u2 with path:=dc aW [] p.rest}) results97 mo.out rfl IZ.out ⟨pv,rfl,OZ.out,IZ.out.bL⟩
  |false =>
   rw[hS]at uo;have dH:=h_ (show R=some {u2 with path:=dc aW (cI aW bu.path) p.rest} by rw[uK.out,if_neg hrest,if_pos hS]);have a78:=h_ (fun W (h:Sl W.heap.size W bv (bu.path.map S))=>(show Calls prog 131 #[.string fs,bv] W (gU W 9 (Strs (cI aW bu.path)))from by rw[HFS.out];exact uh aW bu.path bv W h (by have:=BY.out.le;omega) BY.out.all));have HSY:=h_ (fun W v h=>mX.out W (cI aW bu.path) v h (by have:=td aW bu.path;have:=BY.out.le;omega) (fun x hx=>BY.out.all x (k5 hx)));obtain⟨PP,Ml⟩:=az (dc aW (cI aW bu.path) p.rest);rw[<-Ml]at HSY dH;clear hrest hS Ml
   go_upto_region 20 with(first
    |(go_at_call 128;refine(uo.out _).mono ?_;rintro e w8 ⟨rfl,hw⟩;subst hw)
    |fail)
   clear d0 d2 d18 db;have I8:=h_ (I7.out.below (bH (bz _)));have K8:=h_ (K7.out.below (bH (bz _)));have SC3:=h_ (fun(W:World) (v:Value) (x:Url) (i:OB w b 30 (ai v x) W) (h:x.host.six.length=8) (hs:x.aH=aW) (k:K3 bb bx br b bv bu p W)=>(show W.cell? ⟨b,0,none⟩=some (.string fs)∧W.cell? ⟨bx,2,none⟩=some (.string t)∧W.cell? ⟨bb,18,none⟩=some bv from⟨(SC.out W v x i h hs k).1,(SC.out W v x i h hs k).2.1,(SC.out W v x i h hs k).2.2.1⟩));have KZ:=h_ (SC3.out _ _ _ I8.out mo.out Uj.out K8.out);refine wp_region_held_drew (S:=fun W=>W.cell? ⟨b,0,none⟩=some (.string fs)∧W.cell? ⟨bx,2,none⟩=some (.string t)∧W.cell? ⟨bb,18,none⟩=some bv) (by kernel_rfl) (by with_reducible first|exact Aj.out|exact su.out|exact K0.out|exact KZ.out) (fun hHeld=>?_);refine tq 0 rfl ?_ (fun wS hSw=>?_) ?_;rotate_left
   ·(try dsimp only at hSw);go_simp;first|done|with_reducible rfl
   try simp only[Act.put,cE,cF,cG]
   refine tq 1 rfl ?_ (fun wS hSw=>?_) ?_;rotate_left
   ·(try dsimp only at hSw)
    refine bK 9 (.tmp 92) ?_ b 0 (.string fs) _ underlying9 rfl ?_ ?_
    ·rfl
    ·rfl
    exact hSw.1
   try simp only[Act.put,cE,cF,cG]
   refine tq 2 rfl ?_ (fun wS hSw=>?_) ?_;rotate_left
   ·(try dsimp only at hSw);go_simp;first|done|with_reducible rfl
   try simp only[Act.put,cE,cF,cG]
   refine tq 3 rfl ?_ (fun wS hSw=>?_) ?_;rotate_left
   ·(try dsimp only at hSw)
    refine bK 9 (.tmp 94) ?_ b 0 (.string fs) _ underlying9 rfl ?_ ?_
    ·rfl
    ·rfl
    exact hSw.1
   try simp only[Act.put,cE,cF,cG]
   refine tq 4 rfl ?_ (fun wS hSw=>?_) ?_;rotate_left
   ·(try dsimp only at hSw);go_simp;first|done|with_reducible rfl
   try simp only[Act.put,cE,cF,cG]
   refine tq 5 rfl ?_ (fun wS hSw=>?_) ?_;rotate_left
   ·(try dsimp only at hSw)
    refine bK 28 (.tmp 96) ?_ bb 18 bv _ underlying28 rfl ?_ ?_
    ·rfl
    ·rfl
    exact hSw.2.2
   try simp only[Act.put,cE,cF,cG]
   refine tq 7 rfl ?_ (fun wS hSw=>?_) ?_;rotate_left
   ·(try dsimp only at hSw);go_simp;first|done|with_reducible rfl
   try simp only[Act.put,cE,cF,cG]
   refine tq 8 rfl ?_ (fun wS hSw=>?_) ?_;rotate_left
   ·(try dsimp only at hSw)
    refine bK 9 (.tmp 99) ?_ bx 2 (.string t) _ underlying9 rfl ?_ ?_
    ·rfl
    ·rfl
    exact hSw.2.1
   try simp only[Act.put,cE,cF,cG]
   refine rn 6 (by kernel_rfl) rfl (by rfl) (fun K hK=>?_)
   go_simp
   refine(a78.out _ ((Ub.out.below I8.out.bL).more I8.out.bL.size)).mono ?_;rintro e w9 ⟨sv,rfl,o9,hb⟩;have O9:=h_ (Sl.dM o9);have I9:=h_ (I8.out.below hb);have K9:=h_ (K8.out.below hb);have K0:=h_ (SC3.out _ _ _ I9.out mo.out Uj.out K9.out);clear o9 hb;refine hK.out _ _ ?_ (fun hHeld=>?_)
   ·with_reducible first|exact Aj.out|exact su.out|exact K0.out|exact KZ.out
   clear hK K
   try simp only[Act.put,cE,cF,cG]
   refine rn 9 (by kernel_rfl) rfl (by rfl) (fun K hK=>?_)
   go_simp
   refine(HSY.out _ _ O9.out).mono ?_;rintro e BX ⟨pv,rfl,o10,hb⟩;have qk:=h_ (bh (fE o10) (show b+1<=_ from I9.out.lt));have nW:=h_ (I9.out.below hb);have uN:=h_ (K9.out.below hb);have su:=h_ (SC3.out _ _ _ nW.out mo.out Uj.out uN.out);clear o10 hb;refine hK.out _ _ ?_ (fun hHeld=>?_)
   ·with_reducible first|exact Aj.out|exact su.out|exact K0.out|exact KZ.out
   clear hK K
   try simp only[Act.put,cE,cF,cG]
   refine tq 10 rfl ?_ (fun wS hSw=>?_) ?_;rotate_left
   ·(try dsimp only at hSw);go_simp;first|done|with_reducible rfl
   try simp only[Act.put,cE,cF,cG]
   refine rn 11 (by kernel_rfl) rfl (by rfl) (fun K hK=>?_);refine gL 28 (.tmp 102) (.tmp 101) rfl w b 30 (ai aR u2) nW.out 18 pv rfl rfl (gy mo.out (by decide)) dP (bm qk.out) (ai pv {u2 with path:=PP}) ((gw aR u2 mo.out).path _ _) ?_;intro Uu i11 t11;have yG:=h_ i11;have Vb:=h_ (uN.out.tn t11);have Zz:=h_ (t11.row qk.out (bO b));have Aj:=h_ (SC3.out _ _ {u2 with path:=PP} yG.out mo.out Uj.out Vb.out);clear i11 t11;refine hK.out _ _ ?_ (fun hHeld=>?_)
   ·with_reducible first|exact Aj.out|exact su.out|exact K0.out|exact KZ.out
   clear hK K
   try simp only[Act.put]
   refine wpAnyH_done (by kernel_rfl) ?_ _
   go_wp2_with (first
    |(refine fm rfl (.tmp 5) rfl w b pv {u2 with path:=PP} yG.out mo.out rfl ?_)
    |(refine fU rfl (.tmp 4) (.tmp 103) rfl w br (OB.of Vb.out.cr jL.out yG.out.bL) pv {u2 with path:=PP} mo.out (bm Zz.out) rfl rfl ?_;intro wZ iZ tZ;have IZ:=h_ iZ;have OZ:=h_ (bh (tZ.row Zz.out kG.out) uJ.out);clear iZ tZ)
    |fail)
   rw[dH.out];exact ez (u:={u2 with path:=PP}) results97 mo.out rfl IZ.out ⟨pv,rfl,OZ.out,IZ.out.bL⟩
 rw[decide_eq_false hfr]at hbe;have dH:=h_ (show R=some {u1 with path:=dc aW [] p.rest} by rw[HR.out,if_neg hn,if_neg (by omega),if_neg (fun h=>hfr h.1),if_neg (fun h=>hfr h.1),HU2.out,if_neg hfr,HU1.out]);clear hfr
 go_upto_region 21 with(first
  |(go_at_call 125;refine(HSL.out _).mono ?_;rintro e w7 ⟨rfl,hw⟩;subst hw)
  |(go_at_call 129;refine(nO.out _).mono ?_;rintro e w9 ⟨pv,rfl,o9,hb⟩;have O9:=h_ (bh (fE o9) (show b+1<=_ from I6.out.lt));have I9:=h_ (I6.out.below hb);have K9:=h_ (K6.out.below hb);clear o9 hb)
  |(refine ex rfl 28 (.tmp 38) (.tmp 37) rfl w b 30 (ai aR u1) I9.out 18 pv rfl rfl (gy Ar.out (by decide)) dP (bm O9.out) (ai pv {u1 with path:=dc aW [] p.rest}) ((gw aR u1 Ar.out).path _ _) ?_;intro BX rP t10;have nW:=h_ rP;have uN:=h_ (K9.out.tn t10);have qk:=h_ (t10.row O9.out (bO b));clear rP t10)
  |fail)
 go_wp2_with (first
  |(refine fm rfl (.tmp 5) rfl w b pv {u1 with path:=dc aW [] p.rest} nW.out Ar.out rfl ?_)
  |(refine fU rfl (.tmp 4) (.tmp 103) rfl w br (OB.of uN.out.cr jL.out nW.out.bL) pv {u1 with path:=dc aW [] p.rest} Ar.out (bm qk.out) rfl rfl ?_;intro wZ iZ tZ;have IZ:=h_ iZ;have OZ:=h_ (bh (tZ.row qk.out kG.out) uJ.out);clear iZ tZ)
  |fail)
 rw[dH.out];exact ez (u:={u1 with path:=dc aW [] p.rest}) results97 Ar.out rfl IZ.out ⟨pv,rfl,OZ.out,IZ.out.bL⟩

section
variable {b:Url} {p:lH} {u:Url}
theorem RI(h1:p.iO=true)(h2:p.aH=aW):eU b p=lP b p:=by unfold eU;rw[if_pos (.inl ⟨h1,h2⟩)]
theorem RJ(h1:p.iO=false)(h2:b.opq=false)(h3:b.aH=aW):eU b p=lP b p:=by unfold eU;rw[if_pos (.inr ⟨h1,h2,h3⟩)]
theorem GZ(h1:p.iO=true)(h2:p.aH≠aW):¬ ((p.iO=true∧p.aH=aW)∨(p.iO=false∧b.opq=false∧b.aH=aW)):=by
 rintro(h|h)
 ·exact h2 h.2
 rw[h1]at h;cases h.1
theorem RH(h1:p.iO=true)(h2:p.aH≠aW)(h3:eK p.aH=true)(h4:p.aH≠b.aH∨p.rest.take 2=[47,47]):eU b p=kf (dj p.aH p) (p.rest.drop (ra (eK p.aH) p.rest)):=by
 unfold eU;rw[if_neg (GZ h1 h2),if_pos ⟨⟨h1,h3⟩,h4⟩]
theorem RL(h1:p.iO=true)(h2:p.aH≠aW)(h3:eK p.aH=false):eU b p=fN p:=by
 unfold eU;rw[if_neg (GZ h1 h2),if_neg (by simp[h3]),if_pos ⟨h1,by simp[h3]⟩]
theorem RK(h1:p.iO=true)(h2:p.aH≠aW)(h3:eK p.aH=true)(h4:p.aH=b.aH)(h5:p.rest.take 2 ≠ [47,47]):eU b p=if b.opq=true then lS b p else rZ b p:=by
 unfold eU;rw[if_neg (GZ h1 h2),if_neg (fun h=>h.2.elim (fun h=>h h4) h5),if_neg (fun h=>h.2 h3)]
theorem RM(h1:p.iO=false)(h2:¬ (b.opq=false∧b.aH=aW)):eU b p=if b.opq=true then lS b p else rZ b p:=by
 unfold eU;rw[if_neg (fun h=>h.elim (fun h=>by rw[h1]at h;cases h.1) (fun h=>h2 h.2)),if_neg (fun h=>by rw[h1]at h;cases h.1.1),if_neg (fun h=>by rw[h1]at h;cases h.1)]
theorem we(h8:b.host.six.length=8)(h:lP b p=some u):u.host.six.length=8:=by
 rw[wd]at h
 have h2:(Oo b p).host.six.length=8:=by
  unfold Oo
  split
  ·exact h8
  rfl
 split at h
 ·exact zq (u:={dj aW p with host:={H0 with kind:=1}}) rfl h
 split at h
 ·injection h with h;rw[<-h];exact h2
 split at h
 ·injection h with h;rw[<-h,nM];exact h2
 split at h
 iterate 2
  ·injection h with h;rw[<-h];exact h2
theorem zv(h:fN p=some u):u.host.six.length=8:=by
 unfold fN at h;dsimp only at h
 split at h
 ·exact kH h
 ·injection h with h;rw[<-h];rfl
 injection h with h;rw[<-h];rfl
theorem wj(h8:b.host.six.length=8)(h:lS b p=some u):u.host.six.length=8:=by
 unfold lS at h
 split at h
 ·cases h
 injection h with h;rw[<-h];exact h8
theorem Bw(h8:b.host.six.length=8)(h:rZ b p=some u):u.host.six.length=8:=by
 unfold rZ at h;dsimp only at h
 split at h
 ·exact kH h
 split at h
 ·exact kH h
 split at h
 ·injection h with h;rw[<-h];exact h8
 split at h
 ·injection h with h;rw[<-h,nM];exact h8
 injection h with h;rw[<-h];exact h8
theorem oS(h8:b.host.six.length=8)(h:eU b p=some u):u.host.six.length=8:=by
 unfold eU at h
 split at h
 ·exact we h8 h
 split at h
 ·exact kH h
 split at h
 ·exact zv h
 split at h
 ·exact wj h8 h
 exact Bw h8 h
end
theorem Wd(l:Bytes):Lib.hasPrefix l [47,47]=decide (l.take 2=[47,47]):=by
 rw[cK,Wc,decide_eq_true_eq];constructor
 ·rintro⟨r,rfl⟩;rfl
 intro h;refine⟨l.drop 2,?_⟩;have:=cX 2 l;rw[h]at this;exact this.symm
theorem NV(bu:Url)(bv:Value)(p:lH)(w:World)(h8:bu.host.six.length=8)(hbv:Sl w.heap.size w bv (bu.path.map S))(hbs:Bs bu.path)(hr:Rs p.rest)(hq:p.q.length<=307200000)(hf:p.f.length<=307200000)(hE:Env w):Calls prog 67 #[.agg (ai bv bu),.agg (bg p)] w (Cy w (eU bu p)):=by
 have Ze:=h_ (fun W (hb:Below w.heap.size w W)=>Qv bu bv p W h8 ((hbv.below hb).more hb.size) hbs hr hq hf (hE.below hb));have An:=h_ (fun W (hb:Below w.heap.size w W)=>QA bu bv p W h8 ((hbv.below hb).more hb.size) hbs.le hf);have yp:=h_ (fun W (hb:Below w.heap.size w W)=>Bx bu bv p W h8 ((hbv.below hb).more hb.size) hbs hr hq hf (hE.below hb));have HOT:=h_ (fun W (hb:Below w.heap.size w W)=>Hu p W hr hq hf (hE.below hb));obtain⟨R,hR⟩:=az (eU bu p);rw[<-hR];have hse:=yC p.aH aW;have hbe:=yC bu.aH aW;have hpe:=yC p.aH bu.aH;obtain⟨psc,GF⟩:=az (bs p.aH);obtain⟨bsc,DM⟩:=az (bs bu.aH);obtain⟨t,ht⟩:=az (bs p.rest);rw[<-GF,ay aW]at hse;rw[<-DM,ay aW]at hbe;rw[<-GF,<-DM]at hpe;have wK:(psc.toList == [102,105,108,101])=decide (p.aH=aW):=hse;have wG:(bsc.toList == [102,105,108,101])=decide (bu.aH=aW):=hbe;have j0:=h_ (show ∀W,bV prog 96 #[.string psc] W (.bool (eK p.aH))from fun W=>by rw[GF];exact gZ p.aH W);have ON:=h_ (show ∀W,bV prog 57 #[.string t,.string ⟨#[47,47]⟩] W (.bool (decide (p.rest.take 2=[47,47])))from fun W=>by rw[ht,<-Wd];exact oO p.rest [47,47] W);have HST:=h_ (show ∀W,bN prog 98 #[.string psc,.agg (bg p)] W (.agg (ai aR (dj p.aH p)))from fun W=>by rw[GF];exact pR p.aH p W (by omega) (by omega));have Uf:=h_ (show ∀W,bV prog 100 #[.string psc,.string t] W (S (p.rest.drop (ra (eK p.aH) p.rest)))from fun W=>by rw[GF,ht];exact qw p.aH p.rest W (by have:=hr.l;omega));have HE:=h_ hE;have tE:=h_ hr;have H8:=h_ h8;have Ub:=h_ hbv;have HR:=h_ hR;have Zj:=h_ GF;have Y9:=h_ DM;have HT:=h_ ht;clear h8 hbv hbs hr hq hf hE hR hse hbe GF DM ht;go_enter func67,ntmps67
 go_upto_region 1 with(first
  |(refine aS rfl 30 rfl _ _ (ef _) ?_)
  |fail)
 obtain⟨w3,hw3,hz3,hb,k1,k2,k3⟩:=three w bv bu p
 try rw[show((w.alloc (.cells (ai bv bu) 30)).alloc (.cells (bg p) 68)).heap.size=w.heap.size+2 by simp]
 rw[hw3];clear hw3;obtain⟨br,hbr⟩:=az (w.heap.size+2);obtain⟨bx,hbx⟩:=az (w.heap.size+1);obtain⟨bb,hbb⟩:=az (w.heap.size);rw[<-hbr]at k3;rw[<-hbx]at k2;rw[<-hbb]at k1;rw[<-hbr,<-hbx,<-hbb];have jL:=h_ (show w.heap.size<=br by omega);have lC:=h_ hbb;have B3:=h_ hb;have V3:=h_ k1;have X3:=h_ k2;have R3:=h_ k3;have HD:=h_ (show bb<bx∧bx<br by omega);have HZ3:=h_ (show br<w3.heap.size∧w.heap.size<=w3.heap.size by omega);clear hz3 hb k1 k2 k3 hbr hbx hbb;have d0:=X3.out.aF (j:=0) (v:=.bool p.iO) rfl;have d1:w3.cell? ⟨bx,1,none⟩=some (.string psc):=by rw[Zj.out];exact X3.out.aF rfl
 have d2:w3.cell? ⟨bx,2,none⟩=some (.string t):=by rw[HT.out];exact X3.out.aF rfl
 have c0:w3.cell? ⟨bb,0,none⟩=some (.string bsc):=by rw[Y9.out];exact V3.out.aF (uF bv bu H8.out).aH
 have c16:=V3.out.aF (uF bv bu H8.out).opq;cases hS:p.iO with
 |true =>
  rw[hS]at d0;by_cases hF:p.aH=aW
  ·rw[decide_eq_true hF]at wK
   have sr:=h_ (HR.out.trans (RI hS hF));clear hS hF
   go_upto_region 4 with(first
    |(go_at_call 96;refine(j0.out _).mono ?_;rintro e w6 ⟨rfl,hw⟩;subst hw)
    |(go_at_call 57;refine(ON.out _).mono ?_;rintro e w6 ⟨rfl,hw⟩;subst hw)
    |fail)
   clear d0 d1 d2 c0 c16 wK wG hpe;cases hO:lP bu p with
   |none =>
    have dH:=h_ (show R=none by rw[sr.out,hO]);have HC:=h_ (fun W hb=>(show Calls prog 97 #[.agg (ai bv bu),.agg (bg p)] W fun e w'=>e=Fq∧Below W.heap.size W w' from by have h:=Ze.out W hb;rw[hO]at h;exact h));clear hO
    go_wp2_with (first
     |(refine fm rfl (.tmp 2) rfl w bb bv bu (OB.of V3.out (bR lC.out.symm) B3.out) H8.out rfl ?_)
     |(refine lj rfl (.tmp 3) rfl bx p X3.out rfl ?_)
     |(go_at_call 97;refine(HC.out _ B3.out).mono ?_;rintro e w7 ⟨rfl,hb⟩;have B7:=h_ (iK B3.out hb);clear hb)
     |fail)
    rw[dH.out];exact⟨rfl,rfl,B7.out⟩
   |some u =>
    have dH:=h_ (show R=some u by rw[sr.out,hO]);have HC:=h_ (fun W hb=>(show Calls prog 97 #[.agg (ai bv bu),.agg (bg p)] W fun e w'=>∃ pv,e=.returned (.agg (ai pv u))∧w'.ownsRow W.heap.size 9 1 pv u.path.length (Strs u.path)∧Below W.heap.size W w' from by have h:=Ze.out W hb;rw[hO]at h;exact h));have U8:=h_ (we H8.out hO);clear hO
    go_wp2_with (first
     |(refine fm rfl (.tmp 2) rfl w bb bv bu (OB.of V3.out (bR lC.out.symm) B3.out) H8.out rfl ?_)
     |(refine lj rfl (.tmp 3) rfl bx p X3.out rfl ?_)
     |(go_at_call 97;refine(HC.out _ B3.out).mono ?_;rintro e w7 ⟨pv,rfl,o7,hb⟩;have O7:=h_ o7;have B7:=h_ (iK B3.out hb);have R7:=h_ (R3.out.keep hb);clear o7 hb)
     |(refine fU rfl (.tmp 4) (.tmp 37) rfl w br (OB.of R7.out jL.out B7.out) pv u U8.out (bm O7.out) rfl rfl ?_;intro wZ iZ tZ;have IZ:=h_ iZ;have OZ:=h_ (bh (tZ.row O7.out HZ3.out.1) HZ3.out.2);clear iZ tZ)
     |fail)
    rw[dH.out];exact ez (u:=u) results67 U8.out rfl IZ.out ⟨pv,rfl,OZ.out,IZ.out.bL⟩
  rw[decide_eq_false hF]at wK;cases hP:eK p.aH with
  |false =>
   rw[hP]at j0;have sr:=h_ (HR.out.trans (RL hS hF hP));clear hS hF hP
   go_upto_region 10 with(first
    |(go_at_call 96;refine(j0.out _).mono ?_;rintro e w6 ⟨rfl,hw⟩;subst hw)
    |(go_at_call 57;refine(ON.out _).mono ?_;rintro e w6 ⟨rfl,hw⟩;subst hw)
    |fail)
   clear d0 d1 d2 c0 c16 wK wG hpe;cases hO:fN p with
   |none =>
    have dH:=h_ (show R=none by rw[sr.out,hO]);have HC:=h_ (fun W hb=>(show Calls prog 101 #[.agg (bg p)] W fun e w'=>e=Fq∧Below W.heap.size W w' from by have h:=HOT.out W hb;rw[hO]at h;exact h));clear hO
    go_wp2_with (first
     |(refine lj rfl (.tmp 3) rfl bx p X3.out rfl ?_)
     |(go_at_call 101;refine(HC.out _ B3.out).mono ?_;rintro e w7 ⟨rfl,hb⟩;have B7:=h_ (iK B3.out hb);clear hb)
     |fail)
    rw[dH.out];exact⟨rfl,rfl,B7.out⟩
   |some u =>
    have dH:=h_ (show R=some u by rw[sr.out,hO]);have HC:=h_ (fun W hb=>(show Calls prog 101 #[.agg (bg p)] W fun e w'=>∃ pv,e=.returned (.agg (ai pv u))∧w'.ownsRow W.heap.size 9 1 pv u.path.length (Strs u.path)∧Below W.heap.size W w' from by have h:=HOT.out W hb;rw[hO]at h;exact h));have U8:=h_ (zv hO);clear hO
    go_wp2_with (first
     |(refine lj rfl (.tmp 3) rfl bx p X3.out rfl ?_)
     |(go_at_call 101;refine(HC.out _ B3.out).mono ?_;rintro e w7 ⟨pv,rfl,o7,hb⟩;have O7:=h_ o7;have B7:=h_ (iK B3.out hb);have R7:=h_ (R3.out.keep hb);clear o7 hb)
     |(refine fU rfl (.tmp 4) (.tmp 71) rfl w br (OB.of R7.out jL.out B7.out) pv u U8.out (bm O7.out) rfl rfl ?_;intro wZ iZ tZ;have IZ:=h_ iZ;have OZ:=h_ (bh (tZ.row O7.out HZ3.out.1) HZ3.out.2);clear iZ tZ)
     |fail)
    rw[dH.out];exact ez (u:=u) results67 U8.out rfl IZ.out ⟨pv,rfl,OZ.out,IZ.out.bL⟩
  |true =>
   by_cases hQ:p.aH=bu.aH
   ·rw[decide_eq_true hQ]at hpe
    by_cases hW:p.rest.take 2=[47,47]
    ·rw[decide_eq_true hW]at ON
     rw[hP]at j0;have sr:=h_ (HR.out.trans (RH hS hF hP (.inr hW)));clear hS hF hQ hW;obtain⟨us,nT⟩:=az (dj p.aH p);have Cc:=h_ (show us.host.six.length=8 by rw[nT];rfl);have Cd:=h_ (show us.path=[] by rw[nT];rfl);have HUC:=h_ (show us.aH=p.aH by rw[nT];rfl);rw[<-nT]at HST sr;rw[hP]at Uf sr;clear nT hP;generalize ra true p.rest=n at *;have rl:=sr
     go_upto_region 7 with(first
      |(go_at_call 96;refine(j0.out _).mono ?_;rintro e w6 ⟨rfl,hw⟩;subst hw)
      |(go_at_call 57;refine(ON.out _).mono ?_;rintro e w6 ⟨rfl,hw⟩;subst hw)
      |(refine lj rfl (.tmp 3) rfl bx p X3.out rfl ?_)
      |(go_at_call 98;refine(HST.out _).mono ?_;rintro e w4 ⟨rfl,hb⟩;have eM:=h_ hb;clear hb)
      |(refine aS rfl 30 rfl _ _ (ef _) ?_)
      |(refine fP rfl (.tmp 6) (.tmp 55) rfl aR us Cc.out rfl rfl rfl rfl ?_;intro w5 hh hb;have I5:=h_ (OB.of (w0:=w) hh (ap B3.out.size eM.out.size) (iK (iK B3.out eM.out) hb));have K5:=h_ (show K3 bb bx br w4.heap.size bv bu p w5 from⟨(V3.out.keep eM.out).keep hb,(X3.out.keep eM.out).keep hb,(R3.out.keep eM.out).keep hb,cV (aQ V3.out.lt eM.out.size),cV (aQ X3.out.lt eM.out.size),cV (aQ R3.out.lt eM.out.size)⟩);have kG:=h_ (show br<w4.heap.size+1 from sC (aQ R3.out.lt eM.out.size));have uJ:=h_ (show w.heap.size<=w4.heap.size+1 from sB (ap B3.out.size eM.out.size));clear hh hb)
      |fail)
     obtain⟨b,hbb⟩:=az (w4.heap.size);rw[<-hbb]at I5 K5 kG uJ ⊢;clear hbb d0 d1 d2 c0 c16 wK wG hpe;have d1:w5.cell? ⟨bx,1,none⟩=some (.string psc):=by rw[Zj.out];exact K5.out.cx.aF rfl
     have d2:w5.cell? ⟨bx,2,none⟩=some (.string t):=by rw[HT.out];exact K5.out.cx.aF rfl
     have HAS:=h_ (fun W (i:OB w b 30 (ai aR us) W)=>uT w b us (p.rest.drop n) W i Cc.out Cd.out (by have:=tE.out.l;rw[ah];omega) (tE.out.a _ n) (HE.out.below i.bL));cases hO:kf us (p.rest.drop n)with
     |none =>
      have dH:=h_ (show R=none by rw[rl.out,hO]);have sw:=h_ (fun W i=>(show Calls prog 99 #[.pointer (some ⟨b,0,none⟩),S ((p.rest.drop n))] W fun e w'=>e=Fq∧Below w.heap.size w w'∧Tn b W w' from by have h:=HAS.out W i;rw[hO]at h;exact h));clear hO
      go_wp2_with (first
       |(go_at_call 100;refine(Uf.out _).mono ?_;rintro e w6 ⟨rfl,hw⟩;subst hw)
       |(go_at_call 99;refine(sw.out _ I5.out).mono ?_;rintro e w7 ⟨rfl,hb,_⟩;have B7:=h_ hb;clear hb)
       |fail)
      rw[dH.out];exact⟨rfl,rfl,B7.out⟩
     |some u =>
      have dH:=h_ (show R=some u by rw[rl.out,hO]);have sw:=h_ (fun W i=>(show Calls prog 99 #[.pointer (some ⟨b,0,none⟩),S ((p.rest.drop n))] W fun e w'=>e=.returned (.tuple #[])∧(∃pv,OB w b 30 (ai pv u) w'∧w'.ownsRow W.heap.size 9 1 pv u.path.length (Strs u.path))∧Tn b W w' from by have h:=HAS.out W i;rw[hO]at h;exact h));have U8:=h_ (kH hO);clear hO
      go_upto_region 8 with(first
       |(go_at_call 100;refine(Uf.out _).mono ?_;rintro e w6 ⟨rfl,hw⟩;subst hw)
       |(go_at_call 99;refine(sw.out _ I5.out).mono ?_;rintro e w7 ⟨rfl,⟨pv,i7,o7⟩,t7⟩;have I7:=h_ i7;have O7:=h_ (bh o7 (show b+1<=_ from I5.out.lt));have K7:=h_ (K5.out.tn t7);clear i7 o7 t7)
       |fail)
      go_wp2_with (first
       |(refine fm rfl (.tmp 6) rfl w b pv u I7.out U8.out rfl ?_)
       |(refine fU rfl (.tmp 4) (.tmp 62) rfl w br (OB.of K7.out.cr jL.out I7.out.bL) pv u U8.out (bm O7.out) rfl rfl ?_;intro wZ iZ tZ;have IZ:=h_ iZ;have OZ:=h_ (bh (tZ.row O7.out kG.out) uJ.out);clear iZ tZ)
       |fail)
      rw[dH.out];exact ez (u:=u) results67 U8.out rfl IZ.out ⟨pv,rfl,OZ.out,IZ.out.bL⟩
    rw[decide_eq_false hW]at ON;rw[hP]at j0;cases hO:bu.opq with
    |true =>
     rw[hO]at c16;have sr:=h_ (HR.out.trans ((RK hS hF hP hQ hW).trans (if_pos hO)));clear hS hF hP hQ hW hO
     go_upto_region 12 with(first
      |(go_at_call 96;refine(j0.out _).mono ?_;rintro e w6 ⟨rfl,hw⟩;subst hw)
      |(go_at_call 57;refine(ON.out _).mono ?_;rintro e w6 ⟨rfl,hw⟩;subst hw)
      |fail)
     clear d0 d1 d2 c0 c16 wK wG hpe;cases hO:lS bu p with
     |none =>
      have dH:=h_ (show R=none by rw[sr.out,hO]);have HC:=h_ (fun W hb=>(show Calls prog 102 #[.agg (ai bv bu),.agg (bg p)] W fun e w'=>e=Fq∧Below W.heap.size W w' from by have h:=An.out W hb;rw[hO]at h;exact h));clear hO
      go_wp2_with (first
       |(refine fm rfl (.tmp 2) rfl w bb bv bu (OB.of V3.out (bR lC.out.symm) B3.out) H8.out rfl ?_)
       |(refine lj rfl (.tmp 3) rfl bx p X3.out rfl ?_)
       |(go_at_call 102;refine(HC.out _ B3.out).mono ?_;rintro e w7 ⟨rfl,hb⟩;have B7:=h_ (iK B3.out hb);clear hb)
       |fail)
      rw[dH.out];exact⟨rfl,rfl,B7.out⟩
     |some u =>
      have dH:=h_ (show R=some u by rw[sr.out,hO]);have HC:=h_ (fun W hb=>(show Calls prog 102 #[.agg (ai bv bu),.agg (bg p)] W fun e w'=>∃ pv,e=.returned (.agg (ai pv u))∧w'.ownsRow W.heap.size 9 1 pv u.path.length (Strs u.path)∧Below W.heap.size W w' from by have h:=An.out W hb;rw[hO]at h;exact h));have U8:=h_ (wj H8.out hO);clear hO
      go_wp2_with (first
       |(refine fm rfl (.tmp 2) rfl w bb bv bu (OB.of V3.out (bR lC.out.symm) B3.out) H8.out rfl ?_)
       |(refine lj rfl (.tmp 3) rfl bx p X3.out rfl ?_)
       |(go_at_call 102;refine(HC.out _ B3.out).mono ?_;rintro e w7 ⟨pv,rfl,o7,hb⟩;have O7:=h_ o7;have B7:=h_ (iK B3.out hb);have R7:=h_ (R3.out.keep hb);clear o7 hb)
       |(refine fU rfl (.tmp 4) (.tmp 77) rfl w br (OB.of R7.out jL.out B7.out) pv u U8.out (bm O7.out) rfl rfl ?_;intro wZ iZ tZ;have IZ:=h_ iZ;have OZ:=h_ (bh (tZ.row O7.out HZ3.out.1) HZ3.out.2);clear iZ tZ)
       |fail)
      rw[dH.out];exact ez (u:=u) results67 U8.out rfl IZ.out ⟨pv,rfl,OZ.out,IZ.out.bL⟩
    |false =>
     rw[hO]at c16;have sr:=h_ (HR.out.trans ((RK hS hF hP hQ hW).trans (if_neg (by simp[hO]))));clear hS hF hP hQ hW hO
     go_upto_region 13 with(first
      |(go_at_call 96;refine(j0.out _).mono ?_;rintro e w6 ⟨rfl,hw⟩;subst hw)
      |(go_at_call 57;refine(ON.out _).mono ?_;rintro e w6 ⟨rfl,hw⟩;subst hw)
      |fail)
     clear d0 d1 d2 c0 c16 wK wG hpe;cases hO:rZ bu p with
     |none =>
      have dH:=h_ (show R=none by rw[sr.out,hO]);have HC:=h_ (fun W hb=>(show Calls prog 103 #[.agg (ai bv bu),.agg (bg p)] W fun e w'=>e=Fq∧Below W.heap.size W w' from by have h:=yp.out W hb;rw[hO]at h;exact h));clear hO
      go_wp2_with (first
       |(refine fm rfl (.tmp 2) rfl w bb bv bu (OB.of V3.out (bR lC.out.symm) B3.out) H8.out rfl ?_)
       |(refine lj rfl (.tmp 3) rfl bx p X3.out rfl ?_)
       |(go_at_call 103;refine(HC.out _ B3.out).mono ?_;rintro e w7 ⟨rfl,hb⟩;have B7:=h_ (iK B3.out hb);clear hb)
       |fail)
      rw[dH.out];exact⟨rfl,rfl,B7.out⟩
     |some u =>
      have dH:=h_ (show R=some u by rw[sr.out,hO]);have HC:=h_ (fun W hb=>(show Calls prog 103 #[.agg (ai bv bu),.agg (bg p)] W fun e w'=>∃ pv,e=.returned (.agg (ai pv u))∧w'.ownsRow W.heap.size 9 1 pv u.path.length (Strs u.path)∧Below W.heap.size W w' from by have h:=yp.out W hb;rw[hO]at h;exact h));have U8:=h_ (Bw H8.out hO);clear hO
      go_wp2_with (first
       |(refine fm rfl (.tmp 2) rfl w bb bv bu (OB.of V3.out (bR lC.out.symm) B3.out) H8.out rfl ?_)
       |(refine lj rfl (.tmp 3) rfl bx p X3.out rfl ?_)
       |(go_at_call 103;refine(HC.out _ B3.out).mono ?_;rintro e w7 ⟨pv,rfl,o7,hb⟩;have O7:=h_ o7;have B7:=h_ (iK B3.out hb);have R7:=h_ (R3.out.keep hb);clear o7 hb)
       |(refine fU rfl (.tmp 4) (.tmp 80) rfl w br (OB.of R7.out jL.out B7.out) pv u U8.out (bm O7.out) rfl rfl ?_;intro wZ iZ tZ;have IZ:=h_ iZ;have OZ:=h_ (bh (tZ.row O7.out HZ3.out.1) HZ3.out.2);clear iZ tZ)
       |fail)
      rw[dH.out];exact ez (u:=u) results67 U8.out rfl IZ.out ⟨pv,rfl,OZ.out,IZ.out.bL⟩
   rw[decide_eq_false hQ]at hpe;rw[hP]at j0;have sr:=h_ (HR.out.trans (RH hS hF hP (.inl hQ)));clear hS hF hQ;obtain⟨us,nT⟩:=az (dj p.aH p);have Cc:=h_ (show us.host.six.length=8 by rw[nT];rfl);have Cd:=h_ (show us.path=[] by rw[nT];rfl);have HUC:=h_ (show us.aH=p.aH by rw[nT];rfl);rw[<-nT]at HST sr;rw[hP]at Uf sr;clear nT hP;generalize ra true p.rest=n at *;have rl:=sr
   go_upto_region 7 with(first
    |(go_at_call 96;refine(j0.out _).mono ?_;rintro e w6 ⟨rfl,hw⟩;subst hw)
    |(go_at_call 57;refine(ON.out _).mono ?_;rintro e w6 ⟨rfl,hw⟩;subst hw)
    |(refine lj rfl (.tmp 3) rfl bx p X3.out rfl ?_)
    |(go_at_call 98;refine(HST.out _).mono ?_;rintro e w4 ⟨rfl,hb⟩;have eM:=h_ hb;clear hb)
    |(refine aS rfl 30 rfl _ _ (ef _) ?_)
    |(refine fP rfl (.tmp 6) (.tmp 55) rfl aR us Cc.out rfl rfl rfl rfl ?_;intro w5 hh hb;have I5:=h_ (OB.of (w0:=w) hh (ap B3.out.size eM.out.size) (iK (iK B3.out eM.out) hb));have K5:=h_ (show K3 bb bx br w4.heap.size bv bu p w5 from⟨(V3.out.keep eM.out).keep hb,(X3.out.keep eM.out).keep hb,(R3.out.keep eM.out).keep hb,cV (aQ V3.out.lt eM.out.size),cV (aQ X3.out.lt eM.out.size),cV (aQ R3.out.lt eM.out.size)⟩);have kG:=h_ (show br<w4.heap.size+1 from sC (aQ R3.out.lt eM.out.size));have uJ:=h_ (show w.heap.size<=w4.heap.size+1 from sB (ap B3.out.size eM.out.size));clear hh hb)
    |fail)
   obtain⟨b,hbb⟩:=az (w4.heap.size);rw[<-hbb]at I5 K5 kG uJ ⊢;clear hbb d0 d1 d2 c0 c16 wK wG hpe;have d1:w5.cell? ⟨bx,1,none⟩=some (.string psc):=by rw[Zj.out];exact K5.out.cx.aF rfl
   have d2:w5.cell? ⟨bx,2,none⟩=some (.string t):=by rw[HT.out];exact K5.out.cx.aF rfl
   have HAS:=h_ (fun W (i:OB w b 30 (ai aR us) W)=>uT w b us (p.rest.drop n) W i Cc.out Cd.out (by have:=tE.out.l;rw[ah];omega) (tE.out.a _ n) (HE.out.below i.bL));cases hO:kf us (p.rest.drop n)with
   |none =>
    have dH:=h_ (show R=none by rw[rl.out,hO]);have sw:=h_ (fun W i=>(show Calls prog 99 #[.pointer (some ⟨b,0,none⟩),S ((p.rest.drop n))] W fun e w'=>e=Fq∧Below w.heap.size w w'∧Tn b W w' from by have h:=HAS.out W i;rw[hO]at h;exact h));clear hO
    go_wp2_with (first
     |(go_at_call 100;refine(Uf.out _).mono ?_;rintro e w6 ⟨rfl,hw⟩;subst hw)
     |(go_at_call 99;refine(sw.out _ I5.out).mono ?_;rintro e w7 ⟨rfl,hb,_⟩;have B7:=h_ hb;clear hb)
     |fail)
    rw[dH.out];exact⟨rfl,rfl,B7.out⟩
   |some u =>
    have dH:=h_ (show R=some u by rw[rl.out,hO]);have sw:=h_ (fun W i=>(show Calls prog 99 #[.pointer (some ⟨b,0,none⟩),S ((p.rest.drop n))] W fun e w'=>e=.returned (.tuple #[])∧(∃pv,OB w b 30 (ai pv u) w'∧w'.ownsRow W.heap.size 9 1 pv u.path.length (Strs u.path))∧Tn b W w' from by have h:=HAS.out W i;rw[hO]at h;exact h));have U8:=h_ (kH hO);clear hO
    go_upto_region 8 with(first
     |(go_at_call 100;refine(Uf.out _).mono ?_;rintro e w6 ⟨rfl,hw⟩;subst hw)
     |(go_at_call 99;refine(sw.out _ I5.out).mono ?_;rintro e w7 ⟨rfl,⟨pv,i7,o7⟩,t7⟩;have I7:=h_ i7;have O7:=h_ (bh o7 (show b+1<=_ from I5.out.lt));have K7:=h_ (K5.out.tn t7);clear i7 o7 t7)
     |fail)
    go_wp2_with (first
     |(refine fm rfl (.tmp 6) rfl w b pv u I7.out U8.out rfl ?_)
     |(refine fU rfl (.tmp 4) (.tmp 62) rfl w br (OB.of K7.out.cr jL.out I7.out.bL) pv u U8.out (bm O7.out) rfl rfl ?_;intro wZ iZ tZ;have IZ:=h_ iZ;have OZ:=h_ (bh (tZ.row O7.out kG.out) uJ.out);clear iZ tZ)
     |fail)
    rw[dH.out];exact ez (u:=u) results67 U8.out rfl IZ.out ⟨pv,rfl,OZ.out,IZ.out.bL⟩
 |false =>
  rw[hS]at d0;cases hO:bu.opq with
  |true =>
   rw[hO]at c16;have sr:=h_ (HR.out.trans ((RM hS (fun h=>by rw[hO]at h;cases h.1)).trans (if_pos hO)));clear hS hO
   go_upto_region 12 with(first
    |(go_at_call 96;refine(j0.out _).mono ?_;rintro e w6 ⟨rfl,hw⟩;subst hw)
    |(go_at_call 57;refine(ON.out _).mono ?_;rintro e w6 ⟨rfl,hw⟩;subst hw)
    |fail)
   clear d0 d1 d2 c0 c16 wK wG hpe;cases hO:lS bu p with
   |none =>
    have dH:=h_ (show R=none by rw[sr.out,hO]);have HC:=h_ (fun W hb=>(show Calls prog 102 #[.agg (ai bv bu),.agg (bg p)] W fun e w'=>e=Fq∧Below W.heap.size W w' from by have h:=An.out W hb;rw[hO]at h;exact h));clear hO
    go_wp2_with (first
     |(refine fm rfl (.tmp 2) rfl w bb bv bu (OB.of V3.out (bR lC.out.symm) B3.out) H8.out rfl ?_)
     |(refine lj rfl (.tmp 3) rfl bx p X3.out rfl ?_)
     |(go_at_call 102;refine(HC.out _ B3.out).mono ?_;rintro e w7 ⟨rfl,hb⟩;have B7:=h_ (iK B3.out hb);clear hb)
     |fail)
    rw[dH.out];exact⟨rfl,rfl,B7.out⟩
   |some u =>
    have dH:=h_ (show R=some u by rw[sr.out,hO]);have HC:=h_ (fun W hb=>(show Calls prog 102 #[.agg (ai bv bu),.agg (bg p)] W fun e w'=>∃ pv,e=.returned (.agg (ai pv u))∧w'.ownsRow W.heap.size 9 1 pv u.path.length (Strs u.path)∧Below W.heap.size W w' from by have h:=An.out W hb;rw[hO]at h;exact h));have U8:=h_ (wj H8.out hO);clear hO
    go_wp2_with (first
     |(refine fm rfl (.tmp 2) rfl w bb bv bu (OB.of V3.out (bR lC.out.symm) B3.out) H8.out rfl ?_)
     |(refine lj rfl (.tmp 3) rfl bx p X3.out rfl ?_)
     |(go_at_call 102;refine(HC.out _ B3.out).mono ?_;rintro e w7 ⟨pv,rfl,o7,hb⟩;have O7:=h_ o7;have B7:=h_ (iK B3.out hb);have R7:=h_ (R3.out.keep hb);clear o7 hb)
     |(refine fU rfl (.tmp 4) (.tmp 77) rfl w br (OB.of R7.out jL.out B7.out) pv u U8.out (bm O7.out) rfl rfl ?_;intro wZ iZ tZ;have IZ:=h_ iZ;have OZ:=h_ (bh (tZ.row O7.out HZ3.out.1) HZ3.out.2);clear iZ tZ)
     |fail)
    rw[dH.out];exact ez (u:=u) results67 U8.out rfl IZ.out ⟨pv,rfl,OZ.out,IZ.out.bL⟩
  |false =>
   rw[hO]at c16;by_cases hF:bu.aH=aW
   ·rw[decide_eq_true hF]at wG
    have sr:=h_ (HR.out.trans (RJ hS hO hF));clear hS hO hF
    go_upto_region 4 with(first
     |(go_at_call 96;refine(j0.out _).mono ?_;rintro e w6 ⟨rfl,hw⟩;subst hw)
     |(go_at_call 57;refine(ON.out _).mono ?_;rintro e w6 ⟨rfl,hw⟩;subst hw)
     |fail)
    clear d0 d1 d2 c0 c16 wK wG hpe;cases hO:lP bu p with
    |none =>
     have dH:=h_ (show R=none by rw[sr.out,hO]);have HC:=h_ (fun W hb=>(show Calls prog 97 #[.agg (ai bv bu),.agg (bg p)] W fun e w'=>e=Fq∧Below W.heap.size W w' from by have h:=Ze.out W hb;rw[hO]at h;exact h));clear hO
     go_wp2_with (first
      |(refine fm rfl (.tmp 2) rfl w bb bv bu (OB.of V3.out (bR lC.out.symm) B3.out) H8.out rfl ?_)
      |(refine lj rfl (.tmp 3) rfl bx p X3.out rfl ?_)
      |(go_at_call 97;refine(HC.out _ B3.out).mono ?_;rintro e w7 ⟨rfl,hb⟩;have B7:=h_ (iK B3.out hb);clear hb)
      |fail)
     rw[dH.out];exact⟨rfl,rfl,B7.out⟩
    |some u =>
     have dH:=h_ (show R=some u by rw[sr.out,hO]);have HC:=h_ (fun W hb=>(show Calls prog 97 #[.agg (ai bv bu),.agg (bg p)] W fun e w'=>∃ pv,e=.returned (.agg (ai pv u))∧w'.ownsRow W.heap.size 9 1 pv u.path.length (Strs u.path)∧Below W.heap.size W w' from by have h:=Ze.out W hb;rw[hO]at h;exact h));have U8:=h_ (we H8.out hO);clear hO
     go_wp2_with (first
      |(refine fm rfl (.tmp 2) rfl w bb bv bu (OB.of V3.out (bR lC.out.symm) B3.out) H8.out rfl ?_)
      |(refine lj rfl (.tmp 3) rfl bx p X3.out rfl ?_)
      |(go_at_call 97;refine(HC.out _ B3.out).mono ?_;rintro e w7 ⟨pv,rfl,o7,hb⟩;have O7:=h_ o7;have B7:=h_ (iK B3.out hb);have R7:=h_ (R3.out.keep hb);clear o7 hb)
      |(refine fU rfl (.tmp 4) (.tmp 37) rfl w br (OB.of R7.out jL.out B7.out) pv u U8.out (bm O7.out) rfl rfl ?_;intro wZ iZ tZ;have IZ:=h_ iZ;have OZ:=h_ (bh (tZ.row O7.out HZ3.out.1) HZ3.out.2);clear iZ tZ)
      |fail)
     rw[dH.out];exact ez (u:=u) results67 U8.out rfl IZ.out ⟨pv,rfl,OZ.out,IZ.out.bL⟩
   rw[decide_eq_false hF]at wG;have sr:=h_ (HR.out.trans ((RM hS (fun h=>hF h.2)).trans (if_neg (by simp[hO]))));clear hS hO hF
   go_upto_region 13 with(first
    |(go_at_call 96;refine(j0.out _).mono ?_;rintro e w6 ⟨rfl,hw⟩;subst hw)
    |(go_at_call 57;refine(ON.out _).mono ?_;rintro e w6 ⟨rfl,hw⟩;subst hw)
    |fail)
   clear d0 d1 d2 c0 c16 wK wG hpe;cases hO:rZ bu p with
   |none =>
    have dH:=h_ (show R=none by rw[sr.out,hO]);have HC:=h_ (fun W hb=>(show Calls prog 103 #[.agg (ai bv bu),.agg (bg p)] W fun e w'=>e=Fq∧Below W.heap.size W w' from by have h:=yp.out W hb;rw[hO]at h;exact h));clear hO
    go_wp2_with (first
     |(refine fm rfl (.tmp 2) rfl w bb bv bu (OB.of V3.out (bR lC.out.symm) B3.out) H8.out rfl ?_)
     |(refine lj rfl (.tmp 3) rfl bx p X3.out rfl ?_)
     |(go_at_call 103;refine(HC.out _ B3.out).mono ?_;rintro e w7 ⟨rfl,hb⟩;have B7:=h_ (iK B3.out hb);clear hb)
     |fail)
    rw[dH.out];exact⟨rfl,rfl,B7.out⟩
   |some u =>
    have dH:=h_ (show R=some u by rw[sr.out,hO]);have HC:=h_ (fun W hb=>(show Calls prog 103 #[.agg (ai bv bu),.agg (bg p)] W fun e w'=>∃ pv,e=.returned (.agg (ai pv u))∧w'.ownsRow W.heap.size 9 1 pv u.path.length (Strs u.path)∧Below W.heap.size W w' from by have h:=yp.out W hb;rw[hO]at h;exact h));have U8:=h_ (Bw H8.out hO);clear hO
    go_wp2_with (first
     |(refine fm rfl (.tmp 2) rfl w bb bv bu (OB.of V3.out (bR lC.out.symm) B3.out) H8.out rfl ?_)
     |(refine lj rfl (.tmp 3) rfl bx p X3.out rfl ?_)
     |(go_at_call 103;refine(HC.out _ B3.out).mono ?_;rintro e w7 ⟨pv,rfl,o7,hb⟩;have O7:=h_ o7;have B7:=h_ (iK B3.out hb);have R7:=h_ (R3.out.keep hb);clear o7 hb)
     |(refine fU rfl (.tmp 4) (.tmp 80) rfl w br (OB.of R7.out jL.out B7.out) pv u U8.out (bm O7.out) rfl rfl ?_;intro wZ iZ tZ;have IZ:=h_ iZ;have OZ:=h_ (bh (tZ.row O7.out HZ3.out.1) HZ3.out.2);clear iZ tZ)
     |fail)
    rw[dH.out];exact ez (u:=u) results67 U8.out rfl IZ.out ⟨pv,rfl,OZ.out,IZ.out.bL⟩

def yL(w:World):Option Url->Ending->World->Prop
 |none,e,w'=>e=.returned (.tuple #[.agg (ai aR U0),.bool false])∧Below w.heap.size w w'
 |some u,e,w'=>∃ pv,e=.returned (.tuple #[.agg (ai pv u),.bool true])∧w'.ownsRow w.heap.size 9 1 pv u.path.length (Strs u.path)∧Below w.heap.size w w'
theorem OB.cb{w0 W:World}{b:Nat}{T:TypeId}{cs:Array Value}(i:OB w0 b T cs W):CB W b T cs:=⟨i.a⟩
theorem OB.tn{w0 W W':World}{b g:Nat}{T T':TypeId}{cs cs':Array Value}(i:OB w0 g T cs W)(t:Tn b W W')(hn:g≠b)(j:OB w0 b T' cs' W'):OB w0 g T cs W':=OB.of (t.cb i.cb hn) i.le j.bL
theorem ZR(w:World)(bv:Value)(u:Url)(p:lH):∃ w4,(((w.alloc (.cells (ai bv u) 30)).alloc (.cells (bg p) 68)).alloc (.cells (ai aR U0) 30)).alloc (.cells #[.bool false] 4)=w4∧w4.heap.size=w.heap.size+4 ∧
  CB w4 w.heap.size 30 (ai bv u)∧CB w4 (w.heap.size+1) 68 (bg p)∧OB w (w.heap.size+2) 30 (ai aR U0) w4∧OB w (w.heap.size+3) 4 #[.bool false] w4:=by
 obtain⟨w3,hw3,hz3,hb,k1,k2,k3⟩:=three w bv u p;rw[hw3];have hx:=CB.new w3 4 #[.bool false];have hb2:=(Below.refl w3.heap.size w3).alloc (af _) (.cells #[.bool false] 4);refine⟨_,rfl,by simp[hz3],k1.keep hb2,k2.keep hb2,OB.of (k3.keep hb2) (by omega) (iK hb hb2),?_⟩;rw[hz3]at hx;exact OB.of hx (by omega) (iK hb hb2)
theorem S3{tmps:Array Value}{w w2:World}{b:Nat}{pv:Value}{u:Url}{q:Bool}(h4:tmps.getD 4 undef=.pointer (some ⟨b,0,none⟩))(h5:tmps.getD 5 undef=.pointer (some ⟨b+1,0,none⟩))(h8:u.host.six.length=8)(i:OB w b 30 (ai pv u) w2)(j:OB w (b+1) 4 #[.bool q] w2) :
  (results f32 tmps).run prog w2=.ok (.tuple #[.agg (ai pv u),.bool q]) w2:=by
 have h4':tmps[4]?.getD undef=.pointer (some ⟨b,0,none⟩):=by simpa using h4
 have h5':tmps[5]?.getD undef=.pointer (some ⟨b+1,0,none⟩):=by simpa using h5
 have hl:=i.load (P:=prog) 30 _ underlying30 rfl (by rw[jX h8];exact iI);have hc:=j.aF (j:=0) (v:=.bool q) rfl;have hlb:(loadVar 4 ⟨b+1,0,none⟩).run prog w2=.ok (.bool q) w2:=by simp[go_sem,hc]
 simp[results,results32,asAddr,h4',h5',hl,hlb]
theorem Er(w0:World)(b:Nat)(u:TypeId)(pv:Value)(older:List PanicEntry)(w:World)(i:OB w0 b 30 (ai aR U0) w)(j:OB w0 (b+1) 4 #[.bool false] w) :
  CallsD prog 66 #[.pointer (some ⟨b,0,none⟩),.pointer (some ⟨b+1,0,none⟩)] (.panicking ({v:=.iface u pv,recovered:=false}::older)) w fun e u' w' =>
   e=.returned (.tuple #[])∧u'=.panicking ({v:=.iface u pv,recovered:=true}::older)∧OB w0 b 30 (ai aR U0) w'∧OB w0 (b+1) 4 #[.bool false] w':=by
 refine callsD_of_wpS func66 rfl fun c₀ cs hu=>?_
 apply wpS_seq
 apply wpS_region
 simp[wpOpsS,go_sem,recoverD,hu,ntmps66,Exit.thenS];refine wpS_cond (t:=true) (by simp[Act.eval,Array.replicate]) ?_;simp only[if_true];refine wpS_of_wp ?_;have I:=h_ i;have J:=h_ j;clear i j
 go_wp2_with (first
  |(refine fU rfl (.tmp 0) (.tmp 4) rfl w0 b I.out aR U0 rfl rfl rfl rfl ?_;intro w2 i2 t2;have I2:=h_ i2;have J2:=h_ (J.out.tn t2 (Nat.succ_ne_self b) i2);clear i2 t2)
  |(refine ex rfl 4 (.tmp 1) (.const (.bool false)) rfl w0 (b+1) 4 #[.bool false] J2.out 0 (.bool false) rfl rfl (by decide) bU.2.2 rfl #[.bool false] rfl ?_;intro w3 j3 t3;have J3:=h_ j3;have I3:=h_ (I2.out.tn t3 (cV (bO b)) j3);clear j3 t3)
  |fail)
 simp only[bodyPostS];exact⟨trivial,_,rfl,.tuple #[],by simp[results,results66],rfl,rfl,I3.out,J3.out⟩
theorem Ep(p r:Addr)(w:World) :
  CallsD prog 66 #[.pointer (some p),.pointer (some r)] .returning w fun e u' w'=>e=.returned (.tuple #[])∧u'=.returning∧w'=w:=by
 refine callsD_of_wpS func66 rfl fun c₀ cs hu=>?_
 apply wpS_seq
 apply wpS_region
 simp[wpOpsS,go_sem,recoverD,hu,ntmps66,Exit.thenS];refine wpS_cond (t:=false) (by simp[Act.eval,Array.replicate]) ?_;simp only[fd,if_false];refine wpS_of_wp (wp_skip ?_);cases c₀;simp_all[bodyPostS,results,results66]
theorem Ez{tmps:Array Value}{w w3:World}{g:Nat}{ty:TypeId}{x:Value}(h4:tmps.getD 4 undef=.pointer (some ⟨g,0,none⟩))(h5:tmps.getD 5 undef=.pointer (some ⟨g+1,0,none⟩))(i:OB w g 30 (ai aR U0) w3)(j:OB w (g+1) 4 #[.bool false] w3){R:Option Url}(hR:R=none) :
  bodyPostD prog f32 (yL w R) (Exit.panic [{v:=.iface ty x,recovered:=false}])
   {tmps:=tmps,defers:=[{target:=.fn (.func 66) #[.pointer (some ⟨g,0,none⟩),.pointer (some ⟨g+1,0,none⟩)],args:=#[]}]} w3:=by
 subst hR;refine leaves_cons (f:=66) (args:=#[.pointer (some ⟨g,0,none⟩),.pointer (some ⟨g+1,0,none⟩)]) (by simp) (by simp[go_sem]) ?_;refine(Er w g _ _ [] w3 i j).mono ?_;rintro e u' w4 ⟨rfl,rfl,i4,j4⟩;exact⟨_,S3 h4 h5 rfl i4 j4,rfl,i4.bL⟩
theorem Ib{tmps:Array Value}{w w3:World}{g:Nat}{pv:Value}{u:Url}(h4:tmps.getD 4 undef=.pointer (some ⟨g,0,none⟩))(h5:tmps.getD 5 undef=.pointer (some ⟨g+1,0,none⟩))(h8:u.host.six.length=8)(i:OB w g 30 (ai pv u) w3)(j:OB w (g+1) 4 #[.bool true] w3)(o:w3.ownsRow w.heap.size 9 1 pv u.path.length (Strs u.path)){R:Option Url}(hR:R=some u) :
  bodyPostD prog f32 (yL w R) Exit.ret
   {tmps:=tmps,defers:=[{target:=.fn (.func 66) #[.pointer (some ⟨g,0,none⟩),.pointer (some ⟨g+1,0,none⟩)],args:=#[]}]} w3:=by
 subst hR;refine leaves_cons (f:=66) (args:=#[.pointer (some ⟨g,0,none⟩),.pointer (some ⟨g+1,0,none⟩)]) (by simp) (by simp[go_sem]) ?_;refine(Ep _ _ w3).mono ?_;rintro e u' w4 ⟨rfl,rfl,rfl⟩;exact⟨_,S3 h4 h5 h8 i j,_,rfl,o,i.bL⟩
theorem Ab(bu:Url)(bv:Value)(p:lH)(w:World)(h8:bu.host.six.length=8)(hbv:Sl w.heap.size w bv (bu.path.map S))(hbs:Bs bu.path)(hr:Rs p.rest)(hq:p.q.length<=307200000)(hf:p.f.length<=307200000)(hE:Env w):Calls prog 32 #[.agg (ai bv bu),.agg (bg p)] w (yL w (eU bu p)):=by
 have hmf:∀ (fn:Fn) (first cap:Array Value) (w:World),(Instr.makeFunc fn first cap).run prog w=.ok (.func fn first cap) w:=fun _ _ _ _=>rfl;have HJ:=h_ (fun W (hb:Below w.heap.size w W)=>NV bu bv p W h8 ((hbv.below hb).more hb.size) hbs hr hq hf (hE.below hb));obtain⟨R,hR⟩:=az (eU bu p);rw[<-hR]at HJ ⊢;have HU8:=h_ (fun u (h:R=some u)=>oS h8 (hR.symm.trans h));have H8:=h_ h8;clear hR h8 hbv hbs hr hq hf hE;obtain⟨w4,hw4,hz4,k1,k2,k3,k4⟩:=ZR w bv bu p;have K1:=h_ k1;have K2:=h_ k2;have K3:=h_ k3;have K4:=h_ k4;have HZ:=h_ hz4;have HW4:=h_ hw4;clear k1 k2 k3 k4 hz4 hw4;cases R with
 |none =>
  have HC:=h_ (fun W hb=>(show Calls prog 67 #[.agg (ai bv bu),.agg (bg p)] W fun e w'=>e=Fq∧Below W.heap.size W w' from HJ.out W hb))
  go_enter_defers func32,ntmps32
  go_upto_region 1 with(first
   |(refine aS rfl 30 rfl _ _ (ef _) ?_)
   |fail)
  rw[HW4.out]
  go_wp2_with (first
   |(refine fm rfl (.tmp 2) rfl w w.heap.size bv bu (OB.of K1.out (af _) K3.out.bL) H8.out rfl ?_)
   |(refine lj rfl (.tmp 3) rfl (w.heap.size+1) p K2.out rfl ?_)
   |(go_at_call 67;refine(HC.out _ K3.out.bL).mono ?_;rintro e w7 ⟨rfl,hb⟩;have I7:=h_ (K3.out.below hb);have J7:=h_ (K4.out.below hb);clear hb)
   |fail)
  exact Ez rfl rfl I7.out J7.out rfl
 |some u =>
  have U8:=h_ (HU8.out u rfl);have HC:=h_ (fun W hb=>(show Calls prog 67 #[.agg (ai bv bu),.agg (bg p)] W fun e w'=>∃ pv,e=.returned (.agg (ai pv u))∧w'.ownsRow W.heap.size 9 1 pv u.path.length (Strs u.path)∧Below W.heap.size W w' from HJ.out W hb))
  go_enter_defers func32,ntmps32
  go_upto_region 1 with(first
   |(refine aS rfl 30 rfl _ _ (ef _) ?_)
   |fail)
  rw[HW4.out]
  go_wp2_with (first
   |(refine fm rfl (.tmp 2) rfl w w.heap.size bv bu (OB.of K1.out (af _) K3.out.bL) H8.out rfl ?_)
   |(refine lj rfl (.tmp 3) rfl (w.heap.size+1) p K2.out rfl ?_)
   |(go_at_call 67;refine(HC.out _ K3.out.bL).mono ?_;rintro e w7 ⟨pv,rfl,o7,hb⟩;have I7:=h_ (K3.out.below hb);have J7:=h_ (K4.out.below hb);have O7:=h_ o7;clear hb o7)
   |(refine fU rfl (.tmp 4) (.tmp 9) rfl w (w.heap.size+2) I7.out pv u U8.out (bm O7.out) rfl rfl ?_;intro w8 i8 t8;have I8:=h_ i8;have J8:=h_ (J7.out.tn t8 (by omega) i8);have O8:=h_ (t8.row O7.out (by rw[HZ.out];omega));clear i8 t8)
   |(refine ex rfl 4 (.tmp 5) (.const (.bool true)) rfl w (w.heap.size+3) 4 #[.bool false] J8.out 0 (.bool true) rfl rfl (by decide) bU.2.2 rfl #[.bool true] rfl ?_;intro w9 j9 t9;have J9:=h_ j9;have I9:=h_ (I8.out.tn t9 (by omega) j9);have O9:=h_ (bh (t9.row O8.out (by rw[HZ.out];omega)) (show w.heap.size<=w4.heap.size by rw[HZ.out];omega));clear j9 t9)
   |fail)
  exact Ib rfl rfl U8.out I9.out J9.out O9.out rfl
end Go.Proofs.YtmndlfglgcioeaaGreatDoor
