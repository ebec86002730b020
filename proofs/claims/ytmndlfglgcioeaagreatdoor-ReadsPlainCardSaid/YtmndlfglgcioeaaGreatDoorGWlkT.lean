/- WlkT WlkU WlkV WlkX: joined. -/
import Derived.Test.YtmndlfglgcioeaaGreatDoorGWlkN
import Derived.Test.YtmndlfglgcioeaaGreatDoorGSixF
set_option maxHeartbeats 40000000
namespace Go.Proofs.YtmndlfglgcioeaaGreatDoor
open Tryz
open Go.RowKit
set_option maxRecDepth 10000
theorem vI {l:Bytes} {sp:Bool} {g:gE} (h:el l sp=some g):g.six.length=8:=(mr (hkind h)).l
theorem tD (w0:World) (b:Nat) (u:Url) (s:Bytes) (w:World) (i:OB w0 b 30 (ah aD u) w) (h8:u.host.six.length=8) (hs:s.length<=307200000) (hA:Short (dA true s).1) (hE:Env w) :
  Calls prog 126 #[.pointer (some ⟨b,0,none⟩),.string (bs s)] w (Ty w0 b w (gu u s)):=by
 obtain⟨R,hR⟩:=ap (gu u s)
 rw[<-hR]
 unfold gu at hR
 have kK:=fun W=>yX s true W (by omega)
 have hcl:=l5 true s
 have hdr:=fun W=>mU (dA true s).1 W (by omega)
 have hpo:=fun W=>tK u.aC (dA true s).2 W (by omega)
 have hsg:=fun W=>fp u.aC s [] aD W Sl.nil hs (by simp) (by simp)
 have hho:=fun W (h:Below w.heap.size w W)=>tc (dA true s).1 true W hA (hE.below h)
 generalize dA true s=C at *
 obtain⟨c1,c2⟩:=C
 simp only at hR kK hcl hdr hpo hho hA
 have H8:=h_ h8
 have II:=h_ i
 obtain⟨sc,hsc⟩:=ap (bs u.aC)
 obtain⟨t,ht⟩:=ap (bs s)
 obtain⟨k1,hk1⟩:=ap (bs c1)
 obtain⟨k2,hk2⟩:=ap (bs c2)
 rw[<-hsc]at hpo hsg
 rw[<-ht]at kK hsg ⊢
 rw[<-hk1]at hdr hho
 rw[<-hk2]at hpo
 have jO:=h_ (show ∀W,Calls prog 133 #[.string t,.bool true] W fun e w'=>e=.returned (.tuple #[.string k1,.string k2])∧Below W.heap.size W w' from by rw[hk1,hk2];exact kK)
 have HDR:=h_ hdr
 have FP:=h_ hpo
 have kJ:=h_ hsg
 have rJ:=h_ hsc
 have Bc:=h_ (fun(W:World) (v:Value) (x:Url) (h1:OB w0 b 30 (ah v x) W) (h2:x.host.six.length=8) (h3:x.aC=u.aC)=>(show W.cell? ⟨b,0,none⟩=some (.string sc)from by rw[h1.ak (qP v x h2).aC,h3,rJ.out]))
 have zV:k1.toList=[] ↔ c1=[]:=by rw[hk1,au]
 have HR:=h_ hR
 have DU:=h_ i.lt
 obtain⟨PS,hPS⟩:=ap (cL u.aC [] s)
 obtain⟨PO,Za⟩:=ap (fU u.aC c2)
 rw[<-hPS]at kJ HR
 rw[<-Za]at FP HR
 have c0:=Bc.out _ _ _ II.out H8.out rfl
 clear hR kK hdr hpo hsg hsc ht hk1 hk2 hcl hs hA h8 i hPS Za
 cases hD:dp c1 with
 |true =>
  have cX:=h_ (show R=some {u with path:=PS} by rw[HR.out,if_pos hD])
  rw[hD]at HDR
  clear hD hho zV
  go_enter func126,ntmps126
  go_upto_region 2 with(first
   |(go_at_call 133;refine(jO.out _).mono ?_;rintro e w3 ⟨rfl,hb⟩;have I3:=h_ (II.out.below hb);have T3:=h_ (Tn.of_below (b:=b) hb);have c3:=Bc.out _ _ _ (II.out.below hb) H8.out rfl;clear hb)
   |(go_at_call 159;refine(HDR.out _).mono ?_;rintro e w4 ⟨rfl,hw⟩;subst hw)
   |fail)
  go_wp2_with (first
   |(go_at_call 129;refine(kJ.out _).mono ?_;rintro e w5 ⟨pv,rfl,o,hb⟩;have I5:=h_ (I3.out.below hb);have O5:=h_ (eu o);have T5:=h_ (T3.out.below hb);clear o hb)
   |(refine dJ rfl 28 (.tmp 23) (.tmp 21) rfl w0 b 30 (ah aD u) I5.out 18 pv rfl rfl (eX H8.out (by decide)) dy (aS O5.out) (ah pv {u with path:=PS}) ((eW aD u H8.out).path _ _) ?_;intro w6 i1 t1;have I6:=h_ i1;have T6:=h_ (T5.out.trans t1);have O6:=h_ (t1.row O5.out I3.out.lt);clear i1 t1)
   |fail)
  go_end0
  rw[cX.out]
  exact⟨rfl,⟨pv,I6.out,aU O6.out T3.out.s⟩,T6.out⟩
 |false =>
  rw[hD]at HDR
  by_cases he:c1=[]
  ·have cX:=h_ (show R=some {u with path:=PO} by rw[HR.out,if_neg (by simp[hD]),if_pos he])
   have he1:k1.toList.isEmpty=true:=by rw[zV.2 he];rfl
   clear hD hho zV he
   go_enter func126,ntmps126
   go_upto_region 9 with(first
    |(go_at_call 133;refine(jO.out _).mono ?_;rintro e w3 ⟨rfl,hb⟩;have I3:=h_ (II.out.below hb);have T3:=h_ (Tn.of_below (b:=b) hb);have B3:=h_ hb;have c3:=Bc.out _ _ _ (II.out.below hb) H8.out rfl;clear hb)
    |(go_at_call 159;refine(HDR.out _).mono ?_;rintro e w4 ⟨rfl,hw⟩;subst hw)
    |fail)
   go_wp2_with (first
    |(go_at_call 135;refine(FP.out _).mono ?_;rintro e w5 ⟨pv,rfl,o,hb⟩;have I5:=h_ (I3.out.below hb);have O5:=h_ (eu o);have T5:=h_ (T3.out.below hb);clear o hb)
    |(refine dJ rfl 28 (.tmp 55) (.tmp 53) rfl w0 b 30 (ah aD u) I5.out 18 pv rfl rfl (eX H8.out (by decide)) dy (aS O5.out) (ah pv {u with path:=PO}) ((eW aD u H8.out).path _ _) ?_;intro w6 i1 t1;have I6:=h_ i1;have T6:=h_ (T5.out.trans t1);have O6:=h_ (t1.row O5.out I3.out.lt);clear i1 t1)
    |fail)
   go_end0
   rw[cX.out]
   exact⟨rfl,⟨pv,I6.out,aU O6.out T3.out.s⟩,T6.out⟩
  have he1:k1.toList.isEmpty=false:=by
   have:=fun h=>he (zV.1 h)
   simpa using this
  cases hO:el c1 true with
  |none =>
   have cX:=h_ (show R=none by rw[HR.out,if_neg (by simp[hD]),if_neg he,hO])
   rw[hO]at hho
   have XE:=h_ (show ∀W,Below w.heap.size w W->Calls prog 160 #[.string k1,.bool true] W fun e w'=>e=.returned (.tuple #[.agg (bp H0),.bool false])∧Below W.heap.size W w' from hho)
   clear hD hho zV he hO
   go_enter func126,ntmps126
   go_wp2_with (first
    |(go_at_call 133;refine(jO.out _).mono ?_;rintro e w3 ⟨rfl,hb⟩;have I3:=h_ (II.out.below hb);have T3:=h_ (Tn.of_below (b:=b) hb);have B3:=h_ hb;have c3:=Bc.out _ _ _ (II.out.below hb) H8.out rfl;clear hb)
    |(go_at_call 159;refine(HDR.out _).mono ?_;rintro e w4 ⟨rfl,hw⟩;subst hw)
    |(go_at_call 160;refine(XE.out _ B3.out).mono ?_;rintro e w5 ⟨rfl,hb⟩;have B5:=h_ hb;clear hb)
    |(refine aE rfl 27 rfl _ _ (oP _) ?_)
    |(refine yp rfl (.tmp 6) (.tmp 29) rfl H0 rfl rfl rfl rfl ?_;intro w6 hh hb;have B6:=h_ (fJ B5.out hb);clear hh hb)
    |fail)
   refine⟨rfl,?_⟩
   rw[cX.out]
   exact⟨rfl,(I3.out.below B6.out).bq,T3.out.below B6.out⟩
  |some g =>
   have G8:=h_ (vI hO)
   have rI:=h_ (show R=some {u with host:=if g.kind=2∧g.name=[108,111,99,97,108,104,111,115,116]then u.host else g,path:=PO} by rw[HR.out,if_neg (by simp[hD]),if_neg he,hO])
   rw[hO]at hho
   have XE:=h_ (show ∀W,Below w.heap.size w W->Calls prog 160 #[.string k1,.bool true] W fun e w'=>e=.returned (.tuple #[.agg (bp g),.bool true])∧Below W.heap.size W w' from hho)
   have HI:=h_ (show(prog.info? 27).map (·.size)=some (aW g).length by rw[gR];simp[aW,G8.out])
   clear hD hho zV he hO
   go_enter func126,ntmps126
   go_upto_region 7 with(first
    |(go_at_call 133;refine(jO.out _).mono ?_;rintro e w3 ⟨rfl,hb⟩;have I3:=h_ (II.out.below hb);have T3:=h_ (Tn.of_below (b:=b) hb);have B3:=h_ hb;have c3:=Bc.out _ _ _ (II.out.below hb) H8.out rfl;clear hb)
    |(go_at_call 159;refine(HDR.out _).mono ?_;rintro e w4 ⟨rfl,hw⟩;subst hw)
    |(go_at_call 160;refine(XE.out _ B3.out).mono ?_;rintro e w5 ⟨rfl,hb⟩;have B5:=h_ hb;clear hb)
    |(refine aE rfl 27 rfl _ _ (oP _) ?_)
    |(refine yp rfl (.tmp 6) (.tmp 29) rfl g G8.out rfl rfl rfl ?_;intro w6 hh hb;have XD:=h_ hh;have I6:=h_ (I3.out.below (fJ B5.out hb));have T6:=h_ (T3.out.below (fJ B5.out hb));clear hh hb)
    |fail)
   obtain⟨bt,hbt⟩:=ap (w5.heap.size)
   rw[<-hbt]at XD ⊢
   clear hbt c0 c3
   have e0:w6.cell? ⟨bt,0,none⟩=some (.int .i64 g.kind):=XD.out.cell 0
   have e1:w6.cell? ⟨bt,1,none⟩=some (.string (bs g.name)):=XD.out.cell 1
   have c3:=Bc.out _ _ _ I6.out H8.out rfl
   have hnm:=au g.name
   obtain⟨nm,ZE⟩:=ap (bs g.name)
   rw[<-ZE]at hnm e1
   clear ZE
   by_cases hk:g.kind=2
   ·by_cases hn:g.name=[108,111,99,97,108,104,111,115,116]
    ·have cX:=h_ (show R=some {u with path:=PO} by rw[rI.out,if_pos ⟨hk,hn⟩])
     have hl:(nm.toList == [108,111,99,97,108,104,111,115,116])=true:=by rw[hnm,hn];rfl
     rw[hk]at e0
     clear hk hn hnm
     go_wp2_with (first
      |(go_at_call 135;refine(FP.out _).mono ?_;rintro e w8 ⟨pv,rfl,o,hb⟩;have I8:=h_ (I6.out.below hb);have O8:=h_ (eu o);have T8:=h_ (T6.out.below hb);clear o hb)
      |(refine dJ rfl 28 (.tmp 55) (.tmp 53) rfl w0 b 30 (ah aD u) I8.out 18 pv rfl rfl (eX H8.out (by decide)) dy (aS O8.out) (ah pv {u with path:=PO}) ((eW aD u H8.out).path _ _) ?_;intro w9 i1 t1;have I9:=h_ i1;have T9:=h_ (T8.out.trans t1);have O9:=h_ (t1.row O8.out I6.out.lt);clear i1 t1)
      |fail)
     go_end0
     rw[cX.out]
     exact⟨rfl,⟨pv,I9.out,aU O9.out T6.out.s⟩,T9.out⟩
    have cX:=h_ (show R=some {{u with host:=g}with path:=PO} by rw[rI.out,if_neg (fun h=>hn h.2)])
    have hl:(nm.toList == [108,111,99,97,108,104,111,115,116])=false:=by rw[hnm];simpa using hn
    rw[hk]at e0
    clear hk hn hnm
    go_upto_region 9 with(first
     |(refine MD rfl (.tmp 6) rfl bt g XD.out rfl ?_)
     |(refine rh rfl 27 (.tmp 46) (.tmp 44) rfl w0 b 30 (ah aD u) I6.out 3 (aW g) rfl rfl (wP H8.out G8.out) HI.out iN (ah aD {u with host:=g}) (qQ aD u g G8.out H8.out) ?_;intro w7 i1 t1;have I7:=h_ i1;have T7:=h_ (T6.out.trans t1);clear i1 t1)
     |fail)
    clear c3 e0 e1
    have c7:=Bc.out _ _ _ I7.out G8.out rfl
    go_wp2_with (first
     |(go_at_call 135;refine(FP.out _).mono ?_;rintro e w8 ⟨pv,rfl,o,hb⟩;have I8:=h_ (I7.out.below hb);have O8:=h_ (eu o);have T8:=h_ (T7.out.below hb);clear o hb)
     |(refine dJ rfl 28 (.tmp 55) (.tmp 53) rfl w0 b 30 (ah aD {u with host:=g}) I8.out 18 pv rfl rfl (eX G8.out (by decide)) dy (aS O8.out) (ah pv {{u with host:=g}with path:=PO}) ((eW aD {u with host:=g} G8.out).path _ _) ?_;intro w9 i1 t1;have I9:=h_ i1;have T9:=h_ (T8.out.trans t1);have O9:=h_ (t1.row O8.out I7.out.lt);clear i1 t1)
     |fail)
    go_end0
    rw[cX.out]
    exact⟨rfl,⟨pv,I9.out,aU O9.out T7.out.s⟩,T9.out⟩
   have cX:=h_ (show R=some {{u with host:=g}with path:=PO} by rw[rI.out,if_neg (fun h=>hk h.1)])
   obtain⟨gk,hgk⟩:=ap (g.kind)
   rw[<-hgk]at e0 hk
   clear hnm hgk
   go_upto_region 9 with(first
    |(refine MD rfl (.tmp 6) rfl bt g XD.out rfl ?_)
    |(refine rh rfl 27 (.tmp 46) (.tmp 44) rfl w0 b 30 (ah aD u) I6.out 3 (aW g) rfl rfl (wP H8.out G8.out) HI.out iN (ah aD {u with host:=g}) (qQ aD u g G8.out H8.out) ?_;intro w7 i1 t1;have I7:=h_ i1;have T7:=h_ (T6.out.trans t1);clear i1 t1)
    |fail)
   clear c3 e0 e1
   have c7:=Bc.out _ _ _ I7.out G8.out rfl
   go_wp2_with (first
    |(go_at_call 135;refine(FP.out _).mono ?_;rintro e w8 ⟨pv,rfl,o,hb⟩;have I8:=h_ (I7.out.below hb);have O8:=h_ (eu o);have T8:=h_ (T7.out.below hb);clear o hb)
    |(refine dJ rfl 28 (.tmp 55) (.tmp 53) rfl w0 b 30 (ah aD {u with host:=g}) I8.out 18 pv rfl rfl (eX G8.out (by decide)) dy (aS O8.out) (ah pv {{u with host:=g}with path:=PO}) ((eW aD {u with host:=g} G8.out).path _ _) ?_;intro w9 i1 t1;have I9:=h_ i1;have T9:=h_ (T8.out.trans t1);have O9:=h_ (t1.row O8.out I7.out.lt);clear i1 t1)
    |fail)
   go_end0
   rw[cX.out]
   exact⟨rfl,⟨pv,I9.out,aU O9.out T7.out.s⟩,T9.out⟩

def vA (b:Url) (rest:Bytes):List Bytes:=if(match b.path with|x::_=>iF x | []=>false)=true∧eK rest=false then b.path.take 1 else []
def IQ (b:Url) (p:jP):Url:=if b.aC=aR then {cQ aR p with host:=b.host}else {cQ aR p with host:={H0 with kind:=1}}
theorem sW (b:Url) (p:jP):kx b p=if 2<=r4 (ep aR) p.rest then gu {cQ aR p with host:={H0 with kind:=1}} (p.rest.drop 2)
  else if r4 (ep aR) p.rest=1 then some {IQ b p with path:=cL aR (if b.aC=aR then vA b (p.rest.drop 1)else []) (p.rest.drop 1)}
  else if b.aC=aR∧p.rest=[]then some (eV (IQ b p) b)
  else if b.aC=aR∧eK p.rest=false then some {IQ b p with path:=cL aR (bU aR b.path) p.rest}
  else some {IQ b p with path:=cL aR [] p.rest}:=by
 unfold kx IQ vA
 by_cases h:b.aC=aR
 ·simp only[h,decide_true,if_true,true_and]
  rfl
 simp only[h,decide_false,if_false,false_and,eM]
theorem vR {u v:Url} {s:Bytes} (hu:u.host.six.length=8) (h:gu u s=some v):v.host.six.length=8:=by
 unfold gu at h
 dsimp only at h
 split at h
 ·cases h;exact hu
 split at h
 ·cases h;exact hu
 cases hO:el (dA true s).1 true with
 |none=>rw[hO]at h;cases h
 |some g =>
  rw[hO]at h
  cases h
  dsimp only
  split
  ·exact hu
  exact vI hO
section
variable {P:Program} {ops:Array Oper} {rest:List Oper} {o:Oper} {a:Act} {w:World} {Q:Exit->Act->World->Prop}
theorem ME (hgd:o.guard=none) (T:TypeId) (x:Operand) (ho:o.op=.load T x) (b k:Nat) (vs:List Value) (d:TypeDesc) (hu:P.underlying T=some d) (hd:d.isRow=true) (hi:(P.info? T).map (·.size)=some vs.length)
  (hx:a.eval x=.pointer (some ⟨b,k,none⟩)) (hr:w.rangeAt b k vs) (K:wpList P ops Q rest (a.put o.dst (.agg vs.toArray)) w):wpList P ops Q (o::rest) a w :=
 jA hgd (.agg vs.toArray) (dM T x ho b k vs d hu hd hi hx hr) K
end
theorem Ih {B:Nat} {W:World} {v:Value} (h:Sl B W v (([]:List Bytes).map S)):∃ a c,v=.slice a 0 c:=by
 obtain⟨c,_,_,h⟩:=h
 rcases h with⟨_,a,h⟩|⟨b,o,_,h,_⟩
 ·exact⟨a,c,h⟩
 exact⟨some ⟨b,o,none⟩,c,h⟩
theorem DF {B:Nat} {W:World} {v:Value} {x:Bytes} {r:List Bytes} (h:Sl B W v ((x::r).map S)):∃ b o m c,0<m∧v=.slice (some ⟨b,o,none⟩) m c∧W.cell? ⟨b,o,none⟩=some (S x):=by
 obtain⟨c,_,_,h⟩:=h
 rcases h with⟨h,_⟩|⟨b,o,_,h,ha⟩
 ·cases h
 refine⟨b,o,_,c,by simp,h,?_⟩
 have:=ha 0 (by simp)
 simpa using this
theorem Sz (x:Bytes) (w:World):(Instr.buildSlice 28 1 #[(0,S x)]).run prog w=.ok (.slice (some ⟨w.heap.size,0,none⟩) 1 1) (w.alloc (.cells #[S x] 9)):=by kernel_rfl
section
variable {ops:Array Oper} {rest:List Oper} {o:Oper} {a:Act} {w:World} {Q:Exit->Act->World->Prop}
theorem Pm (hg:o.guard=none) (y:Operand) (ho:o.op=.buildSlice 28 1 #[(0,y)]) (x:Bytes) (hy:a.eval y=S x)
  (h:∀ b w',Below w.heap.size w w'->Sl w'.heap.size w' (.slice (some ⟨b,0,none⟩) 1 1) ([x].map S)->wpList prog ops Q rest (a.put o.dst (.slice (some ⟨b,0,none⟩) 1 1)) w'):wpList prog ops Q (o::rest) a w:=by
 refine wpList_plain hg fun K hK=>?_
 unfold Oper.wp execOp
 have e:(#[(0,y)]:Array (Nat×Operand)).map (fun(i,x)=>(i,a.eval x))=#[(0,S x)]:=by simp[hy]
 simp only[ho,Sem.run_bind,Sem.run_pure,Result.andThen_ok,e,Sz]
 refine hK _ _ (h _ _ ((Below.refl _ _).alloc (ae _) _) ?_)
 refine⟨1,by simp,by unfold maxLen;omega,.inr ⟨w.heap.size,0,by simp,by simp,fun j hj=>?_⟩⟩
 have h0:j=0:=by simpa using hj
 subst h0
 rw[World.cell?_alloc_mark];rfl
end
theorem Lh (bu:Url) (bv:Value) (p:jP) (w:World) (h8:bu.host.six.length=8) (hbv:Sl w.heap.size w bv (bu.path.map S)) (hbs:Bs bu.path) (hr:Rs p.rest) (hq:p.q.length<=307200000) (hf:p.f.length<=307200000) (hE:Env w):Calls prog 97 #[.agg (ah bv bu),.agg (aT p)] w (yV w (kx bu p)):=by
 have hst:=fun W=>m9 aR p W (by omega) (by omega)
 have hsl:=fun W=>jZ aR p.rest W (by have:=hr.l;omega)
 obtain⟨us,lG⟩:=ap (cQ aR p)
 have Y1:us.host.six.length=8:=by rw[lG];rfl
 have hsc:us.aC=aR:=by rw[lG];rfl
 have hup:us.path=[]:=by rw[lG];rfl
 have hho:{us with host:={us.host with kind:=1}}={us with host:={H0 with kind:=1}}:=by rw[lG];rfl
 rw[<-lG]at hst
 obtain⟨R,hR⟩:=ap (kx bu p)
 rw[<-hR]
 rw[sW]at hR
 have hle:=yn (ep aR) p.rest
 have HE:=h_ hE
 have qU:=h_ hr
 have H8:=h_ h8
 have Ob:=h_ hbv
 have yz:=h_ hbs
 have yB:=h_ Y1
 have rJ:=h_ hsc
 have yC:=h_ hup
 have XE:=h_ hho
 have HU2:=h_ (show IQ bu p=if bu.aC=aR then {us with host:=bu.host}else {us with host:={H0 with kind:=1}} by unfold IQ;rw[lG])
 obtain⟨u1,hu1⟩:∃ u1:Url,u1={us with host:={H0 with kind:=1}}:=⟨_,rfl⟩
 rw[<-lG,<-hu1]at hR
 have xj:=h_ (show u1.host.six.length=8 by rw[hu1];rfl)
 have U1S:=h_ (show u1.aC=aR by rw[hu1];exact hsc)
 have U1P:=h_ (show u1.path=[] by rw[hu1];exact hup)
 have XR:=h_ hu1
 generalize r4 (ep aR) p.rest=n at *
 have HSL:=h_ hsl
 have HR:=h_ hR
 have hbq:=qG bu.aC aR
 obtain⟨fs,hfs⟩:=ap (bs aR)
 have HST:=h_ (show ∀W,Calls prog 98 #[.string ⟨#[102,105,108,101]⟩,.agg (aT p)] W fun e w'=>e=.returned (.agg (ah aD us))∧Below W.heap.size W w' from hst)
 obtain⟨YG,zU⟩:=ap (bs bu.aC)
 have hbe:(YG.toList == [102,105,108,101])=decide (bu.aC=aR):=by rw[zU,<-hbq,au,au];rfl
 have TE:=h_ zU
 have HFS:=h_ hfs
 obtain⟨t,ht⟩:=ap (bs p.rest)
 have htz:t.size=p.rest.length:=by rw[ht,aB]
 have HT:=h_ ht
 have rD:t.extract 1 t.size=bs (p.rest.drop 1):=by rw[ht];exact gn p.rest 1 _ (aB p.rest)
 have nY:t.extract 2 t.size=bs (p.rest.drop 2):=by rw[ht];exact gn p.rest 2 _ (aB p.rest)
 obtain⟨N,hN⟩:=ap (t.size)
 have LP:t.size=N:=hN.symm
 rw[LP]at rD nY
 have ZC:n<=N:=by omega
 have TH:=h_ rD
 have Jj:=h_ nY
 have yO:=h_ ZC
 have HTZ:=h_ htz
 rw[<-hfs,<-ht]at hsl
 have HSL:=h_ hsl
 clear h8 hbv hbs hr hq hf hE hsl Y1 hsc hup hR hle lG ht rD nY hN ZC htz hho hu1 hst hbq hfs zU
 go_enter func97,ntmps97
 go_upto_region 1 with(first
  |(refine aE rfl 30 rfl _ _ (cD _) ?_)
  |fail)
 obtain⟨w3,hw3,hz3,hb,k1,k2,k3⟩:=three w bv bu p
 try rw[show((w.alloc (.cells (ah bv bu) 30)).alloc (.cells (aT p) 68)).heap.size=w.heap.size+2 by simp]
 rw[hw3]
 clear hw3
 obtain⟨br,hbr⟩:=ap (w.heap.size+2)
 obtain⟨bx,hbx⟩:=ap (w.heap.size+1)
 obtain⟨bb,hbb⟩:=ap (w.heap.size)
 rw[<-hbr]at k3
 rw[<-hbx]at k2
 rw[<-hbb]at k1
 rw[<-hbr,<-hbx,<-hbb]
 have gJ:=h_ (show w.heap.size<=br by omega)
 have lW:=h_ hbb
 have B3:=h_ hb
 have V3:=h_ k1
 have X3:=h_ k2
 have R3:=h_ k3
 have HD:=h_ (show bb<bx∧bx<br by omega)
 clear hz3 hb k1 k2 k3 hbr hbx hbb
 have c0:=V3.out.ak (qP bv bu H8.out).aC
 go_upto_region 2 with(first
  |(refine jq rfl (.tmp 3) rfl bx p X3.out rfl ?_)
  |(go_at_call 98;refine(HST.out _).mono ?_;rintro e w4 ⟨rfl,hb⟩;have eZ:=h_ hb;clear hb)
  |(refine aE rfl 30 rfl _ _ (cD _) ?_)
  |(refine cN rfl (.tmp 5) (.tmp 11) rfl aD us yB.out rfl rfl rfl rfl ?_;intro w5 hh hb;have I5:=h_ (OB.of (w0:=w) hh (aq B3.out.size eZ.out.size) (fJ (fJ B3.out eZ.out) hb));have K5:=h_ (show K3 bb bx br w4.heap.size bv bu p w5 from⟨(V3.out.keep eZ.out).keep hb,(X3.out.keep eZ.out).keep hb,(R3.out.keep eZ.out).keep hb,cj (aP V3.out.lt eZ.out.size),cj (aP X3.out.lt eZ.out.size),cj (aP R3.out.lt eZ.out.size)⟩);have iH:=h_ (show br<w4.heap.size+1 from p7 (aP R3.out.lt eZ.out.size));have pT:=h_ (show w.heap.size<=w4.heap.size+1 from pZ (aq B3.out.size eZ.out.size));clear hh hb)
  |fail)
 obtain⟨b,hbb⟩:=ap (w4.heap.size)
 rw[<-hbb]at I5 K5 iH pT ⊢
 clear c0 hbb
 go_upto_region 3 with(first
  |(refine dJ rfl 3 (.tmp 13) (.const (.int .i64 1)) rfl w b 30 (ah aD us) I5.out 3 (.int .i64 1) rfl rfl (eX yB.out (by decide)) bF.2.1 rfl (ah aD u1) (by rw[XR.out,<-XE.out];exact(eW aD us yB.out).kind 1) ?_;intro w6 i6 t6;have I6:=h_ i6;have K6:=h_ (K5.out.tn t6);clear i6 t6)
  |fail)
 have HBF:=h_ hbe
 have SC:=h_ (fun(W:World) (v:Value) (x:Url) (i:OB w b 30 (ah v x) W) (h:x.host.six.length=8) (hs:x.aC=aR) (k:K3 bb bx br b bv bu p W)=>(show W.cell? ⟨b,0,none⟩=some (.string fs)∧W.cell? ⟨bx,2,none⟩=some (.string t)∧W.cell? ⟨bb,18,none⟩=some bv∧W.cell? ⟨bb,0,none⟩=some (.string YG)from⟨by rw[i.ak (qP v x h).aC,hs,HFS.out],by rw[HT.out];exact k.cx.ak rfl,k.cb.ak (qP bv bu H8.out).path,by rw[TE.out];exact k.cb.ak (qP bv bu H8.out).aC⟩))
 obtain⟨d0,d2,YI,db⟩:=SC.out _ _ _ I6.out xj.out U1S.out K6.out
 by_cases hn:2<=n
 ·have oN:=h_ (show R=gu u1 (p.rest.drop 2) by rw[HR.out,if_pos hn])
  have hni:(2:Int)<=n:=by omega
  have Y9:2<=N:=by have:=yO.out;omega
  have a3L:(2:Int)<=N:=by omega
  have nY:=Jj.out
  obtain⟨s2,hs2⟩:=ap (bs (p.rest.drop 2))
  rw[<-hs2]at nY
  have HNA:=h_ (fun W i=>(show Calls prog 126 #[.pointer (some ⟨b,0,none⟩),.string s2] W (Ty w b W (gu u1 (p.rest.drop 2)))from by rw[hs2];exact tD w b u1 (p.rest.drop 2) W i xj.out (by have:=qU.out.l;rw[ai];omega) (qU.out.n _ 2) (HE.out.below i.bq)))
  clear hn hs2 hbe
  generalize decide (bu.aC=aR)=fr at *
  go_upto_region 6 with(first
   |(go_at_call 125;refine(HSL.out _).mono ?_;rintro e w7 ⟨rfl,hw⟩;subst hw)
   |fail)
  cases hO:gu u1 (p.rest.drop 2)with
  |none =>
   have cX:=h_ (show R=none by rw[oN.out,hO])
   have pX:=h_ (fun W i=>(show Calls prog 126 #[.pointer (some ⟨b,0,none⟩),.string s2] W fun e w'=>e=AU∧Below w.heap.size w w'∧Tn b W w' from by have h:=HNA.out W i;rw[hO]at h;exact h))
   clear hO
   go_wp2_with (first
    |(go_at_call 126;refine(pX.out _ I6.out).mono ?_;rintro e w7 ⟨rfl,hb,_⟩;have B7:=h_ hb;clear hb)
    |fail)
   rw[cX.out]
   exact⟨rfl,rfl,B7.out⟩
  |some u =>
   have cX:=h_ (show R=some u by rw[oN.out,hO])
   have pX:=h_ (fun W i=>(show Calls prog 126 #[.pointer (some ⟨b,0,none⟩),.string s2] W fun e w'=>e=.returned (.tuple #[])∧(∃pv,OB w b 30 (ah pv u) w'∧w'.ownsRow W.heap.size 9 1 pv u.path.length (Strs u.path))∧Tn b W w' from by have h:=HNA.out W i;rw[hO]at h;exact h))
   have U8:=h_ (vR xj.out hO)
   clear hO
   go_upto_region 7 with(first
    |(go_at_call 126;refine(pX.out _ I6.out).mono ?_;rintro e w7 ⟨rfl,⟨pv,i7,o7⟩,t7⟩;have I7:=h_ i7;have O7:=h_ (aU o7 (show b+1<=_ from I6.out.lt));have K7:=h_ (K6.out.tn t7);clear i7 o7 t7)
    |fail)
   go_wp2_with (first
    |(refine eh rfl (.tmp 5) rfl w b pv u I7.out U8.out rfl ?_)
    |(refine eG rfl (.tmp 4) (.tmp 28) rfl w br (OB.of K7.out.cr gJ.out I7.out.bq) pv u U8.out (aS O7.out) rfl rfl ?_;intro wZ iZ tZ;have IZ:=h_ iZ;have OZ:=h_ (aU (tZ.row O7.out iH.out) pT.out);clear iZ tZ)
    |fail)
   rw[cX.out]
   exact dL (u:=u) results97 U8.out rfl IZ.out ⟨pv,rfl,OZ.out,IZ.out.bq⟩
 have HI:=h_ (show(prog.info? 27).map (·.size)=some (aW bu.host).length by rw[gR];simp[aW,H8.out])
 have a4f:n=1∨n=0:=by omega
 rcases a4f with rfl|rfl
 ·obtain⟨s1,hs1⟩:=ap (bs (p.rest.drop 1))
  have kJ:=h_ (fun W (l:List Bytes) v (h:Sl W.heap.size W v (l.map S)) (h1:l.length<=1) (h2:∀ x∈l,x.length<=1024000000)=>(show Calls prog 129 #[.string fs,v,.string s1] W (fd W 9 (Strs (cL aR l (p.rest.drop 1))))from by rw[HFS.out,hs1];exact fp aR (p.rest.drop 1) l v W h (by have:=qU.out.l;rw[ai];omega) (by omega) h2))
  have lC:=h_ (fun W=>kJ.out W [] aD Sl.nil (by simp) (fun _ h=>(by cases h)))
  have rv:=h_ (show ∀W,Calls prog 128 #[.string s1] W fun e w'=>e=.returned (.bool (eK (p.rest.drop 1)))∧w'=W from fun W=>by rw[hs1];exact ul (p.rest.drop 1) W (by have:=qU.out.l;rw[ai];omega))
  have hN1:1<=N:=yO.out
  have PR:(1:Int)<=N:=by omega
  have rD:=TH.out
  rw[<-hs1]at rD
  clear hs1
  by_cases hfr:bu.aC=aR
  ·rw[decide_eq_true hfr]at hbe
   obtain⟨u2,hu2⟩:=ap ({u1 with host:=bu.host})
   have U2:=h_ hu2
   have kp:=h_ (show u2.host.six.length=8 by rw[hu2];exact H8.out)
   have Om:=h_ (show u2.aC=aR by rw[hu2];exact U1S.out)
   have ru:=h_ (show R=some {u2 with path:=cL aR (vA bu (p.rest.drop 1)) (p.rest.drop 1)} by rw[HR.out,if_neg hn,if_pos rfl,if_pos hfr,HU2.out,if_pos hfr,hu2,XR.out])
   clear hfr hu2
   go_upto_region 12 with(first
    |(go_at_call 125;refine(HSL.out _).mono ?_;rintro e w7 ⟨rfl,hw⟩;subst hw)
    |(refine ME rfl 27 (.tmp 30) rfl bb 3 (aW bu.host) _ underlying27 rfl HI.out rfl (fun j v hj=>K6.out.cb.ak ((qP bv bu H8.out).host j v hj)) ?_)
    |(refine rh rfl 27 (.tmp 32) (.tmp 31) rfl w b 30 (ah aD u1) I6.out 3 (aW bu.host) rfl rfl (wP xj.out H8.out) HI.out iN (ah aD u2) (by rw[U2.out];exact qQ aD u1 bu.host H8.out xj.out) ?_;intro w7 i7 t7;have I7:=h_ i7;have K7:=h_ (K6.out.tn t7);have e0:=(SC.out _ _ _ I7.out kp.out Om.out K7.out).2.1;clear i7 t7)
    |fail)
   clear d0 d2 YI db
   obtain⟨d0,d2,YI,db⟩:=SC.out _ _ _ I7.out kp.out Om.out K7.out
   have LE:=Ob.out.below I7.out.bq
   unfold vA at ru
   obtain⟨lp,hlp⟩:=ap (bu.path)
   rw[<-hlp]at LE ru
   have HXL:=h_ (show ∀x∈lp,x.length<=1024000000 from by rw[hlp];exact yz.out.all)
   clear hlp
   cases lp with
   |nil =>
    obtain⟨ab,cb,rfl⟩:=Ih LE
    have cX:=h_ (show R=some {u2 with path:=cL aR [] (p.rest.drop 1)} by rw[ru.out];simp)
    clear LE
    go_upto_region 21 with(first
     |(go_at_call 129;refine(lC.out _).mono ?_;rintro e w9 ⟨pv,rfl,o9,hb⟩;have O9:=h_ (aU (eu o9) (show b+1<=_ from I7.out.lt));have I9:=h_ (I7.out.below hb);have K9:=h_ (K7.out.below hb);clear o9 hb)
     |(refine dJ rfl 28 (.tmp 74) (.tmp 73) rfl w b 30 (ah aD u2) I9.out 18 pv rfl rfl (eX kp.out (by decide)) dy (aS O9.out) (ah pv {u2 with path:=cL aR [] (p.rest.drop 1)}) ((eW aD u2 kp.out).path _ _) ?_;intro wV pl t10;have lJ:=h_ pl;have rL:=h_ (K9.out.tn t10);have lZ:=h_ (t10.row O9.out (bB b));clear pl t10)
     |fail)
    go_wp2_with (first
     |(refine eh rfl (.tmp 5) rfl w b pv {u2 with path:=cL aR [] (p.rest.drop 1)} lJ.out kp.out rfl ?_)
     |(refine eG rfl (.tmp 4) (.tmp 103) rfl w br (OB.of rL.out.cr gJ.out lJ.out.bq) pv {u2 with path:=cL aR [] (p.rest.drop 1)} kp.out (aS lZ.out) rfl rfl ?_;intro wZ iZ tZ;have IZ:=h_ iZ;have OZ:=h_ (aU (tZ.row lZ.out iH.out) pT.out);clear iZ tZ)
     |fail)
    rw[cX.out]
    exact dL (u:={u2 with path:=cL aR [] (p.rest.drop 1)}) results97 kp.out rfl IZ.out ⟨pv,rfl,OZ.out,IZ.out.bq⟩
   |cons x r =>
    obtain⟨qb,qo,qm,qc,hqm,rfl,hqx⟩:=DF LE
    have hqi:(0:Int)<qm:=by omega
    have hnm:=fun W=>ow x W (HXL.out x (by simp))
    have a2U:=h_ (HXL.out x (by simp))
    obtain⟨xx,kL⟩:=ap (bs x)
    rw[<-kL]at hnm
    have a88:w7.cell? ⟨qb,qo,none⟩=some (.string xx):=by rw[kL];exact hqx
    have HXX:=h_ kL
    clear LE hqx kL
    have TP:=h_ (show R=some {u2 with path:=cL aR (if iF x=true∧eK (p.rest.drop 1)=false then [x]else []) (p.rest.drop 1)}from ru.out)
    cases hN:iF x with
    |false =>
     rw[hN]at hnm
     have lS:=h_ hnm
     have cX:=h_ (show R=some {u2 with path:=cL aR [] (p.rest.drop 1)} by rw[TP.out,if_neg (fun h=>by rw[hN]at h;cases h.1)])
     clear hnm hN
     go_upto_region 21 with(first
      |(go_at_call 127;refine(lS.out _).mono ?_;rintro e w8 ⟨rfl,hw⟩;subst hw)
      |(go_at_call 129;refine(lC.out _).mono ?_;rintro e w9 ⟨pv,rfl,o9,hb⟩;have O9:=h_ (aU (eu o9) (show b+1<=_ from I7.out.lt));have I9:=h_ (I7.out.below hb);have K9:=h_ (K7.out.below hb);clear o9 hb)
      |(refine dJ rfl 28 (.tmp 74) (.tmp 73) rfl w b 30 (ah aD u2) I9.out 18 pv rfl rfl (eX kp.out (by decide)) dy (aS O9.out) (ah pv {u2 with path:=cL aR [] (p.rest.drop 1)}) ((eW aD u2 kp.out).path _ _) ?_;intro wV pl t10;have lJ:=h_ pl;have rL:=h_ (K9.out.tn t10);have lZ:=h_ (t10.row O9.out (bB b));clear pl t10)
      |fail)
     go_wp2_with (first
      |(refine eh rfl (.tmp 5) rfl w b pv {u2 with path:=cL aR [] (p.rest.drop 1)} lJ.out kp.out rfl ?_)
      |(refine eG rfl (.tmp 4) (.tmp 103) rfl w br (OB.of rL.out.cr gJ.out lJ.out.bq) pv {u2 with path:=cL aR [] (p.rest.drop 1)} kp.out (aS lZ.out) rfl rfl ?_;intro wZ iZ tZ;have IZ:=h_ iZ;have OZ:=h_ (aU (tZ.row lZ.out iH.out) pT.out);clear iZ tZ)
      |fail)
     rw[cX.out]
     exact dL (u:={u2 with path:=cL aR [] (p.rest.drop 1)}) results97 kp.out rfl IZ.out ⟨pv,rfl,OZ.out,IZ.out.bq⟩
    |true =>
     rw[hN]at hnm
     have lS:=h_ hnm
     cases hS:eK (p.rest.drop 1)with
     |true =>
      rw[hS]at rv
      have cX:=h_ (show R=some {u2 with path:=cL aR [] (p.rest.drop 1)} by rw[TP.out,if_neg (fun h=>by rw[hS]at h;cases h.2)])
      clear hnm hN hS
      go_upto_region 21 with(first
       |(go_at_call 127;refine(lS.out _).mono ?_;rintro e w8 ⟨rfl,hw⟩;subst hw)
       |(go_at_call 128;refine(rv.out _).mono ?_;rintro e w8 ⟨rfl,hw⟩;subst hw)
       |(go_at_call 129;refine(lC.out _).mono ?_;rintro e w9 ⟨pv,rfl,o9,hb⟩;have O9:=h_ (aU (eu o9) (show b+1<=_ from I7.out.lt));have I9:=h_ (I7.out.below hb);have K9:=h_ (K7.out.below hb);clear o9 hb)
       |(refine dJ rfl 28 (.tmp 74) (.tmp 73) rfl w b 30 (ah aD u2) I9.out 18 pv rfl rfl (eX kp.out (by decide)) dy (aS O9.out) (ah pv {u2 with path:=cL aR [] (p.rest.drop 1)}) ((eW aD u2 kp.out).path _ _) ?_;intro wV pl t10;have lJ:=h_ pl;have rL:=h_ (K9.out.tn t10);have lZ:=h_ (t10.row O9.out (bB b));clear pl t10)
       |fail)
      go_wp2_with (first
       |(refine eh rfl (.tmp 5) rfl w b pv {u2 with path:=cL aR [] (p.rest.drop 1)} lJ.out kp.out rfl ?_)
       |(refine eG rfl (.tmp 4) (.tmp 103) rfl w br (OB.of rL.out.cr gJ.out lJ.out.bq) pv {u2 with path:=cL aR [] (p.rest.drop 1)} kp.out (aS lZ.out) rfl rfl ?_;intro wZ iZ tZ;have IZ:=h_ iZ;have OZ:=h_ (aU (tZ.row lZ.out iH.out) pT.out);clear iZ tZ)
       |fail)
      rw[cX.out]
      exact dL (u:={u2 with path:=cL aR [] (p.rest.drop 1)}) results97 kp.out rfl IZ.out ⟨pv,rfl,OZ.out,IZ.out.bq⟩
     |false =>
      rw[hS]at rv
      have cX:=h_ (show R=some {u2 with path:=cL aR [x] (p.rest.drop 1)} by rw[TP.out,if_pos ⟨hN,hS⟩])
      have Jp:=h_ (fun W v h=>kJ.out W [x] v h (by simp) (fun y hy=>(da.mp hy)▸a2U.out))
      clear hnm hN hS
      go_upto_region 21 with(first
       |(go_at_call 127;refine(lS.out _).mono ?_;rintro e w8 ⟨rfl,hw⟩;subst hw)
       |(go_at_call 128;refine(rv.out _).mono ?_;rintro e w8 ⟨rfl,hw⟩;subst hw)
       |(refine Pm rfl (.tmp 67) rfl x (congrArg Value.string HXX.out) ?_;intro gb wB hb lx;have IB:=h_ (I7.out.below hb);have KB:=h_ (K7.out.below hb);have LX:=h_ lx;have eB:=(SC.out _ _ _ IB.out kp.out Om.out KB.out).1;clear hb lx)
       |(go_at_call 129;refine(Jp.out _ _ LX.out).mono ?_;rintro e w9 ⟨pv,rfl,o9,hb⟩;have O9:=h_ (aU (eu o9) (show b+1<=_ from IB.out.lt));have I9:=h_ (IB.out.below hb);have K9:=h_ (KB.out.below hb);clear o9 hb)
       |(refine dJ rfl 28 (.tmp 74) (.tmp 73) rfl w b 30 (ah aD u2) I9.out 18 pv rfl rfl (eX kp.out (by decide)) dy (aS O9.out) (ah pv {u2 with path:=cL aR [x] (p.rest.drop 1)}) ((eW aD u2 kp.out).path _ _) ?_;intro wV pl t10;have lJ:=h_ pl;have rL:=h_ (K9.out.tn t10);have lZ:=h_ (t10.row O9.out (bB b));clear pl t10)
       |fail)
      go_wp2_with (first
       |(refine eh rfl (.tmp 5) rfl w b pv {u2 with path:=cL aR [x] (p.rest.drop 1)} lJ.out kp.out rfl ?_)
       |(refine eG rfl (.tmp 4) (.tmp 103) rfl w br (OB.of rL.out.cr gJ.out lJ.out.bq) pv {u2 with path:=cL aR [x] (p.rest.drop 1)} kp.out (aS lZ.out) rfl rfl ?_;intro wZ iZ tZ;have IZ:=h_ iZ;have OZ:=h_ (aU (tZ.row lZ.out iH.out) pT.out);clear iZ tZ)
       |fail)
      rw[cX.out]
      exact dL (u:={u2 with path:=cL aR [x] (p.rest.drop 1)}) results97 kp.out rfl IZ.out ⟨pv,rfl,OZ.out,IZ.out.bq⟩
  rw[decide_eq_false hfr]at hbe
  have cX:=h_ (show R=some {u1 with path:=cL aR [] (p.rest.drop 1)} by rw[HR.out,if_neg hn,if_pos rfl,if_neg hfr,HU2.out,if_neg hfr,XR.out])
  clear hfr
  go_upto_region 21 with(first
   |(go_at_call 125;refine(HSL.out _).mono ?_;rintro e w7 ⟨rfl,hw⟩;subst hw)
   |(go_at_call 129;refine(lC.out _).mono ?_;rintro e w9 ⟨pv,rfl,o9,hb⟩;have O9:=h_ (aU (eu o9) (show b+1<=_ from I6.out.lt));have I9:=h_ (I6.out.below hb);have K9:=h_ (K6.out.below hb);clear o9 hb)
   |(refine dJ rfl 28 (.tmp 74) (.tmp 73) rfl w b 30 (ah aD u1) I9.out 18 pv rfl rfl (eX xj.out (by decide)) dy (aS O9.out) (ah pv {u1 with path:=cL aR [] (p.rest.drop 1)}) ((eW aD u1 xj.out).path _ _) ?_;intro wV pl t10;have lJ:=h_ pl;have rL:=h_ (K9.out.tn t10);have lZ:=h_ (t10.row O9.out (bB b));clear pl t10)
   |fail)
  go_wp2_with (first
   |(refine eh rfl (.tmp 5) rfl w b pv {u1 with path:=cL aR [] (p.rest.drop 1)} lJ.out xj.out rfl ?_)
   |(refine eG rfl (.tmp 4) (.tmp 103) rfl w br (OB.of rL.out.cr gJ.out lJ.out.bq) pv {u1 with path:=cL aR [] (p.rest.drop 1)} xj.out (aS lZ.out) rfl rfl ?_;intro wZ iZ tZ;have IZ:=h_ iZ;have OZ:=h_ (aU (tZ.row lZ.out iH.out) pT.out);clear iZ tZ)
   |fail)
  rw[cX.out]
  exact dL (u:={u1 with path:=cL aR [] (p.rest.drop 1)}) results97 xj.out rfl IZ.out ⟨pv,rfl,OZ.out,IZ.out.bq⟩
 have kJ:=h_ (fun W (l:List Bytes) v (h:Sl W.heap.size W v (l.map S)) (h1:l.length<=307200000) (h2:∀ x∈l,x.length<=1024000000)=>(show Calls prog 129 #[.string fs,v,.string t] W (fd W 9 (Strs (cL aR l p.rest)))from by rw[HFS.out,HT.out];exact fp aR p.rest l v W h qU.out.l h1 h2))
 have lC:=h_ (fun W=>kJ.out W [] aD Sl.nil (by simp) (fun _ h=>(by cases h)))
 have rv:=h_ (show ∀W,Calls prog 128 #[.string t] W fun e w'=>e=.returned (.bool (eK p.rest))∧w'=W from fun W=>by rw[HT.out];exact ul p.rest W (by have:=qU.out.l;omega))
 by_cases hfr:bu.aC=aR
 ·rw[decide_eq_true hfr]at hbe
  obtain⟨u2,hu2⟩:=ap ({u1 with host:=bu.host})
  have U2:=h_ hu2
  have kp:=h_ (show u2.host.six.length=8 by rw[hu2];exact H8.out)
  have Om:=h_ (show u2.aC=aR by rw[hu2];exact U1S.out)
  have ru:=h_ (show R=if p.rest=[]then some (eV u2 bu)else if eK p.rest=false then some {u2 with path:=cL aR (bU aR bu.path) p.rest}else some {u2 with path:=cL aR [] p.rest} by
   rw[HR.out,if_neg hn,if_neg (by omega)]
   have e:IQ bu p=u2:=by rw[HU2.out,if_pos hfr,hu2,XR.out]
   rw[e]
   simp only[hfr,true_and])
  clear hfr hu2
  go_upto_region 17 with(first
   |(go_at_call 125;refine(HSL.out _).mono ?_;rintro e w7 ⟨rfl,hw⟩;subst hw)
   |(refine ME rfl 27 (.tmp 30) rfl bb 3 (aW bu.host) _ underlying27 rfl HI.out rfl (fun j v hj=>K6.out.cb.ak ((qP bv bu H8.out).host j v hj)) ?_)
   |(refine rh rfl 27 (.tmp 32) (.tmp 31) rfl w b 30 (ah aD u1) I6.out 3 (aW bu.host) rfl rfl (wP xj.out H8.out) HI.out iN (ah aD u2) (by rw[U2.out];exact qQ aD u1 bu.host H8.out xj.out) ?_;intro w7 i7 t7;have I7:=h_ i7;have K7:=h_ (K6.out.tn t7);have e0:=(SC.out _ _ _ I7.out kp.out Om.out K7.out).2.1;clear i7 t7)
   |fail)
  clear d0 d2 YI db
  obtain⟨d0,d2,YI,db⟩:=SC.out _ _ _ I7.out kp.out Om.out K7.out
  by_cases hrest:p.rest=[]
  ·have cX:=h_ (show R=some (eV u2 bu) by rw[ru.out,if_pos hrest])
   have Up:=h_ (show(eV u2 bu).host.six.length=8 by rw[lw];exact kp.out)
   have he1:t.toList.isEmpty=true:=by rw[HT.out,au,hrest];rfl
   clear hrest
   go_upto_region 21 with(first
    |(refine eh rfl (.tmp 2) rfl w bb bv bu (OB.of K7.out.cb (bA lW.out.symm) I7.out.bq) H8.out rfl ?_)
    |(go_at_call 130;refine(pN w b aD bv u2 bu _ I7.out kp.out H8.out ((Ob.out.below I7.out.bq).more I7.out.bq.size) (by have:=yz.out.le;omega)).mono ?_;rintro e w8 ⟨rfl,pv,i8,o8,t8⟩;have I8:=h_ i8;have O8:=h_ (aU o8 (show b+1<=_ from I7.out.lt));have K8:=h_ (K7.out.tn t8);clear i8 o8 t8)
    |fail)
   go_wp2_with (first
    |(refine eh rfl (.tmp 5) rfl w b pv (eV u2 bu) I8.out Up.out rfl ?_)
    |(refine eG rfl (.tmp 4) (.tmp 103) rfl w br (OB.of K8.out.cr gJ.out I8.out.bq) pv (eV u2 bu) Up.out (aS O8.out) rfl rfl ?_;intro wZ iZ tZ;have IZ:=h_ iZ;have OZ:=h_ (aU (tZ.row O8.out iH.out) pT.out);clear iZ tZ)
    |fail)
   rw[cX.out]
   exact dL (u:=(eV u2 bu)) results97 Up.out rfl IZ.out ⟨pv,rfl,by rw[um];exact OZ.out,IZ.out.bq⟩
  have he1:t.toList.isEmpty=false:=by
   have:¬ t.toList=[]:=by rw[HT.out,au];exact hrest
   simpa using this
  cases hS:eK p.rest with
  |true =>
   rw[hS]at rv
   have cX:=h_ (show R=some {u2 with path:=cL aR [] p.rest} by rw[ru.out,if_neg hrest,if_neg (by simp[hS])])
   clear hrest hS
   go_upto_region 21 with(first
    |(go_at_call 128;refine(rv.out _).mono ?_;rintro e w8 ⟨rfl,hw⟩;subst hw)
    |(go_at_call 129;refine(lC.out _).mono ?_;rintro e w9 ⟨pv,rfl,o9,hb⟩;have O9:=h_ (aU (eu o9) (show b+1<=_ from I7.out.lt));have I9:=h_ (I7.out.below hb);have K9:=h_ (K7.out.below hb);clear o9 hb)
    |(refine dJ rfl 28 (.tmp 38) (.tmp 37) rfl w b 30 (ah aD u2) I9.out 18 pv rfl rfl (eX kp.out (by decide)) dy (aS O9.out) (ah pv {u2 with path:=cL aR [] p.rest}) ((eW aD u2 kp.out).path _ _) ?_;intro wV pl t10;have lJ:=h_ pl;have rL:=h_ (K9.out.tn t10);have lZ:=h_ (t10.row O9.out (bB b));clear pl t10)
    |fail)
   go_wp2_with (first
    |(refine eh rfl (.tmp 5) rfl w b pv {u2 with path:=cL aR [] p.rest} lJ.out kp.out rfl ?_)
    |(refine eG rfl (.tmp 4) (.tmp 103) rfl w br (OB.of rL.out.cr gJ.out lJ.out.bq) pv {u2 with path:=cL aR [] p.rest} kp.out (aS lZ.out) rfl rfl ?_;intro wZ iZ tZ;have IZ:=h_ iZ;have OZ:=h_ (aU (tZ.row lZ.out iH.out) pT.out);clear iZ tZ)
    |fail)
   rw[cX.out]
   exact dL (u:={u2 with path:=cL aR [] p.rest}) results97 kp.out rfl IZ.out ⟨pv,rfl,OZ.out,IZ.out.bq⟩
  |false =>
   rw[hS]at rv
   have cX:=h_ (show R=some {u2 with path:=cL aR (bU aR bu.path) p.rest} by rw[ru.out,if_neg hrest,if_pos hS])
   have a2A:=h_ (fun W (h:Sl W.heap.size W bv (bu.path.map S))=>(show Calls prog 131 #[.string fs,bv] W (fd W 9 (Strs (bU aR bu.path)))from by rw[HFS.out];exact rm aR bu.path bv W h (by have:=yz.out.le;omega) yz.out.all))
   have HSY:=h_ (fun W v h=>kJ.out W (bU aR bu.path) v h (by have:=qJ aR bu.path;have:=yz.out.le;omega) (fun x hx=>yz.out.all x (jb hx)))
   obtain⟨PP,GH⟩:=ap (cL aR (bU aR bu.path) p.rest)
   rw[<-GH]at HSY cX
   clear hrest hS GH
   go_upto_region 20 with(first
    |(go_at_call 128;refine(rv.out _).mono ?_;rintro e w8 ⟨rfl,hw⟩;subst hw)
    |fail)
   clear d0 d2 YI db
   have I8:=h_ (I7.out.below (aJ (aG _)))
   have K8:=h_ (K7.out.below (aJ (aG _)))
   have SC3:=h_ (fun(W:World) (v:Value) (x:Url) (i:OB w b 30 (ah v x) W) (h:x.host.six.length=8) (hs:x.aC=aR) (k:K3 bb bx br b bv bu p W)=>(show W.cell? ⟨b,0,none⟩=some (.string fs)∧W.cell? ⟨bx,2,none⟩=some (.string t)∧W.cell? ⟨bb,18,none⟩=some bv from⟨(SC.out W v x i h hs k).1,(SC.out W v x i h hs k).2.1,(SC.out W v x i h hs k).2.2.1⟩))
   have FF:=h_ (SC3.out _ _ _ I8.out kp.out Om.out K8.out)
   refine wp_region_held_drew (S:=fun W=>W.cell? ⟨b,0,none⟩=some (.string fs)∧W.cell? ⟨bx,2,none⟩=some (.string t)∧W.cell? ⟨bb,18,none⟩=some bv) (by kernel_rfl) (by with_reducible first|exact xc.out|exact pV.out|exact FG.out|exact FF.out) (fun hHeld=>?_)
   refine tq 0 rfl ?_ (fun wS hSw=>?_) ?_
   rotate_left
   ·(try dsimp only at hSw);go_simp;first|done|with_reducible rfl
   try simp only[Act.put,aK,aL,aM]
   refine tq 1 rfl ?_ (fun wS hSw=>?_) ?_
   rotate_left
   ·(try dsimp only at hSw)
    refine aF 9 (.tmp 92) ?_ b 0 (.string fs) _ underlying9 rfl ?_ ?_
    ·rfl
    ·rfl
    exact hSw.1
   try simp only[Act.put,aK,aL,aM]
   refine tq 2 rfl ?_ (fun wS hSw=>?_) ?_
   rotate_left
   ·(try dsimp only at hSw);go_simp;first|done|with_reducible rfl
   try simp only[Act.put,aK,aL,aM]
   refine tq 3 rfl ?_ (fun wS hSw=>?_) ?_
   rotate_left
   ·(try dsimp only at hSw)
    refine aF 9 (.tmp 94) ?_ b 0 (.string fs) _ underlying9 rfl ?_ ?_
    ·rfl
    ·rfl
    exact hSw.1
   try simp only[Act.put,aK,aL,aM]
   refine tq 4 rfl ?_ (fun wS hSw=>?_) ?_
   rotate_left
   ·(try dsimp only at hSw);go_simp;first|done|with_reducible rfl
   try simp only[Act.put,aK,aL,aM]
   refine tq 5 rfl ?_ (fun wS hSw=>?_) ?_
   rotate_left
   ·(try dsimp only at hSw)
    refine aF 28 (.tmp 96) ?_ bb 18 bv _ underlying28 rfl ?_ ?_
    ·rfl
    ·rfl
    exact hSw.2.2
   try simp only[Act.put,aK,aL,aM]
   refine tq 7 rfl ?_ (fun wS hSw=>?_) ?_
   rotate_left
   ·(try dsimp only at hSw);go_simp;first|done|with_reducible rfl
   try simp only[Act.put,aK,aL,aM]
   refine tq 8 rfl ?_ (fun wS hSw=>?_) ?_
   rotate_left
   ·(try dsimp only at hSw)
    refine aF 9 (.tmp 99) ?_ bx 2 (.string t) _ underlying9 rfl ?_ ?_
    ·rfl
    ·rfl
    exact hSw.2.1
   try simp only[Act.put,aK,aL,aM]
   refine rn 6 (by kernel_rfl) rfl (by rfl) (fun K hK=>?_)
   go_simp
   refine(a2A.out _ ((Ob.out.below I8.out.bq).more I8.out.bq.size)).mono ?_
   rintro e w9 ⟨sv,rfl,o9,hb⟩
   have O9:=h_ (Sl.bL o9);have I9:=h_ (I8.out.below hb);have K9:=h_ (K8.out.below hb)
   have FG:=h_ (SC3.out _ _ _ I9.out kp.out Om.out K9.out)
   clear o9 hb
   refine hK.out _ _ ?_ (fun hHeld=>?_)
   ·with_reducible first|exact xc.out|exact pV.out|exact FG.out|exact FF.out
   clear hK K
   try simp only[Act.put,aK,aL,aM]
   refine rn 9 (by kernel_rfl) rfl (by rfl) (fun K hK=>?_)
   go_simp
   refine(HSY.out _ _ O9.out).mono ?_
   rintro e wV ⟨pv,rfl,o10,hb⟩
   have lZ:=h_ (aU (eu o10) (show b+1<=_ from I9.out.lt));have lJ:=h_ (I9.out.below hb);have rL:=h_ (K9.out.below hb)
   have pV:=h_ (SC3.out _ _ _ lJ.out kp.out Om.out rL.out)
   clear o10 hb
   refine hK.out _ _ ?_ (fun hHeld=>?_)
   ·with_reducible first|exact xc.out|exact pV.out|exact FG.out|exact FF.out
   clear hK K
   try simp only[Act.put,aK,aL,aM]
   refine tq 10 rfl ?_ (fun wS hSw=>?_) ?_
   rotate_left
   ·(try dsimp only at hSw);go_simp;first|done|with_reducible rfl
   try simp only[Act.put,aK,aL,aM]
   refine rn 11 (by kernel_rfl) rfl (by rfl) (fun K hK=>?_)
   refine fa 28 (.tmp 102) (.tmp 101) rfl w b 30 (ah aD u2) lJ.out 18 pv rfl rfl (eX kp.out (by decide)) dy (aS lZ.out) (ah pv {u2 with path:=PP}) ((eW aD u2 kp.out).path _ _) ?_
   intro Ow i11 t11
   have u9:=h_ i11;have Pa:=h_ (rL.out.tn t11);have Ol:=h_ (t11.row lZ.out (bB b))
   have xc:=h_ (SC3.out _ _ {u2 with path:=PP} u9.out kp.out Om.out Pa.out)
   clear i11 t11
   refine hK.out _ _ ?_ (fun hHeld=>?_)
   ·with_reducible first|exact xc.out|exact pV.out|exact FG.out|exact FF.out
   clear hK K
   try simp only[Act.put]
   refine wpAnyH_done (by kernel_rfl) ?_ _
   go_wp2_with (first
    |(refine eh rfl (.tmp 5) rfl w b pv {u2 with path:=PP} u9.out kp.out rfl ?_)
    |(refine eG rfl (.tmp 4) (.tmp 103) rfl w br (OB.of Pa.out.cr gJ.out u9.out.bq) pv {u2 with path:=PP} kp.out (aS Ol.out) rfl rfl ?_;intro wZ iZ tZ;have IZ:=h_ iZ;have OZ:=h_ (aU (tZ.row Ol.out iH.out) pT.out);clear iZ tZ)
    |fail)
   rw[cX.out]
   exact dL (u:={u2 with path:=PP}) results97 kp.out rfl IZ.out ⟨pv,rfl,OZ.out,IZ.out.bq⟩
 rw[decide_eq_false hfr]at hbe
 have cX:=h_ (show R=some {u1 with path:=cL aR [] p.rest} by rw[HR.out,if_neg hn,if_neg (by omega),if_neg (fun h=>hfr h.1),if_neg (fun h=>hfr h.1),HU2.out,if_neg hfr,XR.out])
 clear hfr
 go_upto_region 21 with(first
  |(go_at_call 125;refine(HSL.out _).mono ?_;rintro e w7 ⟨rfl,hw⟩;subst hw)
  |(go_at_call 129;refine(lC.out _).mono ?_;rintro e w9 ⟨pv,rfl,o9,hb⟩;have O9:=h_ (aU (eu o9) (show b+1<=_ from I6.out.lt));have I9:=h_ (I6.out.below hb);have K9:=h_ (K6.out.below hb);clear o9 hb)
  |(refine dJ rfl 28 (.tmp 38) (.tmp 37) rfl w b 30 (ah aD u1) I9.out 18 pv rfl rfl (eX xj.out (by decide)) dy (aS O9.out) (ah pv {u1 with path:=cL aR [] p.rest}) ((eW aD u1 xj.out).path _ _) ?_;intro wV pl t10;have lJ:=h_ pl;have rL:=h_ (K9.out.tn t10);have lZ:=h_ (t10.row O9.out (bB b));clear pl t10)
  |fail)
 go_wp2_with (first
  |(refine eh rfl (.tmp 5) rfl w b pv {u1 with path:=cL aR [] p.rest} lJ.out xj.out rfl ?_)
  |(refine eG rfl (.tmp 4) (.tmp 103) rfl w br (OB.of rL.out.cr gJ.out lJ.out.bq) pv {u1 with path:=cL aR [] p.rest} xj.out (aS lZ.out) rfl rfl ?_;intro wZ iZ tZ;have IZ:=h_ iZ;have OZ:=h_ (aU (tZ.row lZ.out iH.out) pT.out);clear iZ tZ)
  |fail)
 rw[cX.out]
 exact dL (u:={u1 with path:=cL aR [] p.rest}) results97 xj.out rfl IZ.out ⟨pv,rfl,OZ.out,IZ.out.bq⟩

section
variable {b:Url} {p:jP} {u:Url}
theorem Mq (h1:p.fQ=true) (h2:p.aC=aR):d9 b p=kx b p:=by unfold d9;rw[if_pos (.inl ⟨h1,h2⟩)]
theorem Mr (h1:p.fQ=false) (h2:b.opq=false) (h3:b.aC=aR):d9 b p=kx b p:=by unfold d9;rw[if_pos (.inr ⟨h1,h2,h3⟩)]
theorem CQ (h1:p.fQ=true) (h2:p.aC≠aR):¬ ((p.fQ=true∧p.aC=aR)∨(p.fQ=false∧b.opq=false∧b.aC=aR)):=by
 rintro(h|h)
 ·exact h2 h.2
 rw[h1]at h;cases h.1
theorem Mp (h1:p.fQ=true) (h2:p.aC≠aR) (h3:ep p.aC=true) (h4:p.aC≠b.aC∨p.rest.take 2=[47,47]):d9 b p=iI (cQ p.aC p) (p.rest.drop (r4 (ep p.aC) p.rest)):=by
 unfold d9;rw[if_neg (CQ h1 h2),if_pos ⟨⟨h1,h3⟩,h4⟩]
theorem Mt (h1:p.fQ=true) (h2:p.aC≠aR) (h3:ep p.aC=false):d9 b p=fj p:=by
 unfold d9;rw[if_neg (CQ h1 h2),if_neg (by simp[h3]),if_pos ⟨h1,by simp[h3]⟩]
theorem Ms (h1:p.fQ=true) (h2:p.aC≠aR) (h3:ep p.aC=true) (h4:p.aC=b.aC) (h5:p.rest.take 2 ≠ [47,47]):d9 b p=if b.opq=true then jV b p else pF b p:=by
 unfold d9
 rw[if_neg (CQ h1 h2),if_neg (fun h=>h.2.elim (fun h=>h h4) h5),if_neg (fun h=>h.2 h3)]
theorem Mu (h1:p.fQ=false) (h2:¬ (b.opq=false∧b.aC=aR)):d9 b p=if b.opq=true then jV b p else pF b p:=by
 unfold d9
 rw[if_neg (fun h=>h.elim (fun h=>by rw[h1]at h;cases h.1) (fun h=>h2 h.2)),if_neg (fun h=>by rw[h1]at h;cases h.1.1),if_neg (fun h=>by rw[h1]at h;cases h.1)]
theorem sX (h8:b.host.six.length=8) (h:kx b p=some u):u.host.six.length=8:=by
 rw[sW]at h
 have h2:(IQ b p).host.six.length=8:=by
  unfold IQ
  split
  ·exact h8
  rfl
 split at h
 ·exact vR (u:={cQ aR p with host:={H0 with kind:=1}}) rfl h
 split at h
 ·injection h with h;rw[<-h];exact h2
 split at h
 ·injection h with h;rw[<-h,lw];exact h2
 split at h
 iterate 2
  ·injection h with h;rw[<-h];exact h2
theorem vT (h:fj p=some u):u.host.six.length=8:=by
 unfold fj at h
 dsimp only at h
 split at h
 ·exact iJ h
 ·injection h with h;rw[<-h];rfl
 injection h with h;rw[<-h];rfl
theorem sY (h8:b.host.six.length=8) (h:jV b p=some u):u.host.six.length=8:=by
 unfold jV at h
 split at h
 ·cases h
 injection h with h;rw[<-h];exact h8
theorem yg (h8:b.host.six.length=8) (h:pF b p=some u):u.host.six.length=8:=by
 unfold pF at h
 dsimp only at h
 split at h
 ·exact iJ h
 split at h
 ·exact iJ h
 split at h
 ·injection h with h;rw[<-h];exact h8
 split at h
 ·injection h with h;rw[<-h,lw];exact h8
 injection h with h;rw[<-h];exact h8
theorem mx (h8:b.host.six.length=8) (h:d9 b p=some u):u.host.six.length=8:=by
 unfold d9 at h
 split at h
 ·exact sX h8 h
 split at h
 ·exact iJ h
 split at h
 ·exact vT h
 split at h
 ·exact sY h8 h
 exact yg h8 h
end
theorem P8 (l:Bytes):Lib.hasPrefix l [47,47]=decide (l.take 2=[47,47]):=by
 rw[cg,P7,decide_eq_true_eq]
 constructor
 ·rintro⟨r,rfl⟩;rfl
 intro h
 refine⟨l.drop 2,?_⟩
 have:=cT 2 l
 rw[h]at this
 exact this.symm
theorem Is (bu:Url) (bv:Value) (p:jP) (w:World) (h8:bu.host.six.length=8) (hbv:Sl w.heap.size w bv (bu.path.map S)) (hbs:Bs bu.path) (hr:Rs p.rest) (hq:p.q.length<=307200000) (hf:p.f.length<=307200000) (hE:Env w):Calls prog 67 #[.agg (ah bv bu),.agg (aT p)] w (yV w (d9 bu p)):=by
 have HFI:=h_ (fun W (hb:Below w.heap.size w W)=>Lh bu bv p W h8 ((hbv.below hb).more hb.size) hbs hr hq hf (hE.below hb))
 have xg:=h_ (fun W (hb:Below w.heap.size w W)=>Ll bu bv p W h8 ((hbv.below hb).more hb.size) hbs.le hf)
 have u5:=h_ (fun W (hb:Below w.heap.size w W)=>yh bu bv p W h8 ((hbv.below hb).more hb.size) hbs hr hq hf (hE.below hb))
 have HOT:=h_ (fun W (hb:Below w.heap.size w W)=>Dl p W hr hq hf (hE.below hb))
 obtain⟨R,hR⟩:=ap (d9 bu p)
 rw[<-hR]
 have hse:=qG p.aC aR
 have hbe:=qG bu.aC aR
 have hpe:=qG p.aC bu.aC
 obtain⟨Wf,Cu⟩:=ap (bs p.aC)
 obtain⟨YG,zU⟩:=ap (bs bu.aC)
 obtain⟨t,ht⟩:=ap (bs p.rest)
 rw[<-Cu,au aR]at hse
 rw[<-zU,au aR]at hbe
 rw[<-Cu,<-zU]at hpe
 have td:(Wf.toList == [102,105,108,101])=decide (p.aC=aR):=hse
 have s9:(YG.toList == [102,105,108,101])=decide (bu.aC=aR):=hbe
 have gF:=h_ (show ∀W,Calls prog 96 #[.string Wf] W fun e w'=>e=.returned (.bool (ep p.aC))∧w'=W from fun W=>by rw[Cu];exact fq p.aC W)
 have Jl:=h_ (show ∀W,Calls prog 57 #[.string t,.string ⟨#[47,47]⟩] W fun e w'=>e=.returned (.bool (decide (p.rest.take 2=[47,47])))∧w'=W from fun W=>by rw[ht,<-P8];exact n7 p.rest [47,47] W)
 have HST:=h_ (show ∀W,Calls prog 98 #[.string Wf,.agg (aT p)] W fun e w'=>e=.returned (.agg (ah aD (cQ p.aC p)))∧Below W.heap.size W w' from fun W=>by rw[Cu];exact m9 p.aC p W (by omega) (by omega))
 have Oi:=h_ (show ∀W,Calls prog 100 #[.string Wf,.string t] W fun e w'=>e=.returned (S (p.rest.drop (r4 (ep p.aC) p.rest)))∧w'=W from fun W=>by rw[Cu,ht];exact nR p.aC p.rest W (by have:=hr.l;omega))
 have HE:=h_ hE
 have qU:=h_ hr
 have H8:=h_ h8
 have Ob:=h_ hbv
 have HR:=h_ hR
 have TO:=h_ Cu
 have TE:=h_ zU
 have HT:=h_ ht
 clear h8 hbv hbs hr hq hf hE hR hse hbe Cu zU ht
 go_enter func67,ntmps67
 go_upto_region 1 with(first
  |(refine aE rfl 30 rfl _ _ (cD _) ?_)
  |fail)
 obtain⟨w3,hw3,hz3,hb,k1,k2,k3⟩:=three w bv bu p
 try rw[show((w.alloc (.cells (ah bv bu) 30)).alloc (.cells (aT p) 68)).heap.size=w.heap.size+2 by simp]
 rw[hw3]
 clear hw3
 obtain⟨br,hbr⟩:=ap (w.heap.size+2)
 obtain⟨bx,hbx⟩:=ap (w.heap.size+1)
 obtain⟨bb,hbb⟩:=ap (w.heap.size)
 rw[<-hbr]at k3
 rw[<-hbx]at k2
 rw[<-hbb]at k1
 rw[<-hbr,<-hbx,<-hbb]
 have gJ:=h_ (show w.heap.size<=br by omega)
 have lW:=h_ hbb
 have B3:=h_ hb
 have V3:=h_ k1
 have X3:=h_ k2
 have R3:=h_ k3
 have HD:=h_ (show bb<bx∧bx<br by omega)
 have HZ3:=h_ (show br<w3.heap.size∧w.heap.size<=w3.heap.size by omega)
 clear hz3 hb k1 k2 k3 hbr hbx hbb
 have d0:=X3.out.ak (j:=0) (v:=.bool p.fQ) rfl
 have d1:w3.cell? ⟨bx,1,none⟩=some (.string Wf):=by rw[TO.out];exact X3.out.ak rfl
 have d2:w3.cell? ⟨bx,2,none⟩=some (.string t):=by rw[HT.out];exact X3.out.ak rfl
 have c0:w3.cell? ⟨bb,0,none⟩=some (.string YG):=by rw[TE.out];exact V3.out.ak (qP bv bu H8.out).aC
 have c16:=V3.out.ak (qP bv bu H8.out).opq
 cases hS:p.fQ with
 |true =>
  rw[hS]at d0
  by_cases hF:p.aC=aR
  ·rw[decide_eq_true hF]at td
   have pU:=h_ (HR.out.trans (Mq hS hF))
   clear hS hF
   go_upto_region 4 with(first
    |(go_at_call 96;refine(gF.out _).mono ?_;rintro e w6 ⟨rfl,hw⟩;subst hw)
    |(go_at_call 57;refine(Jl.out _).mono ?_;rintro e w6 ⟨rfl,hw⟩;subst hw)
    |fail)
   clear d0 d1 d2 c0 c16 td s9 hpe
   cases hO:kx bu p with
   |none =>
    have cX:=h_ (show R=none by rw[pU.out,hO])
    have HC:=h_ (fun W hb=>(show Calls prog 97 #[.agg (ah bv bu),.agg (aT p)] W fun e w'=>e=AU∧Below W.heap.size W w' from by have h:=HFI.out W hb;rw[hO]at h;exact h))
    clear hO
    go_wp2_with (first
     |(refine eh rfl (.tmp 2) rfl w bb bv bu (OB.of V3.out (bA lW.out.symm) B3.out) H8.out rfl ?_)
     |(refine jq rfl (.tmp 3) rfl bx p X3.out rfl ?_)
     |(go_at_call 97;refine(HC.out _ B3.out).mono ?_;rintro e w7 ⟨rfl,hb⟩;have B7:=h_ (fJ B3.out hb);clear hb)
     |fail)
    rw[cX.out]
    exact⟨rfl,rfl,B7.out⟩
   |some u =>
    have cX:=h_ (show R=some u by rw[pU.out,hO])
    have HC:=h_ (fun W hb=>(show Calls prog 97 #[.agg (ah bv bu),.agg (aT p)] W fun e w'=>∃ pv,e=.returned (.agg (ah pv u))∧w'.ownsRow W.heap.size 9 1 pv u.path.length (Strs u.path)∧Below W.heap.size W w' from by have h:=HFI.out W hb;rw[hO]at h;exact h))
    have U8:=h_ (sX H8.out hO)
    clear hO
    go_wp2_with (first
     |(refine eh rfl (.tmp 2) rfl w bb bv bu (OB.of V3.out (bA lW.out.symm) B3.out) H8.out rfl ?_)
     |(refine jq rfl (.tmp 3) rfl bx p X3.out rfl ?_)
     |(go_at_call 97;refine(HC.out _ B3.out).mono ?_;rintro e w7 ⟨pv,rfl,o7,hb⟩;have O7:=h_ o7;have B7:=h_ (fJ B3.out hb);have R7:=h_ (R3.out.keep hb);clear o7 hb)
     |(refine eG rfl (.tmp 4) (.tmp 37) rfl w br (OB.of R7.out gJ.out B7.out) pv u U8.out (aS O7.out) rfl rfl ?_;intro wZ iZ tZ;have IZ:=h_ iZ;have OZ:=h_ (aU (tZ.row O7.out HZ3.out.1) HZ3.out.2);clear iZ tZ)
     |fail)
    rw[cX.out]
    exact dL (u:=u) results67 U8.out rfl IZ.out ⟨pv,rfl,OZ.out,IZ.out.bq⟩
  rw[decide_eq_false hF]at td
  cases hP:ep p.aC with
  |false =>
   rw[hP]at gF
   have pU:=h_ (HR.out.trans (Mt hS hF hP))
   clear hS hF hP
   go_upto_region 10 with(first
    |(go_at_call 96;refine(gF.out _).mono ?_;rintro e w6 ⟨rfl,hw⟩;subst hw)
    |(go_at_call 57;refine(Jl.out _).mono ?_;rintro e w6 ⟨rfl,hw⟩;subst hw)
    |fail)
   clear d0 d1 d2 c0 c16 td s9 hpe
   cases hO:fj p with
   |none =>
    have cX:=h_ (show R=none by rw[pU.out,hO])
    have HC:=h_ (fun W hb=>(show Calls prog 101 #[.agg (aT p)] W fun e w'=>e=AU∧Below W.heap.size W w' from by have h:=HOT.out W hb;rw[hO]at h;exact h))
    clear hO
    go_wp2_with (first
     |(refine jq rfl (.tmp 3) rfl bx p X3.out rfl ?_)
     |(go_at_call 101;refine(HC.out _ B3.out).mono ?_;rintro e w7 ⟨rfl,hb⟩;have B7:=h_ (fJ B3.out hb);clear hb)
     |fail)
    rw[cX.out]
    exact⟨rfl,rfl,B7.out⟩
   |some u =>
    have cX:=h_ (show R=some u by rw[pU.out,hO])
    have HC:=h_ (fun W hb=>(show Calls prog 101 #[.agg (aT p)] W fun e w'=>∃ pv,e=.returned (.agg (ah pv u))∧w'.ownsRow W.heap.size 9 1 pv u.path.length (Strs u.path)∧Below W.heap.size W w' from by have h:=HOT.out W hb;rw[hO]at h;exact h))
    have U8:=h_ (vT hO)
    clear hO
    go_wp2_with (first
     |(refine jq rfl (.tmp 3) rfl bx p X3.out rfl ?_)
     |(go_at_call 101;refine(HC.out _ B3.out).mono ?_;rintro e w7 ⟨pv,rfl,o7,hb⟩;have O7:=h_ o7;have B7:=h_ (fJ B3.out hb);have R7:=h_ (R3.out.keep hb);clear o7 hb)
     |(refine eG rfl (.tmp 4) (.tmp 71) rfl w br (OB.of R7.out gJ.out B7.out) pv u U8.out (aS O7.out) rfl rfl ?_;intro wZ iZ tZ;have IZ:=h_ iZ;have OZ:=h_ (aU (tZ.row O7.out HZ3.out.1) HZ3.out.2);clear iZ tZ)
     |fail)
    rw[cX.out]
    exact dL (u:=u) results67 U8.out rfl IZ.out ⟨pv,rfl,OZ.out,IZ.out.bq⟩
  |true =>
   by_cases hQ:p.aC=bu.aC
   ·rw[decide_eq_true hQ]at hpe
    by_cases hW:p.rest.take 2=[47,47]
    ·rw[decide_eq_true hW]at Jl
     rw[hP]at gF
     have pU:=h_ (HR.out.trans (Mp hS hF hP (.inr hW)))
     clear hS hF hQ hW
     obtain⟨us,lG⟩:=ap (cQ p.aC p)
     have yB:=h_ (show us.host.six.length=8 by rw[lG];rfl)
     have yC:=h_ (show us.path=[] by rw[lG];rfl)
     have HUC:=h_ (show us.aC=p.aC by rw[lG];rfl)
     rw[<-lG]at HST pU
     rw[hP]at Oi pU
     clear lG hP
     generalize r4 true p.rest=n at *
     have oN:=pU
     go_upto_region 7 with(first
      |(go_at_call 96;refine(gF.out _).mono ?_;rintro e w6 ⟨rfl,hw⟩;subst hw)
      |(go_at_call 57;refine(Jl.out _).mono ?_;rintro e w6 ⟨rfl,hw⟩;subst hw)
      |(refine jq rfl (.tmp 3) rfl bx p X3.out rfl ?_)
      |(go_at_call 98;refine(HST.out _).mono ?_;rintro e w4 ⟨rfl,hb⟩;have eZ:=h_ hb;clear hb)
      |(refine aE rfl 30 rfl _ _ (cD _) ?_)
      |(refine cN rfl (.tmp 6) (.tmp 55) rfl aD us yB.out rfl rfl rfl rfl ?_;intro w5 hh hb;have I5:=h_ (OB.of (w0:=w) hh (aq B3.out.size eZ.out.size) (fJ (fJ B3.out eZ.out) hb));have K5:=h_ (show K3 bb bx br w4.heap.size bv bu p w5 from⟨(V3.out.keep eZ.out).keep hb,(X3.out.keep eZ.out).keep hb,(R3.out.keep eZ.out).keep hb,cj (aP V3.out.lt eZ.out.size),cj (aP X3.out.lt eZ.out.size),cj (aP R3.out.lt eZ.out.size)⟩);have iH:=h_ (show br<w4.heap.size+1 from p7 (aP R3.out.lt eZ.out.size));have pT:=h_ (show w.heap.size<=w4.heap.size+1 from pZ (aq B3.out.size eZ.out.size));clear hh hb)
      |fail)
     obtain⟨b,hbb⟩:=ap (w4.heap.size)
     rw[<-hbb]at I5 K5 iH pT ⊢
     clear hbb d0 d1 d2 c0 c16 td s9 hpe
     have d1:w5.cell? ⟨bx,1,none⟩=some (.string Wf):=by rw[TO.out];exact K5.out.cx.ak rfl
     have d2:w5.cell? ⟨bx,2,none⟩=some (.string t):=by rw[HT.out];exact K5.out.cx.ak rfl
     have HAS:=h_ (fun W (i:OB w b 30 (ah aD us) W)=>rN w b us (p.rest.drop n) W i yB.out yC.out (by have:=qU.out.l;rw[ai];omega) (qU.out.a _ n) (HE.out.below i.bq))
     cases hO:iI us (p.rest.drop n)with
     |none =>
      have cX:=h_ (show R=none by rw[oN.out,hO])
      have pX:=h_ (fun W i=>(show Calls prog 99 #[.pointer (some ⟨b,0,none⟩),S ((p.rest.drop n))] W fun e w'=>e=AU∧Below w.heap.size w w'∧Tn b W w' from by have h:=HAS.out W i;rw[hO]at h;exact h))
      clear hO
      go_wp2_with (first
       |(go_at_call 100;refine(Oi.out _).mono ?_;rintro e w6 ⟨rfl,hw⟩;subst hw)
       |(go_at_call 99;refine(pX.out _ I5.out).mono ?_;rintro e w7 ⟨rfl,hb,_⟩;have B7:=h_ hb;clear hb)
       |fail)
      rw[cX.out]
      exact⟨rfl,rfl,B7.out⟩
     |some u =>
      have cX:=h_ (show R=some u by rw[oN.out,hO])
      have pX:=h_ (fun W i=>(show Calls prog 99 #[.pointer (some ⟨b,0,none⟩),S ((p.rest.drop n))] W fun e w'=>e=.returned (.tuple #[])∧(∃pv,OB w b 30 (ah pv u) w'∧w'.ownsRow W.heap.size 9 1 pv u.path.length (Strs u.path))∧Tn b W w' from by have h:=HAS.out W i;rw[hO]at h;exact h))
      have U8:=h_ (iJ hO)
      clear hO
      go_upto_region 8 with(first
       |(go_at_call 100;refine(Oi.out _).mono ?_;rintro e w6 ⟨rfl,hw⟩;subst hw)
       |(go_at_call 99;refine(pX.out _ I5.out).mono ?_;rintro e w7 ⟨rfl,⟨pv,i7,o7⟩,t7⟩;have I7:=h_ i7;have O7:=h_ (aU o7 (show b+1<=_ from I5.out.lt));have K7:=h_ (K5.out.tn t7);clear i7 o7 t7)
       |fail)
      go_wp2_with (first
       |(refine eh rfl (.tmp 6) rfl w b pv u I7.out U8.out rfl ?_)
       |(refine eG rfl (.tmp 4) (.tmp 62) rfl w br (OB.of K7.out.cr gJ.out I7.out.bq) pv u U8.out (aS O7.out) rfl rfl ?_;intro wZ iZ tZ;have IZ:=h_ iZ;have OZ:=h_ (aU (tZ.row O7.out iH.out) pT.out);clear iZ tZ)
       |fail)
      rw[cX.out]
      exact dL (u:=u) results67 U8.out rfl IZ.out ⟨pv,rfl,OZ.out,IZ.out.bq⟩
    rw[decide_eq_false hW]at Jl
    rw[hP]at gF
    cases hO:bu.opq with
    |true =>
     rw[hO]at c16
     have pU:=h_ (HR.out.trans ((Ms hS hF hP hQ hW).trans (if_pos hO)))
     clear hS hF hP hQ hW hO
     go_upto_region 12 with(first
      |(go_at_call 96;refine(gF.out _).mono ?_;rintro e w6 ⟨rfl,hw⟩;subst hw)
      |(go_at_call 57;refine(Jl.out _).mono ?_;rintro e w6 ⟨rfl,hw⟩;subst hw)
      |fail)
     clear d0 d1 d2 c0 c16 td s9 hpe
     cases hO:jV bu p with
     |none =>
      have cX:=h_ (show R=none by rw[pU.out,hO])
      have HC:=h_ (fun W hb=>(show Calls prog 102 #[.agg (ah bv bu),.agg (aT p)] W fun e w'=>e=AU∧Below W.heap.size W w' from by have h:=xg.out W hb;rw[hO]at h;exact h))
      clear hO
      go_wp2_with (first
       |(refine eh rfl (.tmp 2) rfl w bb bv bu (OB.of V3.out (bA lW.out.symm) B3.out) H8.out rfl ?_)
       |(refine jq rfl (.tmp 3) rfl bx p X3.out rfl ?_)
       |(go_at_call 102;refine(HC.out _ B3.out).mono ?_;rintro e w7 ⟨rfl,hb⟩;have B7:=h_ (fJ B3.out hb);clear hb)
       |fail)
      rw[cX.out]
      exact⟨rfl,rfl,B7.out⟩
     |some u =>
      have cX:=h_ (show R=some u by rw[pU.out,hO])
      have HC:=h_ (fun W hb=>(show Calls prog 102 #[.agg (ah bv bu),.agg (aT p)] W fun e w'=>∃ pv,e=.returned (.agg (ah pv u))∧w'.ownsRow W.heap.size 9 1 pv u.path.length (Strs u.path)∧Below W.heap.size W w' from by have h:=xg.out W hb;rw[hO]at h;exact h))
      have U8:=h_ (sY H8.out hO)
      clear hO
      go_wp2_with (first
       |(refine eh rfl (.tmp 2) rfl w bb bv bu (OB.of V3.out (bA lW.out.symm) B3.out) H8.out rfl ?_)
       |(refine jq rfl (.tmp 3) rfl bx p X3.out rfl ?_)
       |(go_at_call 102;refine(HC.out _ B3.out).mono ?_;rintro e w7 ⟨pv,rfl,o7,hb⟩;have O7:=h_ o7;have B7:=h_ (fJ B3.out hb);have R7:=h_ (R3.out.keep hb);clear o7 hb)
       |(refine eG rfl (.tmp 4) (.tmp 77) rfl w br (OB.of R7.out gJ.out B7.out) pv u U8.out (aS O7.out) rfl rfl ?_;intro wZ iZ tZ;have IZ:=h_ iZ;have OZ:=h_ (aU (tZ.row O7.out HZ3.out.1) HZ3.out.2);clear iZ tZ)
       |fail)
      rw[cX.out]
      exact dL (u:=u) results67 U8.out rfl IZ.out ⟨pv,rfl,OZ.out,IZ.out.bq⟩
    |false =>
     rw[hO]at c16
     have pU:=h_ (HR.out.trans ((Ms hS hF hP hQ hW).trans (if_neg (by simp[hO]))))
     clear hS hF hP hQ hW hO
     go_upto_region 13 with(first
      |(go_at_call 96;refine(gF.out _).mono ?_;rintro e w6 ⟨rfl,hw⟩;subst hw)
      |(go_at_call 57;refine(Jl.out _).mono ?_;rintro e w6 ⟨rfl,hw⟩;subst hw)
      |fail)
     clear d0 d1 d2 c0 c16 td s9 hpe
     cases hO:pF bu p with
     |none =>
      have cX:=h_ (show R=none by rw[pU.out,hO])
      have HC:=h_ (fun W hb=>(show Calls prog 103 #[.agg (ah bv bu),.agg (aT p)] W fun e w'=>e=AU∧Below W.heap.size W w' from by have h:=u5.out W hb;rw[hO]at h;exact h))
      clear hO
      go_wp2_with (first
       |(refine eh rfl (.tmp 2) rfl w bb bv bu (OB.of V3.out (bA lW.out.symm) B3.out) H8.out rfl ?_)
       |(refine jq rfl (.tmp 3) rfl bx p X3.out rfl ?_)
       |(go_at_call 103;refine(HC.out _ B3.out).mono ?_;rintro e w7 ⟨rfl,hb⟩;have B7:=h_ (fJ B3.out hb);clear hb)
       |fail)
      rw[cX.out]
      exact⟨rfl,rfl,B7.out⟩
     |some u =>
      have cX:=h_ (show R=some u by rw[pU.out,hO])
      have HC:=h_ (fun W hb=>(show Calls prog 103 #[.agg (ah bv bu),.agg (aT p)] W fun e w'=>∃ pv,e=.returned (.agg (ah pv u))∧w'.ownsRow W.heap.size 9 1 pv u.path.length (Strs u.path)∧Below W.heap.size W w' from by have h:=u5.out W hb;rw[hO]at h;exact h))
      have U8:=h_ (yg H8.out hO)
      clear hO
      go_wp2_with (first
       |(refine eh rfl (.tmp 2) rfl w bb bv bu (OB.of V3.out (bA lW.out.symm) B3.out) H8.out rfl ?_)
       |(refine jq rfl (.tmp 3) rfl bx p X3.out rfl ?_)
       |(go_at_call 103;refine(HC.out _ B3.out).mono ?_;rintro e w7 ⟨pv,rfl,o7,hb⟩;have O7:=h_ o7;have B7:=h_ (fJ B3.out hb);have R7:=h_ (R3.out.keep hb);clear o7 hb)
       |(refine eG rfl (.tmp 4) (.tmp 80) rfl w br (OB.of R7.out gJ.out B7.out) pv u U8.out (aS O7.out) rfl rfl ?_;intro wZ iZ tZ;have IZ:=h_ iZ;have OZ:=h_ (aU (tZ.row O7.out HZ3.out.1) HZ3.out.2);clear iZ tZ)
       |fail)
      rw[cX.out]
      exact dL (u:=u) results67 U8.out rfl IZ.out ⟨pv,rfl,OZ.out,IZ.out.bq⟩
   rw[decide_eq_false hQ]at hpe
   rw[hP]at gF
   have pU:=h_ (HR.out.trans (Mp hS hF hP (.inl hQ)))
   clear hS hF hQ
   obtain⟨us,lG⟩:=ap (cQ p.aC p)
   have yB:=h_ (show us.host.six.length=8 by rw[lG];rfl)
   have yC:=h_ (show us.path=[] by rw[lG];rfl)
   have HUC:=h_ (show us.aC=p.aC by rw[lG];rfl)
   rw[<-lG]at HST pU
   rw[hP]at Oi pU
   clear lG hP
   generalize r4 true p.rest=n at *
   have oN:=pU
   go_upto_region 7 with(first
    |(go_at_call 96;refine(gF.out _).mono ?_;rintro e w6 ⟨rfl,hw⟩;subst hw)
    |(go_at_call 57;refine(Jl.out _).mono ?_;rintro e w6 ⟨rfl,hw⟩;subst hw)
    |(refine jq rfl (.tmp 3) rfl bx p X3.out rfl ?_)
    |(go_at_call 98;refine(HST.out _).mono ?_;rintro e w4 ⟨rfl,hb⟩;have eZ:=h_ hb;clear hb)
    |(refine aE rfl 30 rfl _ _ (cD _) ?_)
    |(refine cN rfl (.tmp 6) (.tmp 55) rfl aD us yB.out rfl rfl rfl rfl ?_;intro w5 hh hb;have I5:=h_ (OB.of (w0:=w) hh (aq B3.out.size eZ.out.size) (fJ (fJ B3.out eZ.out) hb));have K5:=h_ (show K3 bb bx br w4.heap.size bv bu p w5 from⟨(V3.out.keep eZ.out).keep hb,(X3.out.keep eZ.out).keep hb,(R3.out.keep eZ.out).keep hb,cj (aP V3.out.lt eZ.out.size),cj (aP X3.out.lt eZ.out.size),cj (aP R3.out.lt eZ.out.size)⟩);have iH:=h_ (show br<w4.heap.size+1 from p7 (aP R3.out.lt eZ.out.size));have pT:=h_ (show w.heap.size<=w4.heap.size+1 from pZ (aq B3.out.size eZ.out.size));clear hh hb)
    |fail)
   obtain⟨b,hbb⟩:=ap (w4.heap.size)
   rw[<-hbb]at I5 K5 iH pT ⊢
   clear hbb d0 d1 d2 c0 c16 td s9 hpe
   have d1:w5.cell? ⟨bx,1,none⟩=some (.string Wf):=by rw[TO.out];exact K5.out.cx.ak rfl
   have d2:w5.cell? ⟨bx,2,none⟩=some (.string t):=by rw[HT.out];exact K5.out.cx.ak rfl
   have HAS:=h_ (fun W (i:OB w b 30 (ah aD us) W)=>rN w b us (p.rest.drop n) W i yB.out yC.out (by have:=qU.out.l;rw[ai];omega) (qU.out.a _ n) (HE.out.below i.bq))
   cases hO:iI us (p.rest.drop n)with
   |none =>
    have cX:=h_ (show R=none by rw[oN.out,hO])
    have pX:=h_ (fun W i=>(show Calls prog 99 #[.pointer (some ⟨b,0,none⟩),S ((p.rest.drop n))] W fun e w'=>e=AU∧Below w.heap.size w w'∧Tn b W w' from by have h:=HAS.out W i;rw[hO]at h;exact h))
    clear hO
    go_wp2_with (first
     |(go_at_call 100;refine(Oi.out _).mono ?_;rintro e w6 ⟨rfl,hw⟩;subst hw)
     |(go_at_call 99;refine(pX.out _ I5.out).mono ?_;rintro e w7 ⟨rfl,hb,_⟩;have B7:=h_ hb;clear hb)
     |fail)
    rw[cX.out]
    exact⟨rfl,rfl,B7.out⟩
   |some u =>
    have cX:=h_ (show R=some u by rw[oN.out,hO])
    have pX:=h_ (fun W i=>(show Calls prog 99 #[.pointer (some ⟨b,0,none⟩),S ((p.rest.drop n))] W fun e w'=>e=.returned (.tuple #[])∧(∃pv,OB w b 30 (ah pv u) w'∧w'.ownsRow W.heap.size 9 1 pv u.path.length (Strs u.path))∧Tn b W w' from by have h:=HAS.out W i;rw[hO]at h;exact h))
    have U8:=h_ (iJ hO)
    clear hO
    go_upto_region 8 with(first
     |(go_at_call 100;refine(Oi.out _).mono ?_;rintro e w6 ⟨rfl,hw⟩;subst hw)
     |(go_at_call 99;refine(pX.out _ I5.out).mono ?_;rintro e w7 ⟨rfl,⟨pv,i7,o7⟩,t7⟩;have I7:=h_ i7;have O7:=h_ (aU o7 (show b+1<=_ from I5.out.lt));have K7:=h_ (K5.out.tn t7);clear i7 o7 t7)
     |fail)
    go_wp2_with (first
     |(refine eh rfl (.tmp 6) rfl w b pv u I7.out U8.out rfl ?_)
     |(refine eG rfl (.tmp 4) (.tmp 62) rfl w br (OB.of K7.out.cr gJ.out I7.out.bq) pv u U8.out (aS O7.out) rfl rfl ?_;intro wZ iZ tZ;have IZ:=h_ iZ;have OZ:=h_ (aU (tZ.row O7.out iH.out) pT.out);clear iZ tZ)
     |fail)
    rw[cX.out]
    exact dL (u:=u) results67 U8.out rfl IZ.out ⟨pv,rfl,OZ.out,IZ.out.bq⟩
 |false =>
  rw[hS]at d0
  cases hO:bu.opq with
  |true =>
   rw[hO]at c16
   have pU:=h_ (HR.out.trans ((Mu hS (fun h=>by rw[hO]at h;cases h.1)).trans (if_pos hO)))
   clear hS hO
   go_upto_region 12 with(first
    |(go_at_call 96;refine(gF.out _).mono ?_;rintro e w6 ⟨rfl,hw⟩;subst hw)
    |(go_at_call 57;refine(Jl.out _).mono ?_;rintro e w6 ⟨rfl,hw⟩;subst hw)
    |fail)
   clear d0 d1 d2 c0 c16 td s9 hpe
   cases hO:jV bu p with
   |none =>
    have cX:=h_ (show R=none by rw[pU.out,hO])
    have HC:=h_ (fun W hb=>(show Calls prog 102 #[.agg (ah bv bu),.agg (aT p)] W fun e w'=>e=AU∧Below W.heap.size W w' from by have h:=xg.out W hb;rw[hO]at h;exact h))
    clear hO
    go_wp2_with (first
     |(refine eh rfl (.tmp 2) rfl w bb bv bu (OB.of V3.out (bA lW.out.symm) B3.out) H8.out rfl ?_)
     |(refine jq rfl (.tmp 3) rfl bx p X3.out rfl ?_)
     |(go_at_call 102;refine(HC.out _ B3.out).mono ?_;rintro e w7 ⟨rfl,hb⟩;have B7:=h_ (fJ B3.out hb);clear hb)
     |fail)
    rw[cX.out]
    exact⟨rfl,rfl,B7.out⟩
   |some u =>
    have cX:=h_ (show R=some u by rw[pU.out,hO])
    have HC:=h_ (fun W hb=>(show Calls prog 102 #[.agg (ah bv bu),.agg (aT p)] W fun e w'=>∃ pv,e=.returned (.agg (ah pv u))∧w'.ownsRow W.heap.size 9 1 pv u.path.length (Strs u.path)∧Below W.heap.size W w' from by have h:=xg.out W hb;rw[hO]at h;exact h))
    have U8:=h_ (sY H8.out hO)
    clear hO
    go_wp2_with (first
     |(refine eh rfl (.tmp 2) rfl w bb bv bu (OB.of V3.out (bA lW.out.symm) B3.out) H8.out rfl ?_)
     |(refine jq rfl (.tmp 3) rfl bx p X3.out rfl ?_)
     |(go_at_call 102;refine(HC.out _ B3.out).mono ?_;rintro e w7 ⟨pv,rfl,o7,hb⟩;have O7:=h_ o7;have B7:=h_ (fJ B3.out hb);have R7:=h_ (R3.out.keep hb);clear o7 hb)
     |(refine eG rfl (.tmp 4) (.tmp 77) rfl w br (OB.of R7.out gJ.out B7.out) pv u U8.out (aS O7.out) rfl rfl ?_;intro wZ iZ tZ;have IZ:=h_ iZ;have OZ:=h_ (aU (tZ.row O7.out HZ3.out.1) HZ3.out.2);clear iZ tZ)
     |fail)
    rw[cX.out]
    exact dL (u:=u) results67 U8.out rfl IZ.out ⟨pv,rfl,OZ.out,IZ.out.bq⟩
  |false =>
   rw[hO]at c16
   by_cases hF:bu.aC=aR
   ·rw[decide_eq_true hF]at s9
    have pU:=h_ (HR.out.trans (Mr hS hO hF))
    clear hS hO hF
    go_upto_region 4 with(first
     |(go_at_call 96;refine(gF.out _).mono ?_;rintro e w6 ⟨rfl,hw⟩;subst hw)
     |(go_at_call 57;refine(Jl.out _).mono ?_;rintro e w6 ⟨rfl,hw⟩;subst hw)
     |fail)
    clear d0 d1 d2 c0 c16 td s9 hpe
    cases hO:kx bu p with
    |none =>
     have cX:=h_ (show R=none by rw[pU.out,hO])
     have HC:=h_ (fun W hb=>(show Calls prog 97 #[.agg (ah bv bu),.agg (aT p)] W fun e w'=>e=AU∧Below W.heap.size W w' from by have h:=HFI.out W hb;rw[hO]at h;exact h))
     clear hO
     go_wp2_with (first
      |(refine eh rfl (.tmp 2) rfl w bb bv bu (OB.of V3.out (bA lW.out.symm) B3.out) H8.out rfl ?_)
      |(refine jq rfl (.tmp 3) rfl bx p X3.out rfl ?_)
      |(go_at_call 97;refine(HC.out _ B3.out).mono ?_;rintro e w7 ⟨rfl,hb⟩;have B7:=h_ (fJ B3.out hb);clear hb)
      |fail)
     rw[cX.out]
     exact⟨rfl,rfl,B7.out⟩
    |some u =>
     have cX:=h_ (show R=some u by rw[pU.out,hO])
     have HC:=h_ (fun W hb=>(show Calls prog 97 #[.agg (ah bv bu),.agg (aT p)] W fun e w'=>∃ pv,e=.returned (.agg (ah pv u))∧w'.ownsRow W.heap.size 9 1 pv u.path.length (Strs u.path)∧Below W.heap.size W w' from by have h:=HFI.out W hb;rw[hO]at h;exact h))
     have U8:=h_ (sX H8.out hO)
     clear hO
     go_wp2_with (first
      |(refine eh rfl (.tmp 2) rfl w bb bv bu (OB.of V3.out (bA lW.out.symm) B3.out) H8.out rfl ?_)
      |(refine jq rfl (.tmp 3) rfl bx p X3.out rfl ?_)
      |(go_at_call 97;refine(HC.out _ B3.out).mono ?_;rintro e w7 ⟨pv,rfl,o7,hb⟩;have O7:=h_ o7;have B7:=h_ (fJ B3.out hb);have R7:=h_ (R3.out.keep hb);clear o7 hb)
      |(refine eG rfl (.tmp 4) (.tmp 37) rfl w br (OB.of R7.out gJ.out B7.out) pv u U8.out (aS O7.out) rfl rfl ?_;intro wZ iZ tZ;have IZ:=h_ iZ;have OZ:=h_ (aU (tZ.row O7.out HZ3.out.1) HZ3.out.2);clear iZ tZ)
      |fail)
     rw[cX.out]
     exact dL (u:=u) results67 U8.out rfl IZ.out ⟨pv,rfl,OZ.out,IZ.out.bq⟩
   rw[decide_eq_false hF]at s9
   have pU:=h_ (HR.out.trans ((Mu hS (fun h=>hF h.2)).trans (if_neg (by simp[hO]))))
   clear hS hO hF
   go_upto_region 13 with(first
    |(go_at_call 96;refine(gF.out _).mono ?_;rintro e w6 ⟨rfl,hw⟩;subst hw)
    |(go_at_call 57;refine(Jl.out _).mono ?_;rintro e w6 ⟨rfl,hw⟩;subst hw)
    |fail)
   clear d0 d1 d2 c0 c16 td s9 hpe
   cases hO:pF bu p with
   |none =>
    have cX:=h_ (show R=none by rw[pU.out,hO])
    have HC:=h_ (fun W hb=>(show Calls prog 103 #[.agg (ah bv bu),.agg (aT p)] W fun e w'=>e=AU∧Below W.heap.size W w' from by have h:=u5.out W hb;rw[hO]at h;exact h))
    clear hO
    go_wp2_with (first
     |(refine eh rfl (.tmp 2) rfl w bb bv bu (OB.of V3.out (bA lW.out.symm) B3.out) H8.out rfl ?_)
     |(refine jq rfl (.tmp 3) rfl bx p X3.out rfl ?_)
     |(go_at_call 103;refine(HC.out _ B3.out).mono ?_;rintro e w7 ⟨rfl,hb⟩;have B7:=h_ (fJ B3.out hb);clear hb)
     |fail)
    rw[cX.out]
    exact⟨rfl,rfl,B7.out⟩
   |some u =>
    have cX:=h_ (show R=some u by rw[pU.out,hO])
    have HC:=h_ (fun W hb=>(show Calls prog 103 #[.agg (ah bv bu),.agg (aT p)] W fun e w'=>∃ pv,e=.returned (.agg (ah pv u))∧w'.ownsRow W.heap.size 9 1 pv u.path.length (Strs u.path)∧Below W.heap.size W w' from by have h:=u5.out W hb;rw[hO]at h;exact h))
    have U8:=h_ (yg H8.out hO)
    clear hO
    go_wp2_with (first
     |(refine eh rfl (.tmp 2) rfl w bb bv bu (OB.of V3.out (bA lW.out.symm) B3.out) H8.out rfl ?_)
     |(refine jq rfl (.tmp 3) rfl bx p X3.out rfl ?_)
     |(go_at_call 103;refine(HC.out _ B3.out).mono ?_;rintro e w7 ⟨pv,rfl,o7,hb⟩;have O7:=h_ o7;have B7:=h_ (fJ B3.out hb);have R7:=h_ (R3.out.keep hb);clear o7 hb)
     |(refine eG rfl (.tmp 4) (.tmp 80) rfl w br (OB.of R7.out gJ.out B7.out) pv u U8.out (aS O7.out) rfl rfl ?_;intro wZ iZ tZ;have IZ:=h_ iZ;have OZ:=h_ (aU (tZ.row O7.out HZ3.out.1) HZ3.out.2);clear iZ tZ)
     |fail)
    rw[cX.out]
    exact dL (u:=u) results67 U8.out rfl IZ.out ⟨pv,rfl,OZ.out,IZ.out.bq⟩

def vg (w:World):Option Url->Ending->World->Prop
 |none,e,w'=>e=.returned (.tuple #[.agg (ah aD U0),.bool false])∧Below w.heap.size w w'
 |some u,e,w'=>∃ pv,e=.returned (.tuple #[.agg (ah pv u),.bool true])∧w'.ownsRow w.heap.size 9 1 pv u.path.length (Strs u.path)∧Below w.heap.size w w'
theorem OB.cb {w0 W:World} {b:Nat} {T:TypeId} {cs:Array Value} (i:OB w0 b T cs W):CB W b T cs:=⟨i.a⟩
theorem OB.tn {w0 W W':World} {b g:Nat} {T T':TypeId} {cs cs':Array Value} (i:OB w0 g T cs W) (t:Tn b W W') (hn:g≠b) (j:OB w0 b T' cs' W'):OB w0 g T cs W':=OB.of (t.cb i.cb hn) i.le j.bq
theorem Uz (w:World) (bv:Value) (u:Url) (p:jP):∃ w4,(((w.alloc (.cells (ah bv u) 30)).alloc (.cells (aT p) 68)).alloc (.cells (ah aD U0) 30)).alloc (.cells #[.bool false] 4)=w4∧w4.heap.size=w.heap.size+4 ∧
  CB w4 w.heap.size 30 (ah bv u)∧CB w4 (w.heap.size+1) 68 (aT p)∧OB w (w.heap.size+2) 30 (ah aD U0) w4∧OB w (w.heap.size+3) 4 #[.bool false] w4:=by
 obtain⟨w3,hw3,hz3,hb,k1,k2,k3⟩:=three w bv u p
 rw[hw3]
 have hx:=CB.new w3 4 #[.bool false]
 have hb2:=(Below.refl w3.heap.size w3).alloc (ae _) (.cells #[.bool false] 4)
 refine⟨_,rfl,by simp[hz3],k1.keep hb2,k2.keep hb2,OB.of (k3.keep hb2) (by omega) (fJ hb hb2),?_⟩
 rw[hz3]at hx
 exact OB.of hx (by omega) (fJ hb hb2)
theorem Nm {tmps:Array Value} {w w2:World} {b:Nat} {pv:Value} {u:Url} {q:Bool} (h4:tmps.getD 4 undef=.pointer (some ⟨b,0,none⟩)) (h5:tmps.getD 5 undef=.pointer (some ⟨b+1,0,none⟩)) (h8:u.host.six.length=8) (i:OB w b 30 (ah pv u) w2) (j:OB w (b+1) 4 #[.bool q] w2) :
  (results f32 tmps).run prog w2=.ok (.tuple #[.agg (ah pv u),.bool q]) w2:=by
 have h4':tmps[4]?.getD undef=.pointer (some ⟨b,0,none⟩):=by simpa using h4
 have h5':tmps[5]?.getD undef=.pointer (some ⟨b+1,0,none⟩):=by simpa using h5
 have hl:=i.load (P:=prog) 30 _ underlying30 rfl (by rw[eL h8];exact dq)
 have hc:=j.ak (j:=0) (v:=.bool q) rfl
 have hlb:(loadVar 4 ⟨b+1,0,none⟩).run prog w2=.ok (.bool q) w2:=by simp[go_sem,hc]
 simp[results,results32,asAddr,h4',h5',hl,hlb]
theorem Af (w0:World) (b:Nat) (u:TypeId) (pv:Value) (older:List PanicEntry) (w:World) (i:OB w0 b 30 (ah aD U0) w) (j:OB w0 (b+1) 4 #[.bool false] w) :
  CallsD prog 66 #[.pointer (some ⟨b,0,none⟩),.pointer (some ⟨b+1,0,none⟩)] (.panicking ({v:=.iface u pv,recovered:=false}::older)) w fun e u' w' =>
   e=.returned (.tuple #[])∧u'=.panicking ({v:=.iface u pv,recovered:=true}::older)∧OB w0 b 30 (ah aD U0) w'∧OB w0 (b+1) 4 #[.bool false] w':=by
 refine callsD_of_wpS func66 rfl fun c₀ cs hu=>?_
 apply wpS_seq
 apply wpS_region
 simp[wpOpsS,go_sem,recoverD,hu,ntmps66,Exit.thenS]
 refine wpS_cond (t:=true) (by simp[Act.eval,Array.replicate]) ?_
 simp only[if_true]
 refine wpS_of_wp ?_
 have I:=h_ i;have J:=h_ j;clear i j
 go_wp2_with (first
  |(refine bG rfl 30 #[] rfl (.agg (ah aD U0)) #[] rfl rP ?_)
  |(refine eG rfl (.tmp 0) (.tmp 4) rfl w0 b I.out aD U0 rfl rfl rfl rfl ?_;intro w2 i2 t2;have I2:=h_ i2;have J2:=h_ (J.out.tn t2 (Nat.succ_ne_self b) i2);clear i2 t2)
  |(refine dJ rfl 4 (.tmp 1) (.const (.bool false)) rfl w0 (b+1) 4 #[.bool false] J2.out 0 (.bool false) rfl rfl (by decide) bF.2.2 rfl #[.bool false] rfl ?_;intro w3 j3 t3;have J3:=h_ j3;have I3:=h_ (I2.out.tn t3 (cj (bB b)) j3);clear j3 t3)
  |fail)
 simp only[bodyPostS]
 exact⟨trivial,_,rfl,.tuple #[],by simp[results,results66],rfl,rfl,I3.out,J3.out⟩
theorem Ae (p r:Addr) (w:World) :
  CallsD prog 66 #[.pointer (some p),.pointer (some r)] .returning w fun e u' w'=>e=.returned (.tuple #[])∧u'=.returning∧w'=w:=by
 refine callsD_of_wpS func66 rfl fun c₀ cs hu=>?_
 apply wpS_seq
 apply wpS_region
 simp[wpOpsS,go_sem,recoverD,hu,ntmps66,Exit.thenS]
 refine wpS_cond (t:=false) (by simp[Act.eval,Array.replicate]) ?_
 simp only[eM,if_false]
 refine wpS_of_wp (wp_skip ?_)
 cases c₀
 simp_all[bodyPostS,results,results66]
theorem Ak {tmps:Array Value} {w w3:World} {g:Nat} {ty:TypeId} {x:Value} (h4:tmps.getD 4 undef=.pointer (some ⟨g,0,none⟩)) (h5:tmps.getD 5 undef=.pointer (some ⟨g+1,0,none⟩)) (i:OB w g 30 (ah aD U0) w3) (j:OB w (g+1) 4 #[.bool false] w3) {R:Option Url} (hR:R=none) :
  bodyPostD prog f32 (vg w R) (Exit.panic [{v:=.iface ty x,recovered:=false}])
   {tmps:=tmps,defers:=[{target:=.fn (.func 66) #[.pointer (some ⟨g,0,none⟩),.pointer (some ⟨g+1,0,none⟩)],args:=#[]}]} w3:=by
 subst hR
 refine leaves_cons (f:=66) (args:=#[.pointer (some ⟨g,0,none⟩),.pointer (some ⟨g+1,0,none⟩)]) (by simp) (by simp[go_sem]) ?_
 refine(Af w g _ _ [] w3 i j).mono ?_
 rintro e u' w4 ⟨rfl,rfl,i4,j4⟩
 exact⟨_,Nm h4 h5 rfl i4 j4,rfl,i4.bq⟩
theorem Du {tmps:Array Value} {w w3:World} {g:Nat} {pv:Value} {u:Url} (h4:tmps.getD 4 undef=.pointer (some ⟨g,0,none⟩)) (h5:tmps.getD 5 undef=.pointer (some ⟨g+1,0,none⟩)) (h8:u.host.six.length=8) (i:OB w g 30 (ah pv u) w3) (j:OB w (g+1) 4 #[.bool true] w3) (o:w3.ownsRow w.heap.size 9 1 pv u.path.length (Strs u.path)) {R:Option Url} (hR:R=some u) :
  bodyPostD prog f32 (vg w R) Exit.ret
   {tmps:=tmps,defers:=[{target:=.fn (.func 66) #[.pointer (some ⟨g,0,none⟩),.pointer (some ⟨g+1,0,none⟩)],args:=#[]}]} w3:=by
 subst hR
 refine leaves_cons (f:=66) (args:=#[.pointer (some ⟨g,0,none⟩),.pointer (some ⟨g+1,0,none⟩)]) (by simp) (by simp[go_sem]) ?_
 refine(Ae _ _ w3).mono ?_
 rintro e u' w4 ⟨rfl,rfl,rfl⟩
 exact⟨_,Nm h4 h5 h8 i j,_,rfl,o,i.bq⟩
theorem wQ (bu:Url) (bv:Value) (p:jP) (w:World) (h8:bu.host.six.length=8) (hbv:Sl w.heap.size w bv (bu.path.map S)) (hbs:Bs bu.path) (hr:Rs p.rest) (hq:p.q.length<=307200000) (hf:p.f.length<=307200000) (hE:Env w):Calls prog 32 #[.agg (ah bv bu),.agg (aT p)] w (vg w (d9 bu p)):=by
 have hmf:∀ (fn:Fn) (first cap:Array Value) (w:World),(Instr.makeFunc fn first cap).run prog w=.ok (.func fn first cap) w:=fun _ _ _ _=>rfl
 have HJ:=h_ (fun W (hb:Below w.heap.size w W)=>Is bu bv p W h8 ((hbv.below hb).more hb.size) hbs hr hq hf (hE.below hb))
 obtain⟨R,hR⟩:=ap (d9 bu p)
 rw[<-hR]at HJ ⊢
 have HU8:=h_ (fun u (h:R=some u)=>mx h8 (hR.symm.trans h))
 have H8:=h_ h8
 clear hR h8 hbv hbs hr hq hf hE
 obtain⟨w4,hw4,hz4,k1,k2,k3,k4⟩:=Uz w bv bu p
 have K1:=h_ k1;have K2:=h_ k2;have K3:=h_ k3;have K4:=h_ k4;have HZ:=h_ hz4
 have HW4:=h_ hw4
 clear k1 k2 k3 k4 hz4 hw4
 cases R with
 |none =>
  have HC:=h_ (fun W hb=>(show Calls prog 67 #[.agg (ah bv bu),.agg (aT p)] W fun e w'=>e=AU∧Below W.heap.size W w' from HJ.out W hb))
  go_enter_defers func32,ntmps32
  go_upto_region 1 with(first
   |(refine aE rfl 30 rfl _ _ (cD _) ?_)
   |fail)
  rw[HW4.out]
  go_wp2_with (first
   |(refine eh rfl (.tmp 2) rfl w w.heap.size bv bu (OB.of K1.out (ae _) K3.out.bq) H8.out rfl ?_)
   |(refine jq rfl (.tmp 3) rfl (w.heap.size+1) p K2.out rfl ?_)
   |(go_at_call 67;refine(HC.out _ K3.out.bq).mono ?_;rintro e w7 ⟨rfl,hb⟩;have I7:=h_ (K3.out.below hb);have J7:=h_ (K4.out.below hb);clear hb)
   |fail)
  exact Ak rfl rfl I7.out J7.out rfl
 |some u =>
  have U8:=h_ (HU8.out u rfl)
  have HC:=h_ (fun W hb=>(show Calls prog 67 #[.agg (ah bv bu),.agg (aT p)] W fun e w'=>∃ pv,e=.returned (.agg (ah pv u))∧w'.ownsRow W.heap.size 9 1 pv u.path.length (Strs u.path)∧Below W.heap.size W w' from HJ.out W hb))
  go_enter_defers func32,ntmps32
  go_upto_region 1 with(first
   |(refine aE rfl 30 rfl _ _ (cD _) ?_)
   |fail)
  rw[HW4.out]
  go_wp2_with (first
   |(refine eh rfl (.tmp 2) rfl w w.heap.size bv bu (OB.of K1.out (ae _) K3.out.bq) H8.out rfl ?_)
   |(refine jq rfl (.tmp 3) rfl (w.heap.size+1) p K2.out rfl ?_)
   |(go_at_call 67;refine(HC.out _ K3.out.bq).mono ?_;rintro e w7 ⟨pv,rfl,o7,hb⟩;have I7:=h_ (K3.out.below hb);have J7:=h_ (K4.out.below hb);have O7:=h_ o7;clear hb o7)
   |(refine eG rfl (.tmp 4) (.tmp 9) rfl w (w.heap.size+2) I7.out pv u U8.out (aS O7.out) rfl rfl ?_;intro w8 i8 t8;have I8:=h_ i8;have J8:=h_ (J7.out.tn t8 (by omega) i8);have O8:=h_ (t8.row O7.out (by rw[HZ.out];omega));clear i8 t8)
   |(refine dJ rfl 4 (.tmp 5) (.const (.bool true)) rfl w (w.heap.size+3) 4 #[.bool false] J8.out 0 (.bool true) rfl rfl (by decide) bF.2.2 rfl #[.bool true] rfl ?_;intro w9 j9 t9;have J9:=h_ j9;have I9:=h_ (I8.out.tn t9 (by omega) j9);have O9:=h_ (aU (t9.row O8.out (by rw[HZ.out];omega)) (show w.heap.size<=w4.heap.size by rw[HZ.out];omega));clear j9 t9)
   |fail)
  exact Du rfl rfl U8.out I9.out J9.out O9.out rfl
end Go.Proofs.YtmndlfglgcioeaaGreatDoor
