import Derived.Test.YtagfilhbpnjhkaaGreatDoorFGWlkN
set_option maxRecDepth 10000
set_option maxHeartbeats 0
namespace Go.Proofs.Q
open Tryz Go.RowKit
variable{w3:H}{R:Option Url}
theorem yD{l:O}{sp:Bool}{g:gF}(h:fm l sp=some g):g.six.length=8:=(od (hkind h)).l
theorem vV(w0:H)(b:Nat)(u:Url)(s:O)(w:H)(i:OB w0 b 34 (ai aI u) w)(h8:u.host.six.length=8)(hs:s.length<=307200000)(hA:Short (dU true s).1)(hE:Env w) :
  Calls prog 161 #[.pointer (some ⟨b,0,none⟩),.string (E s)] w (Yi w0 b w (iy u s)):=by
 obtain⟨R,hR⟩:=V (iy u s);rw[<-hR];unfold iy at hR;have me:=λW=>BE s true W M0;have hcl:=nK true s;have J:=λW=>oM (dU true s).1 W M0;have p:=λW=>wj u.aJ (dU true s).2 W M0;have L:=λW=>gj u.aJ s [] aI W Sl.nil hs Oc Oc;have a:=λW (h:r7 w W)=>vG (dU true s).1 true W hA (hE.below h);generalize dU true s=C at *;obtain⟨c1,c2⟩:=C;simp only at hR me hcl J p a hA;have d:=F h8;have z:=F i;obtain⟨sc,rG⟩:=ey (E u.aJ);obtain⟨t,ht,k1,K,k2,hk2⟩:=ax (E s) (E c1) (E c2);rw[<-rG.o]at p L;rw[<-ht]at me L⊢;rw[<-K]at J a;rw[<-hk2]at p;obtain⟨lB,f,ED,ma,P⟩:=ec (show ∀W,bF prog 168 #[.string t,.bool true] W (.tuple #[.string k1,.string k2])from by rw[K,hk2];exact me) J p L (λ(W:H) (v:Z) (x:Url) (Y:OB w0 b 34 (ai v x) W) (I:x.host.six.length=8) (h3:x.aJ=u.aJ)=>(show W.cell? ⟨b,0,none⟩=some (.string sc)from by rw[Y.aE (ry v x I).aJ,h3,rG.o]));have CL:k1.toList=[] ↔ c1=[]:=by rw[K,aB]
 have HR:=F hR;have Hp:=F i.lt;obtain⟨PS,hPS,B,hPO⟩:=ac (da u.aJ [] s) (gW u.aJ c2);rw[<-hPS]at ma HR;rw[<-hPO]at ED HR;have c0:=P.o _ _ _ z.o d.o rfl;clear hR me J p L ht K hk2 hcl hs hA h8 i hPS hPO;cases q:dJ c1 with
 |true =>
  have n:=F (show R=some {u with path:=PS} by rw[HR.o,ge q]);rw[q]at f;clear q a CL;go_enter func161,ntmps161
  go_upto_region 2 with(first|(go_at_call 168;refine(lB.o _).k λw3 U=>?_;have r:=F<|z.o.below U.o;have D:=F<|Tn.of_below (b:=b) U.o;have c3:=P.o _ _ _ (z.o.below U.o) d.o rfl;clear U)|(go_at_call 202;refine(f.o _).e ?_))
  go_wp2_with(first|(go_at_call 164;refine(ma.o _).m ?_;rintro e w5⟨A,rfl,o,U⟩;obtain⟨I5,O5,T5⟩:=cZ (r.o.below U) (eE o) (D.o.below U);clear o U)|(refine dX rfl 22 23 21 rfl w0 b 34 (ai aI u) I5.o 18 A rfl rfl (fP d.o P8) dC (bm O5.o) (ai A {u with path:=PS}) ((fO aI u d.o).path _ _) ?_;intro w6 c t1;obtain⟨y,N,O6⟩:=cZ c (T5.o.trans t1) (t1.row O5.o r.o.lt);clear c t1))
  go_end0
  rw[n.o];exact⟨rfl,⟨A,y.o,ea O6.o D.o.s⟩,N.o⟩
 |false =>
  rw[q]at f;by_cases he:c1=[]
  ·have n:=F (show R=some {u with path:=B} by rw[HR.o,gc (by simp[q]),ge he])
   have he1:k1.toList.isEmpty=true:=by rw[CL.2 he];rfl
   clear q a CL he;go_enter func161,ntmps161
   go_upto_region 9 with(first|(go_at_call 168;refine(lB.o _).k λw3 B3=>?_;have r:=F<|z.o.below B3.o;have D:=F<|Tn.of_below (b:=b) B3.o;have c3:=P.o _ _ _ (z.o.below B3.o) d.o rfl)|(go_at_call 202;refine(f.o _).e ?_))
   go_wp2_with(first|(go_at_call 170;refine(ED.o _).m ?_;rintro e w5⟨A,rfl,o,U⟩;obtain⟨I5,O5,T5⟩:=cZ (r.o.below U) (eE o) (D.o.below U);clear o U)|(refine dX rfl 22 55 53 rfl w0 b 34 (ai aI u) I5.o 18 A rfl rfl (fP d.o P8) dC (bm O5.o) (ai A {u with path:=B}) ((fO aI u d.o).path _ _) ?_;intro w6 c t1;obtain⟨y,N,O6⟩:=cZ c (T5.o.trans t1) (t1.row O5.o r.o.lt);clear c t1))
   go_end0
   rw[n.o];exact⟨rfl,⟨A,y.o,ea O6.o D.o.s⟩,N.o⟩
  have he1:k1.toList.isEmpty=false:=by
   have:=λh=>he (CL.1 h)
   simpa using this
  cases T:fm c1 true with
  |none =>
   have n:=F (show R=none by rw[HR.o,gc (by simp[q]),gc he,T]);rw[T]at a;have WY:=fo (∀W,r7 w W->bF prog 203 #[.string k1,.bool true] W (.tuple #[.agg (aT H0),.bool false])) a;clear q a CL he T;go_enter func161,ntmps161
   go_wp2_with(first|(go_at_call 168;refine(lB.o _).k λw3 B3=>?_;have r:=F<|z.o.below B3.o;have D:=F<|Tn.of_below (b:=b) B3.o;have c3:=P.o _ _ _ (z.o.below B3.o) d.o rfl)|(go_at_call 202;refine(f.o _).e ?_)|(go_at_call 203;refine(WY.o _ B3.o).k λw5 B5=>?_)|(refine aM rfl 32 rfl _ _ (A7 _) ?_)|(refine AW rfl 6 29 rfl H0 rfl rfl rfl rfl ?_;intro w6 hh U;have B6:=F<|dw B5.o U;clear hh U))
   refine⟨rfl,?_⟩;rw[n.o];exact⟨rfl,(r.o.below B6.o).bL,D.o.below B6.o⟩
  |some g =>
   have k:=F<|yD T;have xw:=F (show R=some {u with host:=if g.kind=2/\g.name=[108,111,99,97,108,104,111,115,116]then u.host else g,path:=B} by rw[HR.o,gc (by simp[q]),gc he,T]);rw[T]at a;have WY:=fo (∀W,r7 w W->bF prog 203 #[.string k1,.bool true] W (.tuple #[.agg (aT g),.bool true])) a;have HI:=F (show(prog.info? 32).map (·.size)=some (aS g).length by rw[jb];simp[aS,k.o]);clear q a CL he T;go_enter func161,ntmps161
   go_upto_region 7 with(first|(go_at_call 168;refine(lB.o _).k λw3 B3=>?_;have r:=F<|z.o.below B3.o;have D:=F<|Tn.of_below (b:=b) B3.o;have c3:=P.o _ _ _ (z.o.below B3.o) d.o rfl)|(go_at_call 202;refine(f.o _).e ?_)|(go_at_call 203;refine(WY.o _ B3.o).k λw5 B5=>?_)|(refine aM rfl 32 rfl _ _ (A7 _) ?_)|(refine AW rfl 6 29 rfl g k.o rfl rfl rfl ?_;intro w6 hh U;obtain⟨l,y,N⟩:=cZ hh (r.o.below (dw B5.o U)) (D.o.below (dw B5.o U));clear hh U))
   generalize w5.heap.size=bt at l⊢;clear c0 c3;have e0:w6.cell? ⟨bt,0,none⟩=some (.int .i64 g.kind):=l.o.cell 0;have e1:w6.cell? ⟨bt,1,none⟩=some (.string (E g.name)):=l.o.cell 1;have c3:=P.o _ _ _ y.o d.o rfl;have j:=aB g.name;generalize E g.name=nm at j e1;by_cases hk:g.kind=2
   ·by_cases hn:g.name=[108,111,99,97,108,104,111,115,116]
    ·have n:=F (show R=some {u with path:=B} by rw[xw.o,ge ⟨hk,hn⟩])
     have hl:(nm.toList == [108,111,99,97,108,104,111,115,116])=true:=by rw[j,hn];rfl
     rw[hk]at e0;clear hk hn j
     go_wp2_with(first|(go_at_call 170;refine(ED.o _).m ?_;rintro e w8⟨A,rfl,o,U⟩;obtain⟨I8,M,T8⟩:=cZ (y.o.below U) (eE o) (N.o.below U);clear o U)|(refine dX rfl 22 55 53 rfl w0 b 34 (ai aI u) I8.o 18 A rfl rfl (fP d.o P8) dC (bm M.o) (ai A {u with path:=B}) ((fO aI u d.o).path _ _) ?_;intro w9 c t1;obtain⟨I9,T9,O9⟩:=cZ c (T8.o.trans t1) (t1.row M.o y.o.lt);clear c t1))
     go_end0
     rw[n.o];exact⟨rfl,⟨A,I9.o,ea O9.o N.o.s⟩,T9.o⟩
    have n:=F (show R=some {{u with host:=g}with path:=B} by rw[xw.o,gc (λh=>hn h.2)]);have hl:(nm.toList == [108,111,99,97,108,104,111,115,116])=false:=by rw[j];simpa using hn
    rw[hk]at e0;clear hk hn j
    go_upto_region 9 with(first|(refine QN rfl 6 rfl bt g l.o rfl ?_)|(refine rh rfl 32 46 44 rfl w0 b 34 (ai aI u) y.o 3 (aS g) rfl rfl (zp d.o k.o) HI.o jX (ai aI {u with host:=g}) (sP aI u g k.o d.o) ?_;intro w7 c t1;have Q:=F c;have T7:=F<|N.o.trans t1;clear c t1))
    clear c3 e0 e1;have c7:=P.o _ _ _ Q.o k.o rfl
    go_wp2_with(first|(go_at_call 170;refine(ED.o _).m ?_;rintro e w8⟨A,rfl,o,U⟩;obtain⟨I8,M,T8⟩:=cZ (Q.o.below U) (eE o) (T7.o.below U);clear o U)|(refine dX rfl 22 55 53 rfl w0 b 34 (ai aI {u with host:=g}) I8.o 18 A rfl rfl (fP k.o P8) dC (bm M.o) (ai A {{u with host:=g}with path:=B}) ((fO aI {u with host:=g} k.o).path _ _) ?_;intro w9 c t1;obtain⟨I9,T9,O9⟩:=cZ c (T8.o.trans t1) (t1.row M.o Q.o.lt);clear c t1))
    go_end0
    rw[n.o];exact⟨rfl,⟨A,I9.o,ea O9.o T7.o.s⟩,T9.o⟩
   have n:=F (show R=some {{u with host:=g}with path:=B} by rw[xw.o,gc (λh=>hk h.1)]);generalize g.kind=gk at e0 hk;clear j
   go_upto_region 9 with(first|(refine QN rfl 6 rfl bt g l.o rfl ?_)|(refine rh rfl 32 46 44 rfl w0 b 34 (ai aI u) y.o 3 (aS g) rfl rfl (zp d.o k.o) HI.o jX (ai aI {u with host:=g}) (sP aI u g k.o d.o) ?_;intro w7 c t1;have Q:=F c;have T7:=F<|N.o.trans t1;clear c t1))
   clear c3 e0 e1;have c7:=P.o _ _ _ Q.o k.o rfl
   go_wp2_with(first|(go_at_call 170;refine(ED.o _).m ?_;rintro e w8⟨A,rfl,o,U⟩;obtain⟨I8,M,T8⟩:=cZ (Q.o.below U) (eE o) (T7.o.below U);clear o U)|(refine dX rfl 22 55 53 rfl w0 b 34 (ai aI {u with host:=g}) I8.o 18 A rfl rfl (fP k.o P8) dC (bm M.o) (ai A {{u with host:=g}with path:=B}) ((fO aI {u with host:=g} k.o).path _ _) ?_;intro w9 c t1;obtain⟨I9,T9,O9⟩:=cZ c (T8.o.trans t1) (t1.row M.o Q.o.lt);clear c t1))
   go_end0
   rw[n.o];exact⟨rfl,⟨A,I9.o,ea O9.o T7.o.s⟩,T9.o⟩

def yq(b:Url)(rest:O):List O:=if(match b.path with|x::_=>jN x | []=>false)=true/\fx rest=false then b.path.take 1 else []
def Nb(b:Url)(p:kW):Url:=if b.aJ=aR then {dp aR p with host:=b.host}else {dp aR p with host:={H0 with kind:=1}}
theorem vp(b:Url)(p:kW):lG b p=if 2<=uE (eU aR) p.rest then iy {dp aR p with host:={H0 with kind:=1}} (p.rest.drop 2)
  else if uE (eU aR) p.rest=1 then some {Nb b p with path:=da aR (if b.aJ=aR then yq b (p.rest.drop 1)else []) (p.rest.drop 1)}
  else if b.aJ=aR/\p.rest=[]then some (fM (Nb b p) b)
  else if b.aJ=aR/\fx p.rest=false then some {Nb b p with path:=da aR (cE aR b.path) p.rest}
  else some {Nb b p with path:=da aR [] p.rest}:=by
 unfold lG Nb yq;by_cases h:b.aJ=aR
 ·simp only[h,decide_true,if_true,true_and]
  rfl
 simp only[h,decide_false,if_false,false_and,eH]
theorem yM{u v:Url}{s:O}(hu:u.host.six.length=8)(h:iy u s=some v):v.host.six.length=8:=by
 unfold iy at h;dsimp only at h
 split at h
 ·cases h;exact hu
 split at h
 ·cases h;exact hu
 cases a:fm (dU true s).1 true with
 |none=>rw[a]at h;cases h
 |some g =>
  rw[a]at h;cases h;dsimp only
  split
  ·exact hu
  exact yD a
section
variable {P:Program} {ops:Array Oper} {rest:List Oper} {o:Oper} {a:Act} {w:H} {Q:Exit->Act->H->Prop}
theorem QO(c:o.guard=none)(T:TypeId)(x:Operand)(e:o.op=.load T x)(b k:Nat)(vs:List Z)(d:TypeDesc)(hu:P.underlying T=some d)(hd:d.isRow=true)(hi:(P.info? T).map (·.size)=some vs.length)
  (X:a.eval x=.pointer (some ⟨b,k,none⟩)) (f:w.rangeAt b k vs) (K:wpList P ops Q rest (a.put o.dst (.agg vs.toArray)) w):wpList P ops Q (o::rest) a w :=
 ll c (.agg vs.toArray) (gU T x e b k vs d hu hd hi X f) K
end
theorem Mr{B:Nat}{W:H}{v:Z}(h:Sl B W v (([]:List O).map S)):∃a c,v=.slice a 0 c:=by
 obtain⟨c,_,_,h⟩:=h;rcases h with⟨_,a,h⟩|⟨b,o,_,h,_⟩
 ·exact⟨a,c,h⟩
 exact⟨some ⟨b,o,none⟩,c,h⟩
theorem GV{B:Nat}{W:H}{v:Z}{x:O}{r:List O}(h:Sl B W v ((x::r).map S)):∃b o m c,0<m/\v=.slice (some ⟨b,o,none⟩) m c/\W.cell? ⟨b,o,none⟩=some (S x):=by
 obtain⟨c,_,_,h⟩:=h;rcases h with⟨h,_⟩|⟨b,o,_,h,d⟩
 ·cases h
 refine⟨b,o,_,c,Oc,h,?_⟩;have:=d 0 Oc
 simpa using this
theorem Xt(x:O)(w:H):(Instr.buildSlice 22 1 #[(0,S x)]).run prog w=.ok (.slice (some ⟨w.heap.size,0,none⟩) 1 1) (w.alloc (.cells #[S x] 9)):=Rz
section
variable {ops:Array Oper} {rest:List Oper} {o:Oper} {a:Act} {w:H} {Q:Exit->Act->H->Prop}
theorem Um(f:o.guard=none)(y:Operand)(k:o.op=.buildSlice 22 1 #[(0,y)])(x:O)(hy:a.eval y=S x)
  (h:∀b c,r7 w c->Sl c.heap.size c (.slice (some ⟨b,0,none⟩) 1 1) ([x].map S)->wpList prog ops Q rest (a.put o.dst (.slice (some ⟨b,0,none⟩) 1 1)) c):wpList prog ops Q (o::rest) a w:=by
 refine wpList_plain f λK hK=>?_;unfold Oper.wp execOp;have e:(#[(0,y)]:Array (Nat×Operand)).map (λ(i,x)=>(i,a.eval x))=#[(0,S x)]:=by simp[hy]
 simp only[k,h2,io,h1,e,Xt];refine hK _ _ (h _ _ ((gT _ _).alloc (ag _) _) ?_);refine⟨1,Oc,by unfold maxLen;omega,.inr ⟨w.heap.size,0,Oc,Oc,λj g=>?_⟩⟩;have d:j=0:=by simpa using g
 subst d;rw[hx];rfl
end
theorem Pg(d:Url)(bv:Z)(p:kW)(w:H)(h8:d.host.six.length=8)(hbv:Sl w.heap.size w bv (d.path.map S))(hbs:Bs d.path)(hr:Rs p.rest)(hq:p.q.length<=307200000)(hf:p.f.length<=307200000)(hE:Env w):Calls prog 120 #[.agg (ai bv d),.agg (aW p)] w (BA w (lG d p)):=by
 have hst:=λW=>oW aR p W M0 M0;have hsl:=λW=>k9 aR p.rest W (by have:=hr.l;omega);obtain⟨us,ng⟩:=V (dp aR p);have h8s:us.host.six.length=8:=by rw[ng];rfl
 have hsc:us.aJ=aR:=by rw[ng];rfl
 have hup:us.path=[]:=by rw[ng];rfl
 have hho:{us with host:={us.host with kind:=1}}={us with host:={H0 with kind:=1}}:=by rw[ng];rfl
 rw[<-ng]at hst;obtain⟨R,hR⟩:=V (lG d p);rw[<-hR];rw[vp]at hR;have hle:=AT (eU aR) p.rest;obtain⟨HE,sU,H8,SV,Bd,Bf,rG,Bg⟩:=er hE hr h8 hbv hbs h8s hsc hup;have WY:=F hho;have HU2:=F (show Nb d p=if d.aJ=aR then {us with host:=d.host}else {us with host:={H0 with kind:=1}} by unfold Nb;rw[ng]);obtain⟨z,hu1⟩:∃z:Url,z={us with host:={H0 with kind:=1}}:=⟨_,rfl⟩;rw[<-ng,<-hu1]at hR;obtain⟨zJ,U1S,U1P,HU1⟩:=dT (show z.host.six.length=8 by rw[hu1];rfl) (show z.aJ=aR by rw[hu1];exact hsc) (show z.path=[] by rw[hu1];exact hup) hu1;generalize uE (eU aR) p.rest=n at *;have HSL:=F hsl;have HR:=F hR;have hbq:=rI d.aJ aR;obtain⟨fs,hfs⟩:=V (E aR);have HST:=fo (∀W,bF prog 121 #[.string ⟨#[102,105,108,101]⟩,.agg (aW p)] W (.agg (ai aI us))) hst;obtain⟨bsc,b7E⟩:=V (E d.aJ);have hbe:(bsc.toList == [102,105,108,101])=decide (d.aJ=aR):=by rw[b7E,<-hbq,aB,aB];rfl
 have Yr:=F b7E;have HFS:=F hfs;obtain⟨t,ht⟩:=V (E p.rest);have htz:t.size=p.rest.length:=by rw[ht,aF]
 have HT:=F ht;have pT:t.extract 1 t.size=E (p.rest.drop 1):=by rw[ht];exact gn p.rest 1 _ (aF p.rest)
 have n9:t.extract 2 t.size=E (p.rest.drop 2):=by rw[ht];exact gn p.rest 2 _ (aF p.rest)
 obtain⟨N,hN⟩:=V (t.size);have P6:t.size=N:=hN.symm;rw[P6]at pT n9;have uO:n<=N:=M0;obtain⟨Yu,Nv,xm,HTZ⟩:=dT pT n9 uO htz;rw[<-hfs,<-ht]at hsl;have HSL:=F hsl;clear h8 hbv hbs hr hq hf hE hsl h8s hsc hup hR hle ng ht pT n9 hN uO htz hho hu1 hst hbq hfs b7E;go_enter func120,ntmps120
 go_upto_region 1 with(refine aM rfl 34 rfl _ _ (eD _) ?_)
 obtain⟨w3,hw3,hz3,U,k1,k2,k3⟩:=three w bv d p
 try rw[show((w.alloc (.cells (ai bv d) 34)).alloc (.cells (aW p) 91)).heap.size=w.heap.size+2 by simp]
 rw[hw3];clear hw3;obtain⟨br,hbr,bx,hbx,bb,hbb⟩:=ax (w.heap.size+2) (w.heap.size+1) (w.heap.size);rw[<-hbr]at k3;rw[<-hbx]at k2;rw[<-hbb]at k1;rw[<-hbr,<-hbx,<-hbb];obtain⟨iS,kM,B3,V3,X3,R3,HD⟩:=ep (show w.heap.size<=br by omega) hbb U k1 k2 k3 (show bb<bx/\bx<br by omega);clear hz3 U k1 k2 k3 hbr hbx hbb;have c0:=V3.o.aE (ry bv d H8.o).aJ
 go_upto_region 2 with(first|(refine kB rfl 3 rfl bx p X3.o rfl ?_)|(go_at_call 121;refine(HST.o _).k λw4 eI=>?_)|(refine aM rfl 34 rfl _ _ (eD _) ?_)|(refine fL rfl 5 11 rfl aI us Bf.o rfl rfl rfl rfl ?_;intro w5 hh U;obtain⟨I5,K5,jR,ug⟩:=dT (OB.of (w0:=w) hh (am B3.o.size eI.o.size) (dw (dw B3.o eI.o) U)) (show K3 bb bx br w4.heap.size bv d p w5 from⟨(V3.o.keep eI.o).keep U,(X3.o.keep eI.o).keep U,(R3.o.keep eI.o).keep U,cO (aN V3.o.lt eI.o.size),cO (aN X3.o.lt eI.o.size),cO (aN R3.o.lt eI.o.size)⟩) (show br<w4.heap.size+1 from rP (aN R3.o.lt eI.o.size)) (show w.heap.size<=w4.heap.size+1 from lw (am B3.o.size eI.o.size));clear hh U))
 generalize w4.heap.size=b at I5 K5 jR ug⊢;clear c0
 go_upto_region 3 with(refine dX rfl 3 13 (.const (.int .i64 1)) rfl w b 34 (ai aI us) I5.o 3 (.int .i64 1) rfl rfl (fP Bf.o P8) bY.2.1 rfl (ai aI z) (by rw[HU1.o,<-WY.o];exact(fO aI us Bf.o).kind 1) ?_;intro w6 i6 t6;have I6:=F i6;have K6:=F<|K5.o.tn t6;clear i6 t6)
 have HBF:=F hbe;have SC:=F<|λ(W:H) (v:Z) (x:Url) (i:OB w b 34 (ai v x) W) (h:x.host.six.length=8) (hs:x.aJ=aR) (k:K3 bb bx br b bv d p W)=>(show W.cell? ⟨b,0,none⟩=some (.string fs)/\W.cell? ⟨bx,2,none⟩=some (.string t)/\W.cell? ⟨bb,18,none⟩=some bv/\W.cell? ⟨bb,0,none⟩=some (.string bsc)from⟨by rw[i.aE (ry v x h).aJ,hs,HFS.o],by rw[HT.o];exact k.cx.aE rfl,k.cb.aE (ry bv d H8.o).path,by rw[Yr.o];exact k.cb.aE (ry bv d H8.o).aJ⟩);obtain⟨d0,d2,d18,db⟩:=SC.o _ _ _ I6.o zJ.o U1S.o K6.o;by_cases hn:2<=n
 ·have qr:=F (show R=iy z (p.rest.drop 2) by rw[HR.o,ge hn])
  have hni:(2:Int)<=n:=M0;have EQ:2<=N:=by have:=xm.o;omega
  have a9a:(2:Int)<=N:=M0;have n9:=Nv.o;obtain⟨s2,hs2⟩:=V (E (p.rest.drop 2));rw[<-hs2]at n9;have HNA:=F<|λW i=>(show Calls prog 161 #[.pointer (some ⟨b,0,none⟩),.string s2] W (Yi w b W (iy z (p.rest.drop 2)))from by rw[hs2];exact vV w b z (p.rest.drop 2) W i zJ.o (by have:=sU.o.l;rw[aj];omega) (sU.o.n _ 2) (HE.o.below i.bL));clear hn hs2 hbe;generalize decide (d.aJ=aR)=fr at *
  go_upto_region 6 with(go_at_call 160;refine(HSL.o _).e ?_)
  cases hO:iy z (p.rest.drop 2)with
  |none =>
   have dI:=F (show R=none by rw[qr.o,hO]);have rL:=F<|λW i=>(show Calls prog 161 #[.pointer (some ⟨b,0,none⟩),.string s2] W λe w'=>e=Ek/\r7 w w'/\Tn b W w' from by have h:=HNA.o W i;rw[hO]at h;exact h);clear hO
   go_wp2_with(go_at_call 161;refine(rL.o _ I6.o).m ?_;rintro e w7⟨rfl,U,_⟩;have B7:=F U;clear U)
   rw[dI.o];exact⟨rfl,rfl,B7.o⟩
  |some u =>
   obtain⟨dI,rL,U8⟩:=cZ (show R=some u by rw[qr.o,hO]) (λW i=>(show Calls prog 161 #[.pointer (some ⟨b,0,none⟩),.string s2] W λe w'=>e=.returned (.tuple #[])/\(∃A,OB w b 34 (ai A u) w'/\w'.ownsRow W.heap.size 9 1 A u.path.length (Strs u.path))/\Tn b W w' from by have h:=HNA.o W i;rw[hO]at h;exact h)) (yM zJ.o hO);clear hO
   go_upto_region 7 with(go_at_call 161;refine(rL.o _ I6.o).m ?_;rintro e w7⟨rfl,⟨A,i7,o7⟩,t7⟩;obtain⟨J,O7,K7⟩:=cZ i7 (ea o7 (show b+1<=_ from I6.o.lt)) (K6.o.tn t7);clear i7 o7 t7)
   go_wp2_with(first|(refine eP rfl 5 rfl w b A u J.o U8.o rfl ?_)|(refine fV rfl 4 28 rfl w br (OB.of K7.o.cr iS.o J.o.bL) A u U8.o (bm O7.o) rfl rfl ?_;intro wZ C D;have B:=F C;have OZ:=F<|ea (D.row O7.o jR.o) ug.o;clear C D))
   rw[dI.o];exact ed (u:=u) results120 U8.o rfl B.o ⟨A,rfl,OZ.o,B.o.bL⟩
 have HI:=F (show(prog.info? 32).map (·.size)=some (aS d.host).length by rw[jb];simp[aS,H8.o]);have a9N:n=1\/n=0:=M0;rcases a9N with rfl|rfl
 ·obtain⟨s1,hs1⟩:=V (E (p.rest.drop 1))
  have ma:=F<|λW (l:List O) v (h:Sl W.heap.size W v (l.map S)) (Y:l.length<=1) (I:∀x∈l,x.length<=1024000000)=>(show Calls prog 164 #[.string fs,v,.string s1] W (ga W 9 (Strs (da aR l (p.rest.drop 1))))from by rw[HFS.o,hs1];exact gj aR (p.rest.drop 1) l v W h (by have:=sU.o.l;rw[aj];omega) M0 I);have mY:=F<|λW=>ma.o W [] aI Sl.nil Oc (λ_ h=>(by cases h));have tT:=fo (∀W,bP prog 163 #[.string s1] W (.bool (fx (p.rest.drop 1)))) (λW=>by rw[hs1];exact wP (p.rest.drop 1) W (by have:=sU.o.l;rw[aj];omega));have hN1:1<=N:=xm.o;have UY:(1:Int)<=N:=M0;have pT:=Yu.o;rw[<-hs1]at pT;clear hs1;by_cases s:d.aJ=aR
  ·rw[gr s]at hbe
   obtain⟨c,L⟩:=V ({z with host:=d.host});obtain⟨U2,g,Ta,xo⟩:=dT L (show c.host.six.length=8 by rw[L];exact H8.o) (show c.aJ=aR by rw[L];exact U1S.o) (show R=some {c with path:=da aR (yq d (p.rest.drop 1)) (p.rest.drop 1)} by rw[HR.o,gc hn,ge rfl,ge s,HU2.o,ge s,L,HU1.o]);clear s L
   go_upto_region 12 with(first|(go_at_call 160;refine(HSL.o _).m ?_;rintro e w7⟨rfl,hw⟩;subst hw)|(refine QO rfl 32 30 rfl bb 3 (aS d.host) _ underlying32 rfl HI.o rfl (λj v hj=>K6.o.cb.aE ((ry bv d H8.o).host j v hj)) ?_)|(refine rh rfl 32 32 31 rfl w b 34 (ai aI z) I6.o 3 (aS d.host) rfl rfl (zp zJ.o H8.o) HI.o jX (ai aI c) (by rw[U2.o];exact sP aI z d.host H8.o zJ.o) ?_;intro w7 i7 t7;have J:=F i7;have K7:=F<|K6.o.tn t7;have e0:=(SC.o _ _ _ J.o g.o Ta.o K7.o).2.1;clear i7 t7))
   clear d0 d2 d18 db;obtain⟨d0,d2,d18,db⟩:=SC.o _ _ _ J.o g.o Ta.o K7.o;have PN:=SV.o.below J.o.bL;unfold yq at xo;obtain⟨lp,hlp⟩:=V (d.path);rw[<-hlp]at PN xo;have Xa:=fo (∀x∈lp,x.length<=1024000000) (by rw[hlp];exact Bd.o.all);clear hlp;cases lp with
   |nil =>
    obtain⟨ab,cb,rfl⟩:=Mr PN;have dI:=F (show R=some {c with path:=da aR [] (p.rest.drop 1)} by rw[xo.o];simp);clear PN
    go_upto_region 21 with(first|(go_at_call 164;refine(mY.o _).m ?_;rintro e w9⟨A,rfl,M,U⟩;obtain⟨O9,I9,K9⟩:=cZ (ea (eE M) (show b+1<=_ from J.o.lt)) (J.o.below U) (K7.o.below U);clear M U)|(refine dX rfl 22 74 73 rfl w b 34 (ai aI c) I9.o 18 A rfl rfl (fP g.o P8) dC (bm O9.o) (ai A {c with path:=da aR [] (p.rest.drop 1)}) ((fO aI c g.o).path _ _) ?_;intro xr qW t10;obtain⟨nl,rO,T⟩:=cZ qW (K9.o.tn t10) (t10.row O9.o (bV b));clear qW t10))
    go_wp2_with(first|(refine eP rfl 5 rfl w b A {c with path:=da aR [] (p.rest.drop 1)} nl.o g.o rfl ?_)|(refine fV rfl 4 103 rfl w br (OB.of rO.o.cr iS.o nl.o.bL) A {c with path:=da aR [] (p.rest.drop 1)} g.o (bm T.o) rfl rfl ?_;intro wZ C D;have B:=F C;have OZ:=F<|ea (D.row T.o jR.o) ug.o;clear C D))
    rw[dI.o];exact ed (u:={c with path:=da aR [] (p.rest.drop 1)}) results120 g.o rfl B.o ⟨A,rfl,OZ.o,B.o.bL⟩
   |cons x r =>
    obtain⟨qb,qo,qm,qc,hqm,rfl,hqx⟩:=GV PN;have hqi:(0:Int)<qm:=M0;have hnm:=λW=>An x W (Xa.o x Oc);have a8k:=F<|Xa.o x Oc;obtain⟨xx,nB⟩:=V (E x);rw[<-nB]at hnm;have b4S:w7.cell? ⟨qb,qo,none⟩=some (.string xx):=by rw[nB];exact hqx
    have HXX:=F nB;clear PN hqx nB;have YA:=fo (R=some {c with path:=da aR (if jN x=true/\fx (p.rest.drop 1)=false then [x]else []) (p.rest.drop 1)}) xo.o;cases hN:jN x with
    |false =>
     rw[hN]at hnm;have mX:=F hnm;have dI:=F (show R=some {c with path:=da aR [] (p.rest.drop 1)} by rw[YA.o,gc (λh=>by rw[hN]at h;cases h.1)]);clear hnm hN
     go_upto_region 21 with(first|(go_at_call 162;refine(mX.o _).e ?_)|(go_at_call 164;refine(mY.o _).m ?_;rintro e w9⟨A,rfl,M,U⟩;obtain⟨O9,I9,K9⟩:=cZ (ea (eE M) (show b+1<=_ from J.o.lt)) (J.o.below U) (K7.o.below U);clear M U)|(refine dX rfl 22 74 73 rfl w b 34 (ai aI c) I9.o 18 A rfl rfl (fP g.o P8) dC (bm O9.o) (ai A {c with path:=da aR [] (p.rest.drop 1)}) ((fO aI c g.o).path _ _) ?_;intro xr qW t10;obtain⟨nl,rO,T⟩:=cZ qW (K9.o.tn t10) (t10.row O9.o (bV b));clear qW t10))
     go_wp2_with(first|(refine eP rfl 5 rfl w b A {c with path:=da aR [] (p.rest.drop 1)} nl.o g.o rfl ?_)|(refine fV rfl 4 103 rfl w br (OB.of rO.o.cr iS.o nl.o.bL) A {c with path:=da aR [] (p.rest.drop 1)} g.o (bm T.o) rfl rfl ?_;intro wZ C D;have B:=F C;have OZ:=F<|ea (D.row T.o jR.o) ug.o;clear C D))
     rw[dI.o];exact ed (u:={c with path:=da aR [] (p.rest.drop 1)}) results120 g.o rfl B.o ⟨A,rfl,OZ.o,B.o.bL⟩
    |true =>
     rw[hN]at hnm;have mX:=F hnm;cases hS:fx (p.rest.drop 1)with
     |true =>
      rw[hS]at tT;have dI:=F (show R=some {c with path:=da aR [] (p.rest.drop 1)} by rw[YA.o,gc (λh=>by rw[hS]at h;cases h.2)]);clear hnm hN hS
      go_upto_region 21 with(first|(go_at_call 162;refine(mX.o _).e ?_)|(go_at_call 163;refine(tT.o _).e ?_)|(go_at_call 164;refine(mY.o _).m ?_;rintro e w9⟨A,rfl,M,U⟩;obtain⟨O9,I9,K9⟩:=cZ (ea (eE M) (show b+1<=_ from J.o.lt)) (J.o.below U) (K7.o.below U);clear M U)|(refine dX rfl 22 74 73 rfl w b 34 (ai aI c) I9.o 18 A rfl rfl (fP g.o P8) dC (bm O9.o) (ai A {c with path:=da aR [] (p.rest.drop 1)}) ((fO aI c g.o).path _ _) ?_;intro xr qW t10;obtain⟨nl,rO,T⟩:=cZ qW (K9.o.tn t10) (t10.row O9.o (bV b));clear qW t10))
      go_wp2_with(first|(refine eP rfl 5 rfl w b A {c with path:=da aR [] (p.rest.drop 1)} nl.o g.o rfl ?_)|(refine fV rfl 4 103 rfl w br (OB.of rO.o.cr iS.o nl.o.bL) A {c with path:=da aR [] (p.rest.drop 1)} g.o (bm T.o) rfl rfl ?_;intro wZ C D;have B:=F C;have OZ:=F<|ea (D.row T.o jR.o) ug.o;clear C D))
      rw[dI.o];exact ed (u:={c with path:=da aR [] (p.rest.drop 1)}) results120 g.o rfl B.o ⟨A,rfl,OZ.o,B.o.bL⟩
     |false =>
      rw[hS]at tT;have dI:=F (show R=some {c with path:=da aR [x] (p.rest.drop 1)} by rw[YA.o,ge ⟨hN,hS⟩]);have EG:=F<|λW v h=>ma.o W [x] v h Oc (λy hy=>(dS.mp hy)▸a8k.o);clear hnm hN hS
      go_upto_region 21 with(first|(go_at_call 162;refine(mX.o _).e ?_)|(go_at_call 163;refine(tT.o _).e ?_)|(refine Um rfl 67 rfl x (congrArg Value.string HXX.o) ?_;intro gb wB U lx;obtain⟨IB,KB,LX⟩:=cZ (J.o.below U) (K7.o.below U) lx;have eB:=(SC.o _ _ _ IB.o g.o Ta.o KB.o).1;clear U lx)|(go_at_call 164;refine(EG.o _ _ LX.o).m ?_;rintro e w9⟨A,rfl,M,U⟩;obtain⟨O9,I9,K9⟩:=cZ (ea (eE M) (show b+1<=_ from IB.o.lt)) (IB.o.below U) (KB.o.below U);clear M U)|(refine dX rfl 22 74 73 rfl w b 34 (ai aI c) I9.o 18 A rfl rfl (fP g.o P8) dC (bm O9.o) (ai A {c with path:=da aR [x] (p.rest.drop 1)}) ((fO aI c g.o).path _ _) ?_;intro xr qW t10;obtain⟨nl,rO,T⟩:=cZ qW (K9.o.tn t10) (t10.row O9.o (bV b));clear qW t10))
      go_wp2_with(first|(refine eP rfl 5 rfl w b A {c with path:=da aR [x] (p.rest.drop 1)} nl.o g.o rfl ?_)|(refine fV rfl 4 103 rfl w br (OB.of rO.o.cr iS.o nl.o.bL) A {c with path:=da aR [x] (p.rest.drop 1)} g.o (bm T.o) rfl rfl ?_;intro wZ C D;have B:=F C;have OZ:=F<|ea (D.row T.o jR.o) ug.o;clear C D))
      rw[dI.o];exact ed (u:={c with path:=da aR [x] (p.rest.drop 1)}) results120 g.o rfl B.o ⟨A,rfl,OZ.o,B.o.bL⟩
  rw[gh s]at hbe;have dI:=F (show R=some {z with path:=da aR [] (p.rest.drop 1)} by rw[HR.o,gc hn,ge rfl,gc s,HU2.o,gc s,HU1.o]);clear s
  go_upto_region 21 with(first|(go_at_call 160;refine(HSL.o _).e ?_)|(go_at_call 164;refine(mY.o _).m ?_;rintro e w9⟨A,rfl,M,U⟩;obtain⟨O9,I9,K9⟩:=cZ (ea (eE M) (show b+1<=_ from I6.o.lt)) (I6.o.below U) (K6.o.below U);clear M U)|(refine dX rfl 22 74 73 rfl w b 34 (ai aI z) I9.o 18 A rfl rfl (fP zJ.o P8) dC (bm O9.o) (ai A {z with path:=da aR [] (p.rest.drop 1)}) ((fO aI z zJ.o).path _ _) ?_;intro xr qW t10;obtain⟨nl,rO,T⟩:=cZ qW (K9.o.tn t10) (t10.row O9.o (bV b));clear qW t10))
  go_wp2_with(first|(refine eP rfl 5 rfl w b A {z with path:=da aR [] (p.rest.drop 1)} nl.o zJ.o rfl ?_)|(refine fV rfl 4 103 rfl w br (OB.of rO.o.cr iS.o nl.o.bL) A {z with path:=da aR [] (p.rest.drop 1)} zJ.o (bm T.o) rfl rfl ?_;intro wZ C D;have B:=F C;have OZ:=F<|ea (D.row T.o jR.o) ug.o;clear C D))
  rw[dI.o];exact ed (u:={z with path:=da aR [] (p.rest.drop 1)}) results120 zJ.o rfl B.o ⟨A,rfl,OZ.o,B.o.bL⟩
 have ma:=F<|λW (l:List O) v (h:Sl W.heap.size W v (l.map S)) (Y:l.length<=307200000) (I:∀x∈l,x.length<=1024000000)=>(show Calls prog 164 #[.string fs,v,.string t] W (ga W 9 (Strs (da aR l p.rest)))from by rw[HFS.o,HT.o];exact gj aR p.rest l v W h sU.o.l Y I);have mY:=F<|λW=>ma.o W [] aI Sl.nil Oc (λ_ h=>(by cases h));have tT:=fo (∀W,bP prog 163 #[.string t] W (.bool (fx p.rest))) (λW=>by rw[HT.o];exact wP p.rest W (by have:=sU.o.l;omega));by_cases s:d.aJ=aR
 ·rw[gr s]at hbe
  obtain⟨c,L⟩:=V ({z with host:=d.host});obtain⟨U2,g,Ta⟩:=cZ L (show c.host.six.length=8 by rw[L];exact H8.o) (show c.aJ=aR by rw[L];exact U1S.o)
  have xo:=F (show R=if p.rest=[]then some (fM c d)else if fx p.rest=false then some {c with path:=da aR (cE aR d.path) p.rest}else some {c with path:=da aR [] p.rest} by
   rw[HR.o,gc hn,gc M0];have e:Nb d p=c:=by rw[HU2.o,ge s,L,HU1.o]
   rw[e];simp only[s,true_and])
  clear s L
  go_upto_region 17 with(first|(go_at_call 160;refine(HSL.o _).m ?_;rintro e w7⟨rfl,hw⟩;subst hw)|(refine QO rfl 32 30 rfl bb 3 (aS d.host) _ underlying32 rfl HI.o rfl (λj v hj=>K6.o.cb.aE ((ry bv d H8.o).host j v hj)) ?_)|(refine rh rfl 32 32 31 rfl w b 34 (ai aI z) I6.o 3 (aS d.host) rfl rfl (zp zJ.o H8.o) HI.o jX (ai aI c) (by rw[U2.o];exact sP aI z d.host H8.o zJ.o) ?_;intro w7 i7 t7;have J:=F i7;have K7:=F<|K6.o.tn t7;have e0:=(SC.o _ _ _ J.o g.o Ta.o K7.o).2.1;clear i7 t7))
  clear d0 d2 d18 db;obtain⟨d0,d2,d18,db⟩:=SC.o _ _ _ J.o g.o Ta.o K7.o;by_cases hrest:p.rest=[]
  ·have dI:=F (show R=some (fM c d) by rw[xo.o,ge hrest])
   have Y1:=F (show(fM c d).host.six.length=8 by rw[mV];exact g.o);have he1:t.toList.isEmpty=true:=by rw[HT.o,aB,hrest];rfl
   clear hrest
   go_upto_region 21 with(first|(refine eP rfl 2 rfl w bb bv d (OB.of K7.o.cb (bW kM.o.symm) J.o.bL) H8.o rfl ?_)|(go_at_call 165;refine(ru w b aI bv c d _ J.o g.o H8.o ((SV.o.below J.o.bL).more J.o.bL.size) (by have:=Bd.o.le;omega)).m ?_;rintro e w8⟨rfl,A,i8,o8,t8⟩;obtain⟨I8,O8,K8⟩:=cZ i8 (ea o8 (show b+1<=_ from J.o.lt)) (K7.o.tn t8);clear i8 o8 t8))
   go_wp2_with(first|(refine eP rfl 5 rfl w b A (fM c d) I8.o Y1.o rfl ?_)|(refine fV rfl 4 103 rfl w br (OB.of K8.o.cr iS.o I8.o.bL) A (fM c d) Y1.o (bm O8.o) rfl rfl ?_;intro wZ C D;have B:=F C;have OZ:=F<|ea (D.row O8.o jR.o) ug.o;clear C D))
   rw[dI.o];exact ed (u:=(fM c d)) results120 Y1.o rfl B.o ⟨A,rfl,by rw[wR];exact OZ.o,B.o.bL⟩
  have he1:t.toList.isEmpty=false:=by
   have:¬t.toList=[]:=by rw[HT.o,aB];exact hrest
   simpa using this
  cases hS:fx p.rest with
  |true =>
   rw[hS]at tT;have dI:=F (show R=some {c with path:=da aR [] p.rest} by rw[xo.o,gc hrest,gc (by simp[hS])]);clear hrest hS
   go_upto_region 21 with(first|(go_at_call 163;refine(tT.o _).e ?_)|(go_at_call 164;refine(mY.o _).m ?_;rintro e w9⟨A,rfl,M,U⟩;obtain⟨O9,I9,K9⟩:=cZ (ea (eE M) (show b+1<=_ from J.o.lt)) (J.o.below U) (K7.o.below U);clear M U)|(refine dX rfl 22 38 37 rfl w b 34 (ai aI c) I9.o 18 A rfl rfl (fP g.o P8) dC (bm O9.o) (ai A {c with path:=da aR [] p.rest}) ((fO aI c g.o).path _ _) ?_;intro xr qW t10;obtain⟨nl,rO,T⟩:=cZ qW (K9.o.tn t10) (t10.row O9.o (bV b));clear qW t10))
   go_wp2_with(first|(refine eP rfl 5 rfl w b A {c with path:=da aR [] p.rest} nl.o g.o rfl ?_)|(refine fV rfl 4 103 rfl w br (OB.of rO.o.cr iS.o nl.o.bL) A {c with path:=da aR [] p.rest} g.o (bm T.o) rfl rfl ?_;intro wZ C D;have B:=F C;have OZ:=F<|ea (D.row T.o jR.o) ug.o;clear C D))
   rw[dI.o];exact ed (u:={c with path:=da aR [] p.rest}) results120 g.o rfl B.o ⟨A,rfl,OZ.o,B.o.bL⟩
  |false =>
   rw[hS]at tT;obtain⟨dI,a71,HSY⟩:=cZ (show R=some {c with path:=da aR (cE aR d.path) p.rest} by rw[xo.o,gc hrest,ge hS]) (λW (h:Sl W.heap.size W bv (d.path.map S))=>(show Calls prog 166 #[.string fs,bv] W (ga W 9 (Strs (cE aR d.path)))from by rw[HFS.o];exact tK aR d.path bv W h (by have:=Bd.o.le;omega) Bd.o.all)) (λW v h=>ma.o W (cE aR d.path) v h (by have:=sI aR d.path;have:=Bd.o.le;omega) (λx X=>Bd.o.all x (kh X)));generalize da aR (cE aR d.path) p.rest=PP at HSY dI;clear hrest hS
   go_upto_region 20 with(go_at_call 163;refine(tT.o _).e ?_)
   clear d0 d2 d18 db;obtain⟨I8,K8,SC3⟩:=cZ (J.o.below (bG (bg _))) (K7.o.below (bG (bg _))) (λ(W:H) (v:Z) (x:Url) (i:OB w b 34 (ai v x) W) (h:x.host.six.length=8) (hs:x.aJ=aR) (k:K3 bb bx br b bv d p W)=>(show W.cell? ⟨b,0,none⟩=some (.string fs)/\W.cell? ⟨bx,2,none⟩=some (.string t)/\W.cell? ⟨bb,18,none⟩=some bv from⟨(SC.o W v x i h hs k).1,(SC.o W v x i h hs k).2.1,(SC.o W v x i h hs k).2.2.1⟩));have JT:=F<|SC3.o _ _ _ I8.o g.o Ta.o K8.o;refine wp_region_held_drew (S:=λW=>W.cell? ⟨b,0,none⟩=some (.string fs)/\W.cell? ⟨bx,2,none⟩=some (.string t)/\W.cell? ⟨bb,18,none⟩=some bv) Rz (by with_reducible first|exact zz.o|exact rK.o|exact JU.o|exact JT.o) (λhHeld=>?_);refine ek 0 ?_;refine e_l 1 rfl (λ_ hS=>bK 9 92 rfl b 0 (.string fs) _ underlying9 rfl rfl hS.1) ?_
   refine ek 2 ?_;refine e_l 3 rfl (λ_ hS=>bK 9 94 rfl b 0 (.string fs) _ underlying9 rfl rfl hS.1) ?_
   refine ek 4 ?_;refine e_l 5 rfl (λ_ hS=>bK 22 96 rfl bb 18 bv _ underlying22 rfl rfl hS.2.2) ?_
   refine ek 7 ?_;refine e_l 8 rfl (λ_ hS=>bK 9 99 rfl bx 2 (.string t) _ underlying9 rfl rfl hS.2.1) ?_
   refine rn 6 Rz rfl r5 (λK hK=>?_)
   go_simp
   refine(a71.o _ ((SV.o.below I8.o.bL).more I8.o.bL.size)).m ?_;rintro e w9⟨sv,rfl,M,U⟩;obtain⟨O9,I9,K9⟩:=cZ (Sl.g9 M) (I8.o.below U) (K8.o.below U);have JU:=F<|SC3.o _ _ _ I9.o g.o Ta.o K9.o;clear M U;refine hK.out _ _ JU.o (λhHeld=>?_);clear hK K;refine rn 9 Rz rfl r5 (λK hK=>?_)
   go_simp
   refine(HSY.o _ _ O9.o).m ?_;rintro e xr⟨A,rfl,o10,U⟩;obtain⟨T,nl,rO⟩:=cZ (ea (eE o10) (show b+1<=_ from I9.o.lt)) (I9.o.below U) (K9.o.below U);have rK:=F<|SC3.o _ _ _ nl.o g.o Ta.o rO.o;clear o10 U;refine hK.out _ _ rK.o (λhHeld=>?_);clear hK K;refine ek 10 ?_;refine rn 11 Rz rfl r5 (λK hK=>?_);refine fX 22 102 101 rfl w b 34 (ai aI c) nl.o 18 A rfl rfl (fP g.o P8) dC (bm T.o) (ai A {c with path:=PP}) ((fO aI c g.o).path _ _) ?_;intro Eb i11 t11;obtain⟨xP,H5,YZ⟩:=cZ i11 (rO.o.tn t11) (t11.row T.o (bV b));have zz:=F<|SC3.o _ _ {c with path:=PP} xP.o g.o Ta.o H5.o;clear i11 t11;refine hK.out _ _ zz.o (λhHeld=>?_);clear hK K
   try simp only[Act.put]
   refine wpAnyH_done Rz ?_ _
   go_wp2_with(first|(refine eP rfl 5 rfl w b A {c with path:=PP} xP.o g.o rfl ?_)|(refine fV rfl 4 103 rfl w br (OB.of H5.o.cr iS.o xP.o.bL) A {c with path:=PP} g.o (bm YZ.o) rfl rfl ?_;intro wZ C D;have B:=F C;have OZ:=F<|ea (D.row YZ.o jR.o) ug.o;clear C D))
   rw[dI.o];exact ed (u:={c with path:=PP}) results120 g.o rfl B.o ⟨A,rfl,OZ.o,B.o.bL⟩
 rw[gh s]at hbe;have dI:=F (show R=some {z with path:=da aR [] p.rest} by rw[HR.o,gc hn,gc M0,gc (λh=>s h.1),gc (λh=>s h.1),HU2.o,gc s,HU1.o]);clear s
 go_upto_region 21 with(first|(go_at_call 160;refine(HSL.o _).e ?_)|(go_at_call 164;refine(mY.o _).m ?_;rintro e w9⟨A,rfl,M,U⟩;obtain⟨O9,I9,K9⟩:=cZ (ea (eE M) (show b+1<=_ from I6.o.lt)) (I6.o.below U) (K6.o.below U);clear M U)|(refine dX rfl 22 38 37 rfl w b 34 (ai aI z) I9.o 18 A rfl rfl (fP zJ.o P8) dC (bm O9.o) (ai A {z with path:=da aR [] p.rest}) ((fO aI z zJ.o).path _ _) ?_;intro xr qW t10;obtain⟨nl,rO,T⟩:=cZ qW (K9.o.tn t10) (t10.row O9.o (bV b));clear qW t10))
 go_wp2_with(first|(refine eP rfl 5 rfl w b A {z with path:=da aR [] p.rest} nl.o zJ.o rfl ?_)|(refine fV rfl 4 103 rfl w br (OB.of rO.o.cr iS.o nl.o.bL) A {z with path:=da aR [] p.rest} zJ.o (bm T.o) rfl rfl ?_;intro wZ C D;have B:=F C;have OZ:=F<|ea (D.row T.o jR.o) ug.o;clear C D))
 rw[dI.o];exact ed (u:={z with path:=da aR [] p.rest}) results120 zJ.o rfl B.o ⟨A,rfl,OZ.o,B.o.bL⟩

section
variable {b:Url} {p:kW} {u:Url}
theorem Qx(Y:p.gR=true)(I:p.aJ=aR):eL b p=lG b p:=by unfold eL;rw[ge (.inl ⟨Y,I⟩)]
theorem Qy(Y:p.gR=false)(I:b.opq=false)(c:b.aJ=aR):eL b p=lG b p:=by unfold eL;rw[ge (.inr ⟨Y,I,c⟩)]
theorem Gj(Y:p.gR=true)(I:p.aJ≠aR):¬((p.gR=true/\p.aJ=aR)\/(p.gR=false/\b.opq=false/\b.aJ=aR)):=by
 rintro(h|h)
 ·exact I h.2
 rw[Y]at h;cases h.1
theorem Qw(Y:p.gR=true)(I:p.aJ≠aR)(c:eU p.aJ=true)(d:p.aJ≠b.aJ\/p.rest.take 2=[47,47]):eL b p=jS (dp p.aJ p) (p.rest.drop (uE (eU p.aJ) p.rest)):=by
 unfold eL;rw[gc (Gj Y I),ge ⟨⟨Y,c⟩,d⟩]
theorem QA(Y:p.gR=true)(I:p.aJ≠aR)(c:eU p.aJ=false):eL b p=gi p:=by
 unfold eL;rw[gc (Gj Y I),gc (by simp[c]),ge ⟨Y,by simp[c]⟩]
theorem Qz(Y:p.gR=true)(I:p.aJ≠aR)(c:eU p.aJ=true)(d:p.aJ=b.aJ)(e:p.rest.take 2 ≠ [47,47]):eL b p=if b.opq=true then k5 b p else ri b p:=by
 unfold eL;rw[gc (Gj Y I),gc (λh=>h.2.elim (λh=>h d) e),gc (λh=>h.2 c)]
theorem QB(Y:p.gR=false)(I:¬(b.opq=false/\b.aJ=aR)):eL b p=if b.opq=true then k5 b p else ri b p:=by
 unfold eL;rw[gc (λh=>h.elim (λh=>by rw[Y]at h;cases h.1) (λh=>I h.2)),gc (λh=>by rw[Y]at h;cases h.1.1),gc (λh=>by rw[Y]at h;cases h.1)]
theorem vq(c:b.host.six.length=8)(h:lG b p=some u):u.host.six.length=8:=by
 rw[vp]at h
 have I:(Nb b p).host.six.length=8:=by
  unfold Nb
  split
  ·exact c
  rfl
 split at h
 ·exact yM (u:={dp aR p with host:={H0 with kind:=1}}) rfl h
 split at h
 ·injection h with h;rw[<-h];exact I
 split at h
 ·injection h with h;rw[<-h,mV];exact I
 split at h
 iterate 2
  ·injection h with h;rw[<-h];exact I
theorem yN(h:gi p=some u):u.host.six.length=8:=by
 unfold gi at h;dsimp only at h
 split at h
 ·exact jT h
 ·injection h with h;rw[<-h];rfl
 injection h with h;rw[<-h];rfl
theorem vv(c:b.host.six.length=8)(h:k5 b p=some u):u.host.six.length=8:=by
 unfold k5 at h
 split at h
 ·cases h
 injection h with h;rw[<-h];exact c
theorem AI(c:b.host.six.length=8)(h:ri b p=some u):u.host.six.length=8:=by
 unfold ri at h;dsimp only at h
 split at h
 ·exact jT h
 split at h
 ·exact jT h
 split at h
 ·injection h with h;rw[<-h];exact c
 split at h
 ·injection h with h;rw[<-h,mV];exact c
 injection h with h;rw[<-h];exact c
theorem ot(c:b.host.six.length=8)(h:eL b p=some u):u.host.six.length=8:=by
 unfold eL at h
 split at h
 ·exact vq c h
 split at h
 ·exact jT h
 split at h
 ·exact yN h
 split at h
 ·exact vv c h
 exact AI c h
end
theorem Ve(l:O):Lib.hasPrefix l [47,47]=decide (l.take 2=[47,47]):=by
 rw[bX,Vd,gx];constructor
 ·rintro⟨r,rfl⟩;rfl
 intro h;refine⟨l.drop 2,?_⟩;have:=cT 2 l;rw[h]at this;exact this.symm
theorem MJ(d:Url)(bv:Z)(p:kW)(w:H)(h8:d.host.six.length=8)(hbv:Sl w.heap.size w bv (d.path.map S))(hbs:Bs d.path)(hr:Rs p.rest)(hq:p.q.length<=307200000)(hf:p.f.length<=307200000)(hE:Env w):Calls prog 77 #[.agg (ai bv d),.agg (aW p)] w (BA w (eL d p)):=by
 obtain⟨WV,zD,Bw,HOT⟩:=dT (λW (U:r7 w W)=>Pg d bv p W h8 ((hbv.below U).more U.size) hbs hr hq hf (hE.below U)) (λW (U:r7 w W)=>Pm d bv p W h8 ((hbv.below U).more U.size) hbs.le hf) (λW (U:r7 w W)=>AJ d bv p W h8 ((hbv.below U).more U.size) hbs hr hq hf (hE.below U)) (λW (U:r7 w W)=>GF p W hr hq hf (hE.below U));obtain⟨R,hR⟩:=V (eL d p);rw[<-hR];have hse:=rI p.aJ aR;have hbe:=rI d.aJ aR;have T:=rI p.aJ d.aJ;obtain⟨KE,FX,bsc,b7E,t,ht⟩:=ax (E p.aJ) (E d.aJ) (E p.rest);rw[<-FX,aB aR]at hse;rw[<-b7E,aB aR]at hbe;rw[<-FX,<-b7E]at T;have vI:(KE.toList == [102,105,108,101])=decide (p.aJ=aR):=hse;have vD:(bsc.toList == [102,105,108,101])=decide (d.aJ=aR):=hbe;obtain⟨ji,Nw,HST,S3,HE,sU,H8,SV⟩:=er (show ∀W,bP prog 119 #[.string KE] W (.bool (eU p.aJ))from λW=>by rw[FX];exact gl p.aJ W) (show ∀W,bP prog 83 #[.string t,.string ⟨#[47,47]⟩] W (.bool (decide (p.rest.take 2=[47,47])))from λW=>by rw[ht,<-Ve];exact mE p.rest [47,47] W) (show ∀W,bF prog 121 #[.string KE,.agg (aW p)] W (.agg (ai aI (dp p.aJ p)))from λW=>by rw[FX];exact oW p.aJ p W M0 M0) (show ∀W,bP prog 123 #[.string KE,.string t] W (S (p.rest.drop (uE (eU p.aJ) p.rest)))from λW=>by rw[FX,ht];exact pL p.aJ p.rest W (by have:=hr.l;omega)) hE hr h8 hbv;obtain⟨HR,Yz,Yr,HT⟩:=dT hR FX b7E ht;clear h8 hbv hbs hr hq hf hE hR hse hbe FX b7E ht;go_enter func77,ntmps77
 go_upto_region 1 with(refine aM rfl 34 rfl _ _ (eD _) ?_)
 obtain⟨w3,hw3,hz3,U,k1,k2,k3⟩:=three w bv d p
 try rw[show((w.alloc (.cells (ai bv d) 34)).alloc (.cells (aW p) 91)).heap.size=w.heap.size+2 by simp]
 rw[hw3];clear hw3;obtain⟨br,hbr,K,hbx,bb,hbb⟩:=ax (w.heap.size+2) (w.heap.size+1) (w.heap.size);rw[<-hbr]at k3;rw[<-hbx]at k2;rw[<-hbb]at k1;rw[<-hbr,<-hbx,<-hbb];obtain⟨iS,kM,k,V3,X3,R3,HD,x⟩:=er (show w.heap.size<=br by omega) hbb U k1 k2 k3 (show bb<K/\K<br by omega) (show br<w3.heap.size/\w.heap.size<=w3.heap.size by omega);clear hz3 U k1 k2 k3 hbr hbx hbb;have d0:=X3.o.aE (j:=0) (v:=.bool p.gR) rfl;have d1:w3.cell? ⟨K,1,none⟩=some (.string KE):=by rw[Yz.o];exact X3.o.aE rfl
 have d2:w3.cell? ⟨K,2,none⟩=some (.string t):=by rw[HT.o];exact X3.o.aE rfl
 have c0:w3.cell? ⟨bb,0,none⟩=some (.string bsc):=by rw[Yr.o];exact V3.o.aE (ry bv d H8.o).aJ
 have C:=V3.o.aE (ry bv d H8.o).opq;cases hS:p.gR with
 |true =>
  rw[hS]at d0;by_cases hF:p.aJ=aR
  ·rw[gr hF]at vI
   have z:=F<|HR.o.trans (Qx hS hF);clear hS hF
   go_upto_region 4 with(go_at_call 119;refine(ji.o _).e ?_)
   clear d0 d1 d2 c0 C vI vD T;cases c:lG d p with
   |none =>
    have r:=F (show R=none by rw[z.o,c]);have B:=F<|λW U=>(show Calls prog 120 #[.agg (ai bv d),.agg (aW p)] W λe g=>e=Ek/\r7 W g from by have h:=WV.o W U;rw[c]at h;exact h);clear c
    go_wp2_with(first|(refine eP rfl 2 rfl w bb bv d (OB.of V3.o (bW kM.o.symm) k.o) H8.o rfl ?_)|(refine kB rfl 3 rfl K p X3.o rfl ?_)|(go_at_call 120;refine(B.o _ k.o).k λw7 U=>?_;have s:=F<|dw k.o U.o;clear U))
    rw[r.o];exact⟨rfl,rfl,s.o⟩
   |some u =>
    obtain⟨r,B,y⟩:=cZ (show R=some u by rw[z.o,c]) (λW U=>(show Calls prog 120 #[.agg (ai bv d),.agg (aW p)] W λe g=>∃A,e=.returned (.agg (ai A u))/\g.ownsRow W.heap.size 9 1 A u.path.length (Strs u.path)/\r7 W g from by have h:=WV.o W U;rw[c]at h;exact h)) (vq H8.o c);clear c
    go_wp2_with(first|(refine eP rfl 2 rfl w bb bv d (OB.of V3.o (bW kM.o.symm) k.o) H8.o rfl ?_)|(refine kB rfl 3 rfl K p X3.o rfl ?_)|(go_at_call 120;refine(B.o _ k.o).m ?_;rintro e w7⟨A,rfl,M,U⟩;obtain⟨J,s,R7⟩:=cZ M (dw k.o U) (R3.o.keep U);clear M U)|(refine fV rfl 4 37 rfl w br (OB.of R7.o iS.o s.o) A u y.o (bm J.o) rfl rfl ?_;intro wZ L N;have D:=F L;have OZ:=F<|ea (N.row J.o x.o.1) x.o.2;clear L N))
    rw[r.o];exact ed (u:=u) results77 y.o rfl D.o ⟨A,rfl,OZ.o,D.o.bL⟩
  rw[gh hF]at vI;cases hP:eU p.aJ with
  |false =>
   rw[hP]at ji;have z:=F<|HR.o.trans (QA hS hF hP);clear hS hF hP
   go_upto_region 10 with(go_at_call 119;refine(ji.o _).e ?_)
   clear d0 d1 d2 c0 C vI vD T;cases c:gi p with
   |none =>
    have r:=F (show R=none by rw[z.o,c]);have B:=F<|λW U=>(show Calls prog 124 #[.agg (aW p)] W λe g=>e=Ek/\r7 W g from by have h:=HOT.o W U;rw[c]at h;exact h);clear c
    go_wp2_with(first|(refine kB rfl 3 rfl K p X3.o rfl ?_)|(go_at_call 124;refine(B.o _ k.o).k λw7 U=>?_;have s:=F<|dw k.o U.o;clear U))
    rw[r.o];exact⟨rfl,rfl,s.o⟩
   |some u =>
    obtain⟨r,B,y⟩:=cZ (show R=some u by rw[z.o,c]) (λW U=>(show Calls prog 124 #[.agg (aW p)] W λe g=>∃A,e=.returned (.agg (ai A u))/\g.ownsRow W.heap.size 9 1 A u.path.length (Strs u.path)/\r7 W g from by have h:=HOT.o W U;rw[c]at h;exact h)) (yN c);clear c
    go_wp2_with(first|(refine kB rfl 3 rfl K p X3.o rfl ?_)|(go_at_call 124;refine(B.o _ k.o).m ?_;rintro e w7⟨A,rfl,M,U⟩;obtain⟨J,s,R7⟩:=cZ M (dw k.o U) (R3.o.keep U);clear M U)|(refine fV rfl 4 71 rfl w br (OB.of R7.o iS.o s.o) A u y.o (bm J.o) rfl rfl ?_;intro wZ L N;have D:=F L;have OZ:=F<|ea (N.row J.o x.o.1) x.o.2;clear L N))
    rw[r.o];exact ed (u:=u) results77 y.o rfl D.o ⟨A,rfl,OZ.o,D.o.bL⟩
  |true =>
   by_cases hQ:p.aJ=d.aJ
   ·rw[gr hQ]at T
    by_cases hW:p.rest.take 2=[47,47]
    ·rw[gr hW]at Nw
     rw[hP]at ji;have z:=F<|HR.o.trans (Qw hS hF hP (.inr hW));clear hS hF hQ hW;obtain⟨us,ng⟩:=V (dp p.aJ p);obtain⟨Bf,Bg,HUC⟩:=cZ (show us.host.six.length=8 by rw[ng];rfl) (show us.path=[] by rw[ng];rfl) (show us.aJ=p.aJ by rw[ng];rfl);rw[<-ng]at HST z;rw[hP]at S3 z;clear ng hP;generalize uE true p.rest=n at *;have qr:=z
     go_upto_region 7 with(first|(go_at_call 119;refine(ji.o _).e ?_)|(go_at_call 83;refine(Nw.o _).e ?_)|(refine kB rfl 3 rfl K p X3.o rfl ?_)|(go_at_call 121;refine(HST.o _).k λw4 eI=>?_)|(refine aM rfl 34 rfl _ _ (eD _) ?_)|(refine fL rfl 6 55 rfl aI us Bf.o rfl rfl rfl rfl ?_;intro w5 hh U;obtain⟨I5,K5,jR,ug⟩:=dT (OB.of (w0:=w) hh (am k.o.size eI.o.size) (dw (dw k.o eI.o) U)) (show K3 bb K br w4.heap.size bv d p w5 from⟨(V3.o.keep eI.o).keep U,(X3.o.keep eI.o).keep U,(R3.o.keep eI.o).keep U,cO (aN V3.o.lt eI.o.size),cO (aN X3.o.lt eI.o.size),cO (aN R3.o.lt eI.o.size)⟩) (show br<w4.heap.size+1 from rP (aN R3.o.lt eI.o.size)) (show w.heap.size<=w4.heap.size+1 from lw (am k.o.size eI.o.size));clear hh U))
     generalize w4.heap.size=b at I5 K5 jR ug⊢;clear d0 d1 d2 c0 C vI vD T;have d1:w5.cell? ⟨K,1,none⟩=some (.string KE):=by rw[Yz.o];exact K5.o.cx.aE rfl
     have d2:w5.cell? ⟨K,2,none⟩=some (.string t):=by rw[HT.o];exact K5.o.cx.aE rfl
     have HAS:=F<|λW (i:OB w b 34 (ai aI us) W)=>ul w b us (p.rest.drop n) W i Bf.o Bg.o (by have:=sU.o.l;rw[aj];omega) (sU.o.a _ n) (HE.o.below i.bL);cases c:jS us (p.rest.drop n)with
     |none =>
      have r:=F (show R=none by rw[qr.o,c]);have rL:=F<|λW i=>(show Calls prog 122 #[.pointer (some ⟨b,0,none⟩),S ((p.rest.drop n))] W λe g=>e=Ek/\r7 w g/\Tn b W g from by have h:=HAS.o W i;rw[c]at h;exact h);clear c
      go_wp2_with(first|(go_at_call 123;refine(S3.o _).e ?_)|(go_at_call 122;refine(rL.o _ I5.o).m ?_;rintro e w7⟨rfl,U,_⟩;have s:=F U;clear U))
      rw[r.o];exact⟨rfl,rfl,s.o⟩
     |some u =>
      obtain⟨r,rL,y⟩:=cZ (show R=some u by rw[qr.o,c]) (λW i=>(show Calls prog 122 #[.pointer (some ⟨b,0,none⟩),S ((p.rest.drop n))] W λe g=>e=.returned (.tuple #[])/\(∃A,OB w b 34 (ai A u) g/\g.ownsRow W.heap.size 9 1 A u.path.length (Strs u.path))/\Tn b W g from by have h:=HAS.o W i;rw[c]at h;exact h)) (jT c);clear c
      go_upto_region 8 with(first|(go_at_call 123;refine(S3.o _).e ?_)|(go_at_call 122;refine(rL.o _ I5.o).m ?_;rintro e w7⟨rfl,⟨A,i7,M⟩,t7⟩;obtain⟨I7,J,K7⟩:=cZ i7 (ea M (show b+1<=_ from I5.o.lt)) (K5.o.tn t7);clear i7 M t7))
      go_wp2_with(first|(refine eP rfl 6 rfl w b A u I7.o y.o rfl ?_)|(refine fV rfl 4 62 rfl w br (OB.of K7.o.cr iS.o I7.o.bL) A u y.o (bm J.o) rfl rfl ?_;intro wZ L N;have D:=F L;have OZ:=F<|ea (N.row J.o jR.o) ug.o;clear L N))
      rw[r.o];exact ed (u:=u) results77 y.o rfl D.o ⟨A,rfl,OZ.o,D.o.bL⟩
    rw[gh hW]at Nw;rw[hP]at ji;cases c:d.opq with
    |true =>
     rw[c]at C;have z:=F<|HR.o.trans ((Qz hS hF hP hQ hW).trans (ge c));clear hS hF hP hQ hW c
     go_upto_region 12 with(first|(go_at_call 119;refine(ji.o _).e ?_)|(go_at_call 83;refine(Nw.o _).e ?_))
     clear d0 d1 d2 c0 C vI vD T;cases c:k5 d p with
     |none =>
      have r:=F (show R=none by rw[z.o,c]);have B:=F<|λW U=>(show Calls prog 125 #[.agg (ai bv d),.agg (aW p)] W λe g=>e=Ek/\r7 W g from by have h:=zD.o W U;rw[c]at h;exact h);clear c
      go_wp2_with(first|(refine eP rfl 2 rfl w bb bv d (OB.of V3.o (bW kM.o.symm) k.o) H8.o rfl ?_)|(refine kB rfl 3 rfl K p X3.o rfl ?_)|(go_at_call 125;refine(B.o _ k.o).k λw7 U=>?_;have s:=F<|dw k.o U.o;clear U))
      rw[r.o];exact⟨rfl,rfl,s.o⟩
     |some u =>
      obtain⟨r,B,y⟩:=cZ (show R=some u by rw[z.o,c]) (λW U=>(show Calls prog 125 #[.agg (ai bv d),.agg (aW p)] W λe g=>∃A,e=.returned (.agg (ai A u))/\g.ownsRow W.heap.size 9 1 A u.path.length (Strs u.path)/\r7 W g from by have h:=zD.o W U;rw[c]at h;exact h)) (vv H8.o c);clear c
      go_wp2_with(first|(refine eP rfl 2 rfl w bb bv d (OB.of V3.o (bW kM.o.symm) k.o) H8.o rfl ?_)|(refine kB rfl 3 rfl K p X3.o rfl ?_)|(go_at_call 125;refine(B.o _ k.o).m ?_;rintro e w7⟨A,rfl,M,U⟩;obtain⟨J,s,R7⟩:=cZ M (dw k.o U) (R3.o.keep U);clear M U)|(refine fV rfl 4 77 rfl w br (OB.of R7.o iS.o s.o) A u y.o (bm J.o) rfl rfl ?_;intro wZ L N;have D:=F L;have OZ:=F<|ea (N.row J.o x.o.1) x.o.2;clear L N))
      rw[r.o];exact ed (u:=u) results77 y.o rfl D.o ⟨A,rfl,OZ.o,D.o.bL⟩
    |false =>
     rw[c]at C;have z:=F<|HR.o.trans ((Qz hS hF hP hQ hW).trans (gc (by simp[c])));clear hS hF hP hQ hW c
     go_upto_region 13 with(first|(go_at_call 119;refine(ji.o _).e ?_)|(go_at_call 83;refine(Nw.o _).e ?_))
     clear d0 d1 d2 c0 C vI vD T;cases c:ri d p with
     |none =>
      have r:=F (show R=none by rw[z.o,c]);have B:=F<|λW U=>(show Calls prog 126 #[.agg (ai bv d),.agg (aW p)] W λe g=>e=Ek/\r7 W g from by have h:=Bw.o W U;rw[c]at h;exact h);clear c
      go_wp2_with(first|(refine eP rfl 2 rfl w bb bv d (OB.of V3.o (bW kM.o.symm) k.o) H8.o rfl ?_)|(refine kB rfl 3 rfl K p X3.o rfl ?_)|(go_at_call 126;refine(B.o _ k.o).k λw7 U=>?_;have s:=F<|dw k.o U.o;clear U))
      rw[r.o];exact⟨rfl,rfl,s.o⟩
     |some u =>
      obtain⟨r,B,y⟩:=cZ (show R=some u by rw[z.o,c]) (λW U=>(show Calls prog 126 #[.agg (ai bv d),.agg (aW p)] W λe g=>∃A,e=.returned (.agg (ai A u))/\g.ownsRow W.heap.size 9 1 A u.path.length (Strs u.path)/\r7 W g from by have h:=Bw.o W U;rw[c]at h;exact h)) (AI H8.o c);clear c
      go_wp2_with(first|(refine eP rfl 2 rfl w bb bv d (OB.of V3.o (bW kM.o.symm) k.o) H8.o rfl ?_)|(refine kB rfl 3 rfl K p X3.o rfl ?_)|(go_at_call 126;refine(B.o _ k.o).m ?_;rintro e w7⟨A,rfl,M,U⟩;obtain⟨J,s,R7⟩:=cZ M (dw k.o U) (R3.o.keep U);clear M U)|(refine fV rfl 4 80 rfl w br (OB.of R7.o iS.o s.o) A u y.o (bm J.o) rfl rfl ?_;intro wZ L N;have D:=F L;have OZ:=F<|ea (N.row J.o x.o.1) x.o.2;clear L N))
      rw[r.o];exact ed (u:=u) results77 y.o rfl D.o ⟨A,rfl,OZ.o,D.o.bL⟩
   rw[gh hQ]at T;rw[hP]at ji;have z:=F<|HR.o.trans (Qw hS hF hP (.inl hQ));clear hS hF hQ;obtain⟨us,ng⟩:=V (dp p.aJ p);obtain⟨Bf,Bg,HUC⟩:=cZ (show us.host.six.length=8 by rw[ng];rfl) (show us.path=[] by rw[ng];rfl) (show us.aJ=p.aJ by rw[ng];rfl);rw[<-ng]at HST z;rw[hP]at S3 z;clear ng hP;generalize uE true p.rest=n at *;have qr:=z
   go_upto_region 7 with(first|(go_at_call 119;refine(ji.o _).e ?_)|(refine kB rfl 3 rfl K p X3.o rfl ?_)|(go_at_call 121;refine(HST.o _).k λw4 eI=>?_)|(refine aM rfl 34 rfl _ _ (eD _) ?_)|(refine fL rfl 6 55 rfl aI us Bf.o rfl rfl rfl rfl ?_;intro w5 hh U;obtain⟨I5,K5,jR,ug⟩:=dT (OB.of (w0:=w) hh (am k.o.size eI.o.size) (dw (dw k.o eI.o) U)) (show K3 bb K br w4.heap.size bv d p w5 from⟨(V3.o.keep eI.o).keep U,(X3.o.keep eI.o).keep U,(R3.o.keep eI.o).keep U,cO (aN V3.o.lt eI.o.size),cO (aN X3.o.lt eI.o.size),cO (aN R3.o.lt eI.o.size)⟩) (show br<w4.heap.size+1 from rP (aN R3.o.lt eI.o.size)) (show w.heap.size<=w4.heap.size+1 from lw (am k.o.size eI.o.size));clear hh U))
   generalize w4.heap.size=b at I5 K5 jR ug⊢;clear d0 d1 d2 c0 C vI vD T;have d1:w5.cell? ⟨K,1,none⟩=some (.string KE):=by rw[Yz.o];exact K5.o.cx.aE rfl
   have d2:w5.cell? ⟨K,2,none⟩=some (.string t):=by rw[HT.o];exact K5.o.cx.aE rfl
   have HAS:=F<|λW (i:OB w b 34 (ai aI us) W)=>ul w b us (p.rest.drop n) W i Bf.o Bg.o (by have:=sU.o.l;rw[aj];omega) (sU.o.a _ n) (HE.o.below i.bL);cases c:jS us (p.rest.drop n)with
   |none =>
    have r:=F (show R=none by rw[qr.o,c]);have rL:=F<|λW i=>(show Calls prog 122 #[.pointer (some ⟨b,0,none⟩),S ((p.rest.drop n))] W λe g=>e=Ek/\r7 w g/\Tn b W g from by have h:=HAS.o W i;rw[c]at h;exact h);clear c
    go_wp2_with(first|(go_at_call 123;refine(S3.o _).e ?_)|(go_at_call 122;refine(rL.o _ I5.o).m ?_;rintro e w7⟨rfl,U,_⟩;have s:=F U;clear U))
    rw[r.o];exact⟨rfl,rfl,s.o⟩
   |some u =>
    obtain⟨r,rL,y⟩:=cZ (show R=some u by rw[qr.o,c]) (λW i=>(show Calls prog 122 #[.pointer (some ⟨b,0,none⟩),S ((p.rest.drop n))] W λe g=>e=.returned (.tuple #[])/\(∃A,OB w b 34 (ai A u) g/\g.ownsRow W.heap.size 9 1 A u.path.length (Strs u.path))/\Tn b W g from by have h:=HAS.o W i;rw[c]at h;exact h)) (jT c);clear c
    go_upto_region 8 with(first|(go_at_call 123;refine(S3.o _).e ?_)|(go_at_call 122;refine(rL.o _ I5.o).m ?_;rintro e w7⟨rfl,⟨A,i7,M⟩,t7⟩;obtain⟨I7,J,K7⟩:=cZ i7 (ea M (show b+1<=_ from I5.o.lt)) (K5.o.tn t7);clear i7 M t7))
    go_wp2_with(first|(refine eP rfl 6 rfl w b A u I7.o y.o rfl ?_)|(refine fV rfl 4 62 rfl w br (OB.of K7.o.cr iS.o I7.o.bL) A u y.o (bm J.o) rfl rfl ?_;intro wZ L N;have D:=F L;have OZ:=F<|ea (N.row J.o jR.o) ug.o;clear L N))
    rw[r.o];exact ed (u:=u) results77 y.o rfl D.o ⟨A,rfl,OZ.o,D.o.bL⟩
 |false =>
  rw[hS]at d0;cases c:d.opq with
  |true =>
   rw[c]at C;have z:=F<|HR.o.trans ((QB hS (λh=>by rw[c]at h;cases h.1)).trans (ge c));clear hS c
   go_upto_region 12 with fail
   clear d0 d1 d2 c0 C vI vD T;cases c:k5 d p with
   |none =>
    have r:=F (show R=none by rw[z.o,c]);have B:=F<|λW U=>(show Calls prog 125 #[.agg (ai bv d),.agg (aW p)] W λe g=>e=Ek/\r7 W g from by have h:=zD.o W U;rw[c]at h;exact h);clear c
    go_wp2_with(first|(refine eP rfl 2 rfl w bb bv d (OB.of V3.o (bW kM.o.symm) k.o) H8.o rfl ?_)|(refine kB rfl 3 rfl K p X3.o rfl ?_)|(go_at_call 125;refine(B.o _ k.o).k λw7 U=>?_;have s:=F<|dw k.o U.o;clear U))
    rw[r.o];exact⟨rfl,rfl,s.o⟩
   |some u =>
    obtain⟨r,B,y⟩:=cZ (show R=some u by rw[z.o,c]) (λW U=>(show Calls prog 125 #[.agg (ai bv d),.agg (aW p)] W λe g=>∃A,e=.returned (.agg (ai A u))/\g.ownsRow W.heap.size 9 1 A u.path.length (Strs u.path)/\r7 W g from by have h:=zD.o W U;rw[c]at h;exact h)) (vv H8.o c);clear c
    go_wp2_with(first|(refine eP rfl 2 rfl w bb bv d (OB.of V3.o (bW kM.o.symm) k.o) H8.o rfl ?_)|(refine kB rfl 3 rfl K p X3.o rfl ?_)|(go_at_call 125;refine(B.o _ k.o).m ?_;rintro e w7⟨A,rfl,M,U⟩;obtain⟨J,s,R7⟩:=cZ M (dw k.o U) (R3.o.keep U);clear M U)|(refine fV rfl 4 77 rfl w br (OB.of R7.o iS.o s.o) A u y.o (bm J.o) rfl rfl ?_;intro wZ L N;have D:=F L;have OZ:=F<|ea (N.row J.o x.o.1) x.o.2;clear L N))
    rw[r.o];exact ed (u:=u) results77 y.o rfl D.o ⟨A,rfl,OZ.o,D.o.bL⟩
  |false =>
   rw[c]at C;by_cases hF:d.aJ=aR
   ·rw[gr hF]at vD
    have z:=F<|HR.o.trans (Qy hS c hF);clear hS c hF
    go_upto_region 4 with fail
    clear d0 d1 d2 c0 C vI vD T;cases c:lG d p with
    |none =>
     have r:=F (show R=none by rw[z.o,c]);have B:=F<|λW U=>(show Calls prog 120 #[.agg (ai bv d),.agg (aW p)] W λe g=>e=Ek/\r7 W g from by have h:=WV.o W U;rw[c]at h;exact h);clear c
     go_wp2_with(first|(refine eP rfl 2 rfl w bb bv d (OB.of V3.o (bW kM.o.symm) k.o) H8.o rfl ?_)|(refine kB rfl 3 rfl K p X3.o rfl ?_)|(go_at_call 120;refine(B.o _ k.o).k λw7 U=>?_;have s:=F<|dw k.o U.o;clear U))
     rw[r.o];exact⟨rfl,rfl,s.o⟩
    |some u =>
     obtain⟨r,B,y⟩:=cZ (show R=some u by rw[z.o,c]) (λW U=>(show Calls prog 120 #[.agg (ai bv d),.agg (aW p)] W λe g=>∃A,e=.returned (.agg (ai A u))/\g.ownsRow W.heap.size 9 1 A u.path.length (Strs u.path)/\r7 W g from by have h:=WV.o W U;rw[c]at h;exact h)) (vq H8.o c);clear c
     go_wp2_with(first|(refine eP rfl 2 rfl w bb bv d (OB.of V3.o (bW kM.o.symm) k.o) H8.o rfl ?_)|(refine kB rfl 3 rfl K p X3.o rfl ?_)|(go_at_call 120;refine(B.o _ k.o).m ?_;rintro e w7⟨A,rfl,M,U⟩;obtain⟨J,s,R7⟩:=cZ M (dw k.o U) (R3.o.keep U);clear M U)|(refine fV rfl 4 37 rfl w br (OB.of R7.o iS.o s.o) A u y.o (bm J.o) rfl rfl ?_;intro wZ L N;have D:=F L;have OZ:=F<|ea (N.row J.o x.o.1) x.o.2;clear L N))
     rw[r.o];exact ed (u:=u) results77 y.o rfl D.o ⟨A,rfl,OZ.o,D.o.bL⟩
   rw[gh hF]at vD;have z:=F<|HR.o.trans ((QB hS (λh=>hF h.2)).trans (gc (by simp[c])));clear hS c hF
   go_upto_region 13 with fail
   clear d0 d1 d2 c0 C vI vD T;cases c:ri d p with
   |none =>
    have r:=F (show R=none by rw[z.o,c]);have B:=F<|λW U=>(show Calls prog 126 #[.agg (ai bv d),.agg (aW p)] W λe g=>e=Ek/\r7 W g from by have h:=Bw.o W U;rw[c]at h;exact h);clear c
    go_wp2_with(first|(refine eP rfl 2 rfl w bb bv d (OB.of V3.o (bW kM.o.symm) k.o) H8.o rfl ?_)|(refine kB rfl 3 rfl K p X3.o rfl ?_)|(go_at_call 126;refine(B.o _ k.o).k λw7 U=>?_;have s:=F<|dw k.o U.o;clear U))
    rw[r.o];exact⟨rfl,rfl,s.o⟩
   |some u =>
    obtain⟨r,B,y⟩:=cZ (show R=some u by rw[z.o,c]) (λW U=>(show Calls prog 126 #[.agg (ai bv d),.agg (aW p)] W λe g=>∃A,e=.returned (.agg (ai A u))/\g.ownsRow W.heap.size 9 1 A u.path.length (Strs u.path)/\r7 W g from by have h:=Bw.o W U;rw[c]at h;exact h)) (AI H8.o c);clear c
    go_wp2_with(first|(refine eP rfl 2 rfl w bb bv d (OB.of V3.o (bW kM.o.symm) k.o) H8.o rfl ?_)|(refine kB rfl 3 rfl K p X3.o rfl ?_)|(go_at_call 126;refine(B.o _ k.o).m ?_;rintro e w7⟨A,rfl,M,U⟩;obtain⟨J,s,R7⟩:=cZ M (dw k.o U) (R3.o.keep U);clear M U)|(refine fV rfl 4 80 rfl w br (OB.of R7.o iS.o s.o) A u y.o (bm J.o) rfl rfl ?_;intro wZ L N;have D:=F L;have OZ:=F<|ea (N.row J.o x.o.1) x.o.2;clear L N))
    rw[r.o];exact ed (u:=u) results77 y.o rfl D.o ⟨A,rfl,OZ.o,D.o.bL⟩

def uK(w:H):Option Url->Ending->H->Prop
 |none,e,w'=>e=.returned (.tuple #[.agg (ai aI U0),.bool false])/\r7 w w'
 |some u,e,w'=>∃A,e=.returned (.tuple #[.agg (ai A u),.bool true])/\w'.ownsRow w.heap.size 9 1 A u.path.length (Strs u.path)/\r7 w w'
theorem OB.cb{w0 W:H}{b:Nat}{T:TypeId}{cs:Array Z}(i:OB w0 b T cs W):CB W b T cs:=⟨i.a⟩
theorem OB.tn{w0 W c:H}{b g:Nat}{T e:TypeId}{cs d:Array Z}(i:OB w0 g T cs W)(t:Tn b W c)(f:g≠b)(j:OB w0 b e d c):OB w0 g T cs c:=OB.of (t.cb i.cb f) i.le j.bL
theorem Zd(w:H)(bv:Z)(u:Url)(p:kW):∃d,(((w.alloc (.cells (ai bv u) 34)).alloc (.cells (aW p) 91)).alloc (.cells (ai aI U0) 34)).alloc (.cells #[.bool false] 4)=d/\d.heap.size=w.heap.size+4 /\
  CB d w.heap.size 34 (ai bv u)/\CB d (w.heap.size+1) 91 (aW p)/\OB w (w.heap.size+2) 34 (ai aI U0) d/\OB w (w.heap.size+3) 4 #[.bool false] d:=by
 obtain⟨w3,f,e,U,g,h,i⟩:=three w bv u p;rw[f];have X:=CB.new w3 4 #[.bool false];have c:=(gT w3.heap.size w3).alloc (ag _) (.cells #[.bool false] 4);refine⟨_,rfl,by simp[e],g.keep c,h.keep c,OB.of (i.keep c) M0 (dw U c),?_⟩;rw[e]at X;exact OB.of X M0 (dw U c)
theorem RJ{tmps:Array Z}{w c:H}{b:Nat}{A:Z}{u:Url}{q:Bool}(g:tmps.getD 4 undef=.pointer (some ⟨b,0,none⟩))(h:tmps.getD 5 undef=.pointer (some ⟨b+1,0,none⟩))(k:u.host.six.length=8)(i:OB w b 34 (ai A u) c)(j:OB w (b+1) 4 #[.bool q] c) :
  (results f45 tmps).run prog c=.ok (.tuple #[.agg (ai A u),.bool q]) c:=by
 have d:tmps[4]?.getD undef=.pointer (some ⟨b,0,none⟩):=by simpa using g
 have e:tmps[5]?.getD undef=.pointer (some ⟨b+1,0,none⟩):=by simpa using h
 have m:=i.load (P:=prog) 34 _ underlying34 rfl (by rw[kJ k];exact iJ);have l:=j.aE (j:=0) (v:=.bool q) rfl;have f:(loadVar 4 ⟨b+1,0,none⟩).run prog c=.ok (.bool q) c:=by simp[go_sem,l]
 simp[results,results45,asAddr,d,e,m,f]
theorem Dp(w0:H)(b:Nat)(u:TypeId)(A:Z)(older:List PanicEntry)(w:H)(i:OB w0 b 34 (ai aI U0) w)(j:OB w0 (b+1) 4 #[.bool false] w) :
  CallsD prog 76 #[.pointer (some ⟨b,0,none⟩),.pointer (some ⟨b+1,0,none⟩)] (.panicking ({v:=.iface u A,recovered:=false}::older)) w λe m d =>
   e=.returned (.tuple #[])/\m=.panicking ({v:=.iface u A,recovered:=true}::older)/\OB w0 b 34 (ai aI U0) d/\OB w0 (b+1) 4 #[.bool false] d:=by
 refine callsD_of_wpS func76 rfl λc₀ cs hu=>?_
 apply wpS_seq
 apply wpS_region
 simp[wpOpsS,go_sem,recoverD,hu,ntmps76,Exit.thenS];refine wpS_cond (t:=true) (by simp[Act.eval,Array.replicate]) ?_;simp only[if_true];refine wpS_of_wp ?_;have f:=F i;have J:=F j;clear i j
 go_wp2_with(first|(refine fV rfl 0 4 rfl w0 b f.o aI U0 rfl rfl rfl rfl ?_;intro w2 i2 t2;have g:=F i2;have k:=F<|J.o.tn t2 (Nat.succ_ne_self b) i2;clear i2 t2)|(refine dX rfl 4 1 (.const (.bool false)) rfl w0 (b+1) 4 #[.bool false] k.o 0 (.bool false) rfl rfl P8 bY.2.2 rfl #[.bool false] rfl ?_;intro w3 c t3;have l:=F c;have h:=F<|g.o.tn t3 (cO (bV b)) c;clear c t3))
 simp only[bodyPostS];exact⟨trivial,_,rfl,.tuple #[],by simp[results,results76],rfl,rfl,h.o,l.o⟩
theorem Do(p r:Addr)(w:H) :
  CallsD prog 76 #[.pointer (some p),.pointer (some r)] .returning w λe d f=>e=.returned (.tuple #[])/\d=.returning/\f=w:=by
 refine callsD_of_wpS func76 rfl λc cs hu=>?_
 apply wpS_seq
 apply wpS_region
 simp[wpOpsS,go_sem,recoverD,hu,ntmps76,Exit.thenS];refine wpS_cond (t:=false) (by simp[Act.eval,Array.replicate]) ?_;simp only[eH,if_false];refine wpS_of_wp (wp_skip ?_);cases c;simp_all[bodyPostS,results,results76]
theorem Dy{tmps:Array Z}{w:H}{g:Nat}{ty:TypeId}{x:Z}(c:tmps.getD 4 undef=.pointer (some ⟨g,0,none⟩))(d:tmps.getD 5 undef=.pointer (some ⟨g+1,0,none⟩))(i:OB w g 34 (ai aI U0) w3)(j:OB w (g+1) 4 #[.bool false] w3)(h:R=none) :
  bodyPostD prog f45 (uK w R) (Exit.panic [{v:=.iface ty x,recovered:=false}])
   {tmps:=tmps,defers:=[{target:=.fn (.func 76) #[.pointer (some ⟨g,0,none⟩),.pointer (some ⟨g+1,0,none⟩)],args:=#[]}]} w3:=by
 subst h;refine leaves_cons (f:=76) (args:=#[.pointer (some ⟨g,0,none⟩),.pointer (some ⟨g+1,0,none⟩)]) Oc (by simp[go_sem]) ?_;refine(Dp w g _ _ [] w3 i j).m ?_;rintro e u' w4⟨rfl,rfl,i4,k⟩;exact⟨_,RJ c d rfl i4 k,rfl,i4.bL⟩
theorem GM{tmps:Array Z}{w:H}{g:Nat}{A:Z}{u:Url}(c:tmps.getD 4 undef=.pointer (some ⟨g,0,none⟩))(d:tmps.getD 5 undef=.pointer (some ⟨g+1,0,none⟩))(h:u.host.six.length=8)(i:OB w g 34 (ai A u) w3)(j:OB w (g+1) 4 #[.bool true] w3)(o:w3.ownsRow w.heap.size 9 1 A u.path.length (Strs u.path))(k:R=some u) :
  bodyPostD prog f45 (uK w R) Exit.ret
   {tmps:=tmps,defers:=[{target:=.fn (.func 76) #[.pointer (some ⟨g,0,none⟩),.pointer (some ⟨g+1,0,none⟩)],args:=#[]}]} w3:=by
 subst k;refine leaves_cons (f:=76) (args:=#[.pointer (some ⟨g,0,none⟩),.pointer (some ⟨g+1,0,none⟩)]) Oc (by simp[go_sem]) ?_;refine(Do _ _ w3).m ?_;rintro e u' w4⟨rfl,rfl,rfl⟩;exact⟨_,RJ c d h i j,_,rfl,o,i.bL⟩
theorem zq(c:Url)(bv:Z)(p:kW)(w:H)(l:c.host.six.length=8)(i:Sl w.heap.size w bv (c.path.map S))(g:Bs c.path)(hr:Rs p.rest)(T:p.q.length<=307200000)(N:p.f.length<=307200000)(M:Env w):Calls prog 45 #[.agg (ai bv c),.agg (aW p)] w (uK w (eL c p)):=by
 have hmf:∀(fn:Fn) (first cap:Array Z) (w:H),(Instr.makeFunc fn first cap).run prog w=.ok (.func fn first cap) w:=λ_ _ _ _=>rfl;have s:=F<|λW (U:r7 w W)=>MJ c bv p W l ((i.below U).more U.size) g hr T N (M.below U);obtain⟨R,z⟩:=V (eL c p);rw[<-z]at s⊢;have t:=F<|λu (h:R=some u)=>ot l (z.symm.trans h);have C:=F l;clear z l i g hr T N M;obtain⟨w4,j,k,k1,k2,k3,k4⟩:=Zd w bv c p;obtain⟨D,K2,K3,J,v,d⟩:=ee k1 k2 k3 k4 k j;clear k1 k2 k3 k4 k j;cases R with
 |none =>
  have r:=F<|λW U=>(show Calls prog 77 #[.agg (ai bv c),.agg (aW p)] W λe n=>e=Ek/\r7 W n from s.o W U)
  go_enter_defers func45,ntmps45
  go_upto_region 1 with(refine aM rfl 34 rfl _ _ (eD _) ?_)
  rw[d.o]
  go_wp2_with(first|(refine eP rfl 2 rfl w w.heap.size bv c (OB.of D.o (ag _) K3.o.bL) C.o rfl ?_)|(refine kB rfl 3 rfl (w.heap.size+1) p K2.o rfl ?_)|(go_at_call 77;refine(r.o _ K3.o.bL).k λw7 U=>?_;have x:=F<|K3.o.below U.o;have y:=F<|J.o.below U.o;clear U))
  exact Dy rfl rfl x.o y.o rfl
 |some u =>
  have L:=F<|t.o u rfl;have r:=F<|λW U=>(show Calls prog 77 #[.agg (ai bv c),.agg (aW p)] W λe n=>∃A,e=.returned (.agg (ai A u))/\n.ownsRow W.heap.size 9 1 A u.path.length (Strs u.path)/\r7 W n from s.o W U)
  go_enter_defers func45,ntmps45
  go_upto_region 1 with(refine aM rfl 34 rfl _ _ (eD _) ?_)
  rw[d.o]
  go_wp2_with(first|(refine eP rfl 2 rfl w w.heap.size bv c (OB.of D.o (ag _) K3.o.bL) C.o rfl ?_)|(refine kB rfl 3 rfl (w.heap.size+1) p K2.o rfl ?_)|(go_at_call 77;refine(r.o _ K3.o.bL).m ?_;rintro e w7⟨A,rfl,o7,U⟩;obtain⟨x,y,K⟩:=cZ (K3.o.below U) (J.o.below U) o7;clear U o7)|(refine fV rfl 4 9 rfl w (w.heap.size+2) x.o A u L.o (bm K.o) rfl rfl ?_;intro w8 i8 t8;obtain⟨I8,J8,O8⟩:=cZ i8 (y.o.tn t8 M0 i8) (t8.row K.o (by rw[v.o];omega));clear i8 t8)|(refine dX rfl 4 5 (.const (.bool true)) rfl w (w.heap.size+3) 4 #[.bool false] J8.o 0 (.bool true) rfl rfl P8 bY.2.2 rfl #[.bool true] rfl ?_;intro w9 B t9;obtain⟨J9,I9,O9⟩:=cZ B (I8.o.tn t9 M0 B) (ea (t9.row O8.o (by rw[v.o];omega)) (show w.heap.size<=w4.heap.size by rw[v.o];omega));clear B t9))
  exact GM rfl rfl L.o I9.o J9.o O9.o rfl
