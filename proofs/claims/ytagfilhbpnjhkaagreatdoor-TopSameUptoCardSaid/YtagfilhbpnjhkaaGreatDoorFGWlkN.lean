import Derived.Test.YtagfilhbpnjhkaaGreatDoorFGWlkH
import Derived.Test.YtagfilhbpnjhkaaGreatDoorFGSrcB
set_option maxRecDepth 10000
set_option maxHeartbeats 0
namespace Go.Proofs.Q
open Tryz Go.RowKit
abbrev Ek:Ending:=.panicked [{v:=.iface 173 (.agg #[]),recovered:=false}]
def Et(l:O):Prop:=∀s u p n q,JG l=some (s,u,p)->Ng s=some (n,q)->Short n
theorem Km{l:O}(h:l.length<=1048576):Et l:=λs u p n q Y I=>DJ (by have:=G4 Y;have:=(Gx I).1;omega)
def tW(u:Url)(a:qj):Url:={u with usr:=a.user,ib:=a.pass,host:=a.host,bz:=a.bz,port:=a.port}
theorem nK(sp:Bool)(s:O):(dU sp s).1.length<=s.length/\(dU sp s).2.length<=s.length:=by
 unfold dU;have h:=congrArg List.length (ez (p:=λc=>!lS sp c) (l:=s));rw[ae]at h;dsimp only;omega
theorem Ud(u:Url)(s:O)(hp:u.path=[]):jS u s=match kr u.aJ (dU (eU u.aJ) s).1 with
  |none=>none
  |some a=>some {tW u a with path:=if eU u.aJ=true\/(dU (eU u.aJ) s).2 ≠ []then gW u.aJ (dU (eU u.aJ) s).2 else []}:=by
 unfold jS;rw[hp];rfl
def Yi(w0:H)(b:Nat)(w:H):Option Url->Ending->H->Prop
 |none,e,w'=>e=Ek/\r7 w0 w'/\Tn b w w'
 |some u,e,w'=>e=.returned (.tuple #[])/\(∃A,OB w0 b 34 (ai A u) w'/\w'.ownsRow w.heap.size 9 1 A u.path.length (Strs u.path))/\Tn b w w'
theorem ea{w:H}{base base' e n:Nat}{v:Z}{xs:List Z}(h:w.ownsRow base e 1 v n xs)(U:base'<=base):w.ownsRow base' e 1 v n xs:=by
 refine⟨h.1,?_⟩;rcases h.2 with c|⟨g,cap,cur,a,d,hh,f⟩
 ·exact .inl c
 exact .inr ⟨g,cap,cur,a,am U d,hh,f⟩
theorem eE{w:H}{base e:Nat}{v:Z}{l:List O}(h:w.ownsRow base e 1 v (Strs l).length (Strs l)):w.ownsRow base e 1 v l.length (Strs l):=by
 rw[ay]at h;exact h
theorem Jt{w:H}{base e:Nat}:w.ownsRow base e 1 aI 0 []:=⟨rfl,.inl ⟨rfl,rfl⟩⟩
theorem ul(w0:H)(b:Nat)(u:Url)(s:O)(w:H)(i:OB w0 b 34 (ai aI u) w)(h8:u.host.six.length=8)(hp:u.path=[])(hs:s.length<=307200000)(hA:Et (dU (eU u.aJ) s).1)(hE:Env w) :
  Calls prog 122 #[.pointer (some ⟨b,0,none⟩),.string (E s)] w (Yi w0 b w (jS u s)):=by
 obtain⟨R,hR⟩:=V (jS u s);rw[<-hR];rw[Ud u s hp]at hR;have hsp:=λW=>gl u.aJ W;have me:=λW=>BE s (eU u.aJ) W M0;have hcl:=nK (eU u.aJ) s;have d:=λ(W:H) (hW:r7 w W)=>ER u.aJ (dU (eU u.aJ) s).1 W M0 hA (hE.below hW);have n:=λW=>wj u.aJ (dU (eU u.aJ) s).2 W M0;have Tc:=@ath_six u.aJ (dU (eU u.aJ) s).1;generalize eU u.aJ=sp at *;generalize dU sp s=C at *;obtain⟨c1,c2⟩:=C;simp only at hR me hcl d n Tc;obtain⟨UU,p,II⟩:=cZ (ry aI u h8) h8 i;obtain⟨sc,T,t,ht,k1,Q,k2,q⟩:=aA (E u.aJ) (E s) (E c1) (E c2);rw[<-T]at hsp d n;rw[<-ht]at me⊢;rw[<-Q]at d;rw[<-q]at n;obtain⟨lB,ji,ED⟩:=cZ (show ∀W,bF prog 168 #[.string t,.bool sp] W (.tuple #[.string k1,.string k2])from by rw[Q,q];exact me) hsp n
 have hc0:∀{W:H} {cs:Array Z} {v:Z} {x:Url},OB w0 b 34 (ai v x) W->x.host.six.length=8->x.aJ=u.aJ->W.cell? ⟨b,0,none⟩=some (.string sc):=λ{W cs v x} Y I h3=>by
  rw[Y.aE (ry v x I).aJ,h3,T]
 have U7:k2.toList=[] ↔ c2=[]:=by rw[q,aB]
 obtain⟨ka,J,HR⟩:=cZ (λ(W:H) (v:Z) (x:Url) Y I h3=>@hc0 W #[] v x Y I h3) U7 hR;have hbw:=i.lt;clear hc0 U7 hR me hsp n T ht Q q hcl hp hs hA h8 i;cases g:kr u.aJ c1 with
 |none =>
  rw[g]at d;have D:=fo (∀W,r7 w W->bF prog 169 #[.string sc,.string k1] W (.tuple #[.agg (bU A0),.bool false])) d;have iT:=F (show R=none by rw[HR.o,g]);clear d g Tc hE ED J;have c0:=ka.o _ _ _ II.o p.o rfl;go_enter func122,ntmps122
  go_upto_region 2 with(first|(go_at_call 119;refine(ji.o _).e ?_)|(go_at_call 168;refine(lB.o _).k λw3 j=>?_;have c3:=ka.o _ _ _ (II.o.below j.o) p.o rfl))
  go_upto_region 3 with(first|(go_at_call 169;refine(D.o _ j.o).k λw4 U=>?_;have JY:=F<|dw j.o U.o;clear U)|(refine aM rfl 169 rfl _ _ (allA _) ?_)|(refine Sf rfl 7 27 rfl A0 rfl rfl rfl rfl ?_;intro w5 hh U;have gD:=F<|dw JY.o U;clear hh U))
  go_wp2_with fail;refine⟨rfl,?_⟩;rw[iT.o];exact⟨rfl,(II.o.below gD.o).bL,Tn.of_below gD.o⟩
 |some a =>
  rw[g]at d Tc;have f:=fo (a.host.six.length=8) Tc;obtain⟨AC,HI,D,sU⟩:=dT (Ko a f.o) (show(prog.info? 32).map (·.size)=some (aS a.host).length by rw[jb];simp[aS,f.o]) (show ∀W,r7 w W->bF prog 169 #[.string sc,.string k1] W (.tuple #[.agg (bU a),.bool true])from d) (show R=some {tW u a with path:=if sp=true\/c2 ≠ []then gW u.aJ c2 else []} by rw[HR.o,g]);generalize gW u.aJ c2=PP at sU ED;clear d g Tc hE HR;have c0:=ka.o _ _ _ II.o p.o rfl;go_enter func122,ntmps122
  go_upto_region 2 with(first|(go_at_call 119;refine(ji.o _).e ?_)|(go_at_call 168;refine(lB.o _).k λw3 j=>?_;have c3:=ka.o _ _ _ (II.o.below j.o) p.o rfl))
  go_upto_region 3 with(first|(go_at_call 169;refine(D.o _ j.o).k λw4 U=>?_;have JY:=F<|dw j.o U.o;clear U)|(refine aM rfl 169 rfl _ _ (allA _) ?_)|(refine Sf rfl 7 27 rfl a f.o rfl rfl rfl ?_;intro w5 hh U;obtain⟨K5,gD,HBT⟩:=cZ hh (dw JY.o U) (show b<w4.heap.size from aN hbw JY.o.size);clear hh U))
  obtain⟨P,hbt⟩:=V (w4.heap.size);rw[<-hbt]at K5 HBT⊢;have l:P≠b:=by have:=HBT.o;omega
  have I3:=F<|II.o.below gD.o;have T3:=F<|Tn.of_below (b:=b) gD.o;clear hbt c0 c3
  go_upto_region 5 with fail
  have I4:=F<|I3.o.below (bG (bg _));have C4:=F<|K5.o.keep (bG (bg _));have C3:=K5;have T4:=F<|T3.o.below (bG (bg _));refine wp_region_held_drew (S:=λW=>CB W P 169 (bU a)) Rz (by first|exact C3.o.keep (bG (bg _))|exact C9.o|exact B.o|exact z.o|exact y.o|exact r.o) (λhHeld=>?_);refine ek 0 ?_;refine ek 1 ?_;refine ek 2 ?_;refine ek 3 ?_;refine ek 4 ?_;refine ek 5 ?_;refine e_l 6 rfl (λ_ hS=>bK 9 38 rfl P 0 (S a.user) _ underlying9 rfl rfl (hS.aE rfl)) ?_
  refine ek 7 ?_;refine e_l 8 rfl (λ_ hS=>bK 9 40 rfl P 1 (S a.pass) _ underlying9 rfl rfl (hS.aE rfl)) ?_
  refine ek 9 ?_;refine e_l 10 rfl (λ_ hS=>gU 32 42 rfl P 2 (aS a.host) _ underlying32 rfl HI.o rfl (hS.range (Uf a))) ?_
  refine ek 11 ?_;refine e_l 12 rfl (λ_ hS=>bK 4 44 rfl P 13 (.bool a.bz) _ underlying4 rfl rfl (hS.aE AC.o.2.2.1)) ?_
  refine ek 13 ?_;refine e_l 14 rfl (λ_ hS=>bK 3 46 rfl P 14 (.int .i64 a.port) _ underlying3 rfl rfl (hS.aE AC.o.2.2.2.1)) ?_
  refine ek 15 ?_;refine ek 16 ?_;refine rn 17 Rz rfl r5 (λK hK=>?_);refine fX 9 49 39 rfl w0 b 34 (ai aI u) I4.o 1 (S a.user) rfl rfl (fP p.o P8) bY.1 rfl (ai aI {u with usr:=a.user}) ((fO aI u p.o).usr _) ?_;intro x5 c t1;obtain⟨I5,r,T5⟩:=cZ c (t1.cb C4.o l) (T4.o.trans t1);clear c t1;refine hK.out _ _ r.o (λhHeld=>?_);clear hK K
  try simp only[Act.put]
  refine ek 18 ?_;refine ek 19 ?_;refine rn 20 Rz rfl r5 (λK hK=>?_);refine fX 9 51 41 rfl w0 b 34 (ai aI {u with usr:=a.user}) I5.o 2 (S a.pass) rfl rfl (fP p.o P8) bY.1 rfl (ai aI {u with usr:=a.user,ib:=a.pass}) ((fO aI {u with usr:=a.user} p.o).ib _) ?_;intro x6 c t1;obtain⟨I6,y,T6⟩:=cZ c (t1.cb r.o l) (T5.o.trans t1);clear c t1;refine hK.out _ _ y.o (λhHeld=>?_);clear hK K
  try simp only[Act.put]
  refine ek 21 ?_;refine ek 22 ?_;refine rn 23 Rz rfl r5 (λK hK=>?_);refine j5 32 53 43 rfl w0 b 34 (ai aI {u with usr:=a.user,ib:=a.pass}) I6.o 3 (aS a.host) rfl rfl (zp p.o f.o) HI.o jX (ai aI {u with usr:=a.user,ib:=a.pass,host:=a.host}) (sP aI {u with usr:=a.user,ib:=a.pass} a.host f.o p.o) ?_;intro x7 c t1;obtain⟨I7,z,T7⟩:=cZ c (t1.cb y.o l) (T6.o.trans t1);clear c t1;refine hK.out _ _ z.o (λhHeld=>?_);clear hK K
  try simp only[Act.put]
  refine ek 24 ?_;refine ek 25 ?_;refine rn 26 Rz rfl r5 (λK hK=>?_);refine fX 4 55 45 rfl w0 b 34 (ai aI {u with usr:=a.user,ib:=a.pass,host:=a.host}) I7.o 14 (.bool a.bz) rfl rfl (fP f.o P8) bY.2.2 rfl (ai aI {u with usr:=a.user,ib:=a.pass,host:=a.host,bz:=a.bz}) ((fO aI {u with usr:=a.user,ib:=a.pass,host:=a.host} f.o).bz _) ?_;intro x8 c t1;obtain⟨I8,B,T8⟩:=cZ c (t1.cb z.o l) (T7.o.trans t1);clear c t1;refine hK.out _ _ B.o (λhHeld=>?_);clear hK K
  try simp only[Act.put]
  refine ek 27 ?_;refine ek 28 ?_;refine rn 29 Rz rfl r5 (λK hK=>?_);refine fX 3 57 47 rfl w0 b 34 (ai aI {u with usr:=a.user,ib:=a.pass,host:=a.host,bz:=a.bz}) I8.o 15 (.int .i64 a.port) rfl rfl (fP f.o P8) bY.2.1 rfl (ai aI (tW u a)) ((fO aI {u with usr:=a.user,ib:=a.pass,host:=a.host,bz:=a.bz} f.o).port _) ?_;intro x9 c t1;obtain⟨L,C9,T9⟩:=cZ c (t1.cb B.o l) (T8.o.trans t1);clear c t1;refine hK.out _ _ C9.o (λhHeld=>?_);clear hK K
  try simp only[Act.put]
  refine wpAnyH_done Rz ?_ _;have hc1:(sp=true)\/(sp=false/\¬k2.toList=[])\/(sp=false/\k2.toList=[]):=by cases sp <;>by_cases h:k2.toList=[] <;>simp[h]
  rcases hc1 with rfl|⟨rfl,he⟩|⟨rfl,he⟩
  ·have HU:=F (show R=some {tW u a with path:=PP} by rw[sU.o];simp)
   have c9:=ka.o _ _ _ L.o f.o rfl
   go_wp2_with(first|(go_at_call 170;refine(ED.o _).m ?_;rintro e xr⟨v10,rfl,ho,U⟩;obtain⟨k,nl,Y0,Yl⟩:=dT ho (L.o.below U) (T9.o.below U) (show b<x9.heap.size from L.o.lt);clear ho U)|(refine dX rfl 22 71 69 rfl w0 b 34 (ai aI (tW u a)) nl.o 18 v10 rfl rfl (fP f.o P8) dC (bm k.o) (ai v10 {tW u a with path:=PP}) ((fO aI (tW u a) f.o).path _ _) ?_;intro Eb c t1;obtain⟨xP,N,M⟩:=cZ c (Y0.o.trans t1) (t1.row k.o Yl.o);clear c t1))
   go_end0
   rw[HU.o];exact⟨rfl,⟨v10,xP.o,ea (eE M.o) T9.o.s⟩,N.o⟩
  ·have HU:=F (show R=some {tW u a with path:=PP} by rw[sU.o,ge (.inr λh=>he (J.o.2 h))])
   have he1:k2.toList.isEmpty=false:=by simpa using he
   have c9:=ka.o _ _ _ L.o f.o rfl
   go_wp2_with(first|(go_at_call 170;refine(ED.o _).m ?_;rintro e xr⟨v10,rfl,ho,U⟩;obtain⟨k,nl,Y0,Yl⟩:=dT ho (L.o.below U) (T9.o.below U) (show b<x9.heap.size from L.o.lt);clear ho U)|(refine dX rfl 22 71 69 rfl w0 b 34 (ai aI (tW u a)) nl.o 18 v10 rfl rfl (fP f.o P8) dC (bm k.o) (ai v10 {tW u a with path:=PP}) ((fO aI (tW u a) f.o).path _ _) ?_;intro Eb c t1;obtain⟨xP,N,M⟩:=cZ c (Y0.o.trans t1) (t1.row k.o Yl.o);clear c t1))
   go_end0
   rw[HU.o];exact⟨rfl,⟨v10,xP.o,ea (eE M.o) T9.o.s⟩,N.o⟩
  have HU:=F (show R=some {tW u a with path:=[]} by rw[sU.o,gc (by rintro(h|h);exact(by simp at h);exact h (J.o.1 he))]);have he1:k2.toList.isEmpty=true:=by rw[he];rfl
  go_wp2_with fail
  go_end0
  rw[HU.o];exact⟨rfl,⟨aI,L.o,Jt⟩,T9.o⟩

theorem ed{f:Func}{k:Nat}(g:f.results=#[.cell k 34]){tmps:Array Z}{w0 c:H}{b:Nat}{A:Z}{u:Url}{Post:Ending->H->Prop}(d:u.host.six.length=8)(h:tmps.getD k undef=.pointer (some ⟨b,0,none⟩))
  (i:OB w0 b 34 (ai A u) c) (e:Post (.returned (.agg (ai A u))) c) :
  bodyPost prog f Post Exit.ret {tmps:=tmps,defers:=[]} c:=by
 have a:tmps[k]?.getD undef=.pointer (some ⟨b,0,none⟩):=by simpa using h
 have j:=i.load (P:=prog) 34 _ underlying34 rfl (by rw[kJ d];exact iJ);refine bodyPost_ret (v:=.agg (ai A u)) ?_ rfl e;simp[results,g,asAddr,a,j]
theorem rz{A c:Z}{u a:Url}(h:u.host.six.length=8)(I:a.host.six.length=8):ua (ai A u) 0 (cu c a)=ai c a:=mQ _ _ (by rw[oF h,oF I])
theorem a3p(d:O)(c:Bool)(q:O)(a:Bool)(f:O):∀w,(Instr.build 34 #[(0,S d),(9,.bool c),(10,S q),(11,.bool a),(12,S f)]).run prog w=.ok (.agg (ai aI {U0 with aJ:=d,bZ:=c,q:=q,cg:=a,f:=f})) w:=λw=>Rz
theorem uT{o:Oper}{a:Act}{w:H}(h i j k l:Operand)(r:o.op=.build 34 #[(0,h),(9,i),(10,j),(11,k),(12,l)])(g:O)(d:Bool)(q:O)(c:Bool)(f:O)
  (Y:a.eval h=S g) (I:a.eval i=.bool d) (m:a.eval j=S q) (n:a.eval k=.bool c) (p:a.eval l=S f):(execOp a.eval o).run prog w=.ok (.value (.agg (ai aI {U0 with aJ:=g,bZ:=d,q:=q,cg:=c,f:=f}))) w:=by
 have e:=a3p g d q c f w;unfold execOp;simp only[r,h2,io,h1,m9,dh,pz,Y,I,m,n,p,e]
theorem oW(aJ:O)(p:kW)(w:H)(P:p.q.length<=1024000000)(hf:p.f.length<=1024000000):bF prog 121 #[.string (E aJ),.agg (aW p)] w (.agg (ai aI (dp aJ p))):=by
 obtain⟨ji,T,H2,H3⟩:=dT (λW=>gl aJ W) (λW=>eT 1 p.f W hf) (λW=>eT 2 p.q W P) (λW=>eT 3 p.q W P);obtain⟨R,D⟩:=V (dp aJ p);rw[<-D];unfold dp at D;have hc:eU aJ=true\/eU aJ=false:=by cases eU aJ <;>simp
 generalize eU aJ=sp at *;have HR:=F D;clear D P hf;go_enter func121,ntmps121
 go_upto_region 1 with(refine aM rfl 34 rfl _ _ (eD _) ?_)
 have X:=CB.new w 91 (aW p);have U:=(gT w.heap.size w).alloc (ag _) (.cells (aW p) 91);obtain⟨C,s⟩:=V (w.alloc (.cells (aW p) 91));have Q:C.heap.size=w.heap.size+1:=by rw[s];simp
 rw[<-s]at X U⊢;have hu:=OB.fresh C 34 (ai aI U0);have l:=(gT C.heap.size C).alloc (ag _) (.cells (ai aI U0) 34);obtain⟨w3,z⟩:=V (C.alloc (.cells (ai aI U0) 34));rw[<-z]at hu l⊢;rw[Q]at hu
 try rw[Q]
 have t:=X.keep l;have r:OB w (w.heap.size+1) 34 (ai aI U0) w3:=⟨hu.a,M0,dw U l⟩;obtain⟨i,x,N,v⟩:=ac (w.heap.size) (w.heap.size+1);rw[<-v]at r⊢;rw[<-x]at t⊢;have y:i≠N:=M0;have j:=F t;have I3:=F r;clear X U s Q hu l z t r x v;rcases hc with rfl|rfl
 ·go_upto_region 4 with(go_at_call 119;refine(ji.o _).e ?_)
  have n:=F (show R={U0 with aJ:=aJ,bZ:=p.bZ,q:=dD 3 p.q,cg:=p.cg,f:=dD 1 p.f} by rw[HR.o];rfl);have J:=H3;refine wp_region_held_drew (S:=λW=>CB W i 91 (aW p)) Rz (by first|exact j.o.keep (bG (bg _))|exact k.o|exact h.o|exact g.o) (λhHeld=>?_);refine ek 0 ?_;refine ek 1 ?_;refine e_l 2 rfl (λ_ hS=>bK 4 9 rfl i 3 (.bool p.bZ) _ underlying4 rfl rfl (hS.aE rfl)) ?_
  refine ek 3 ?_;refine e_l 4 rfl (λ_ hS=>bK 9 11 rfl i 4 (S p.q) _ underlying9 rfl rfl (hS.aE rfl)) ?_
  refine ek 5 ?_;refine ek 7 ?_;refine e_l 8 rfl (λ_ hS=>bK 4 15 rfl i 5 (.bool p.cg) _ underlying4 rfl rfl (hS.aE rfl)) ?_
  refine ek 9 ?_;refine e_l 10 rfl (λ_ hS=>bK 9 17 rfl i 6 (S p.f) _ underlying9 rfl rfl (hS.aE rfl)) ?_
  refine rn 6 Rz rfl r5 (λK hK=>?_)
  go_simp
  refine(J.o _).k λw5 c=>?_;have g:=F<|(j.o.keep (bG (bg _))).keep c.o;have L:=F<|(I3.o.below (bG (bg _))).below c.o;clear c;refine hK.out _ _ g.o (λhHeld=>?_);clear hK K;refine rn 11 Rz rfl r5 (λK hK=>?_)
  go_simp
  refine(T.o _).k λw6 d=>?_;have h:=F<|g.o.keep d.o;have M:=F<|L.o.below d.o;clear d;refine hK.out _ _ h.o (λhHeld=>?_);clear hK K;refine tq 12 rfl ?_ (λwS hSw=>?_) ?_;rotate_left
  ·(try dsimp only at hSw)
   refine uT 8 10 14 16 19 ?_ aJ p.bZ (dD 3 p.q) p.cg (dD 1 p.f) ?_ ?_ ?_ ?_ ?_ <;>rfl
  try simp only[Act.put,fH,fI,fJ]
  refine rn 13 Rz rfl r5 (λK hK=>?_);refine j5 34 4 20 rfl w N 34 (ai aI U0) M.o 0 (cu aI {U0 with aJ:=aJ,bZ:=p.bZ,q:=dD 3 p.q,cg:=p.cg,f:=dD 1 p.f}) rfl rfl (bW rfl) iJ (xe rfl) (ai aI {U0 with aJ:=aJ,bZ:=p.bZ,q:=dD 3 p.q,cg:=p.cg,f:=dD 1 p.f}) (rz rfl rfl) ?_;intro w7 B t7;have u:=F B;have k:=F<|t7.cb h.o y;clear B t7;refine hK.out _ _ k.o (λhHeld=>?_);clear hK K
  try simp only[Act.put]
  refine wpAnyH_done Rz ?_ _;go_wp2_with fail;rw[n.o];exact ed results121 rfl rfl u.o ⟨rfl,u.o.bL⟩
 go_upto_region 4 with(go_at_call 119;refine(ji.o _).e ?_)
 have n:=F (show R={U0 with aJ:=aJ,bZ:=p.bZ,q:=dD 2 p.q,cg:=p.cg,f:=dD 1 p.f} by rw[HR.o];rfl);have J:=H2;refine wp_region_held_drew (S:=λW=>CB W i 91 (aW p)) Rz (by first|exact j.o.keep (bG (bg _))|exact k.o|exact h.o|exact g.o) (λhHeld=>?_);refine ek 0 ?_;refine ek 1 ?_;refine e_l 2 rfl (λ_ hS=>bK 4 9 rfl i 3 (.bool p.bZ) _ underlying4 rfl rfl (hS.aE rfl)) ?_
 refine ek 3 ?_;refine e_l 4 rfl (λ_ hS=>bK 9 11 rfl i 4 (S p.q) _ underlying9 rfl rfl (hS.aE rfl)) ?_
 refine ek 5 ?_;refine ek 7 ?_;refine e_l 8 rfl (λ_ hS=>bK 4 15 rfl i 5 (.bool p.cg) _ underlying4 rfl rfl (hS.aE rfl)) ?_
 refine ek 9 ?_;refine e_l 10 rfl (λ_ hS=>bK 9 17 rfl i 6 (S p.f) _ underlying9 rfl rfl (hS.aE rfl)) ?_
 refine rn 6 Rz rfl r5 (λK hK=>?_)
 go_simp
 refine(J.o _).k λw5 c=>?_;have g:=F<|(j.o.keep (bG (bg _))).keep c.o;have L:=F<|(I3.o.below (bG (bg _))).below c.o;clear c;refine hK.out _ _ g.o (λhHeld=>?_);clear hK K;refine rn 11 Rz rfl r5 (λK hK=>?_)
 go_simp
 refine(T.o _).k λw6 d=>?_;have h:=F<|g.o.keep d.o;have M:=F<|L.o.below d.o;clear d;refine hK.out _ _ h.o (λhHeld=>?_);clear hK K;refine tq 12 rfl ?_ (λwS hSw=>?_) ?_;rotate_left
 ·(try dsimp only at hSw)
  refine uT 8 10 14 16 19 ?_ aJ p.bZ (dD 2 p.q) p.cg (dD 1 p.f) ?_ ?_ ?_ ?_ ?_ <;>rfl
 try simp only[Act.put,fH,fI,fJ]
 refine rn 13 Rz rfl r5 (λK hK=>?_);refine j5 34 4 20 rfl w N 34 (ai aI U0) M.o 0 (cu aI {U0 with aJ:=aJ,bZ:=p.bZ,q:=dD 2 p.q,cg:=p.cg,f:=dD 1 p.f}) rfl rfl (bW rfl) iJ (xe rfl) (ai aI {U0 with aJ:=aJ,bZ:=p.bZ,q:=dD 2 p.q,cg:=p.cg,f:=dD 1 p.f}) (rz rfl rfl) ?_;intro w7 B t7;have u:=F B;have k:=F<|t7.cb h.o y;clear B t7;refine hK.out _ _ k.o (λhHeld=>?_);clear hK K
 try simp only[Act.put]
 refine wpAnyH_done Rz ?_ _;go_wp2_with fail;rw[n.o];exact ed results121 rfl rfl u.o ⟨rfl,u.o.bL⟩

def BA(w:H):Option Url->Ending->H->Prop
 |none,e,w'=>e=Ek/\r7 w w'
 |some u,e,w'=>∃A,e=.returned (.agg (ai A u))/\w'.ownsRow w.heap.size 9 1 A u.path.length (Strs u.path)/\r7 w w'
theorem OB.of{w0 W:H}{b:Nat}{T:TypeId}{cs:Array Z}(i:CB W b T cs)(hle:w0.heap.size<=b)(U:r7 w0 W):OB w0 b T cs W:=⟨i.a,hle,U⟩
theorem own_below'{W a:H}{base e n:Nat}{v:Z}{xs:List Z}(h:W.ownsRow base e 1 v n xs)(U:r7 W a):a.ownsRow base e 1 v n xs:=own_below h U
section
variable {ops:Array Oper} {rest:List Oper} {o:Oper} {a:Act} {w:H} {Q:Exit->Act->H->Prop}
theorem eP(c:o.guard=none)(x:Operand)(e:o.op=.load 34 x)(w0:H)(b:Nat)(A:Z)(u:Url)(i:OB w0 b 34 (ai A u) w)(d:u.host.six.length=8)(X:a.eval x=.pointer (some ⟨b,0,none⟩))
  (K:wpList prog ops Q rest (a.put o.dst (.agg (ai A u))) w):wpList prog ops Q (o::rest) a w :=
 CF c _ x e w0 b 34 (ai A u) i _ X underlying34 rfl (by rw[kJ d];exact iJ) K
theorem fV(d:o.guard=none)(x y:Operand)(f:o.op=.store 34 x y)(w0:H)(b:Nat)(i:OB w0 b 34 (ai aI U0) w)(A:Z)(u:Url)(c:u.host.six.length=8)(Y:A.oneCell'=true)
  (X:a.eval x=.pointer (some ⟨b,0,none⟩)) (hy:a.eval y=.agg (ai A u))
  (K:∀e,OB w0 b 34 (ai A u) e->Tn b w e->wpList prog ops Q rest (a.put o.dst undef) e):wpList prog ops Q (o::rest) a w :=
 rh d _ x y f w0 b 34 (ai aI U0) i 0 (cu A u) X hy (by rw[oF c];exact bW rfl) (by rw[oF c];exact iJ) (xe Y) (ai A u) (rz rfl c) K
theorem kB(c:Region.wanted o (yielded ops a.tmps)=true)(x:Operand)(d:o.op=.load 91 x)(b:Nat)(p:kW)(i:CB w b 91 (aW p))(X:a.eval x=.pointer (some ⟨b,0,none⟩))
  (K:wpList prog ops Q rest (a.put o.dst (.agg (aW p))) w):wpList prog ops Q (o::rest) a w :=
 vR c _ x d b (aW p) _ underlying91 rfl mO X i K
end
structure K2 (bx br b:Nat) (p:kW) (W:H):Prop where
 x:CB W bx 91 (aW p)
 r:CB W br 34 (ai aI U0)
 nx:bx≠b
 nr:br≠b
theorem K2.below{e d b:Nat}{p:kW}{W c:H}(k:K2 e d b p W)(h:r7 W c):K2 e d b p c:=⟨k.x.keep h,k.r.keep h,k.nx,k.nr⟩
theorem K2.tn{e d b:Nat}{p:kW}{W c:H}(k:K2 e d b p W)(h:Tn b W c):K2 e d b p c:=⟨h.cb k.x k.nx,h.cb k.r k.nr,k.nx,k.nr⟩
structure Rs (s:O):Prop where
 l:s.length<=307200000
 a:∀sp k,Et (dU sp (s.drop k)).1
 n:∀sp k,Short (dU sp (s.drop k)).1
theorem Yb{s:O}(h:s.length<=1048576):Rs s:=by
 have hd:∀sp k,(dU sp (s.drop k)).1.length<=1048576:=λsp k=>by have:=(nK sp (s.drop k)).1;rw[aj]at this;omega
 exact⟨M0,λsp k=>Km (hd sp k),λsp k=>DJ (hd sp k)⟩
theorem uW(l m:O)(w:H):bP prog 142 #[.string (E l),.string (E m)] w (.tuple #[S (Lib.trimPrefix l m),.bool (Lib.hasPrefix l m)]):=by
 have h:=Any.strings_CutPrefix laysCut (E l) (E m) w;rw[show(E l).data.toList=l from cW l,show(E m).data.toList=m from cW m]at h;exact h
theorem Vd(l:O):Lib.hasPrefix l [47,47]=true ↔ ∃r,l=47::47::r:=by
 unfold Lib.hasPrefix;constructor
 ·intro h
  obtain⟨r,rfl⟩:=ej.1 h;exact⟨r,rfl⟩
 rintro⟨r,rfl⟩;exact ej.2 ⟨r,rfl⟩
theorem hpS(l:O):Lib.hasPrefix l [47]=true ↔ ∃r,l=47::r:=by
 unfold Lib.hasPrefix;constructor
 ·intro h
  obtain⟨r,rfl⟩:=ej.1 h;exact⟨r,rfl⟩
 rintro⟨r,rfl⟩;exact ej.2 ⟨r,rfl⟩
theorem jT{u v:Url}{s:O}(h:jS u s=some v):v.host.six.length=8:=by
 have c:=@ath_six u.aJ (dU (eU u.aJ) s).1;unfold jS at h;cases hA:kr u.aJ (dU (eU u.aJ) s).1 with
 |none=>simp[hA]at h
 |some a =>
  rw[hA]at c;simp only[hA,ly]at h;rw[<-h];exact c

theorem Rc{p:kW}{r:O}(h:p.rest=47::47::r):gi p=jS (dp p.aJ p) r:=by
 unfold gi;rw[h];rfl
theorem Re{p:kW}{r:O}(h:p.rest=47::r)(I:¬ ∃t,p.rest=47::47::t):gi p=some {dp p.aJ p with path:=da (dp p.aJ p).aJ [] r}:=by
 unfold gi;rw[h]at I⊢;cases r with
 |nil=>rfl
 |cons c t =>
  by_cases d:c=47
  ·subst d
   exact absurd ⟨t,rfl⟩ I
  dsimp only
  split
  ·rename_i f he
   exact absurd (a6q (a6q he).2).1 d
  ·rename_i f _ he
   have:=(a6q he).2;subst this;rfl
  rename_i s' _ e
  exact(e _ rfl).elim
theorem Rf{p:kW}(I:¬ ∃t,p.rest=47::t):gi p=some {dp p.aJ p with opq:=true,flat:=if(p.bZ=true\/p.cg=true)/\(dD 0 p.rest).getLast? = some 32 then(dD 0 p.rest).dropLast++[37,50,48]else dD 0 p.rest}:=by
 unfold gi
 split
 ·rename_i r he
  exact absurd ⟨_,he⟩ I
 ·rename_i r _ he
  exact absurd ⟨_,he⟩ I
 rfl
theorem ow{w:H}{base e:Nat}{l:List O}(h:l=[]):w.ownsRow base e 1 aI l.length (Strs l):=by rw[h];exact Jt
theorem a9W(l:O):Lib.hasSuffix l [32]=true ↔ l.getLast? = some 32:=by
 unfold Lib.hasSuffix;rw[a9b];constructor
 ·rintro⟨r,rfl⟩
  simp
 intro h;obtain⟨r,rfl⟩:=a2Q.1 h;exact⟨r,rfl⟩
theorem b0s(l:O)(h:Lib.hasSuffix l [32]=true):Lib.trimSuffix l [32]=l.dropLast:=by
 unfold Lib.trimSuffix;rw[ge h,iN];rfl
theorem GF(p:kW)(w:H)(k:Rs p.rest)(hq:p.q.length<=307200000)(hf:p.f.length<=307200000)(hE:Env w):Calls prog 124 #[.agg (aW p)] w (BA w (gi p)):=by
 have HST:=F<|λW=>oW p.aJ p W M0 M0;have hc2:=λW=>uW p.rest [47,47] W;have hc1:=λW=>uW p.rest [47] W;have J:=λW=>zU (dD 0 p.rest) [32] W (by have:=gv 0 p.rest;have:=k.l;omega);have hen:=λW=>eT 0 p.rest W (by have:=k.l;omega);obtain⟨us,HUS⟩:=ey (dp p.aJ p);have h8:us.host.six.length=8:=by rw[HUS.o];rfl
 have hsc:us.aJ=p.aJ:=by rw[HUS.o];rfl
 have hup:us.path=[]:=by rw[HUS.o];rfl
 rw[<-HUS.o]at HST;obtain⟨R,HR⟩:=ey (gi p);rw[<-HR.o];obtain⟨HE,sU,d,rG,Bg⟩:=ec hE k h8 hsc hup;rw[show E [47,47]=⟨#[47,47]⟩from rfl]at hc2;rw[show E [47]=⟨#[47]⟩from rfl]at hc1;rw[show E [32]=⟨#[32]⟩from rfl]at J;obtain⟨xL,zC,rE,Ei⟩:=dT J hen hc1 hc2;clear k hq hf hE h8 hsc hup hc2 hc1 J hen;go_enter func124,ntmps124
 go_upto_region 1 with(refine aM rfl 34 rfl _ _ (eD _) ?_)
 have X:=CB.new w 91 (aW p);have U:=(gT w.heap.size w).alloc (ag _) (.cells (aW p) 91);obtain⟨w2,hw2⟩:=V (w.alloc (.cells (aW p) 91));have hz:w2.heap.size=w.heap.size+1:=by rw[hw2];simp
 rw[<-hw2]at X U⊢;have hu:=CB.new w2 34 (ai aI U0);have hb2:=(gT w2.heap.size w2).alloc (ag _) (.cells (ai aI U0) 34);obtain⟨w3,hw3⟩:=V (w2.alloc (.cells (ai aI U0) 34));have hz3:w3.heap.size=w.heap.size+2:=by rw[hw3];simp[hz]
 rw[<-hw3]at hu hb2⊢;rw[hz]at hu
 try rw[hz]
 have hx3:=X.keep hb2;obtain⟨bx,hbx,D,hbr⟩:=ac (w.heap.size) (w.heap.size+1);rw[<-hbr]at hu⊢;rw[<-hbx]at hx3⊢;have hlx:bx<w3.heap.size:=M0;have hlr:D<w3.heap.size:=M0;obtain⟨iS,B3,X3,R3⟩:=dT (show w.heap.size<=D by omega) (dw U hb2) hx3 hu;clear X U hw2 hz hu hb2 hw3 hx3 hbx hbr hz3;have c1:=X3.o.aE (j:=1) (v:=S p.aJ) rfl
 go_upto_region 2 with(first|(refine kB rfl 1 rfl bx p X3.o rfl ?_)|(go_at_call 121;refine(HST.o _).k λw4 eI=>?_)|(refine aM rfl 34 rfl _ _ (eD _) ?_)|(refine fL rfl 3 13 rfl aI us d.o rfl rfl rfl rfl ?_;intro w5 hh U;obtain⟨C,K5,lZ⟩:=cZ (OB.of (w0:=w) hh (am B3.o.size eI.o.size) (dw (dw B3.o eI.o) U)) (show K2 bx D w4.heap.size p w5 from⟨(X3.o.keep eI.o).keep U,(R3.o.keep eI.o).keep U,by have:=eI.o.size;omega,by have:=eI.o.size;omega⟩) (show D<w4.heap.size by have:=eI.o.size;omega);clear hh U))
 generalize w4.heap.size=b at C K5 lZ⊢;clear c1 hlx hlr;have c2:=K5.o.x.aE (j:=2) (v:=S p.rest) rfl;by_cases hA:∃r,p.rest=47::47::r
 ·obtain⟨r,k⟩:=hA
  have hp1:Lib.hasPrefix p.rest [47,47]=true:=(Vd _).2 ⟨r,k⟩;have ht:Lib.trimPrefix p.rest [47,47]=r:=by unfold Lib.trimPrefix;rw[ge hp1,k];rfl
  obtain⟨dI,WQ,T⟩:=cZ (show R=jS us r by rw[HR.o,Rc k,HUS.o]) (λW=>(show bP prog 142 #[S p.rest,.string ⟨#[47,47]⟩] W (.tuple #[S r,.bool true])from by have h:=Ei.o W;rw[ht,hp1]at h;exact h)) (λW (i:OB w b 34 (ai aI us) W)=>ul w b us r W i d.o Bg.o (by have:=sU.o.l;rw[k]at this;simp at this;omega) (by have:=sU.o.a (eU us.aJ) 2;rw[k]at this;exact this) (HE.o.below i.bL));clear hp1 ht k;cases hO:jS us r with
  |none =>
   rw[hO]at dI;have rL:=F<|λW i=>(show Calls prog 122 #[.pointer (some ⟨b,0,none⟩),S r] W λe w'=>e=Ek/\r7 w w'/\Tn b W w' from by have h:=T.o W i;rw[hO]at h;exact h);clear hO T
   go_wp2_with(first|(go_at_call 142;refine(WQ.o _).e ?_)|(go_at_call 122;refine(rL.o _ C.o).m ?_;rintro e w7⟨rfl,U,_⟩;have B7:=F U;clear U))
   rw[dI.o];exact⟨rfl,rfl,B7.o⟩
  |some u =>
   rw[hO]at dI;have rL:=F<|λW i=>(show Calls prog 122 #[.pointer (some ⟨b,0,none⟩),S r] W λe w'=>e=.returned (.tuple #[])/\(∃A,OB w b 34 (ai A u) w'/\w'.ownsRow W.heap.size 9 1 A u.path.length (Strs u.path))/\Tn b W w' from by have h:=T.o W i;rw[hO]at h;exact h);have U8:=F<|jT hO;clear hO T
   go_wp2_with(first|(go_at_call 142;refine(WQ.o _).e ?_)|(go_at_call 122;refine(rL.o _ C.o).m ?_;rintro e w7⟨rfl,⟨A,i7,o7⟩,t7⟩;obtain⟨I7,O7,K7⟩:=cZ i7 o7 (K5.o.tn t7);clear i7 o7 t7)|(refine eP rfl 3 rfl w b A u I7.o U8.o rfl ?_)|(refine fV rfl 2 23 rfl w D (OB.of K7.o.r iS.o I7.o.bL) A u U8.o (bm O7.o) rfl rfl ?_;intro w8 i8 t8;have I8:=F i8;have O8:=F<|ea (t8.row O7.o (aN lZ.o (xp C.o.lt))) C.o.bL.size;clear i8 t8))
   rw[dI.o];exact ed (u:=u) results124 U8.o rfl I8.o ⟨A,rfl,O8.o,I8.o.bL⟩
 by_cases hB:∃r,p.rest=47::r
 ·obtain⟨r,k⟩:=hB
  have s:Lib.hasPrefix p.rest [47,47]=false:=by rw[MT];exact λh=>hA ((Vd _).1 h)
  have K:Lib.trimPrefix p.rest [47,47]=p.rest:=by unfold Lib.trimPrefix;rw[gc (by simp[s])]
  have hp1:Lib.hasPrefix p.rest [47]=true:=(hpS _).2 ⟨r,k⟩;have ht:Lib.trimPrefix p.rest [47]=r:=by unfold Lib.trimPrefix;rw[ge hp1,k];rfl
  have WQ:=F<|λW=>(show bP prog 142 #[S p.rest,.string ⟨#[47,47]⟩] W (.tuple #[S p.rest,.bool false])from by have h:=Ei.o W;rw[K,s]at h;exact h);have WB:=F<|λW=>(show bP prog 142 #[S p.rest,.string ⟨#[47]⟩] W (.tuple #[S r,.bool true])from by have h:=rE.o W;rw[ht,hp1]at h;exact h);obtain⟨P,hP⟩:=V (da us.aJ [] r);have ma:=F<|λW=>(show Calls prog 164 #[S us.aJ,aI,S r] W (ga W 9 (Strs P))from by rw[hP];exact gj us.aJ r [] aI W Sl.nil (by have:=sU.o.l;rw[k]at this;simp at this;omega) Oc Oc);have xo:=F (show R=some {us with path:=P} by rw[HR.o,Re k hA,hP,HUS.o]);clear s K hp1 ht k hA hP;have c0:=C.o.aE (ry aI us d.o).aJ
  go_upto_region 8 with(go_at_call 142;(with_reducible first|(refine(WQ.o _).m ?_)|(refine(WB.o _).m ?_));rintro e w6⟨rfl,hw⟩;subst hw)
  go_wp2_with(first|(go_at_call 164;refine(ma.o _).m ?_;rintro e w7⟨A,rfl,o7,U⟩;obtain⟨O7,I7,K7⟩:=cZ o7 (C.o.below U) (K5.o.below U);clear o7 U)|(refine dX rfl 22 35 34 rfl w b 34 (ai aI us) I7.o 18 A rfl rfl (fP d.o P8) dC (bm O7.o) (ai A {us with path:=P}) ((fO aI us d.o).path _ _) ?_;intro w8 i8 t8;obtain⟨I8,K8,O8⟩:=cZ i8 (K7.o.tn t8) (t8.row O7.o C.o.lt);clear i8 t8)|(refine eP rfl 3 rfl w b A {us with path:=P} I8.o d.o rfl ?_)|(refine fV rfl 2 36 rfl w D (OB.of K8.o.r iS.o I8.o.bL) A {us with path:=P} d.o (bm O8.o) rfl rfl ?_;intro w9 i9 t9;have B:=F i9;have O9:=F<|ea (t9.row O8.o (aN lZ.o (xp C.o.lt))) C.o.bL.size;clear i9 t9))
  rw[xo.o];exact ed (u:={us with path:=P}) results124 d.o rfl B.o ⟨A,rfl,eE O9.o,B.o.bL⟩
 have s:Lib.hasPrefix p.rest [47,47]=false:=by rw[MT];exact λh=>hA ((Vd _).1 h)
 have K:Lib.trimPrefix p.rest [47,47]=p.rest:=by unfold Lib.trimPrefix;rw[gc (by simp[s])]
 have hp1:Lib.hasPrefix p.rest [47]=false:=by rw[MT];exact λh=>hB ((hpS _).1 h)
 have ht:Lib.trimPrefix p.rest [47]=p.rest:=by unfold Lib.trimPrefix;rw[gc (by simp[hp1])]
 have WQ:=F<|λW=>(show bP prog 142 #[S p.rest,.string ⟨#[47,47]⟩] W (.tuple #[S p.rest,.bool false])from by have h:=Ei.o W;rw[K,s]at h;exact h);have WB:=F<|λW=>(show bP prog 142 #[S p.rest,.string ⟨#[47]⟩] W (.tuple #[S p.rest,.bool false])from by have h:=rE.o W;rw[ht,hp1]at h;exact h);obtain⟨c,hfl⟩:=V (dD 0 p.rest);have xw:=F (show R=some {us with opq:=true,flat:=if(p.bZ=true\/p.cg=true)/\c.getLast? = some 32 then c.dropLast++[37,50,48]else c} by rw[HR.o,Rf hB,hfl,HUS.o]);have hsx:=a9W c;have htx:=b0s c;rw[<-hfl]at zC xL;have zD:=F (show c.length<=921600000 by rw[hfl];have:=gv 0 p.rest;have:=sU.o.l;omega);generalize Lib.hasSuffix c [32]=hs at *;generalize Lib.trimSuffix c [32]=tf at *;have YJ:=F htx;have EG:=F hsx;clear s K hp1 ht hB hA hfl htx hsx
 go_upto_region 12 with(first|(go_at_call 142;(with_reducible first|(refine(WQ.o _).m ?_)|(refine(WB.o _).m ?_));rintro e w6⟨rfl,hw⟩;subst hw)|(refine dX rfl 4 37 (.const (.bool true)) rfl w b 34 (ai aI us) C.o 16 (.bool true) rfl rfl (fP d.o P8) bY.2.2 rfl (ai aI {us with opq:=true}) ((fO aI us d.o).opq _) ?_;intro w7 i7 t7;have I7:=F i7;have K7:=F<|K5.o.tn t7;have d2:=K7.o.x.aE (j:=2) (v:=S p.rest) rfl;clear i7 t7)|(go_at_call 167;refine(zC.o _).k λw8 U=>?_;have I8:=F<|I7.o.below U.o;have K8:=F<|K7.o.below U.o;clear U)|(refine dX rfl 9 41 40 rfl w b 34 (ai aI {us with opq:=true}) I8.o 17 (S c) rfl rfl (fP d.o P8) bY.1 rfl (ai aI {us with opq:=true,flat:=c}) ((fO aI {us with opq:=true} d.o).flat _) ?_;intro w9 i9 t9;have B:=F i9;have K9:=F<|K8.o.tn t9;clear i9 t9))
 clear c2 d2;have c3:=K9.o.x.aE (j:=3) (v:=.bool p.bZ) rfl;have c5:=K9.o.x.aE (j:=5) (v:=.bool p.cg) rfl;have c17:=B.o.aE (ry aI {us with opq:=true,flat:=c} d.o).flat;have J:(p.bZ=true)\/(p.bZ=false/\p.cg=true)\/(p.bZ=false/\p.cg=false):=by cases p.bZ <;>cases p.cg <;>simp
 rcases J with hq|⟨hq,hf⟩|⟨hq,hf⟩
 ·rw[hq]at c3
  cases hs with
  |true =>
   have M:=F (show R=some {us with opq:=true,flat:=c.dropLast++[37,50,48]} by rw[xw.o,ge ⟨by simp[hq],EG.o.1 rfl⟩]);have N:=YJ.o rfl;have HTF:=F (show S tf=S c.dropLast by rw[N]);have n:=F (show E tf++(⟨#[37,50,48]⟩:ByteArray)=E (c.dropLast++[37,50,48]) by rw[N,<-mm];rfl);obtain⟨tg,HTG⟩:=ey (E (c.dropLast++[37,50,48]));rw[<-HTG.o]at n;obtain⟨th,g⟩:=V (E tf);rw[<-g]at n;have Hq:=F<|λW=>(show bP prog 171 #[S c,.string ⟨#[32]⟩] W (.tuple #[.string th,.bool true])from by rw[g];exact xL.o W);clear xL HTF;have a9Y:th.size<=921600000:=by rw[g,aF,N,fY];have:=zD.o;omega
   clear g N;have had:=n.o
   go_upto_region 15 with(go_at_call 171;refine(Hq.o _).e ?_)
   go_upto_region 16 with(refine dX rfl 9 57 56 rfl w b 34 (ai aI {us with opq:=true,flat:=c}) B.o 17 (.string tg) rfl rfl (fP d.o P8) bY.1 rfl (ai aI {us with opq:=true,flat:=c.dropLast++[37,50,48]}) (by rw[HTG.o];exact(fO aI {us with opq:=true,flat:=c} d.o).flat _) ?_;intro Eb L t11;have xP:=F L;have H5:=F<|K9.o.tn t11;clear L t11)
   go_wp2_with(first|(refine eP rfl 3 rfl w b aI {us with opq:=true,flat:=c.dropLast++[37,50,48]} xP.o d.o rfl ?_)|(refine fV rfl 2 58 rfl w D (OB.of H5.o.r iS.o xP.o.bL) aI {us with opq:=true,flat:=c.dropLast++[37,50,48]} d.o rfl rfl rfl ?_;intro wZ z _;have y:=F z;clear z))
   rw[M.o];exact ed (u:={us with opq:=true,flat:=c.dropLast++[37,50,48]}) results124 d.o rfl y.o ⟨aI,rfl,ow Bg.o,y.o.bL⟩
  |false =>
   have M:=F (show R=some {us with opq:=true,flat:=c} by rw[xw.o,gc (by rintro⟨_,h⟩;have:=EG.o.2 h;cases this)])
   go_wp2_with(first|(go_at_call 171;refine(xL.o _).e ?_)|(refine eP rfl 3 rfl w b aI {us with opq:=true,flat:=c} B.o d.o rfl ?_)|(refine fV rfl 2 58 rfl w D (OB.of K9.o.r iS.o B.o.bL) aI {us with opq:=true,flat:=c} d.o rfl rfl rfl ?_;intro wZ z _;have y:=F z;clear z))
   rw[M.o];exact ed (u:={us with opq:=true,flat:=c}) results124 d.o rfl y.o ⟨aI,rfl,ow Bg.o,y.o.bL⟩
 ·rw[hq]at c3
  rw[hf]at c5;cases hs with
  |true =>
   have M:=F (show R=some {us with opq:=true,flat:=c.dropLast++[37,50,48]} by rw[xw.o,ge ⟨by simp[hf],EG.o.1 rfl⟩]);have N:=YJ.o rfl;have HTF:=F (show S tf=S c.dropLast by rw[N]);have n:=F (show E tf++(⟨#[37,50,48]⟩:ByteArray)=E (c.dropLast++[37,50,48]) by rw[N,<-mm];rfl);obtain⟨tg,HTG⟩:=ey (E (c.dropLast++[37,50,48]));rw[<-HTG.o]at n;obtain⟨th,g⟩:=V (E tf);rw[<-g]at n;have Hq:=F<|λW=>(show bP prog 171 #[S c,.string ⟨#[32]⟩] W (.tuple #[.string th,.bool true])from by rw[g];exact xL.o W);clear xL HTF;have a9Y:th.size<=921600000:=by rw[g,aF,N,fY];have:=zD.o;omega
   clear g N;have had:=n.o
   go_upto_region 15 with(go_at_call 171;refine(Hq.o _).e ?_)
   go_upto_region 16 with(refine dX rfl 9 57 56 rfl w b 34 (ai aI {us with opq:=true,flat:=c}) B.o 17 (.string tg) rfl rfl (fP d.o P8) bY.1 rfl (ai aI {us with opq:=true,flat:=c.dropLast++[37,50,48]}) (by rw[HTG.o];exact(fO aI {us with opq:=true,flat:=c} d.o).flat _) ?_;intro Eb L t11;have xP:=F L;have H5:=F<|K9.o.tn t11;clear L t11)
   go_wp2_with(first|(refine eP rfl 3 rfl w b aI {us with opq:=true,flat:=c.dropLast++[37,50,48]} xP.o d.o rfl ?_)|(refine fV rfl 2 58 rfl w D (OB.of H5.o.r iS.o xP.o.bL) aI {us with opq:=true,flat:=c.dropLast++[37,50,48]} d.o rfl rfl rfl ?_;intro wZ z _;have y:=F z;clear z))
   rw[M.o];exact ed (u:={us with opq:=true,flat:=c.dropLast++[37,50,48]}) results124 d.o rfl y.o ⟨aI,rfl,ow Bg.o,y.o.bL⟩
  |false =>
   have M:=F (show R=some {us with opq:=true,flat:=c} by rw[xw.o,gc (by rintro⟨_,h⟩;have:=EG.o.2 h;cases this)])
   go_wp2_with(first|(go_at_call 171;refine(xL.o _).e ?_)|(refine eP rfl 3 rfl w b aI {us with opq:=true,flat:=c} B.o d.o rfl ?_)|(refine fV rfl 2 58 rfl w D (OB.of K9.o.r iS.o B.o.bL) aI {us with opq:=true,flat:=c} d.o rfl rfl rfl ?_;intro wZ z _;have y:=F z;clear z))
   rw[M.o];exact ed (u:={us with opq:=true,flat:=c}) results124 d.o rfl y.o ⟨aI,rfl,ow Bg.o,y.o.bL⟩
 rw[hq]at c3;rw[hf]at c5;have M:=F (show R=some {us with opq:=true,flat:=c} by rw[xw.o,gc (by simp[hq,hf])])
 go_wp2_with(first|(refine eP rfl 3 rfl w b aI {us with opq:=true,flat:=c} B.o d.o rfl ?_)|(refine fV rfl 2 58 rfl w D (OB.of K9.o.r iS.o B.o.bL) aI {us with opq:=true,flat:=c} d.o rfl rfl rfl ?_;intro wZ z _;have y:=F z;clear z))
 rw[M.o];exact ed (u:={us with opq:=true,flat:=c}) results124 d.o rfl y.o ⟨aI,rfl,ow Bg.o,y.o.bL⟩

structure K3 (bb bx br b:Nat) (bv:Z) (u:Url) (p:kW) (W:H):Prop where
 cb:CB W bb 34 (ai bv u)
 cx:CB W bx 91 (aW p)
 cr:CB W br 34 (ai aI U0)
 nb:bb≠b
 nx:bx≠b
 nr:br≠b
section
variable {bb bx br b:Nat} {bv:Z} {u:Url} {p:kW} {W W':H}
theorem K3.below(k:K3 bb bx br b bv u p W)(h:r7 W W'):K3 bb bx br b bv u p W':=⟨k.cb.keep h,k.cx.keep h,k.cr.keep h,k.nb,k.nx,k.nr⟩
theorem K3.tn(k:K3 bb bx br b bv u p W)(h:Tn b W W'):K3 bb bx br b bv u p W':=⟨h.cb k.cb k.nb,h.cb k.cx k.nx,h.cb k.cr k.nr,k.nb,k.nx,k.nr⟩
end
theorem three(w:H)(bv:Z)(u:Url)(p:kW):∃d,((w.alloc (.cells (ai bv u) 34)).alloc (.cells (aW p) 91)).alloc (.cells (ai aI U0) 34)=d/\d.heap.size=w.heap.size+3/\r7 w d/\CB d w.heap.size 34 (ai bv u)/\CB d (w.heap.size+1) 91 (aW p)/\CB d (w.heap.size+2) 34 (ai aI U0):=by
 have X:=CB.new w 34 (ai bv u);have U:=(gT w.heap.size w).alloc (ag _) (.cells (ai bv u) 34);obtain⟨k,f⟩:=V (w.alloc (.cells (ai bv u) 34));have i:k.heap.size=w.heap.size+1:=by rw[f];simp
 rw[<-f]at X U⊢;have hy:=CB.new k 91 (aW p);have e:=(gT k.heap.size k).alloc (ag _) (.cells (aW p) 91);obtain⟨l,g⟩:=V (k.alloc (.cells (aW p) 91));have j:l.heap.size=w.heap.size+2:=by rw[g];simp[i]
 rw[<-g]at hy e⊢;have hu:=CB.new l 34 (ai aI U0);have c:=(gT l.heap.size l).alloc (ag _) (.cells (ai aI U0) 34);obtain⟨d,h⟩:=V (l.alloc (.cells (ai aI U0) 34));have m:d.heap.size=w.heap.size+3:=by rw[h];simp[j]
 rw[<-h]at hu c⊢;rw[i]at hy;rw[j]at hu;exact⟨d,rfl,m,dw (dw U e) c,(X.keep e).keep c,hy.keep c,hu⟩
theorem Wk{B:Nat}{w:H}{v:Z}{xs:List Z}(h:Sl B w v xs):v.oneCell'=true:=by
 obtain⟨c,_,_,⟨_,a,rfl⟩|⟨b,o,_,rfl,_⟩⟩:=h <;>rfl
theorem Pm(c:Url)(bv:Z)(p:kW)(w:H)(h8:c.host.six.length=8)(B:Sl w.heap.size w bv (c.path.map S))(z:c.path.length<=307200000)(hf:p.f.length<=307200000):Calls prog 125 #[.agg (ai bv c),.agg (aW p)] w (BA w (k5 c p)):=by
 have zC:=F<|λW=>eT 1 p.f W M0;obtain⟨R,L⟩:=V (k5 c p);rw[<-L];unfold k5 at L;obtain⟨i,SV,lZ,x⟩:=dT h8 B z L;obtain⟨ff,FU⟩:=V (dD 1 p.f);rw[<-FU]at zC x;have C:(E p.rest).toList=[] ↔ p.rest=[]:=by rw[aB]
 have Bw:=F C
 have hk:(p.cg=true/\p.bZ=false/\p.rest=[])\/(p.cg=false)\/(p.cg=true/\p.bZ=true)\/(p.cg=true/\p.bZ=false/\p.rest ≠ []):=by
  cases p.cg <;>cases p.bZ <;>by_cases h:p.rest=[] <;>simp[h]
 clear h8 B z hf L C FU;go_enter func125,ntmps125
 go_upto_region 1 with(refine aM rfl 34 rfl _ _ (eD _) ?_)
 obtain⟨w3,D,hz3,U,d,g,k⟩:=three w bv c p
 try rw[show((w.alloc (.cells (ai bv c) 34)).alloc (.cells (aW p) 91)).heap.size=w.heap.size+2 by simp]
 rw[D];clear D;obtain⟨br,q,bx,r,bb,l⟩:=ax (w.heap.size+2) (w.heap.size+1) (w.heap.size);rw[<-q]at k;rw[<-r]at g;rw[<-l]at d;rw[<-q,<-r,<-l];obtain⟨iS,kM,s,P,y,N,HD⟩:=ep (show w.heap.size<=br by omega) l U d g k (show bb<bx/\bx<br by omega);clear hz3 U d g k q r l;have d2:=y.o.aE (j:=2) (v:=S p.rest) rfl;have d3:=y.o.aE (j:=3) (v:=.bool p.bZ) rfl;have d5:=y.o.aE (j:=5) (v:=.bool p.cg) rfl;rcases hk with⟨d,g,k⟩|d|⟨d,g⟩|⟨d,g,k⟩
 ·have T:(E p.rest).toList.isEmpty=true:=by rw[Bw.o.2 k];rfl
  rw[d]at d5;rw[g]at d3;have n:=F (show R=some {c with cg:=true,f:=ff} by rw[x.o,gc (by simp[d,g,k])]);clear d g k
  go_upto_region 4 with(first|(refine eP rfl 2 rfl w bb bv c (OB.of P.o (bW kM.o.symm) s.o) i.o rfl ?_)|(refine aM rfl 34 rfl _ _ (eD _) ?_)|(refine fL rfl 5 20 rfl bv c i.o (Wk SV.o) rfl rfl rfl ?_;intro w5 hh U;have t:=F<|OB.of (w0:=w) hh s.o.size (dw s.o U);have K:=fo (K3 bb bx br w3.heap.size bv c p w5) ⟨P.o.keep U,y.o.keep U,N.o.keep U,cO P.o.lt,cO y.o.lt,cO N.o.lt⟩;clear hh U))
  obtain⟨b,U⟩:=V (w3.heap.size);have JX:=F (show br<b by rw[U];exact N.o.lt);rw[<-U]at t K⊢;clear U d2 d3 d5;have c8:=K.o.cb.aE (ry bv c i.o).path;have d6:=K.o.cx.aE (j:=6) (v:=S p.f) rfl
  go_upto_region 5 with(first|(go_at_call 54;refine(fQ c.path bv _ ((SV.o.below t.o.bL).more t.o.bL.size) (by have:=lZ.o;omega)).m ?_;rintro e w6⟨A,rfl,o6,U⟩;obtain⟨O6,I6,K6,M⟩:=dT (eE o6) (t.o.below U) (K.o.below U) (show b<w5.heap.size from t.o.lt);clear o6 U)|(refine dX rfl 22 24 23 rfl w b 34 (ai bv c) I6.o 18 A rfl rfl (fP i.o P8) dC (bm O6.o) (ai A c) ((fO bv c i.o).path _ c.path) ?_;intro w7 i7 t7;obtain⟨I7,K7,O7⟩:=cZ i7 (K6.o.tn t7) (t7.row O6.o M.o);clear i7 t7))
  clear c8 d6;have d6:=K7.o.cx.aE (j:=6) (v:=S p.f) rfl
  go_wp2_with(first|(refine dX rfl 4 25 (.const (.bool true)) rfl w b 34 (ai A c) I7.o 21 (.bool true) rfl rfl (fP i.o P8) bY.2.2 rfl (ai A {c with cg:=true}) ((fO A c i.o).cg _) ?_;intro w8 i8 t8;obtain⟨I8,K8,O8⟩:=cZ i8 (K7.o.tn t8) (t8.row O7.o M.o);have e6:=K8.o.cx.aE (j:=6) (v:=S p.f) rfl;clear i8 t8)|(go_at_call 167;refine(zC.o _).k λw9 U=>?_;obtain⟨I9,K9,O9⟩:=cZ (I8.o.below U.o) (K8.o.below U.o) (own_below O8.o U.o);clear U)|(refine dX rfl 9 29 28 rfl w b 34 (ai A {c with cg:=true}) I9.o 22 (S ff) rfl rfl (fP i.o P8) bY.1 rfl (ai A {c with cg:=true,f:=ff}) ((fO A {c with cg:=true} i.o).f _) ?_;intro xr qW t10;obtain⟨nl,rO,pB⟩:=cZ qW (K9.o.tn t10) (t10.row O9.o M.o);clear qW t10)|(refine eP rfl 5 rfl w b A {c with cg:=true,f:=ff} nl.o i.o rfl ?_)|(refine fV rfl 4 30 rfl w br (OB.of rO.o.cr iS.o nl.o.bL) A {c with cg:=true,f:=ff} i.o (bm pB.o) rfl rfl ?_;intro Eb J t11;have xP:=F J;have YZ:=F<|ea (t11.row pB.o (Nat.lt_trans JX.o M.o)) t.o.bL.size;clear J t11))
  rw[n.o];exact ed (u:={c with cg:=true,f:=ff}) results125 i.o rfl xP.o ⟨A,rfl,YZ.o,xP.o.bL⟩
 ·rw[d]at d5
  have n:=F (show R=none by rw[x.o,ge (by simp[d])]);go_wp2_with fail;rw[n.o];exact⟨rfl,rfl,s.o⟩
 ·rw[d]at d5
  rw[g]at d3;have n:=F (show R=none by rw[x.o,ge (by simp[g])]);go_wp2_with fail;rw[n.o];exact⟨rfl,rfl,s.o⟩
 rw[d]at d5;rw[g]at d3
 have T:(E p.rest).toList.isEmpty=false:=by
  have:=λh=>k (Bw.o.1 h)
  simpa using this
 have n:=F (show R=none by rw[x.o,ge (by simp[k])]);clear d g k;go_wp2_with fail;rw[n.o];exact⟨rfl,rfl,s.o⟩

structure Bs (l:List O):Prop where
 le:l.length<=307200000
 all:∀x∈l,List.length x<=1024000000
theorem wR(u b:Url):(fM u b).path=b.path:=by unfold fM;split <;>rfl
theorem mV(u b:Url):(fM u b).host=u.host:=by unfold fM;split <;>rfl
theorem AJ(c:Url)(bv:Z)(p:kW)(w:H)(h8:c.host.six.length=8)(hbv:Sl w.heap.size w bv (c.path.map S))(hbs:Bs c.path)(hr:Rs p.rest)(hq:p.q.length<=307200000)(hf:p.f.length<=307200000)(hE:Env w):Calls prog 126 #[.agg (ai bv c),.agg (aW p)] w (BA w (ri c p)):=by
 have HST:=F<|λW=>oW c.aJ p W M0 M0;have ji:=F<|λW=>gl c.aJ W;have hsl:=λW=>k9 c.aJ p.rest W (by have:=hr.l;omega);have S3:=F<|λW=>pL c.aJ p.rest W (by have:=hr.l;omega);obtain⟨us,ng⟩:=V (dp c.aJ p);have h8s:us.host.six.length=8:=by rw[ng];rfl
 have hsc:us.aJ=c.aJ:=by rw[ng];rfl
 have hup:us.path=[]:=by rw[ng];rfl
 rw[<-ng]at HST;obtain⟨R,hR⟩:=V (ri c p);rw[<-hR];unfold ri at hR;rw[<-ng]at hR;dsimp only at hR;have hle:=AT (eU c.aJ) p.rest;obtain⟨HE,sU,P,SV,Bd,Bf,rG,Bg⟩:=er hE hr h8 hbv hbs h8s hsc hup;have HUS:=F ng;generalize uE (eU c.aJ) p.rest=n at *;generalize eU c.aJ=sp at *;have D:=F hsl;have HR:=F hR;obtain⟨t,ht⟩:=V (E p.rest);have htz:t.size=p.rest.length:=by rw[ht,aF]
 have HT:=F ht;have pT:t.extract 1 t.size=E (p.rest.drop 1):=by rw[ht];exact gn p.rest 1 _ (aF p.rest)
 have n9:t.extract 2 t.size=E (p.rest.drop 2):=by rw[ht];exact gn p.rest 2 _ (aF p.rest)
 obtain⟨N,hN⟩:=V (t.size);have P6:t.size=N:=hN.symm;rw[P6]at pT n9;have uO:n<=N:=M0;obtain⟨Yu,Nv,xm,HTZ⟩:=dT pT n9 uO htz;clear h8 hbv hbs hr hq hf hE hsl h8s hsc hup hR hle ng ht pT n9 hN uO htz;go_enter func126,ntmps126
 go_upto_region 1 with(refine aM rfl 34 rfl _ _ (eD _) ?_)
 obtain⟨w3,hw3,hz3,U,k1,k2,k3⟩:=three w bv c p
 try rw[show((w.alloc (.cells (ai bv c) 34)).alloc (.cells (aW p) 91)).heap.size=w.heap.size+2 by simp]
 rw[hw3];clear hw3;obtain⟨br,hbr,bx,hbx,bb,r⟩:=ax (w.heap.size+2) (w.heap.size+1) (w.heap.size);rw[<-hbr]at k3;rw[<-hbx]at k2;rw[<-r]at k1;rw[<-hbr,<-hbx,<-r];obtain⟨iS,kM,B3,V3,X3,R3,HD⟩:=ep (show w.heap.size<=br by omega) r U k1 k2 k3 (show bb<bx/\bx<br by omega);clear hz3 U k1 k2 k3 hbr hbx r;have c0:=V3.o.aE (ry bv c P.o).aJ
 go_upto_region 2 with(first|(refine kB rfl 3 rfl bx p X3.o rfl ?_)|(go_at_call 121;refine(HST.o _).k λw4 eI=>?_)|(refine aM rfl 34 rfl _ _ (eD _) ?_)|(refine fL rfl 5 10 rfl aI us Bf.o rfl rfl rfl rfl ?_;intro w5 hh U;obtain⟨s,K5,jR,ug⟩:=dT (OB.of (w0:=w) hh (am B3.o.size eI.o.size) (dw (dw B3.o eI.o) U)) (show K3 bb bx br w4.heap.size bv c p w5 from⟨(V3.o.keep eI.o).keep U,(X3.o.keep eI.o).keep U,(R3.o.keep eI.o).keep U,cO (aN V3.o.lt eI.o.size),cO (aN X3.o.lt eI.o.size),cO (aN R3.o.lt eI.o.size)⟩) (show br<w4.heap.size+1 from rP (aN R3.o.lt eI.o.size)) (show w.heap.size<=w4.heap.size+1 from lw (am B3.o.size eI.o.size));clear hh U))
 generalize w4.heap.size=b at s K5 jR ug⊢;clear c0;have c0:=s.o.aE (ry aI us Bf.o).aJ;rw[rG.o]at c0;have d2:=K5.o.cx.aE (j:=2) (v:=.string (E p.rest)) rfl;rw[<-HT.o]at d2;rw[<-HT.o]at D S3;obtain⟨HAS,lc,YC,SC⟩:=dT (λ(k:Nat) W (i:OB w b 34 (ai aI us) W)=>ul w b us (p.rest.drop k) W i Bf.o Bg.o (by have:=sU.o.l;rw[aj];omega) (sU.o.a _ k) (HE.o.below i.bL)) (show(takeA us c).host.six.length=8 from P.o) (show(fM (takeA us c) c).host.six.length=8 by rw[mV];exact P.o) (λ(W:H) (v:Z) (x:Url) (i:OB w b 34 (ai v x) W) (h:x.host.six.length=8) (hs:x.aJ=c.aJ) (k:K3 bb bx br b bv c p W)=>(show W.cell? ⟨b,0,none⟩=some (S c.aJ)/\W.cell? ⟨bx,2,none⟩=some (.string t)/\W.cell? ⟨bb,18,none⟩=some bv from⟨by rw[i.aE (ry v x h).aJ,hs],by rw[HT.o];exact k.cx.aE rfl,k.cb.aE (ry bv c P.o).path⟩));have hcs:(2<=n/\sp=true)\/(2<=n/\sp=false)\/n=1\/n=0:=by cases sp <;>simp <;>omega
 rcases hcs with⟨hn,rfl⟩|⟨hn,rfl⟩|rfl|rfl
 ·have qr:=F (show R=jS us (p.rest.drop n) by rw[HR.o,ge ⟨hn,rfl⟩])
  have c0y:=F<|λW i=>HAS.o n W i;have hni:(2:Int)<=n:=M0;clear hn
  go_upto_region 6 with(first|(go_at_call 160;refine(D.o _).e ?_)|(go_at_call 119;refine(ji.o _).e ?_))
  cases g:jS us (p.rest.drop n)with
  |none =>
   have L:=F (show R=none by rw[qr.o,g]);have rL:=F<|λW i=>(show Calls prog 122 #[.pointer (some ⟨b,0,none⟩),S ((p.rest.drop n))] W λe M=>e=Ek/\r7 w M/\Tn b W M from by have h:=c0y.o W i;rw[g]at h;exact h);clear g
   go_wp2_with(first|(go_at_call 123;refine(S3.o _).e ?_)|(go_at_call 122;refine(rL.o _ s.o).m ?_;rintro e w7⟨rfl,U,_⟩;have B7:=F U;clear U))
   rw[L.o];exact⟨rfl,rfl,B7.o⟩
  |some u =>
   obtain⟨L,rL,U8⟩:=cZ (show R=some u by rw[qr.o,g]) (λW i=>(show Calls prog 122 #[.pointer (some ⟨b,0,none⟩),S ((p.rest.drop n))] W λe M=>e=.returned (.tuple #[])/\(∃A,OB w b 34 (ai A u) M/\M.ownsRow W.heap.size 9 1 A u.path.length (Strs u.path))/\Tn b W M from by have h:=c0y.o W i;rw[g]at h;exact h)) (jT g);clear g
   go_upto_region 15 with(first|(go_at_call 123;refine(S3.o _).e ?_)|(go_at_call 122;refine(rL.o _ s.o).m ?_;rintro e w7⟨rfl,⟨A,z,o7⟩,t7⟩;obtain⟨d,O7,J⟩:=cZ z (ea o7 (show b+1<=_ from s.o.lt)) (K5.o.tn t7);clear z o7 t7))
   go_wp2_with(first|(refine eP rfl 5 rfl w b A u d.o U8.o rfl ?_)|(refine fV rfl 4 70 rfl w br (OB.of J.o.cr iS.o d.o.bL) A u U8.o (bm O7.o) rfl rfl ?_;intro wZ B C;have y:=F B;have OZ:=F<|ea (C.row O7.o jR.o) ug.o;clear B C))
   rw[L.o];exact ed (u:=u) results126 U8.o rfl y.o ⟨A,rfl,OZ.o,y.o.bL⟩
 ·have qr:=F (show R=jS us (p.rest.drop 2) by rw[HR.o,gc Oc,ge hn])
  have c0x:=F<|λW i=>HAS.o 2 W i;have hni:(2:Int)<=n:=M0;have EQ:2<=N:=by have:=xm.o;omega
  have a9a:(2:Int)<=N:=M0;have n9:=Nv.o;clear hn
  go_upto_region 7 with(first|(go_at_call 160;refine(D.o _).e ?_)|(go_at_call 119;refine(ji.o _).e ?_))
  cases g:jS us (p.rest.drop 2)with
  |none =>
   have L:=F (show R=none by rw[qr.o,g]);have rL:=F<|λW i=>(show Calls prog 122 #[.pointer (some ⟨b,0,none⟩),S ((p.rest.drop 2))] W λe M=>e=Ek/\r7 w M/\Tn b W M from by have h:=c0x.o W i;rw[g]at h;exact h);clear g
   go_wp2_with(go_at_call 122;refine(rL.o _ s.o).m ?_;rintro e w7⟨rfl,U,_⟩;have B7:=F U;clear U)
   rw[L.o];exact⟨rfl,rfl,B7.o⟩
  |some u =>
   obtain⟨L,rL,U8⟩:=cZ (show R=some u by rw[qr.o,g]) (λW i=>(show Calls prog 122 #[.pointer (some ⟨b,0,none⟩),S ((p.rest.drop 2))] W λe M=>e=.returned (.tuple #[])/\(∃A,OB w b 34 (ai A u) M/\M.ownsRow W.heap.size 9 1 A u.path.length (Strs u.path))/\Tn b W M from by have h:=c0x.o W i;rw[g]at h;exact h)) (jT g);clear g
   go_upto_region 15 with(go_at_call 122;refine(rL.o _ s.o).m ?_;rintro e w7⟨rfl,⟨A,z,o7⟩,t7⟩;obtain⟨d,O7,J⟩:=cZ z (ea o7 (show b+1<=_ from s.o.lt)) (K5.o.tn t7);clear z o7 t7)
   go_wp2_with(first|(refine eP rfl 5 rfl w b A u d.o U8.o rfl ?_)|(refine fV rfl 4 70 rfl w br (OB.of J.o.cr iS.o d.o.bL) A u U8.o (bm O7.o) rfl rfl ?_;intro wZ B C;have y:=F B;have OZ:=F<|ea (C.row O7.o jR.o) ug.o;clear B C))
   rw[L.o];exact ed (u:=u) results126 U8.o rfl y.o ⟨A,rfl,OZ.o,y.o.bL⟩
 ·obtain⟨PP,Ld⟩:=V (da c.aJ [] (p.rest.drop 1))
  have L:=F (show R=some {takeA us c with path:=PP} by rw[HR.o,gc M0,gc M0,ge rfl,Ld]);obtain⟨s1,hs1⟩:=V (E (p.rest.drop 1));have ma:=F<|λW=>(show Calls prog 164 #[S c.aJ,aI,.string s1] W (ga W 9 (Strs PP))from by rw[Ld,hs1];exact gj c.aJ (p.rest.drop 1) [] aI W Sl.nil (by have:=sU.o.l;rw[aj];omega) Oc Oc);have hN1:1<=N:=xm.o;have UY:(1:Int)<=N:=M0;have pT:=Yu.o;rw[<-hs1]at pT;clear Ld hs1
  go_upto_region 11 with(first|(go_at_call 160;refine(D.o _).e ?_)|(refine eP rfl 2 rfl w bb bv c (OB.of K5.o.cb (bW kM.o.symm) s.o.bL) P.o rfl ?_)|(go_at_call 172;refine(mU w b aI bv us c _ s.o Bf.o P.o).m ?_;rintro e w7⟨rfl,z,t7⟩;have d:=F z;have J:=F<|K5.o.tn t7;have e0:=(SC.o _ _ _ d.o lc.o rG.o J.o).2.1;clear z t7))
  clear c0 d2;have T:=F<|d.o.below (bG (bg _));have K8:=F<|J.o.below (bG (bg _));have JT:=F<|SC.o _ _ _ T.o lc.o rG.o K8.o;refine wp_region_held_drew (S:=λW=>W.cell? ⟨b,0,none⟩=some (S c.aJ)/\W.cell? ⟨bx,2,none⟩=some (.string t)/\W.cell? ⟨bb,18,none⟩=some bv) Rz (by with_reducible first|exact rK.o|exact JU.o|exact JT.o) (λhHeld=>?_);refine ek 0 ?_;refine e_l 1 rfl (λ_ hS=>bK 9 55 rfl b 0 (S c.aJ) _ underlying9 rfl rfl hS.1) ?_
  refine ek 2 ?_;refine e_l 3 rfl (λ_ hS=>bK 9 57 rfl bx 2 (.string t) _ underlying9 rfl rfl hS.2.1) ?_
  refine ek 4 ?_;refine rn 5 Rz rfl r5 (λK hK=>?_)
  go_simp
  refine(ma.o _).m ?_;rintro e w9⟨A,rfl,o9,U⟩;obtain⟨O9,I9,K9⟩:=cZ (ea (eE o9) (show b+1<=_ from T.o.lt)) (T.o.below U) (K8.o.below U);have JU:=F<|SC.o _ _ _ I9.o lc.o rG.o K9.o;clear o9 U;refine hK.out _ _ JU.o (λhHeld=>?_);clear hK K;refine ek 6 ?_;refine rn 7 Rz rfl r5 (λK hK=>?_);refine fX 22 61 60 rfl w b 34 (ai aI (takeA us c)) I9.o 18 A rfl rfl (fP lc.o P8) dC (bm O9.o) (ai A {takeA us c with path:=PP}) ((fO aI (takeA us c) lc.o).path _ _) ?_;intro xr qW t10;obtain⟨nl,rO,pB⟩:=cZ qW (K9.o.tn t10) (t10.row O9.o (bV b));have rK:=F<|SC.o _ _ {takeA us c with path:=PP} nl.o lc.o rG.o rO.o;clear qW t10;refine hK.out _ _ rK.o (λhHeld=>?_);clear hK K
  try simp only[Act.put]
  refine wpAnyH_done Rz ?_ _
  go_wp2_with(first|(refine eP rfl 5 rfl w b A {takeA us c with path:=PP} nl.o lc.o rfl ?_)|(refine fV rfl 4 70 rfl w br (OB.of rO.o.cr iS.o nl.o.bL) A {takeA us c with path:=PP} lc.o (bm pB.o) rfl rfl ?_;intro wZ B C;have y:=F B;have OZ:=F<|ea (C.row pB.o jR.o) ug.o;clear B C))
  rw[L.o];exact ed (u:={takeA us c with path:=PP}) results126 lc.o rfl y.o ⟨A,rfl,OZ.o,y.o.bL⟩
 have hN0:=xm.o;by_cases hrest:p.rest=[]
 ·have L:=F (show R=some (fM (takeA us c) c) by rw[HR.o,gc M0,gc M0,gc M0,ge hrest])
  have he1:t.toList.isEmpty=true:=by rw[HT.o,aB,hrest];rfl
  clear hrest hN0
  go_upto_region 14 with(first|(go_at_call 160;refine(D.o _).e ?_)|(refine eP rfl 2 rfl w bb bv c (OB.of K5.o.cb (bW kM.o.symm) s.o.bL) P.o rfl ?_)|(go_at_call 172;refine(mU w b aI bv us c _ s.o Bf.o P.o).m ?_;rintro e w7⟨rfl,z,t7⟩;have d:=F z;have J:=F<|K5.o.tn t7;have e0:=(SC.o _ _ _ d.o lc.o rG.o J.o).2.1;clear z t7))
  clear c0 d2
  go_upto_region 15 with(first|(refine eP rfl 2 rfl w bb bv c (OB.of J.o.cb (bW kM.o.symm) d.o.bL) P.o rfl ?_)|(go_at_call 165;refine(ru w b aI bv (takeA us c) c _ d.o lc.o P.o ((SV.o.below d.o.bL).more d.o.bL.size) (by have:=Bd.o.le;omega)).m ?_;rintro e w8⟨rfl,A,i8,o8,t8⟩;obtain⟨T,O8,K8⟩:=cZ i8 (ea o8 (show b+1<=_ from d.o.lt)) (J.o.tn t8);clear i8 o8 t8))
  go_wp2_with(first|(refine eP rfl 5 rfl w b A (fM (takeA us c) c) T.o YC.o rfl ?_)|(refine fV rfl 4 70 rfl w br (OB.of K8.o.cr iS.o T.o.bL) A (fM (takeA us c) c) YC.o (bm O8.o) rfl rfl ?_;intro wZ B C;have y:=F B;have OZ:=F<|ea (C.row O8.o jR.o) ug.o;clear B C))
  rw[L.o];exact ed (u:=(fM (takeA us c) c)) results126 YC.o rfl y.o ⟨A,rfl,by rw[wR];exact OZ.o,y.o.bL⟩
 obtain⟨PP,Ld⟩:=V (da c.aJ (cE c.aJ c.path) p.rest);have L:=F (show R=some {takeA us c with path:=PP} by rw[HR.o,gc M0,gc M0,gc M0,gc hrest,Ld])
 have he1:t.toList.isEmpty=false:=by
  have:¬t.toList=[]:=by rw[HT.o,aB];exact hrest
  simpa using this
 have ma:=F<|λW v (h:Sl W.heap.size W v ((cE c.aJ c.path).map S))=>(show Calls prog 164 #[S c.aJ,v,.string t] W (ga W 9 (Strs PP))from by rw[Ld,HT.o];exact gj c.aJ p.rest (cE c.aJ c.path) v W h sU.o.l (by have:=sI c.aJ c.path;have:=Bd.o.le;omega) (λx X=>Bd.o.all x (kh X)));clear Ld hrest hN0
 go_upto_region 4 with(first|(go_at_call 160;refine(D.o _).e ?_)|(refine eP rfl 2 rfl w bb bv c (OB.of K5.o.cb (bW kM.o.symm) s.o.bL) P.o rfl ?_)|(go_at_call 172;refine(mU w b aI bv us c _ s.o Bf.o P.o).m ?_;rintro e w7⟨rfl,z,t7⟩;have d:=F z;have J:=F<|K5.o.tn t7;have e0:=(SC.o _ _ _ d.o lc.o rG.o J.o).2.1;clear z t7))
 clear c0 d2;have T:=F<|d.o.below (bG (bg _));have K8:=F<|J.o.below (bG (bg _));have JT:=F<|SC.o _ _ _ T.o lc.o rG.o K8.o;refine wp_region_held_drew (S:=λW=>W.cell? ⟨b,0,none⟩=some (S c.aJ)/\W.cell? ⟨bx,2,none⟩=some (.string t)/\W.cell? ⟨bb,18,none⟩=some bv) Rz (by with_reducible first|exact zz.o|exact rK.o|exact JU.o|exact JT.o) (λhHeld=>?_);refine ek 0 ?_;refine e_l 1 rfl (λ_ hS=>bK 9 18 rfl b 0 (S c.aJ) _ underlying9 rfl rfl hS.1) ?_
 refine ek 2 ?_;refine e_l 3 rfl (λ_ hS=>bK 9 20 rfl b 0 (S c.aJ) _ underlying9 rfl rfl hS.1) ?_
 refine ek 4 ?_;refine e_l 5 rfl (λ_ hS=>bK 22 22 rfl bb 18 bv _ underlying22 rfl rfl hS.2.2) ?_
 refine ek 7 ?_;refine e_l 8 rfl (λ_ hS=>bK 9 25 rfl bx 2 (.string t) _ underlying9 rfl rfl hS.2.1) ?_
 refine rn 6 Rz rfl r5 (λK hK=>?_)
 go_simp
 refine(tK c.aJ c.path bv _ ((SV.o.below T.o.bL).more T.o.bL.size) (by have:=Bd.o.le;omega) Bd.o.all).m ?_;rintro e w9⟨sv,rfl,o9,U⟩;obtain⟨O9,I9,K9⟩:=cZ (Sl.g9 o9) (T.o.below U) (K8.o.below U);have JU:=F<|SC.o _ _ _ I9.o lc.o rG.o K9.o;clear o9 U;refine hK.out _ _ JU.o (λhHeld=>?_);clear hK K;refine rn 9 Rz rfl r5 (λK hK=>?_)
 go_simp
 refine(ma.o _ _ O9.o).m ?_;rintro e xr⟨A,rfl,o10,U⟩;obtain⟨pB,nl,rO⟩:=cZ (ea (eE o10) (show b+1<=_ from I9.o.lt)) (I9.o.below U) (K9.o.below U);have rK:=F<|SC.o _ _ _ nl.o lc.o rG.o rO.o;clear o10 U;refine hK.out _ _ rK.o (λhHeld=>?_);clear hK K;refine ek 10 ?_;refine rn 11 Rz rfl r5 (λK hK=>?_);refine fX 22 28 27 rfl w b 34 (ai aI (takeA us c)) nl.o 18 A rfl rfl (fP lc.o P8) dC (bm pB.o) (ai A {takeA us c with path:=PP}) ((fO aI (takeA us c) lc.o).path _ _) ?_;intro Eb i11 t11;obtain⟨xP,H5,YZ⟩:=cZ i11 (rO.o.tn t11) (t11.row pB.o (bV b));have zz:=F<|SC.o _ _ {takeA us c with path:=PP} xP.o lc.o rG.o H5.o;clear i11 t11;refine hK.out _ _ zz.o (λhHeld=>?_);clear hK K
 try simp only[Act.put]
 refine wpAnyH_done Rz ?_ _
 go_wp2_with(first|(refine eP rfl 5 rfl w b A {takeA us c with path:=PP} xP.o lc.o rfl ?_)|(refine fV rfl 4 70 rfl w br (OB.of H5.o.cr iS.o xP.o.bL) A {takeA us c with path:=PP} lc.o (bm YZ.o) rfl rfl ?_;intro wZ B C;have y:=F B;have OZ:=F<|ea (C.row YZ.o jR.o) ug.o;clear B C))
 rw[L.o];exact ed (u:={takeA us c with path:=PP}) results126 lc.o rfl y.o ⟨A,rfl,OZ.o,y.o.bL⟩
