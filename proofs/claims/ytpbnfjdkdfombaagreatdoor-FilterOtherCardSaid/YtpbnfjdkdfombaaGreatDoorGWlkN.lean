/- Joined texts. -/
import Derived.Test.YtpbnfjdkdfombaaGreatDoorGWlkH
import Derived.Test.YtpbnfjdkdfombaaGreatDoorGMapK
set_option maxHeartbeats 40000000
namespace Go.Proofs.YtpbnfjdkdfombaaGreatDoor
open Tryz
open Go.RowKit
set_option maxRecDepth 10000
abbrev Ek:Ending:=.panicked [{v:=.iface 170 (.agg #[]),recovered:=false}]
def Et(l:O):Prop:=∀ s u p n q,JG l=some (s,u,p)->Ng s=some (n,q)->Short n
theorem Km{l:O}(h:l.length<=1048576):Et l:=λs u p n q Y I=>DJ (by have:=G4 Y;have:=(Gx I).1;omega)
def tW(u:Url)(a:qj):Url:={u with usr:=a.user,er:=a.pass,host:=a.host,bz:=a.bz,port:=a.port}
theorem nK(sp:Bool)(s:O):(dU sp s).1.length<=s.length/\(dU sp s).2.length<=s.length:=by
 unfold dU;have h:=congrArg List.length (ez (p:=λc=>!lS sp c) (l:=s));rw[ae]at h;dsimp only;omega
theorem Ud(u:Url)(s:O)(hp:u.path=[]):jS u s=match kr u.aJ (dU (eU u.aJ) s).1 with
  |none=>none
  |some a=>some {tW u a with path:=if eU u.aJ=true\/(dU (eU u.aJ) s).2 ≠ []then gW u.aJ (dU (eU u.aJ) s).2 else []}:=by
 unfold jS;rw[hp];rfl
def Yi(w0:H)(b:Nat)(w:H):Option Url->Ending->H->Prop
 |none,e,w'=>e=Ek/\r7 w0 w'/\Tn b w w'
 |some u,e,w'=>e=.returned (.tuple #[])/\(∃A,OB w0 b 34 (ai A u) w'/\w'.ownsRow w.heap.size 9 1 A u.path.length (Strs u.path))/\Tn b w w'
theorem bd{w:H}{base base' e n:Nat}{v:Z}{xs:List Z}(h:w.ownsRow base e 1 v n xs)(U:base'<=base):w.ownsRow base' e 1 v n xs:=by
 refine⟨h.1,?_⟩;rcases h.2 with h0|⟨g,cap,cur,e1,hg,hh,hr⟩
 ·exact .inl h0
 exact .inr ⟨g,cap,cur,e1,am U hg,hh,hr⟩
theorem eE{w:H}{base e:Nat}{v:Z}{l:List O}(h:w.ownsRow base e 1 v (Strs l).length (Strs l)):w.ownsRow base e 1 v l.length (Strs l):=by
 rw[ay]at h;exact h
theorem Jt{w:H}{base e:Nat}:w.ownsRow base e 1 aI 0 []:=⟨rfl,.inl ⟨rfl,rfl⟩⟩
theorem ul(w0:H)(b:Nat)(u:Url)(s:O)(w:H)(i:OB w0 b 34 (ai aI u) w)(h8:u.host.six.length=8)(hp:u.path=[])(hs:s.length<=307200000)(hA:Et (dU (eU u.aJ) s).1)(hE:Env w) :
  Calls prog 120 #[.pointer (some ⟨b,0,none⟩),.string (E s)] w (Yi w0 b w (jS u s)):=by
 obtain⟨R,hR⟩:=V (jS u s);rw[<-hR];rw[Ud u s hp]at hR;have hsp:=λW=>gl u.aJ W;have me:=λW=>BE s (eU u.aJ) W M0;have hcl:=nK (eU u.aJ) s;have hap:=λ(W:H) (hW:r7 w W)=>ER u.aJ (dU (eU u.aJ) s).1 W M0 hA (hE.below hW);have hpo:=λW=>wj u.aJ (dU (eU u.aJ) s).2 W M0;have Tc:=@ath_six u.aJ (dU (eU u.aJ) s).1;generalize eU u.aJ=sp at *;generalize dU sp s=C at *;obtain⟨c1,c2⟩:=C;simp only at hR me hcl hap hpo Tc;have UU:=F<|ry aI u h8;have H8:=F h8;have II:=F i;obtain⟨sc,hsc⟩:=V (E u.aJ);obtain⟨t,ht⟩:=V (E s);obtain⟨k1,hk1⟩:=V (E c1);obtain⟨k2,hk2⟩:=V (E c2);rw[<-hsc]at hsp hap hpo;rw[<-ht]at me ⊢;rw[<-hk1]at hap;rw[<-hk2]at hpo;have lB:=F (show ∀W,bF prog 157 #[.string t,.bool sp] W (.tuple #[.string k1,.string k2])from by rw[hk1,hk2];exact me);have ji:=F hsp;have ED:=F hpo
 have hc0:∀ {W:H} {cs:Array Z} {v:Z} {x:Url},OB w0 b 34 (ai v x) W->x.host.six.length=8->x.aJ=u.aJ->W.cell? ⟨b,0,none⟩=some (.string sc):=λ{W cs v x} Y I h3=>by
  rw[Y.aE (ry v x I).aJ,h3,hsc]
 have U7:k2.toList=[] ↔ c2=[]:=by rw[hk2,aB]
 have ka:=F<|λ(W:H) (v:Z) (x:Url) Y I h3=>@hc0 W #[] v x Y I h3;have HKE:=F U7;have HR:=F hR;have hbw:=i.lt;clear hc0 U7 hR me hsp hpo hsc ht hk1 hk2 hcl hp hs hA h8 i;cases hAA:kr u.aJ c1 with
 |none =>
  rw[hAA]at hap;have HAP:=F (show ∀W,r7 w W->bF prog 158 #[.string sc,.string k1] W (.tuple #[.agg (bU A0),.bool false])from hap);have iT:=F (show R=none by rw[HR.o,hAA]);clear hap hAA Tc hE ED HKE;have c0:=ka.o _ _ _ II.o H8.o rfl;go_enter func120,ntmps120
  go_upto_region 2 with(first
   |(go_at_call 117;refine(ji.o _).m ?_;rintro e w2 ⟨rfl,hw⟩;subst hw)
   |(go_at_call 157;refine(lB.o _).m ?_;rintro e w3 ⟨rfl,U⟩;have HB3:=F U;have c3:=ka.o _ _ _ (II.o.below U) H8.o rfl;clear U))
  go_upto_region 3 with(first
   |(go_at_call 158;refine(HAP.o _ HB3.o).m ?_;rintro e w4 ⟨rfl,U⟩;have JY:=F<|dw HB3.o U;clear U)
   |(refine aM rfl 166 rfl _ _ (allA _) ?_)
   |(refine Sf rfl (.tmp 7) (.tmp 27) rfl A0 rfl rfl rfl rfl ?_;intro w5 hh U;have gD:=F<|dw JY.o U;clear hh U))
  go_wp2_with fail;refine⟨rfl,?_⟩;rw[iT.o];exact⟨rfl,(II.o.below gD.o).bL,Tn.of_below gD.o⟩
 |some A' =>
  rw[hAA]at hap Tc;have A8:=F (show A'.host.six.length=8 from Tc);have AC:=F<|Ko A' A8.o;have HI:=F (show(prog.info? 32).map (·.size)=some (aS A'.host).length by rw[jb];simp[aS,A8.o]);have HAP:=F (show ∀W,r7 w W->bF prog 158 #[.string sc,.string k1] W (.tuple #[.agg (bU A'),.bool true])from hap);have sU:=F (show R=some {tW u A' with path:=if sp=true\/c2 ≠ []then gW u.aJ c2 else []} by rw[HR.o,hAA]);obtain⟨PP,Ld⟩:=V (gW u.aJ c2);rw[<-Ld]at sU ED;clear hap hAA Tc hE HR Ld;have c0:=ka.o _ _ _ II.o H8.o rfl;go_enter func120,ntmps120
  go_upto_region 2 with(first
   |(go_at_call 117;refine(ji.o _).m ?_;rintro e w2 ⟨rfl,hw⟩;subst hw)
   |(go_at_call 157;refine(lB.o _).m ?_;rintro e w3 ⟨rfl,U⟩;have HB3:=F U;have c3:=ka.o _ _ _ (II.o.below U) H8.o rfl;clear U))
  go_upto_region 3 with(first
   |(go_at_call 158;refine(HAP.o _ HB3.o).m ?_;rintro e w4 ⟨rfl,U⟩;have JY:=F<|dw HB3.o U;clear U)
   |(refine aM rfl 166 rfl _ _ (allA _) ?_)
   |(refine Sf rfl (.tmp 7) (.tmp 27) rfl A' A8.o rfl rfl rfl ?_;intro w5 hh U;have K5:=F hh;have gD:=F<|dw JY.o U;have HBT:=F (show b<w4.heap.size from aN hbw JY.o.size);clear hh U))
  obtain⟨bt,hbt⟩:=V (w4.heap.size);rw[<-hbt]at K5 HBT ⊢;have hne:bt≠b:=by have:=HBT.o;omega
  have I3:=F<|II.o.below gD.o;have T3:=F<|Tn.of_below (b:=b) gD.o;clear hbt c0 c3
  go_upto_region 5 with fail
  have I4:=F<|I3.o.below (bG (bg _));have C4:=F<|K5.o.keep (bG (bg _));have C3:=K5;have T4:=F<|T3.o.below (bG (bg _));refine wp_region_held_drew (S:=λW=>CB W bt 166 (bU A')) Rz (by first|exact C3.o.keep (bG (bg _))|exact C9.o|exact C8.o|exact C7.o|exact C6.o|exact C5.o) (λhHeld=>?_);refine ek 0 ?_;refine ek 1 ?_;refine ek 2 ?_;refine ek 3 ?_;refine ek 4 ?_;refine ek 5 ?_;refine tq 6 rfl ?_ (λwS hSw=>?_) ?_;rotate_left
  ·(try dsimp only at hSw)
   refine bK 9 (.tmp 38) ?_ bt 0 (S A'.user) _ underlying9 rfl ?_ ?_
   ·rfl
   ·rfl
   exact hSw.aE rfl
  try simp only[Act.put,fH,fI,fJ]
  refine ek 7 ?_;refine tq 8 rfl ?_ (λwS hSw=>?_) ?_;rotate_left
  ·(try dsimp only at hSw)
   refine bK 9 (.tmp 40) ?_ bt 1 (S A'.pass) _ underlying9 rfl ?_ ?_
   ·rfl
   ·rfl
   exact hSw.aE rfl
  try simp only[Act.put,fH,fI,fJ]
  refine ek 9 ?_;refine tq 10 rfl ?_ (λwS hSw=>?_) ?_;rotate_left
  ·(try dsimp only at hSw)
   refine gU 32 (.tmp 42) ?_ bt 2 (aS A'.host) _ underlying32 rfl HI.o ?_ ?_
   ·rfl
   ·rfl
   exact hSw.range (Uf A')
  try simp only[Act.put,fH,fI,fJ]
  refine ek 11 ?_;refine tq 12 rfl ?_ (λwS hSw=>?_) ?_;rotate_left
  ·(try dsimp only at hSw)
   refine bK 4 (.tmp 44) ?_ bt 13 (.bool A'.bz) _ underlying4 rfl ?_ ?_
   ·rfl
   ·rfl
   exact hSw.aE AC.o.2.2.1
  try simp only[Act.put,fH,fI,fJ]
  refine ek 13 ?_;refine tq 14 rfl ?_ (λwS hSw=>?_) ?_;rotate_left
  ·(try dsimp only at hSw)
   refine bK 3 (.tmp 46) ?_ bt 14 (.int .i64 A'.port) _ underlying3 rfl ?_ ?_
   ·rfl
   ·rfl
   exact hSw.aE AC.o.2.2.2.1
  try simp only[Act.put,fH,fI,fJ]
  refine ek 15 ?_;refine ek 16 ?_;refine rn 17 Rz rfl r5 (λK hK=>?_);refine fX 9 (.tmp 49) (.tmp 39) rfl w0 b 34 (ai aI u) I4.o 1 (S A'.user) rfl rfl (fP H8.o P8) bY.1 rfl (ai aI {u with usr:=A'.user}) ((fO aI u H8.o).usr _) ?_;intro x5 i1 t1;have I5:=F i1;have C5:=F<|t1.cb C4.o hne;have T5:=F<|T4.o.trans t1;clear i1 t1;refine hK.out _ _ ?_ (λhHeld=>?_)
  ·first|exact C3.o.keep (bG (bg _))|exact C9.o|exact C8.o|exact C7.o|exact C6.o|exact C5.o
  clear hK K
  try simp only[Act.put]
  refine ek 18 ?_;refine ek 19 ?_;refine rn 20 Rz rfl r5 (λK hK=>?_);refine fX 9 (.tmp 51) (.tmp 41) rfl w0 b 34 (ai aI {u with usr:=A'.user}) I5.o 2 (S A'.pass) rfl rfl (fP H8.o P8) bY.1 rfl (ai aI {u with usr:=A'.user,er:=A'.pass}) ((fO aI {u with usr:=A'.user} H8.o).er _) ?_;intro x6 i1 t1;have I6:=F i1;have C6:=F<|t1.cb C5.o hne;have T6:=F<|T5.o.trans t1;clear i1 t1;refine hK.out _ _ ?_ (λhHeld=>?_)
  ·first|exact C3.o.keep (bG (bg _))|exact C9.o|exact C8.o|exact C7.o|exact C6.o|exact C5.o
  clear hK K
  try simp only[Act.put]
  refine ek 21 ?_;refine ek 22 ?_;refine rn 23 Rz rfl r5 (λK hK=>?_);refine j5 32 (.tmp 53) (.tmp 43) rfl w0 b 34 (ai aI {u with usr:=A'.user,er:=A'.pass}) I6.o 3 (aS A'.host) rfl rfl (zp H8.o A8.o) HI.o jX (ai aI {u with usr:=A'.user,er:=A'.pass,host:=A'.host}) (sP aI {u with usr:=A'.user,er:=A'.pass} A'.host A8.o H8.o) ?_;intro x7 i1 t1;have I7:=F i1;have C7:=F<|t1.cb C6.o hne;have T7:=F<|T6.o.trans t1;clear i1 t1;refine hK.out _ _ ?_ (λhHeld=>?_)
  ·first|exact C3.o.keep (bG (bg _))|exact C9.o|exact C8.o|exact C7.o|exact C6.o|exact C5.o
  clear hK K
  try simp only[Act.put]
  refine ek 24 ?_;refine ek 25 ?_;refine rn 26 Rz rfl r5 (λK hK=>?_);refine fX 4 (.tmp 55) (.tmp 45) rfl w0 b 34 (ai aI {u with usr:=A'.user,er:=A'.pass,host:=A'.host}) I7.o 14 (.bool A'.bz) rfl rfl (fP A8.o P8) bY.2.2 rfl (ai aI {u with usr:=A'.user,er:=A'.pass,host:=A'.host,bz:=A'.bz}) ((fO aI {u with usr:=A'.user,er:=A'.pass,host:=A'.host} A8.o).bz _) ?_;intro x8 i1 t1;have I8:=F i1;have C8:=F<|t1.cb C7.o hne;have T8:=F<|T7.o.trans t1;clear i1 t1;refine hK.out _ _ ?_ (λhHeld=>?_)
  ·first|exact C3.o.keep (bG (bg _))|exact C9.o|exact C8.o|exact C7.o|exact C6.o|exact C5.o
  clear hK K
  try simp only[Act.put]
  refine ek 27 ?_;refine ek 28 ?_;refine rn 29 Rz rfl r5 (λK hK=>?_);refine fX 3 (.tmp 57) (.tmp 47) rfl w0 b 34 (ai aI {u with usr:=A'.user,er:=A'.pass,host:=A'.host,bz:=A'.bz}) I8.o 15 (.int .i64 A'.port) rfl rfl (fP A8.o P8) bY.2.1 rfl (ai aI (tW u A')) ((fO aI {u with usr:=A'.user,er:=A'.pass,host:=A'.host,bz:=A'.bz} A8.o).port _) ?_;intro x9 i1 t1;have I9:=F i1;have C9:=F<|t1.cb C8.o hne;have T9:=F<|T8.o.trans t1;clear i1 t1;refine hK.out _ _ ?_ (λhHeld=>?_)
  ·first|exact C3.o.keep (bG (bg _))|exact C9.o|exact C8.o|exact C7.o|exact C6.o|exact C5.o
  clear hK K
  try simp only[Act.put]
  refine wpAnyH_done Rz ?_ _;have hc1:(sp=true)\/(sp=false/\¬ k2.toList=[])\/(sp=false/\k2.toList=[]):=by cases sp <;>by_cases h:k2.toList=[] <;>simp[h]
  rcases hc1 with rfl|⟨rfl,he⟩|⟨rfl,he⟩
  ·have HU:=F (show R=some {tW u A' with path:=PP} by rw[sU.o];simp)
   have c9:=ka.o _ _ _ I9.o A8.o rfl
   go_wp2_with (first
    |(go_at_call 159;refine(ED.o _).m ?_;rintro e xr ⟨v10,rfl,ho,U⟩;have R10:=F ho;have nl:=F<|I9.o.below U;have Y0:=F<|T9.o.below U;have Yl:=F (show b<x9.heap.size from I9.o.lt);clear ho U)
    |(refine dX rfl 22 (.tmp 71) (.tmp 69) rfl w0 b 34 (ai aI (tW u A')) nl.o 18 v10 rfl rfl (fP A8.o P8) dC (bm R10.o) (ai v10 {tW u A' with path:=PP}) ((fO aI (tW u A') A8.o).path _ _) ?_;intro Eb i1 t1;have xP:=F i1;have T11:=F<|Y0.o.trans t1;have R11:=F<|t1.row R10.o Yl.o;clear i1 t1))
   go_end0
   rw[HU.o];exact⟨rfl,⟨v10,xP.o,bd (eE R11.o) T9.o.s⟩,T11.o⟩
  ·have HU:=F (show R=some {tW u A' with path:=PP} by rw[sU.o,if_pos (.inr λh=>he (HKE.o.2 h))])
   have he1:k2.toList.isEmpty=false:=by simpa using he
   have c9:=ka.o _ _ _ I9.o A8.o rfl
   go_wp2_with (first
    |(go_at_call 159;refine(ED.o _).m ?_;rintro e xr ⟨v10,rfl,ho,U⟩;have R10:=F ho;have nl:=F<|I9.o.below U;have Y0:=F<|T9.o.below U;have Yl:=F (show b<x9.heap.size from I9.o.lt);clear ho U)
    |(refine dX rfl 22 (.tmp 71) (.tmp 69) rfl w0 b 34 (ai aI (tW u A')) nl.o 18 v10 rfl rfl (fP A8.o P8) dC (bm R10.o) (ai v10 {tW u A' with path:=PP}) ((fO aI (tW u A') A8.o).path _ _) ?_;intro Eb i1 t1;have xP:=F i1;have T11:=F<|Y0.o.trans t1;have R11:=F<|t1.row R10.o Yl.o;clear i1 t1))
   go_end0
   rw[HU.o];exact⟨rfl,⟨v10,xP.o,bd (eE R11.o) T9.o.s⟩,T11.o⟩
  have HU:=F (show R=some {tW u A' with path:=[]} by rw[sU.o,if_neg (by rintro(h|h);exact(by simp at h);exact h (HKE.o.1 he))]);have he1:k2.toList.isEmpty=true:=by rw[he];rfl
  go_wp2_with fail
  go_end0
  rw[HU.o];exact⟨rfl,⟨aI,I9.o,Jt⟩,T9.o⟩

theorem ed{f:Func}{k:Nat}(hf:f.results=#[.cell k 34]){tmps:Array Z}{w0 w2:H}{b:Nat}{A:Z}{u:Url}{Post:Ending->H->Prop}(h8:u.host.six.length=8)(hk:tmps.getD k undef=.pointer (some ⟨b,0,none⟩))
  (i:OB w0 b 34 (ai A u) w2) (hP:Post (.returned (.agg (ai A u))) w2) :
  bodyPost prog f Post Exit.ret {tmps:=tmps,defers:=[]} w2:=by
 have h2':tmps[k]?.getD undef=.pointer (some ⟨b,0,none⟩):=by simpa using hk
 have hl:=i.load (P:=prog) 34 _ underlying34 rfl (by rw[kJ h8];exact iJ);refine bodyPost_ret (v:=.agg (ai A u)) ?_ rfl hP;simp[results,hf,asAddr,h2',hl]
theorem rz{A Bm:Z}{u u2:Url}(h:u.host.six.length=8)(I:u2.host.six.length=8):ua (ai A u) 0 (cu Bm u2)=ai Bm u2:=mQ _ _ (by rw[oF h,oF I])
theorem a3p(sc:O)(hq:Bool)(q:O)(hf:Bool)(f:O):∀ w,(Instr.build 34 #[(0,S sc),(9,.bool hq),(10,S q),(11,.bool hf),(12,S f)]).run prog w=.ok (.agg (ai aI {U0 with aJ:=sc,bZ:=hq,q:=q,cg:=hf,f:=f})) w:=λw=>Rz
theorem uT{o:Oper}{a:Act}{w:H}(x1 x2 x3 x4 x5:Operand)(ho:o.op=.build 34 #[(0,x1),(9,x2),(10,x3),(11,x4),(12,x5)])(sc:O)(hq:Bool)(q:O)(hf:Bool)(f:O)
  (Y:a.eval x1=S sc) (I:a.eval x2=.bool hq) (h3:a.eval x3=S q) (h4:a.eval x4=.bool hf) (h5:a.eval x5=S f):(execOp a.eval o).run prog w=.ok (.value (.agg (ai aI {U0 with aJ:=sc,bZ:=hq,q:=q,cg:=hf,f:=f}))) w:=by
 have e:=a3p sc hq q hf f w;unfold execOp;simp only[ho,Sem.run_bind,Sem.run_pure,Result.andThen_ok,m9,dh,pz,Y,I,h3,h4,h5,e]
theorem oW(aJ:O)(p:kW)(w:H)(hq:p.q.length<=1024000000)(hf:p.f.length<=1024000000):bF prog 119 #[.string (E aJ),.agg (aW p)] w (.agg (ai aI (dp aJ p))):=by
 have ji:=F<|λW=>gl aJ W;have HF:=F<|λW=>eT 1 p.f W hf;have H2:=F<|λW=>eT 2 p.q W hq;have H3:=F<|λW=>eT 3 p.q W hq;obtain⟨R,hR⟩:=V (dp aJ p);rw[<-hR];unfold dp at hR;have hc:eU aJ=true\/eU aJ=false:=by cases eU aJ <;>simp
 generalize eU aJ=sp at *;have HR:=F hR;clear hR hq hf;go_enter func119,ntmps119
 go_upto_region 1 with(first
  |(refine aM rfl 34 rfl _ _ (eD _) ?_))
 have X:=CB.new w 79 (aW p);have U:=(Below.refl w.heap.size w).alloc (ag _) (.cells (aW p) 79);obtain⟨w2,hw2⟩:=V (w.alloc (.cells (aW p) 79));have hz:w2.heap.size=w.heap.size+1:=by rw[hw2];simp
 rw[<-hw2]at X U ⊢;have hu:=OB.fresh w2 34 (ai aI U0);have hb2:=(Below.refl w2.heap.size w2).alloc (ag _) (.cells (ai aI U0) 34);obtain⟨w3,hw3⟩:=V (w2.alloc (.cells (ai aI U0) 34));rw[<-hw3]at hu hb2 ⊢;rw[hz]at hu
 try rw[hz]
 have hx3:=X.keep hb2;have hu3:OB w (w.heap.size+1) 34 (ai aI U0) w3:=⟨hu.a,M0,dw U hb2⟩;obtain⟨bx,hbx⟩:=V (w.heap.size);obtain⟨bu,hbu⟩:=V (w.heap.size+1);rw[<-hbu]at hu3 ⊢;rw[<-hbx]at hx3 ⊢;have hne:bx≠bu:=M0;have C3:=F hx3;have I3:=F hu3;clear X U hw2 hz hu hb2 hw3 hx3 hu3 hbx hbu;rcases hc with rfl|rfl
 ·go_upto_region 4 with(first
   |(go_at_call 117;refine(ji.o _).m ?_;rintro e w4 ⟨rfl,hw⟩;subst hw))
  have HRR:=F (show R={U0 with aJ:=aJ,bZ:=p.bZ,q:=dD 3 p.q,cg:=p.cg,f:=dD 1 p.f} by rw[HR.o];rfl);have HQ:=H3;refine wp_region_held_drew (S:=λW=>CB W bx 79 (aW p)) Rz (by first|exact C3.o.keep (bG (bg _))|exact C6.o|exact C5.o|exact C4.o) (λhHeld=>?_);refine ek 0 ?_;refine ek 1 ?_;refine tq 2 rfl ?_ (λwS hSw=>?_) ?_;rotate_left
  ·(try dsimp only at hSw)
   refine bK 4 (.tmp 9) ?_ bx 3 (.bool p.bZ) _ underlying4 rfl ?_ ?_
   ·rfl
   ·rfl
   exact hSw.aE rfl
  try simp only[Act.put,fH,fI,fJ]
  refine ek 3 ?_;refine tq 4 rfl ?_ (λwS hSw=>?_) ?_;rotate_left
  ·(try dsimp only at hSw)
   refine bK 9 (.tmp 11) ?_ bx 4 (S p.q) _ underlying9 rfl ?_ ?_
   ·rfl
   ·rfl
   exact hSw.aE rfl
  try simp only[Act.put,fH,fI,fJ]
  refine ek 5 ?_;refine ek 7 ?_;refine tq 8 rfl ?_ (λwS hSw=>?_) ?_;rotate_left
  ·(try dsimp only at hSw)
   refine bK 4 (.tmp 15) ?_ bx 5 (.bool p.cg) _ underlying4 rfl ?_ ?_
   ·rfl
   ·rfl
   exact hSw.aE rfl
  try simp only[Act.put,fH,fI,fJ]
  refine ek 9 ?_;refine tq 10 rfl ?_ (λwS hSw=>?_) ?_;rotate_left
  ·(try dsimp only at hSw)
   refine bK 9 (.tmp 17) ?_ bx 6 (S p.f) _ underlying9 rfl ?_ ?_
   ·rfl
   ·rfl
   exact hSw.aE rfl
  try simp only[Act.put,fH,fI,fJ]
  refine rn 6 Rz rfl r5 (λK hK=>?_)
  go_simp
  refine(HQ.o _).m ?_;rintro e w5 ⟨rfl,hb5⟩;have C4:=F<|(C3.o.keep (bG (bg _))).keep hb5;have I4:=F<|(I3.o.below (bG (bg _))).below hb5;clear hb5;refine hK.out _ _ ?_ (λhHeld=>?_)
  ·first|exact C3.o.keep (bG (bg _))|exact C6.o|exact C5.o|exact C4.o
  clear hK K;refine rn 11 Rz rfl r5 (λK hK=>?_)
  go_simp
  refine(HF.o _).m ?_;rintro e w6 ⟨rfl,hb6⟩;have C5:=F<|C4.o.keep hb6;have I5:=F<|I4.o.below hb6;clear hb6;refine hK.out _ _ ?_ (λhHeld=>?_)
  ·first|exact C3.o.keep (bG (bg _))|exact C6.o|exact C5.o|exact C4.o
  clear hK K;refine tq 12 rfl ?_ (λwS hSw=>?_) ?_;rotate_left
  ·(try dsimp only at hSw)
   refine uT (.tmp 8) (.tmp 10) (.tmp 14) (.tmp 16) (.tmp 19) ?_ aJ p.bZ (dD 3 p.q) p.cg (dD 1 p.f) ?_ ?_ ?_ ?_ ?_ <;>rfl
  try simp only[Act.put,fH,fI,fJ]
  refine rn 13 Rz rfl r5 (λK hK=>?_);refine j5 34 (.tmp 4) (.tmp 20) rfl w bu 34 (ai aI U0) I5.o 0 (cu aI {U0 with aJ:=aJ,bZ:=p.bZ,q:=dD 3 p.q,cg:=p.cg,f:=dD 1 p.f}) rfl rfl (bW rfl) iJ (xe rfl) (ai aI {U0 with aJ:=aJ,bZ:=p.bZ,q:=dD 3 p.q,cg:=p.cg,f:=dD 1 p.f}) (rz rfl rfl) ?_;intro w7 i7 t7;have I6:=F i7;have C6:=F<|t7.cb C5.o hne;clear i7 t7;refine hK.out _ _ ?_ (λhHeld=>?_)
  ·first|exact C3.o.keep (bG (bg _))|exact C6.o|exact C5.o|exact C4.o
  clear hK K
  try simp only[Act.put]
  refine wpAnyH_done Rz ?_ _;go_wp2_with fail;rw[HRR.o];exact ed results119 rfl rfl I6.o ⟨rfl,I6.o.bL⟩
 go_upto_region 4 with(first
  |(go_at_call 117;refine(ji.o _).m ?_;rintro e w4 ⟨rfl,hw⟩;subst hw))
 have HRR:=F (show R={U0 with aJ:=aJ,bZ:=p.bZ,q:=dD 2 p.q,cg:=p.cg,f:=dD 1 p.f} by rw[HR.o];rfl);have HQ:=H2;refine wp_region_held_drew (S:=λW=>CB W bx 79 (aW p)) Rz (by first|exact C3.o.keep (bG (bg _))|exact C6.o|exact C5.o|exact C4.o) (λhHeld=>?_);refine ek 0 ?_;refine ek 1 ?_;refine tq 2 rfl ?_ (λwS hSw=>?_) ?_;rotate_left
 ·(try dsimp only at hSw)
  refine bK 4 (.tmp 9) ?_ bx 3 (.bool p.bZ) _ underlying4 rfl ?_ ?_
  ·rfl
  ·rfl
  exact hSw.aE rfl
 try simp only[Act.put,fH,fI,fJ]
 refine ek 3 ?_;refine tq 4 rfl ?_ (λwS hSw=>?_) ?_;rotate_left
 ·(try dsimp only at hSw)
  refine bK 9 (.tmp 11) ?_ bx 4 (S p.q) _ underlying9 rfl ?_ ?_
  ·rfl
  ·rfl
  exact hSw.aE rfl
 try simp only[Act.put,fH,fI,fJ]
 refine ek 5 ?_;refine ek 7 ?_;refine tq 8 rfl ?_ (λwS hSw=>?_) ?_;rotate_left
 ·(try dsimp only at hSw)
  refine bK 4 (.tmp 15) ?_ bx 5 (.bool p.cg) _ underlying4 rfl ?_ ?_
  ·rfl
  ·rfl
  exact hSw.aE rfl
 try simp only[Act.put,fH,fI,fJ]
 refine ek 9 ?_;refine tq 10 rfl ?_ (λwS hSw=>?_) ?_;rotate_left
 ·(try dsimp only at hSw)
  refine bK 9 (.tmp 17) ?_ bx 6 (S p.f) _ underlying9 rfl ?_ ?_
  ·rfl
  ·rfl
  exact hSw.aE rfl
 try simp only[Act.put,fH,fI,fJ]
 refine rn 6 Rz rfl r5 (λK hK=>?_)
 go_simp
 refine(HQ.o _).m ?_;rintro e w5 ⟨rfl,hb5⟩;have C4:=F<|(C3.o.keep (bG (bg _))).keep hb5;have I4:=F<|(I3.o.below (bG (bg _))).below hb5;clear hb5;refine hK.out _ _ ?_ (λhHeld=>?_)
 ·first|exact C3.o.keep (bG (bg _))|exact C6.o|exact C5.o|exact C4.o
 clear hK K;refine rn 11 Rz rfl r5 (λK hK=>?_)
 go_simp
 refine(HF.o _).m ?_;rintro e w6 ⟨rfl,hb6⟩;have C5:=F<|C4.o.keep hb6;have I5:=F<|I4.o.below hb6;clear hb6;refine hK.out _ _ ?_ (λhHeld=>?_)
 ·first|exact C3.o.keep (bG (bg _))|exact C6.o|exact C5.o|exact C4.o
 clear hK K;refine tq 12 rfl ?_ (λwS hSw=>?_) ?_;rotate_left
 ·(try dsimp only at hSw)
  refine uT (.tmp 8) (.tmp 10) (.tmp 14) (.tmp 16) (.tmp 19) ?_ aJ p.bZ (dD 2 p.q) p.cg (dD 1 p.f) ?_ ?_ ?_ ?_ ?_ <;>rfl
 try simp only[Act.put,fH,fI,fJ]
 refine rn 13 Rz rfl r5 (λK hK=>?_);refine j5 34 (.tmp 4) (.tmp 20) rfl w bu 34 (ai aI U0) I5.o 0 (cu aI {U0 with aJ:=aJ,bZ:=p.bZ,q:=dD 2 p.q,cg:=p.cg,f:=dD 1 p.f}) rfl rfl (bW rfl) iJ (xe rfl) (ai aI {U0 with aJ:=aJ,bZ:=p.bZ,q:=dD 2 p.q,cg:=p.cg,f:=dD 1 p.f}) (rz rfl rfl) ?_;intro w7 i7 t7;have I6:=F i7;have C6:=F<|t7.cb C5.o hne;clear i7 t7;refine hK.out _ _ ?_ (λhHeld=>?_)
 ·first|exact C3.o.keep (bG (bg _))|exact C6.o|exact C5.o|exact C4.o
 clear hK K
 try simp only[Act.put]
 refine wpAnyH_done Rz ?_ _;go_wp2_with fail;rw[HRR.o];exact ed results119 rfl rfl I6.o ⟨rfl,I6.o.bL⟩

def BA(w:H):Option Url->Ending->H->Prop
 |none,e,w'=>e=Ek/\r7 w w'
 |some u,e,w'=>∃ A,e=.returned (.agg (ai A u))/\w'.ownsRow w.heap.size 9 1 A u.path.length (Strs u.path)/\r7 w w'
theorem OB.of{w0 W:H}{b:Nat}{T:TypeId}{cs:Array Z}(i:CB W b T cs)(hle:w0.heap.size<=b)(U:r7 w0 W):OB w0 b T cs W:=⟨i.a,hle,U⟩
theorem own_below'{W W':H}{base e n:Nat}{v:Z}{xs:List Z}(h:W.ownsRow base e 1 v n xs)(U:r7 W W'):W'.ownsRow base e 1 v n xs:=own_below h U
section
variable {ops:Array Oper} {rest:List Oper} {o:Oper} {a:Act} {w:H} {Q:Exit->Act->H->Prop}
theorem eP(hgd:o.guard=none)(x:Operand)(ho:o.op=.load 34 x)(w0:H)(b:Nat)(A:Z)(u:Url)(i:OB w0 b 34 (ai A u) w)(h8:u.host.six.length=8)(X:a.eval x=.pointer (some ⟨b,0,none⟩))
  (K:wpList prog ops Q rest (a.put o.dst (.agg (ai A u))) w):wpList prog ops Q (o::rest) a w :=
 CF hgd _ x ho w0 b 34 (ai A u) i _ X underlying34 rfl (by rw[kJ h8];exact iJ) K
theorem fV(hgd:o.guard=none)(x y:Operand)(ho:o.op=.store 34 x y)(w0:H)(b:Nat)(i:OB w0 b 34 (ai aI U0) w)(A:Z)(u:Url)(h8:u.host.six.length=8)(Y:A.oneCell'=true)
  (X:a.eval x=.pointer (some ⟨b,0,none⟩)) (hy:a.eval y=.agg (ai A u))
  (K:∀ w',OB w0 b 34 (ai A u) w'->Tn b w w'->wpList prog ops Q rest (a.put o.dst undef) w'):wpList prog ops Q (o::rest) a w :=
 rh hgd _ x y ho w0 b 34 (ai aI U0) i 0 (cu A u) X hy (by rw[oF h8];exact bW rfl) (by rw[oF h8];exact iJ) (xe Y) (ai A u) (rz rfl h8) K
theorem kB(hgd:Region.wanted o (yielded ops a.tmps)=true)(x:Operand)(ho:o.op=.load 79 x)(b:Nat)(p:kW)(i:CB w b 79 (aW p))(X:a.eval x=.pointer (some ⟨b,0,none⟩))
  (K:wpList prog ops Q rest (a.put o.dst (.agg (aW p))) w):wpList prog ops Q (o::rest) a w :=
 vR hgd _ x ho b (aW p) _ underlying79 rfl mO X i K
end
structure K2 (bx br b:Nat) (p:kW) (W:H):Prop where
 x:CB W bx 79 (aW p)
 r:CB W br 34 (ai aI U0)
 nx:bx≠b
 nr:br≠b
theorem K2.below{bx br b:Nat}{p:kW}{W W':H}(k:K2 bx br b p W)(h:r7 W W'):K2 bx br b p W':=⟨k.x.keep h,k.r.keep h,k.nx,k.nr⟩
theorem K2.tn{bx br b:Nat}{p:kW}{W W':H}(k:K2 bx br b p W)(h:Tn b W W'):K2 bx br b p W':=⟨h.cb k.x k.nx,h.cb k.r k.nr,k.nx,k.nr⟩
structure Rs (s:O):Prop where
 l:s.length<=307200000
 a:∀ sp k,Et (dU sp (s.drop k)).1
 n:∀ sp k,Short (dU sp (s.drop k)).1
theorem Yb{s:O}(h:s.length<=1048576):Rs s:=by
 have hd:∀ sp k,(dU sp (s.drop k)).1.length<=1048576:=λsp k=>by have:=(nK sp (s.drop k)).1;rw[aj]at this;omega
 exact⟨M0,λsp k=>Km (hd sp k),λsp k=>DJ (hd sp k)⟩
theorem uW(l m:O)(w:H):bP prog 134 #[.string (E l),.string (E m)] w (.tuple #[S (Lib.trimPrefix l m),.bool (Lib.hasPrefix l m)]):=by
 have h:=Any.strings_CutPrefix laysCut (E l) (E m) w;rw[show(E l).data.toList=l from cW l,show(E m).data.toList=m from cW m]at h;exact h
theorem Vd(l:O):Lib.hasPrefix l [47,47]=true ↔ ∃r,l=47::47::r:=by
 unfold Lib.hasPrefix;constructor
 ·intro h
  obtain⟨r,rfl⟩:=ej.1 h;exact⟨r,rfl⟩
 rintro⟨r,rfl⟩;exact ej.2 ⟨r,rfl⟩
theorem hpS(l:O):Lib.hasPrefix l [47]=true ↔ ∃r,l=47::r:=by
 unfold Lib.hasPrefix;constructor
 ·intro h
  obtain⟨r,rfl⟩:=ej.1 h;exact⟨r,rfl⟩
 rintro⟨r,rfl⟩;exact ej.2 ⟨r,rfl⟩
theorem jT{u v:Url}{s:O}(h:jS u s=some v):v.host.six.length=8:=by
 have h8:=@ath_six u.aJ (dU (eU u.aJ) s).1;unfold jS at h;cases hA:kr u.aJ (dU (eU u.aJ) s).1 with
 |none=>simp[hA]at h
 |some a =>
  rw[hA]at h8;simp only[hA,ly]at h;rw[<-h];exact h8

theorem Rc{p:kW}{r:O}(h:p.rest=47::47::r):gi p=jS (dp p.aJ p) r:=by
 unfold gi;rw[h];rfl
theorem Re{p:kW}{r:O}(h:p.rest=47::r)(I:¬ ∃t,p.rest=47::47::t):gi p=some {dp p.aJ p with path:=da (dp p.aJ p).aJ [] r}:=by
 unfold gi;rw[h]at I ⊢;cases r with
 |nil=>rfl
 |cons c t =>
  by_cases hc:c=47
  ·subst hc
   exact absurd ⟨t,rfl⟩ I
  dsimp only
  split
  ·rename_i r' he
   exact absurd (a6q (a6q he).2).1 hc
  ·rename_i r' _ he
   have:=(a6q he).2;subst this;rfl
  rename_i s' _ h3
  exact(h3 _ rfl).elim
theorem Rf{p:kW}(I:¬ ∃t,p.rest=47::t):gi p=some {dp p.aJ p with opq:=true,flat:=if(p.bZ=true\/p.cg=true)/\(dD 0 p.rest).getLast? = some 32 then(dD 0 p.rest).dropLast++[37,50,48]else dD 0 p.rest}:=by
 unfold gi
 split
 ·rename_i r he
  exact absurd ⟨_,he⟩ I
 ·rename_i r _ he
  exact absurd ⟨_,he⟩ I
 rfl
theorem ow{w:H}{base e:Nat}{l:List O}(h:l=[]):w.ownsRow base e 1 aI l.length (Strs l):=by rw[h];exact Jt
theorem a9W(l:O):Lib.hasSuffix l [32]=true ↔ l.getLast? = some 32:=by
 unfold Lib.hasSuffix;rw[a9b];constructor
 ·rintro⟨r,rfl⟩
  simp
 intro h;obtain⟨r,rfl⟩:=a2Q.1 h;exact⟨r,rfl⟩
theorem b0s(l:O)(h:Lib.hasSuffix l [32]=true):Lib.trimSuffix l [32]=l.dropLast:=by
 unfold Lib.trimSuffix;rw[if_pos h,iN];rfl
theorem GF(p:kW)(w:H)(hr:Rs p.rest)(hq:p.q.length<=307200000)(hf:p.f.length<=307200000)(hE:Env w):Calls prog 122 #[.agg (aW p)] w (BA w (gi p)):=by
 have HST:=F<|λW=>oW p.aJ p W M0 M0;have hc2:=λW=>uW p.rest [47,47] W;have hc1:=λW=>uW p.rest [47] W;have hcs:=λW=>zU (dD 0 p.rest) [32] W (by have:=gv 0 p.rest;have:=hr.l;omega);have hen:=λW=>eT 0 p.rest W (by have:=hr.l;omega);obtain⟨us,ng⟩:=V (dp p.aJ p);have h8:us.host.six.length=8:=by rw[ng];rfl
 have hsc:us.aJ=p.aJ:=by rw[ng];rfl
 have hup:us.path=[]:=by rw[ng];rfl
 rw[<-ng]at HST;obtain⟨R,hR⟩:=V (gi p);rw[<-hR];have HE:=F hE;have sU:=F hr;have H8:=F h8;have rG:=F hsc;have Bg:=F hup;rw[show E [47,47]=⟨#[47,47]⟩from rfl]at hc2;rw[show E [47]=⟨#[47]⟩from rfl]at hc1;rw[show E [32]=⟨#[32]⟩from rfl]at hcs;have xL:=F hcs;have zC:=F hen;have rE:=F hc1;have Ei:=F hc2;have HR:=F hR;have HUS:=F ng;clear hr hq hf hE h8 hsc hup hc2 hc1 hcs hen hR ng;go_enter func122,ntmps122
 go_upto_region 1 with(first
  |(refine aM rfl 34 rfl _ _ (eD _) ?_))
 have X:=CB.new w 79 (aW p);have U:=(Below.refl w.heap.size w).alloc (ag _) (.cells (aW p) 79);obtain⟨w2,hw2⟩:=V (w.alloc (.cells (aW p) 79));have hz:w2.heap.size=w.heap.size+1:=by rw[hw2];simp
 rw[<-hw2]at X U ⊢;have hu:=CB.new w2 34 (ai aI U0);have hb2:=(Below.refl w2.heap.size w2).alloc (ag _) (.cells (ai aI U0) 34);obtain⟨w3,hw3⟩:=V (w2.alloc (.cells (ai aI U0) 34));have hz3:w3.heap.size=w.heap.size+2:=by rw[hw3];simp[hz]
 rw[<-hw3]at hu hb2 ⊢;rw[hz]at hu
 try rw[hz]
 have hx3:=X.keep hb2;obtain⟨bx,hbx⟩:=V (w.heap.size);obtain⟨br,hbr⟩:=V (w.heap.size+1);rw[<-hbr]at hu ⊢;rw[<-hbx]at hx3 ⊢;have hlx:bx<w3.heap.size:=M0;have hlr:br<w3.heap.size:=M0;have iS:=F (show w.heap.size<=br by omega);have B3:=F<|dw U hb2;have X3:=F hx3;have R3:=F hu;clear X U hw2 hz hu hb2 hw3 hx3 hbx hbr hz3;have c1:=X3.o.aE (j:=1) (v:=S p.aJ) rfl
 go_upto_region 2 with(first
  |(refine kB rfl (.tmp 1) rfl bx p X3.o rfl ?_)
  |(go_at_call 119;refine(HST.o _).m ?_;rintro e w4 ⟨rfl,U⟩;have eI:=F U;clear U)
  |(refine aM rfl 34 rfl _ _ (eD _) ?_)
  |(refine fL rfl (.tmp 3) (.tmp 13) rfl aI us H8.o rfl rfl rfl rfl ?_;intro w5 hh U;have I5:=F<|OB.of (w0:=w) hh (am B3.o.size eI.o.size) (dw (dw B3.o eI.o) U);have K5:=F (show K2 bx br w4.heap.size p w5 from⟨(X3.o.keep eI.o).keep U,(R3.o.keep eI.o).keep U,by have:=eI.o.size;omega,by have:=eI.o.size;omega⟩);have lZ:=F (show br<w4.heap.size by have:=eI.o.size;omega);clear hh U))
 obtain⟨b,hbb⟩:=V (w4.heap.size);rw[<-hbb]at I5 K5 lZ ⊢;clear c1 hbb hlx hlr;have c2:=K5.o.x.aE (j:=2) (v:=S p.rest) rfl;by_cases hA:∃ r,p.rest=47::47::r
 ·obtain⟨r,hr⟩:=hA
  have hp1:Lib.hasPrefix p.rest [47,47]=true:=(Vd _).2 ⟨r,hr⟩;have ht:Lib.trimPrefix p.rest [47,47]=r:=by unfold Lib.trimPrefix;rw[if_pos hp1,hr];rfl
  have dI:=F (show R=jS us r by rw[HR.o,Rc hr,HUS.o]);have WQ:=F<|λW=>(show bP prog 134 #[S p.rest,.string ⟨#[47,47]⟩] W (.tuple #[S r,.bool true])from by have h:=Ei.o W;rw[ht,hp1]at h;exact h);have HAS:=F<|λW (i:OB w b 34 (ai aI us) W)=>ul w b us r W i H8.o Bg.o (by have:=sU.o.l;rw[hr]at this;simp at this;omega) (by have:=sU.o.a (eU us.aJ) 2;rw[hr]at this;exact this) (HE.o.below i.bL);clear hp1 ht hr;cases hO:jS us r with
  |none =>
   rw[hO]at dI;have rL:=F<|λW i=>(show Calls prog 120 #[.pointer (some ⟨b,0,none⟩),S r] W λe w'=>e=Ek/\r7 w w'/\Tn b W w' from by have h:=HAS.o W i;rw[hO]at h;exact h);clear hO HAS
   go_wp2_with (first
    |(go_at_call 134;refine(WQ.o _).m ?_;rintro e w6 ⟨rfl,hw⟩;subst hw)
    |(go_at_call 120;refine(rL.o _ I5.o).m ?_;rintro e w7 ⟨rfl,U,_⟩;have B7:=F U;clear U))
   rw[dI.o];exact⟨rfl,rfl,B7.o⟩
  |some u =>
   rw[hO]at dI;have rL:=F<|λW i=>(show Calls prog 120 #[.pointer (some ⟨b,0,none⟩),S r] W λe w'=>e=.returned (.tuple #[])/\(∃A,OB w b 34 (ai A u) w'/\w'.ownsRow W.heap.size 9 1 A u.path.length (Strs u.path))/\Tn b W w' from by have h:=HAS.o W i;rw[hO]at h;exact h);have U8:=F<|jT hO;clear hO HAS
   go_wp2_with (first
    |(go_at_call 134;refine(WQ.o _).m ?_;rintro e w6 ⟨rfl,hw⟩;subst hw)
    |(go_at_call 120;refine(rL.o _ I5.o).m ?_;rintro e w7 ⟨rfl,⟨A,i7,o7⟩,t7⟩;have I7:=F i7;have O7:=F o7;have K7:=F<|K5.o.tn t7;clear i7 o7 t7)
    |(refine eP rfl (.tmp 3) rfl w b A u I7.o U8.o rfl ?_)
    |(refine fV rfl (.tmp 2) (.tmp 23) rfl w br (OB.of K7.o.r iS.o I7.o.bL) A u U8.o (bm O7.o) rfl rfl ?_;intro w8 i8 t8;have I8:=F i8;have O8:=F<|bd (t8.row O7.o (aN lZ.o (xp I5.o.lt))) I5.o.bL.size;clear i8 t8))
   rw[dI.o];exact ed (u:=u) results122 U8.o rfl I8.o ⟨A,rfl,O8.o,I8.o.bL⟩
 by_cases hB:∃ r,p.rest=47::r
 ·obtain⟨r,hr⟩:=hB
  have hp0:Lib.hasPrefix p.rest [47,47]=false:=by rw[MT];exact λh=>hA ((Vd _).1 h)
  have ht0:Lib.trimPrefix p.rest [47,47]=p.rest:=by unfold Lib.trimPrefix;rw[if_neg (by simp[hp0])]
  have hp1:Lib.hasPrefix p.rest [47]=true:=(hpS _).2 ⟨r,hr⟩;have ht:Lib.trimPrefix p.rest [47]=r:=by unfold Lib.trimPrefix;rw[if_pos hp1,hr];rfl
  have WQ:=F<|λW=>(show bP prog 134 #[S p.rest,.string ⟨#[47,47]⟩] W (.tuple #[S p.rest,.bool false])from by have h:=Ei.o W;rw[ht0,hp0]at h;exact h);have HCB:=F<|λW=>(show bP prog 134 #[S p.rest,.string ⟨#[47]⟩] W (.tuple #[S r,.bool true])from by have h:=rE.o W;rw[ht,hp1]at h;exact h);obtain⟨P,hP⟩:=V (da us.aJ [] r);have ma:=F<|λW=>(show Calls prog 153 #[S us.aJ,aI,S r] W (ga W 9 (Strs P))from by rw[hP];exact gj us.aJ r [] aI W Sl.nil (by have:=sU.o.l;rw[hr]at this;simp at this;omega) Oc Oc);have xo:=F (show R=some {us with path:=P} by rw[HR.o,Re hr hA,hP,HUS.o]);clear hp0 ht0 hp1 ht hr hA hP;have c0:=I5.o.aE (ry aI us H8.o).aJ
  go_upto_region 8 with(first
   |(go_at_call 134;(with_reducible first|(refine(WQ.o _).m ?_)|(refine(HCB.o _).m ?_));rintro e w6 ⟨rfl,hw⟩;subst hw))
  go_wp2_with (first
   |(go_at_call 153;refine(ma.o _).m ?_;rintro e w7 ⟨A,rfl,o7,U⟩;have O7:=F o7;have I7:=F<|I5.o.below U;have K7:=F<|K5.o.below U;clear o7 U)
   |(refine dX rfl 22 (.tmp 35) (.tmp 34) rfl w b 34 (ai aI us) I7.o 18 A rfl rfl (fP H8.o P8) dC (bm O7.o) (ai A {us with path:=P}) ((fO aI us H8.o).path _ _) ?_;intro w8 i8 t8;have I8:=F i8;have K8:=F<|K7.o.tn t8;have O8:=F<|t8.row O7.o I5.o.lt;clear i8 t8)
   |(refine eP rfl (.tmp 3) rfl w b A {us with path:=P} I8.o H8.o rfl ?_)
   |(refine fV rfl (.tmp 2) (.tmp 36) rfl w br (OB.of K8.o.r iS.o I8.o.bL) A {us with path:=P} H8.o (bm O8.o) rfl rfl ?_;intro w9 i9 t9;have I9:=F i9;have O9:=F<|bd (t9.row O8.o (aN lZ.o (xp I5.o.lt))) I5.o.bL.size;clear i9 t9))
  rw[xo.o];exact ed (u:={us with path:=P}) results122 H8.o rfl I9.o ⟨A,rfl,eE O9.o,I9.o.bL⟩
 have hp0:Lib.hasPrefix p.rest [47,47]=false:=by rw[MT];exact λh=>hA ((Vd _).1 h)
 have ht0:Lib.trimPrefix p.rest [47,47]=p.rest:=by unfold Lib.trimPrefix;rw[if_neg (by simp[hp0])]
 have hp1:Lib.hasPrefix p.rest [47]=false:=by rw[MT];exact λh=>hB ((hpS _).1 h)
 have ht:Lib.trimPrefix p.rest [47]=p.rest:=by unfold Lib.trimPrefix;rw[if_neg (by simp[hp1])]
 have WQ:=F<|λW=>(show bP prog 134 #[S p.rest,.string ⟨#[47,47]⟩] W (.tuple #[S p.rest,.bool false])from by have h:=Ei.o W;rw[ht0,hp0]at h;exact h);have HCB:=F<|λW=>(show bP prog 134 #[S p.rest,.string ⟨#[47]⟩] W (.tuple #[S p.rest,.bool false])from by have h:=rE.o W;rw[ht,hp1]at h;exact h);obtain⟨fl,hfl⟩:=V (dD 0 p.rest);have xw:=F (show R=some {us with opq:=true,flat:=if(p.bZ=true\/p.cg=true)/\fl.getLast? = some 32 then fl.dropLast++[37,50,48]else fl} by rw[HR.o,Rf hB,hfl,HUS.o]);have hsx:=a9W fl;have htx:=b0s fl;rw[<-hfl]at zC xL;have zD:=F (show fl.length<=921600000 by rw[hfl];have:=gv 0 p.rest;have:=sU.o.l;omega);generalize Lib.hasSuffix fl [32]=hs at *;generalize Lib.trimSuffix fl [32]=tf at *;have YJ:=F htx;have EG:=F hsx;clear hp0 ht0 hp1 ht hB hA hfl htx hsx
 go_upto_region 12 with(first
  |(go_at_call 134;(with_reducible first|(refine(WQ.o _).m ?_)|(refine(HCB.o _).m ?_));rintro e w6 ⟨rfl,hw⟩;subst hw)
  |(refine dX rfl 4 (.tmp 37) (.const (.bool true)) rfl w b 34 (ai aI us) I5.o 16 (.bool true) rfl rfl (fP H8.o P8) bY.2.2 rfl (ai aI {us with opq:=true}) ((fO aI us H8.o).opq _) ?_;intro w7 i7 t7;have I7:=F i7;have K7:=F<|K5.o.tn t7;have d2:=K7.o.x.aE (j:=2) (v:=S p.rest) rfl;clear i7 t7)
  |(go_at_call 156;refine(zC.o _).m ?_;rintro e w8 ⟨rfl,U⟩;have I8:=F<|I7.o.below U;have K8:=F<|K7.o.below U;clear U)
  |(refine dX rfl 9 (.tmp 41) (.tmp 40) rfl w b 34 (ai aI {us with opq:=true}) I8.o 17 (S fl) rfl rfl (fP H8.o P8) bY.1 rfl (ai aI {us with opq:=true,flat:=fl}) ((fO aI {us with opq:=true} H8.o).flat _) ?_;intro w9 i9 t9;have I9:=F i9;have K9:=F<|K8.o.tn t9;clear i9 t9))
 clear c2 d2;have c3:=K9.o.x.aE (j:=3) (v:=.bool p.bZ) rfl;have c5:=K9.o.x.aE (j:=5) (v:=.bool p.cg) rfl;have c17:=I9.o.aE (ry aI {us with opq:=true,flat:=fl} H8.o).flat;have hcs:(p.bZ=true)\/(p.bZ=false/\p.cg=true)\/(p.bZ=false/\p.cg=false):=by cases p.bZ <;>cases p.cg <;>simp
 rcases hcs with hq|⟨hq,hf⟩|⟨hq,hf⟩
 ·rw[hq]at c3
  cases hs with
  |true =>
   have Be:=F (show R=some {us with opq:=true,flat:=fl.dropLast++[37,50,48]} by rw[xw.o,if_pos ⟨by simp[hq],EG.o.1 rfl⟩]);have FZ:=YJ.o rfl;have HTF:=F (show S tf=S fl.dropLast by rw[FZ]);have HAD:=F (show E tf++(⟨#[37,50,48]⟩:ByteArray)=E (fl.dropLast++[37,50,48]) by rw[FZ,<-mm];rfl);obtain⟨tg,Z1⟩:=V (E (fl.dropLast++[37,50,48]));rw[<-Z1]at HAD;have HTG:=F Z1;obtain⟨th,hth⟩:=V (E tf);rw[<-hth]at HAD;have Hq:=F<|λW=>(show bP prog 104 #[S fl,.string ⟨#[32]⟩] W (.tuple #[.string th,.bool true])from by rw[hth];exact xL.o W);clear Z1 xL HTF;have a9Y:th.size<=921600000:=by rw[hth,aF,FZ,fY];have:=zD.o;omega
   clear hth FZ;have had:=HAD.o
   go_upto_region 15 with(first
    |(go_at_call 104;refine(Hq.o _).m ?_;rintro e xr ⟨rfl,hw⟩;subst hw))
   go_upto_region 16 with(first
    |(refine dX rfl 9 (.tmp 57) (.tmp 56) rfl w b 34 (ai aI {us with opq:=true,flat:=fl}) I9.o 17 (.string tg) rfl rfl (fP H8.o P8) bY.1 rfl (ai aI {us with opq:=true,flat:=fl.dropLast++[37,50,48]}) (by rw[HTG.o];exact(fO aI {us with opq:=true,flat:=fl} H8.o).flat _) ?_;intro Eb i11 t11;have xP:=F i11;have H5:=F<|K9.o.tn t11;clear i11 t11))
   go_wp2_with (first
    |(refine eP rfl (.tmp 3) rfl w b aI {us with opq:=true,flat:=fl.dropLast++[37,50,48]} xP.o H8.o rfl ?_)
    |(refine fV rfl (.tmp 2) (.tmp 58) rfl w br (OB.of H5.o.r iS.o xP.o.bL) aI {us with opq:=true,flat:=fl.dropLast++[37,50,48]} H8.o rfl rfl rfl ?_;intro wZ iZ _;have IZ:=F iZ;clear iZ))
   rw[Be.o];exact ed (u:={us with opq:=true,flat:=fl.dropLast++[37,50,48]}) results122 H8.o rfl IZ.o ⟨aI,rfl,ow Bg.o,IZ.o.bL⟩
  |false =>
   have Be:=F (show R=some {us with opq:=true,flat:=fl} by rw[xw.o,if_neg (by rintro⟨_,h⟩;have:=EG.o.2 h;cases this)])
   go_wp2_with (first
    |(go_at_call 104;refine(xL.o _).m ?_;rintro e xr ⟨rfl,hw⟩;subst hw)
    |(refine eP rfl (.tmp 3) rfl w b aI {us with opq:=true,flat:=fl} I9.o H8.o rfl ?_)
    |(refine fV rfl (.tmp 2) (.tmp 58) rfl w br (OB.of K9.o.r iS.o I9.o.bL) aI {us with opq:=true,flat:=fl} H8.o rfl rfl rfl ?_;intro wZ iZ _;have IZ:=F iZ;clear iZ))
   rw[Be.o];exact ed (u:={us with opq:=true,flat:=fl}) results122 H8.o rfl IZ.o ⟨aI,rfl,ow Bg.o,IZ.o.bL⟩
 ·rw[hq]at c3
  rw[hf]at c5;cases hs with
  |true =>
   have Be:=F (show R=some {us with opq:=true,flat:=fl.dropLast++[37,50,48]} by rw[xw.o,if_pos ⟨by simp[hf],EG.o.1 rfl⟩]);have FZ:=YJ.o rfl;have HTF:=F (show S tf=S fl.dropLast by rw[FZ]);have HAD:=F (show E tf++(⟨#[37,50,48]⟩:ByteArray)=E (fl.dropLast++[37,50,48]) by rw[FZ,<-mm];rfl);obtain⟨tg,Z1⟩:=V (E (fl.dropLast++[37,50,48]));rw[<-Z1]at HAD;have HTG:=F Z1;obtain⟨th,hth⟩:=V (E tf);rw[<-hth]at HAD;have Hq:=F<|λW=>(show bP prog 104 #[S fl,.string ⟨#[32]⟩] W (.tuple #[.string th,.bool true])from by rw[hth];exact xL.o W);clear Z1 xL HTF;have a9Y:th.size<=921600000:=by rw[hth,aF,FZ,fY];have:=zD.o;omega
   clear hth FZ;have had:=HAD.o
   go_upto_region 15 with(first
    |(go_at_call 104;refine(Hq.o _).m ?_;rintro e xr ⟨rfl,hw⟩;subst hw))
   go_upto_region 16 with(first
    |(refine dX rfl 9 (.tmp 57) (.tmp 56) rfl w b 34 (ai aI {us with opq:=true,flat:=fl}) I9.o 17 (.string tg) rfl rfl (fP H8.o P8) bY.1 rfl (ai aI {us with opq:=true,flat:=fl.dropLast++[37,50,48]}) (by rw[HTG.o];exact(fO aI {us with opq:=true,flat:=fl} H8.o).flat _) ?_;intro Eb i11 t11;have xP:=F i11;have H5:=F<|K9.o.tn t11;clear i11 t11))
   go_wp2_with (first
    |(refine eP rfl (.tmp 3) rfl w b aI {us with opq:=true,flat:=fl.dropLast++[37,50,48]} xP.o H8.o rfl ?_)
    |(refine fV rfl (.tmp 2) (.tmp 58) rfl w br (OB.of H5.o.r iS.o xP.o.bL) aI {us with opq:=true,flat:=fl.dropLast++[37,50,48]} H8.o rfl rfl rfl ?_;intro wZ iZ _;have IZ:=F iZ;clear iZ))
   rw[Be.o];exact ed (u:={us with opq:=true,flat:=fl.dropLast++[37,50,48]}) results122 H8.o rfl IZ.o ⟨aI,rfl,ow Bg.o,IZ.o.bL⟩
  |false =>
   have Be:=F (show R=some {us with opq:=true,flat:=fl} by rw[xw.o,if_neg (by rintro⟨_,h⟩;have:=EG.o.2 h;cases this)])
   go_wp2_with (first
    |(go_at_call 104;refine(xL.o _).m ?_;rintro e xr ⟨rfl,hw⟩;subst hw)
    |(refine eP rfl (.tmp 3) rfl w b aI {us with opq:=true,flat:=fl} I9.o H8.o rfl ?_)
    |(refine fV rfl (.tmp 2) (.tmp 58) rfl w br (OB.of K9.o.r iS.o I9.o.bL) aI {us with opq:=true,flat:=fl} H8.o rfl rfl rfl ?_;intro wZ iZ _;have IZ:=F iZ;clear iZ))
   rw[Be.o];exact ed (u:={us with opq:=true,flat:=fl}) results122 H8.o rfl IZ.o ⟨aI,rfl,ow Bg.o,IZ.o.bL⟩
 rw[hq]at c3;rw[hf]at c5;have Be:=F (show R=some {us with opq:=true,flat:=fl} by rw[xw.o,if_neg (by simp[hq,hf])])
 go_wp2_with (first
  |(refine eP rfl (.tmp 3) rfl w b aI {us with opq:=true,flat:=fl} I9.o H8.o rfl ?_)
  |(refine fV rfl (.tmp 2) (.tmp 58) rfl w br (OB.of K9.o.r iS.o I9.o.bL) aI {us with opq:=true,flat:=fl} H8.o rfl rfl rfl ?_;intro wZ iZ _;have IZ:=F iZ;clear iZ))
 rw[Be.o];exact ed (u:={us with opq:=true,flat:=fl}) results122 H8.o rfl IZ.o ⟨aI,rfl,ow Bg.o,IZ.o.bL⟩

structure K3 (bb bx br b:Nat) (bv:Z) (u:Url) (p:kW) (W:H):Prop where
 cb:CB W bb 34 (ai bv u)
 cx:CB W bx 79 (aW p)
 cr:CB W br 34 (ai aI U0)
 nb:bb≠b
 nx:bx≠b
 nr:br≠b
section
variable {bb bx br b:Nat} {bv:Z} {u:Url} {p:kW} {W W':H}
theorem K3.below(k:K3 bb bx br b bv u p W)(h:r7 W W'):K3 bb bx br b bv u p W':=⟨k.cb.keep h,k.cx.keep h,k.cr.keep h,k.nb,k.nx,k.nr⟩
theorem K3.tn(k:K3 bb bx br b bv u p W)(h:Tn b W W'):K3 bb bx br b bv u p W':=⟨h.cb k.cb k.nb,h.cb k.cx k.nx,h.cb k.cr k.nr,k.nb,k.nx,k.nr⟩
end
theorem three(w:H)(bv:Z)(u:Url)(p:kW):∃ w3,((w.alloc (.cells (ai bv u) 34)).alloc (.cells (aW p) 79)).alloc (.cells (ai aI U0) 34)=w3/\w3.heap.size=w.heap.size+3/\r7 w w3/\CB w3 w.heap.size 34 (ai bv u)/\CB w3 (w.heap.size+1) 79 (aW p)/\CB w3 (w.heap.size+2) 34 (ai aI U0):=by
 have X:=CB.new w 34 (ai bv u);have U:=(Below.refl w.heap.size w).alloc (ag _) (.cells (ai bv u) 34);obtain⟨w1,hw1⟩:=V (w.alloc (.cells (ai bv u) 34));have hz1:w1.heap.size=w.heap.size+1:=by rw[hw1];simp
 rw[<-hw1]at X U ⊢;have hy:=CB.new w1 79 (aW p);have hb2:=(Below.refl w1.heap.size w1).alloc (ag _) (.cells (aW p) 79);obtain⟨w2,hw2⟩:=V (w1.alloc (.cells (aW p) 79));have hz2:w2.heap.size=w.heap.size+2:=by rw[hw2];simp[hz1]
 rw[<-hw2]at hy hb2 ⊢;have hu:=CB.new w2 34 (ai aI U0);have hb3:=(Below.refl w2.heap.size w2).alloc (ag _) (.cells (ai aI U0) 34);obtain⟨w3,hw3⟩:=V (w2.alloc (.cells (ai aI U0) 34));have hz3:w3.heap.size=w.heap.size+3:=by rw[hw3];simp[hz2]
 rw[<-hw3]at hu hb3 ⊢;rw[hz1]at hy;rw[hz2]at hu;exact⟨w3,rfl,hz3,dw (dw U hb2) hb3,(X.keep hb2).keep hb3,hy.keep hb3,hu⟩
theorem Wk{B:Nat}{w:H}{v:Z}{xs:List Z}(h:Sl B w v xs):v.oneCell'=true:=by
 obtain⟨c,_,_,⟨_,a,rfl⟩|⟨b,o,_,rfl,_⟩⟩:=h <;>rfl
theorem Pm(bu:Url)(bv:Z)(p:kW)(w:H)(h8:bu.host.six.length=8)(hbv:Sl w.heap.size w bv (bu.path.map S))(hbl:bu.path.length<=307200000)(hf:p.f.length<=307200000):Calls prog 123 #[.agg (ai bv bu),.agg (aW p)] w (BA w (k5 bu p)):=by
 have zC:=F<|λW=>eT 1 p.f W M0;obtain⟨R,hR⟩:=V (k5 bu p);rw[<-hR];unfold k5 at hR;have H8:=F h8;have SV:=F hbv;have lZ:=F hbl;have HR:=F hR;obtain⟨ff,FU⟩:=V (dD 1 p.f);rw[<-FU]at zC HR;have hre:(E p.rest).toList=[] ↔ p.rest=[]:=by rw[aB]
 have Bw:=F hre
 have hk:(p.cg=true/\p.bZ=false/\p.rest=[])\/(p.cg=false)\/(p.cg=true/\p.bZ=true)\/(p.cg=true/\p.bZ=false/\p.rest ≠ []):=by
  cases p.cg <;>cases p.bZ <;>by_cases h:p.rest=[] <;>simp[h]
 clear h8 hbv hbl hf hR hre FU;go_enter func123,ntmps123
 go_upto_region 1 with(first
  |(refine aM rfl 34 rfl _ _ (eD _) ?_))
 obtain⟨w3,hw3,hz3,U,k1,k2,k3⟩:=three w bv bu p
 try rw[show((w.alloc (.cells (ai bv bu) 34)).alloc (.cells (aW p) 79)).heap.size=w.heap.size+2 by simp]
 rw[hw3];clear hw3;obtain⟨br,hbr⟩:=V (w.heap.size+2);obtain⟨bx,hbx⟩:=V (w.heap.size+1);obtain⟨bb,hbb⟩:=V (w.heap.size);rw[<-hbr]at k3;rw[<-hbx]at k2;rw[<-hbb]at k1;rw[<-hbr,<-hbx,<-hbb];have iS:=F (show w.heap.size<=br by omega);have kM:=F hbb;have B3:=F U;have V3:=F k1;have X3:=F k2;have R3:=F k3;have HD:=F (show bb<bx/\bx<br by omega);clear hz3 U k1 k2 k3 hbr hbx hbb;have d2:=X3.o.aE (j:=2) (v:=S p.rest) rfl;have d3:=X3.o.aE (j:=3) (v:=.bool p.bZ) rfl;have d5:=X3.o.aE (j:=5) (v:=.bool p.cg) rfl;rcases hk with⟨k1,k2,k3⟩|k1|⟨k1,k2⟩|⟨k1,k2,k3⟩
 ·have he1:(E p.rest).toList.isEmpty=true:=by rw[Bw.o.2 k3];rfl
  rw[k1]at d5;rw[k2]at d3;have dI:=F (show R=some {bu with cg:=true,f:=ff} by rw[HR.o,if_neg (by simp[k1,k2,k3])]);clear k1 k2 k3
  go_upto_region 4 with(first
   |(refine eP rfl (.tmp 2) rfl w bb bv bu (OB.of V3.o (bW kM.o.symm) B3.o) H8.o rfl ?_)
   |(refine aM rfl 34 rfl _ _ (eD _) ?_)
   |(refine fL rfl (.tmp 5) (.tmp 20) rfl bv bu H8.o (Wk SV.o) rfl rfl rfl ?_;intro w5 hh U;have I5:=F<|OB.of (w0:=w) hh B3.o.size (dw B3.o U);have K5:=F (show K3 bb bx br w3.heap.size bv bu p w5 from⟨V3.o.keep U,X3.o.keep U,R3.o.keep U,cO V3.o.lt,cO X3.o.lt,cO R3.o.lt⟩);clear hh U))
  obtain⟨b,U⟩:=V (w3.heap.size);have JX:=F (show br<b by rw[U];exact R3.o.lt);rw[<-U]at I5 K5 ⊢;clear U d2 d3 d5;have c8:=K5.o.cb.aE (ry bv bu H8.o).path;have d6:=K5.o.cx.aE (j:=6) (v:=S p.f) rfl
  go_upto_region 5 with(first
   |(go_at_call 54;refine(fQ bu.path bv _ ((SV.o.below I5.o.bL).more I5.o.bL.size) (by have:=lZ.o;omega)).m ?_;rintro e w6 ⟨A,rfl,o6,U⟩;have O6:=F<|eE o6;have I6:=F<|I5.o.below U;have K6:=F<|K5.o.below U;have j8:=F (show b<w5.heap.size from I5.o.lt);clear o6 U)
   |(refine dX rfl 22 (.tmp 24) (.tmp 23) rfl w b 34 (ai bv bu) I6.o 18 A rfl rfl (fP H8.o P8) dC (bm O6.o) (ai A bu) ((fO bv bu H8.o).path _ bu.path) ?_;intro w7 i7 t7;have I7:=F i7;have K7:=F<|K6.o.tn t7;have O7:=F<|t7.row O6.o j8.o;clear i7 t7))
  clear c8 d6;have d6:=K7.o.cx.aE (j:=6) (v:=S p.f) rfl
  go_wp2_with (first
   |(refine dX rfl 4 (.tmp 25) (.const (.bool true)) rfl w b 34 (ai A bu) I7.o 21 (.bool true) rfl rfl (fP H8.o P8) bY.2.2 rfl (ai A {bu with cg:=true}) ((fO A bu H8.o).cg _) ?_;intro w8 i8 t8;have I8:=F i8;have K8:=F<|K7.o.tn t8;have O8:=F<|t8.row O7.o j8.o;have e6:=K8.o.cx.aE (j:=6) (v:=S p.f) rfl;clear i8 t8)
   |(go_at_call 156;refine(zC.o _).m ?_;rintro e w9 ⟨rfl,U⟩;have I9:=F<|I8.o.below U;have K9:=F<|K8.o.below U;have O9:=F<|own_below O8.o U;clear U)
   |(refine dX rfl 9 (.tmp 29) (.tmp 28) rfl w b 34 (ai A {bu with cg:=true}) I9.o 22 (S ff) rfl rfl (fP H8.o P8) bY.1 rfl (ai A {bu with cg:=true,f:=ff}) ((fO A {bu with cg:=true} H8.o).f _) ?_;intro xr qW t10;have nl:=F qW;have rO:=F<|K9.o.tn t10;have pB:=F<|t10.row O9.o j8.o;clear qW t10)
   |(refine eP rfl (.tmp 5) rfl w b A {bu with cg:=true,f:=ff} nl.o H8.o rfl ?_)
   |(refine fV rfl (.tmp 4) (.tmp 30) rfl w br (OB.of rO.o.cr iS.o nl.o.bL) A {bu with cg:=true,f:=ff} H8.o (bm pB.o) rfl rfl ?_;intro Eb i11 t11;have xP:=F i11;have YZ:=F<|bd (t11.row pB.o (Nat.lt_trans JX.o j8.o)) I5.o.bL.size;clear i11 t11))
  rw[dI.o];exact ed (u:={bu with cg:=true,f:=ff}) results123 H8.o rfl xP.o ⟨A,rfl,YZ.o,xP.o.bL⟩
 ·rw[k1]at d5
  have dI:=F (show R=none by rw[HR.o,if_pos (by simp[k1])]);go_wp2_with fail;rw[dI.o];exact⟨rfl,rfl,B3.o⟩
 ·rw[k1]at d5
  rw[k2]at d3;have dI:=F (show R=none by rw[HR.o,if_pos (by simp[k2])]);go_wp2_with fail;rw[dI.o];exact⟨rfl,rfl,B3.o⟩
 rw[k1]at d5;rw[k2]at d3
 have he1:(E p.rest).toList.isEmpty=false:=by
  have:=λh=>k3 (Bw.o.1 h)
  simpa using this
 have dI:=F (show R=none by rw[HR.o,if_pos (by simp[k3])]);clear k1 k2 k3;go_wp2_with fail;rw[dI.o];exact⟨rfl,rfl,B3.o⟩

structure Bs (l:List O):Prop where
 le:l.length<=307200000
 all:∀ x∈l,List.length x<=1024000000
theorem wR(u b:Url):(fM u b).path=b.path:=by unfold fM;split <;>rfl
theorem mV(u b:Url):(fM u b).host=u.host:=by unfold fM;split <;>rfl
theorem AJ(bu:Url)(bv:Z)(p:kW)(w:H)(h8:bu.host.six.length=8)(hbv:Sl w.heap.size w bv (bu.path.map S))(hbs:Bs bu.path)(hr:Rs p.rest)(hq:p.q.length<=307200000)(hf:p.f.length<=307200000)(hE:Env w):Calls prog 124 #[.agg (ai bv bu),.agg (aW p)] w (BA w (ri bu p)):=by
 have HST:=F<|λW=>oW bu.aJ p W M0 M0;have ji:=F<|λW=>gl bu.aJ W;have hsl:=λW=>k9 bu.aJ p.rest W (by have:=hr.l;omega);have S3:=F<|λW=>pL bu.aJ p.rest W (by have:=hr.l;omega);obtain⟨us,ng⟩:=V (dp bu.aJ p);have h8s:us.host.six.length=8:=by rw[ng];rfl
 have hsc:us.aJ=bu.aJ:=by rw[ng];rfl
 have hup:us.path=[]:=by rw[ng];rfl
 rw[<-ng]at HST;obtain⟨R,hR⟩:=V (ri bu p);rw[<-hR];unfold ri at hR;rw[<-ng]at hR;dsimp only at hR;have hle:=AT (eU bu.aJ) p.rest;have HE:=F hE;have sU:=F hr;have H8:=F h8;have SV:=F hbv;have Bd:=F hbs;have Bf:=F h8s;have rG:=F hsc;have Bg:=F hup;have HUS:=F ng;generalize uE (eU bu.aJ) p.rest=n at *;generalize eU bu.aJ=sp at *;have HSL:=F hsl;have HR:=F hR;obtain⟨t,ht⟩:=V (E p.rest);have htz:t.size=p.rest.length:=by rw[ht,aF]
 have HT:=F ht;have pT:t.extract 1 t.size=E (p.rest.drop 1):=by rw[ht];exact gn p.rest 1 _ (aF p.rest)
 have n9:t.extract 2 t.size=E (p.rest.drop 2):=by rw[ht];exact gn p.rest 2 _ (aF p.rest)
 obtain⟨N,hN⟩:=V (t.size);have P6:t.size=N:=hN.symm;rw[P6]at pT n9;have hnN:n<=N:=M0;have Yu:=F pT;have Nv:=F n9;have xm:=F hnN;have HTZ:=F htz;clear h8 hbv hbs hr hq hf hE hsl h8s hsc hup hR hle ng ht pT n9 hN hnN htz;go_enter func124,ntmps124
 go_upto_region 1 with(first
  |(refine aM rfl 34 rfl _ _ (eD _) ?_))
 obtain⟨w3,hw3,hz3,U,k1,k2,k3⟩:=three w bv bu p
 try rw[show((w.alloc (.cells (ai bv bu) 34)).alloc (.cells (aW p) 79)).heap.size=w.heap.size+2 by simp]
 rw[hw3];clear hw3;obtain⟨br,hbr⟩:=V (w.heap.size+2);obtain⟨bx,hbx⟩:=V (w.heap.size+1);obtain⟨bb,hbb⟩:=V (w.heap.size);rw[<-hbr]at k3;rw[<-hbx]at k2;rw[<-hbb]at k1;rw[<-hbr,<-hbx,<-hbb];have iS:=F (show w.heap.size<=br by omega);have kM:=F hbb;have B3:=F U;have V3:=F k1;have X3:=F k2;have R3:=F k3;have HD:=F (show bb<bx/\bx<br by omega);clear hz3 U k1 k2 k3 hbr hbx hbb;have c0:=V3.o.aE (ry bv bu H8.o).aJ
 go_upto_region 2 with(first
  |(refine kB rfl (.tmp 3) rfl bx p X3.o rfl ?_)
  |(go_at_call 119;refine(HST.o _).m ?_;rintro e w4 ⟨rfl,U⟩;have eI:=F U;clear U)
  |(refine aM rfl 34 rfl _ _ (eD _) ?_)
  |(refine fL rfl (.tmp 5) (.tmp 10) rfl aI us Bf.o rfl rfl rfl rfl ?_;intro w5 hh U;have I5:=F<|OB.of (w0:=w) hh (am B3.o.size eI.o.size) (dw (dw B3.o eI.o) U);have K5:=F (show K3 bb bx br w4.heap.size bv bu p w5 from⟨(V3.o.keep eI.o).keep U,(X3.o.keep eI.o).keep U,(R3.o.keep eI.o).keep U,cO (aN V3.o.lt eI.o.size),cO (aN X3.o.lt eI.o.size),cO (aN R3.o.lt eI.o.size)⟩);have jR:=F (show br<w4.heap.size+1 from rP (aN R3.o.lt eI.o.size));have ug:=F (show w.heap.size<=w4.heap.size+1 from lw (am B3.o.size eI.o.size));clear hh U))
 obtain⟨b,hbb⟩:=V (w4.heap.size);rw[<-hbb]at I5 K5 jR ug ⊢;clear c0 hbb;have c0:=I5.o.aE (ry aI us Bf.o).aJ;rw[rG.o]at c0;have d2:=K5.o.cx.aE (j:=2) (v:=.string (E p.rest)) rfl;rw[<-HT.o]at d2;rw[<-HT.o]at HSL S3;have HAS:=F<|λ(k:Nat) W (i:OB w b 34 (ai aI us) W)=>ul w b us (p.rest.drop k) W i Bf.o Bg.o (by have:=sU.o.l;rw[aj];omega) (sU.o.a _ k) (HE.o.below i.bL);have lc:=F (show(takeA us bu).host.six.length=8 from H8.o);have YC:=F (show(fM (takeA us bu) bu).host.six.length=8 by rw[mV];exact H8.o);have SC:=F<|λ(W:H) (v:Z) (x:Url) (i:OB w b 34 (ai v x) W) (h:x.host.six.length=8) (hs:x.aJ=bu.aJ) (k:K3 bb bx br b bv bu p W)=>(show W.cell? ⟨b,0,none⟩=some (S bu.aJ)/\W.cell? ⟨bx,2,none⟩=some (.string t)/\W.cell? ⟨bb,18,none⟩=some bv from⟨by rw[i.aE (ry v x h).aJ,hs],by rw[HT.o];exact k.cx.aE rfl,k.cb.aE (ry bv bu H8.o).path⟩);have hcs:(2<=n/\sp=true)\/(2<=n/\sp=false)\/n=1\/n=0:=by cases sp <;>simp <;>omega
 rcases hcs with⟨hn,rfl⟩|⟨hn,rfl⟩|rfl|rfl
 ·have qr:=F (show R=jS us (p.rest.drop n) by rw[HR.o,if_pos ⟨hn,rfl⟩])
  have a17:=F<|λW i=>HAS.o n W i;have hni:(2:Int)<=n:=M0;clear hn
  go_upto_region 6 with(first
   |(go_at_call 149;refine(HSL.o _).m ?_;rintro e w6 ⟨rfl,hw⟩;subst hw)
   |(go_at_call 117;refine(ji.o _).m ?_;rintro e w6 ⟨rfl,hw⟩;subst hw))
  cases hO:jS us (p.rest.drop n)with
  |none =>
   have dI:=F (show R=none by rw[qr.o,hO]);have rL:=F<|λW i=>(show Calls prog 120 #[.pointer (some ⟨b,0,none⟩),S ((p.rest.drop n))] W λe w'=>e=Ek/\r7 w w'/\Tn b W w' from by have h:=a17.o W i;rw[hO]at h;exact h);clear hO
   go_wp2_with (first
    |(go_at_call 121;refine(S3.o _).m ?_;rintro e w6 ⟨rfl,hw⟩;subst hw)
    |(go_at_call 120;refine(rL.o _ I5.o).m ?_;rintro e w7 ⟨rfl,U,_⟩;have B7:=F U;clear U))
   rw[dI.o];exact⟨rfl,rfl,B7.o⟩
  |some u =>
   have dI:=F (show R=some u by rw[qr.o,hO]);have rL:=F<|λW i=>(show Calls prog 120 #[.pointer (some ⟨b,0,none⟩),S ((p.rest.drop n))] W λe w'=>e=.returned (.tuple #[])/\(∃A,OB w b 34 (ai A u) w'/\w'.ownsRow W.heap.size 9 1 A u.path.length (Strs u.path))/\Tn b W w' from by have h:=a17.o W i;rw[hO]at h;exact h);have U8:=F<|jT hO;clear hO
   go_upto_region 15 with(first
    |(go_at_call 121;refine(S3.o _).m ?_;rintro e w6 ⟨rfl,hw⟩;subst hw)
    |(go_at_call 120;refine(rL.o _ I5.o).m ?_;rintro e w7 ⟨rfl,⟨A,i7,o7⟩,t7⟩;have I7:=F i7;have O7:=F<|bd o7 (show b+1<=_ from I5.o.lt);have K7:=F<|K5.o.tn t7;clear i7 o7 t7))
   go_wp2_with (first
    |(refine eP rfl (.tmp 5) rfl w b A u I7.o U8.o rfl ?_)
    |(refine fV rfl (.tmp 4) (.tmp 70) rfl w br (OB.of K7.o.cr iS.o I7.o.bL) A u U8.o (bm O7.o) rfl rfl ?_;intro wZ iZ tZ;have IZ:=F iZ;have OZ:=F<|bd (tZ.row O7.o jR.o) ug.o;clear iZ tZ))
   rw[dI.o];exact ed (u:=u) results124 U8.o rfl IZ.o ⟨A,rfl,OZ.o,IZ.o.bL⟩
 ·have qr:=F (show R=jS us (p.rest.drop 2) by rw[HR.o,if_neg Oc,if_pos hn])
  have a16:=F<|λW i=>HAS.o 2 W i;have hni:(2:Int)<=n:=M0;have hN2:2<=N:=by have:=xm.o;omega
  have a9a:(2:Int)<=N:=M0;have n9:=Nv.o;clear hn
  go_upto_region 7 with(first
   |(go_at_call 149;refine(HSL.o _).m ?_;rintro e w6 ⟨rfl,hw⟩;subst hw)
   |(go_at_call 117;refine(ji.o _).m ?_;rintro e w6 ⟨rfl,hw⟩;subst hw))
  cases hO:jS us (p.rest.drop 2)with
  |none =>
   have dI:=F (show R=none by rw[qr.o,hO]);have rL:=F<|λW i=>(show Calls prog 120 #[.pointer (some ⟨b,0,none⟩),S ((p.rest.drop 2))] W λe w'=>e=Ek/\r7 w w'/\Tn b W w' from by have h:=a16.o W i;rw[hO]at h;exact h);clear hO
   go_wp2_with (first
    |(go_at_call 120;refine(rL.o _ I5.o).m ?_;rintro e w7 ⟨rfl,U,_⟩;have B7:=F U;clear U))
   rw[dI.o];exact⟨rfl,rfl,B7.o⟩
  |some u =>
   have dI:=F (show R=some u by rw[qr.o,hO]);have rL:=F<|λW i=>(show Calls prog 120 #[.pointer (some ⟨b,0,none⟩),S ((p.rest.drop 2))] W λe w'=>e=.returned (.tuple #[])/\(∃A,OB w b 34 (ai A u) w'/\w'.ownsRow W.heap.size 9 1 A u.path.length (Strs u.path))/\Tn b W w' from by have h:=a16.o W i;rw[hO]at h;exact h);have U8:=F<|jT hO;clear hO
   go_upto_region 15 with(first
    |(go_at_call 120;refine(rL.o _ I5.o).m ?_;rintro e w7 ⟨rfl,⟨A,i7,o7⟩,t7⟩;have I7:=F i7;have O7:=F<|bd o7 (show b+1<=_ from I5.o.lt);have K7:=F<|K5.o.tn t7;clear i7 o7 t7))
   go_wp2_with (first
    |(refine eP rfl (.tmp 5) rfl w b A u I7.o U8.o rfl ?_)
    |(refine fV rfl (.tmp 4) (.tmp 70) rfl w br (OB.of K7.o.cr iS.o I7.o.bL) A u U8.o (bm O7.o) rfl rfl ?_;intro wZ iZ tZ;have IZ:=F iZ;have OZ:=F<|bd (tZ.row O7.o jR.o) ug.o;clear iZ tZ))
   rw[dI.o];exact ed (u:=u) results124 U8.o rfl IZ.o ⟨A,rfl,OZ.o,IZ.o.bL⟩
 ·obtain⟨PP,Ld⟩:=V (da bu.aJ [] (p.rest.drop 1))
  have dI:=F (show R=some {takeA us bu with path:=PP} by rw[HR.o,if_neg M0,if_neg M0,if_pos rfl,Ld]);obtain⟨s1,hs1⟩:=V (E (p.rest.drop 1));have ma:=F<|λW=>(show Calls prog 153 #[S bu.aJ,aI,.string s1] W (ga W 9 (Strs PP))from by rw[Ld,hs1];exact gj bu.aJ (p.rest.drop 1) [] aI W Sl.nil (by have:=sU.o.l;rw[aj];omega) Oc Oc);have hN1:1<=N:=xm.o;have UY:(1:Int)<=N:=M0;have pT:=Yu.o;rw[<-hs1]at pT;clear Ld hs1
  go_upto_region 11 with(first
   |(go_at_call 149;refine(HSL.o _).m ?_;rintro e w6 ⟨rfl,hw⟩;subst hw)
    |(refine eP rfl (.tmp 2) rfl w bb bv bu (OB.of K5.o.cb (bW kM.o.symm) I5.o.bL) H8.o rfl ?_)
    |(go_at_call 160;refine(mU w b aI bv us bu _ I5.o Bf.o H8.o).m ?_;rintro e w7 ⟨rfl,i7,t7⟩;have I7:=F i7;have K7:=F<|K5.o.tn t7;have e0:=(SC.o _ _ _ I7.o lc.o rG.o K7.o).2.1;clear i7 t7))
  clear c0 d2;have I8:=F<|I7.o.below (bG (bg _));have K8:=F<|K7.o.below (bG (bg _));have JT:=F<|SC.o _ _ _ I8.o lc.o rG.o K8.o;refine wp_region_held_drew (S:=λW=>W.cell? ⟨b,0,none⟩=some (S bu.aJ)/\W.cell? ⟨bx,2,none⟩=some (.string t)/\W.cell? ⟨bb,18,none⟩=some bv) Rz (by with_reducible first|exact rK.o|exact JU.o|exact JT.o) (λhHeld=>?_);refine ek 0 ?_;refine tq 1 rfl ?_ (λwS hSw=>?_) ?_;rotate_left
  ·(try dsimp only at hSw)
   refine bK 9 (.tmp 55) ?_ b 0 (S bu.aJ) _ underlying9 rfl ?_ ?_
   ·rfl
   ·rfl
   exact hSw.1
  try simp only[Act.put,fH,fI,fJ]
  refine ek 2 ?_;refine tq 3 rfl ?_ (λwS hSw=>?_) ?_;rotate_left
  ·(try dsimp only at hSw)
   refine bK 9 (.tmp 57) ?_ bx 2 (.string t) _ underlying9 rfl ?_ ?_
   ·rfl
   ·rfl
   exact hSw.2.1
  try simp only[Act.put,fH,fI,fJ]
  refine ek 4 ?_;refine rn 5 Rz rfl r5 (λK hK=>?_)
  go_simp
  refine(ma.o _).m ?_;rintro e w9 ⟨A,rfl,o9,U⟩;have O9:=F<|bd (eE o9) (show b+1<=_ from I8.o.lt);have I9:=F<|I8.o.below U;have K9:=F<|K8.o.below U;have JU:=F<|SC.o _ _ _ I9.o lc.o rG.o K9.o;clear o9 U;refine hK.out _ _ ?_ (λhHeld=>?_)
  ·with_reducible first|exact rK.o|exact JU.o|exact JT.o
  clear hK K;refine ek 6 ?_;refine rn 7 Rz rfl r5 (λK hK=>?_);refine fX 22 (.tmp 61) (.tmp 60) rfl w b 34 (ai aI (takeA us bu)) I9.o 18 A rfl rfl (fP lc.o P8) dC (bm O9.o) (ai A {takeA us bu with path:=PP}) ((fO aI (takeA us bu) lc.o).path _ _) ?_;intro xr qW t10;have nl:=F qW;have rO:=F<|K9.o.tn t10;have pB:=F<|t10.row O9.o (bV b);have rK:=F<|SC.o _ _ {takeA us bu with path:=PP} nl.o lc.o rG.o rO.o;clear qW t10;refine hK.out _ _ ?_ (λhHeld=>?_)
  ·with_reducible first|exact rK.o|exact JU.o|exact JT.o
  clear hK K
  try simp only[Act.put]
  refine wpAnyH_done Rz ?_ _
  go_wp2_with (first
   |(refine eP rfl (.tmp 5) rfl w b A {takeA us bu with path:=PP} nl.o lc.o rfl ?_)
   |(refine fV rfl (.tmp 4) (.tmp 70) rfl w br (OB.of rO.o.cr iS.o nl.o.bL) A {takeA us bu with path:=PP} lc.o (bm pB.o) rfl rfl ?_;intro wZ iZ tZ;have IZ:=F iZ;have OZ:=F<|bd (tZ.row pB.o jR.o) ug.o;clear iZ tZ))
  rw[dI.o];exact ed (u:={takeA us bu with path:=PP}) results124 lc.o rfl IZ.o ⟨A,rfl,OZ.o,IZ.o.bL⟩
 have hN0:=xm.o;by_cases hrest:p.rest=[]
 ·have dI:=F (show R=some (fM (takeA us bu) bu) by rw[HR.o,if_neg M0,if_neg M0,if_neg M0,if_pos hrest])
  have he1:t.toList.isEmpty=true:=by rw[HT.o,aB,hrest];rfl
  clear hrest hN0
  go_upto_region 14 with(first
   |(go_at_call 149;refine(HSL.o _).m ?_;rintro e w6 ⟨rfl,hw⟩;subst hw)
   |(refine eP rfl (.tmp 2) rfl w bb bv bu (OB.of K5.o.cb (bW kM.o.symm) I5.o.bL) H8.o rfl ?_)
   |(go_at_call 160;refine(mU w b aI bv us bu _ I5.o Bf.o H8.o).m ?_;rintro e w7 ⟨rfl,i7,t7⟩;have I7:=F i7;have K7:=F<|K5.o.tn t7;have e0:=(SC.o _ _ _ I7.o lc.o rG.o K7.o).2.1;clear i7 t7))
  clear c0 d2
  go_upto_region 15 with(first
   |(refine eP rfl (.tmp 2) rfl w bb bv bu (OB.of K7.o.cb (bW kM.o.symm) I7.o.bL) H8.o rfl ?_)
   |(go_at_call 154;refine(ru w b aI bv (takeA us bu) bu _ I7.o lc.o H8.o ((SV.o.below I7.o.bL).more I7.o.bL.size) (by have:=Bd.o.le;omega)).m ?_;rintro e w8 ⟨rfl,A,i8,o8,t8⟩;have I8:=F i8;have O8:=F<|bd o8 (show b+1<=_ from I7.o.lt);have K8:=F<|K7.o.tn t8;clear i8 o8 t8))
  go_wp2_with (first
   |(refine eP rfl (.tmp 5) rfl w b A (fM (takeA us bu) bu) I8.o YC.o rfl ?_)
   |(refine fV rfl (.tmp 4) (.tmp 70) rfl w br (OB.of K8.o.cr iS.o I8.o.bL) A (fM (takeA us bu) bu) YC.o (bm O8.o) rfl rfl ?_;intro wZ iZ tZ;have IZ:=F iZ;have OZ:=F<|bd (tZ.row O8.o jR.o) ug.o;clear iZ tZ))
  rw[dI.o];exact ed (u:=(fM (takeA us bu) bu)) results124 YC.o rfl IZ.o ⟨A,rfl,by rw[wR];exact OZ.o,IZ.o.bL⟩
 obtain⟨PP,Ld⟩:=V (da bu.aJ (cE bu.aJ bu.path) p.rest);have dI:=F (show R=some {takeA us bu with path:=PP} by rw[HR.o,if_neg M0,if_neg M0,if_neg M0,if_neg hrest,Ld])
 have he1:t.toList.isEmpty=false:=by
  have:¬ t.toList=[]:=by rw[HT.o,aB];exact hrest
  simpa using this
 have ma:=F<|λW v (h:Sl W.heap.size W v ((cE bu.aJ bu.path).map S))=>(show Calls prog 153 #[S bu.aJ,v,.string t] W (ga W 9 (Strs PP))from by rw[Ld,HT.o];exact gj bu.aJ p.rest (cE bu.aJ bu.path) v W h sU.o.l (by have:=sI bu.aJ bu.path;have:=Bd.o.le;omega) (λx X=>Bd.o.all x (kh X)));clear Ld hrest hN0
 go_upto_region 4 with(first
  |(go_at_call 149;refine(HSL.o _).m ?_;rintro e w6 ⟨rfl,hw⟩;subst hw)
  |(refine eP rfl (.tmp 2) rfl w bb bv bu (OB.of K5.o.cb (bW kM.o.symm) I5.o.bL) H8.o rfl ?_)
  |(go_at_call 160;refine(mU w b aI bv us bu _ I5.o Bf.o H8.o).m ?_;rintro e w7 ⟨rfl,i7,t7⟩;have I7:=F i7;have K7:=F<|K5.o.tn t7;have e0:=(SC.o _ _ _ I7.o lc.o rG.o K7.o).2.1;clear i7 t7))
 clear c0 d2;have I8:=F<|I7.o.below (bG (bg _));have K8:=F<|K7.o.below (bG (bg _));have JT:=F<|SC.o _ _ _ I8.o lc.o rG.o K8.o;refine wp_region_held_drew (S:=λW=>W.cell? ⟨b,0,none⟩=some (S bu.aJ)/\W.cell? ⟨bx,2,none⟩=some (.string t)/\W.cell? ⟨bb,18,none⟩=some bv) Rz (by with_reducible first|exact zz.o|exact rK.o|exact JU.o|exact JT.o) (λhHeld=>?_);refine ek 0 ?_;refine tq 1 rfl ?_ (λwS hSw=>?_) ?_;rotate_left
 ·(try dsimp only at hSw)
  refine bK 9 (.tmp 18) ?_ b 0 (S bu.aJ) _ underlying9 rfl ?_ ?_
  ·rfl
  ·rfl
  exact hSw.1
 try simp only[Act.put,fH,fI,fJ]
 refine ek 2 ?_;refine tq 3 rfl ?_ (λwS hSw=>?_) ?_;rotate_left
 ·(try dsimp only at hSw)
  refine bK 9 (.tmp 20) ?_ b 0 (S bu.aJ) _ underlying9 rfl ?_ ?_
  ·rfl
  ·rfl
  exact hSw.1
 try simp only[Act.put,fH,fI,fJ]
 refine ek 4 ?_;refine tq 5 rfl ?_ (λwS hSw=>?_) ?_;rotate_left
 ·(try dsimp only at hSw)
  refine bK 22 (.tmp 22) ?_ bb 18 bv _ underlying22 rfl ?_ ?_
  ·rfl
  ·rfl
  exact hSw.2.2
 try simp only[Act.put,fH,fI,fJ]
 refine ek 7 ?_;refine tq 8 rfl ?_ (λwS hSw=>?_) ?_;rotate_left
 ·(try dsimp only at hSw)
  refine bK 9 (.tmp 25) ?_ bx 2 (.string t) _ underlying9 rfl ?_ ?_
  ·rfl
  ·rfl
  exact hSw.2.1
 try simp only[Act.put,fH,fI,fJ]
 refine rn 6 Rz rfl r5 (λK hK=>?_)
 go_simp
 refine(tK bu.aJ bu.path bv _ ((SV.o.below I8.o.bL).more I8.o.bL.size) (by have:=Bd.o.le;omega) Bd.o.all).m ?_;rintro e w9 ⟨sv,rfl,o9,U⟩;have O9:=F<|Sl.ew o9;have I9:=F<|I8.o.below U;have K9:=F<|K8.o.below U;have JU:=F<|SC.o _ _ _ I9.o lc.o rG.o K9.o;clear o9 U;refine hK.out _ _ ?_ (λhHeld=>?_)
 ·with_reducible first|exact zz.o|exact rK.o|exact JU.o|exact JT.o
 clear hK K;refine rn 9 Rz rfl r5 (λK hK=>?_)
 go_simp
 refine(ma.o _ _ O9.o).m ?_;rintro e xr ⟨A,rfl,o10,U⟩;have pB:=F<|bd (eE o10) (show b+1<=_ from I9.o.lt);have nl:=F<|I9.o.below U;have rO:=F<|K9.o.below U;have rK:=F<|SC.o _ _ _ nl.o lc.o rG.o rO.o;clear o10 U;refine hK.out _ _ ?_ (λhHeld=>?_)
 ·with_reducible first|exact zz.o|exact rK.o|exact JU.o|exact JT.o
 clear hK K;refine ek 10 ?_;refine rn 11 Rz rfl r5 (λK hK=>?_);refine fX 22 (.tmp 28) (.tmp 27) rfl w b 34 (ai aI (takeA us bu)) nl.o 18 A rfl rfl (fP lc.o P8) dC (bm pB.o) (ai A {takeA us bu with path:=PP}) ((fO aI (takeA us bu) lc.o).path _ _) ?_;intro Eb i11 t11;have xP:=F i11;have H5:=F<|rO.o.tn t11;have YZ:=F<|t11.row pB.o (bV b);have zz:=F<|SC.o _ _ {takeA us bu with path:=PP} xP.o lc.o rG.o H5.o;clear i11 t11;refine hK.out _ _ ?_ (λhHeld=>?_)
 ·with_reducible first|exact zz.o|exact rK.o|exact JU.o|exact JT.o
 clear hK K
 try simp only[Act.put]
 refine wpAnyH_done Rz ?_ _
 go_wp2_with (first
  |(refine eP rfl (.tmp 5) rfl w b A {takeA us bu with path:=PP} xP.o lc.o rfl ?_)
  |(refine fV rfl (.tmp 4) (.tmp 70) rfl w br (OB.of H5.o.cr iS.o xP.o.bL) A {takeA us bu with path:=PP} lc.o (bm YZ.o) rfl rfl ?_;intro wZ iZ tZ;have IZ:=F iZ;have OZ:=F<|bd (tZ.row YZ.o jR.o) ug.o;clear iZ tZ))
 rw[dI.o];exact ed (u:={takeA us bu with path:=PP}) results124 lc.o rfl IZ.o ⟨A,rfl,OZ.o,IZ.o.bL⟩
