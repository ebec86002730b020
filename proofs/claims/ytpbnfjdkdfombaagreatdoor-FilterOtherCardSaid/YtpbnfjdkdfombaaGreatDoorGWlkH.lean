/- Joined texts. -/
import Derived.WalkSmall
import Derived.Test.YtpbnfjdkdfombaaGreatDoorGAthH
set_option maxHeartbeats 40000000
namespace Go.Proofs.YtpbnfjdkdfombaaGreatDoor
open Tryz
open Go.RowKit
set_option maxRecDepth 10000
theorem oX{l:List O}{j:Nat}(hj:j<l.length):(l.map E).getD j ByteArray.empty=E l[j]:=by simp[List.getD,hj]
theorem fQ(l:List O)(v:Z)(w:H)(h:Sl w.heap.size w v (l.map S))(hl:l.length<=1024000000):Calls prog 54 #[v] w (ga w 9 (Strs l)):=by
 obtain⟨c,Y,I,h⟩:=h;rcases h with⟨hn,a,rfl⟩|⟨b,o,U,rfl,ha⟩
 ·obtain rfl:l=[]:=by simpa using hn
  cases a with
  |none =>
   refine(Any.slices_Clone_string_nil laysClone 0 c w).m ?_;rintro e w' ⟨rfl,rfl⟩;exact⟨_,rfl,World.ownsRow_nil _ _ _ _,Below.refl _ _⟩
  |some a =>
   refine(Any.slices_Clone_string_zero laysClone a c w).m ?_;rintro e w' ⟨v',rfl,Y,_,h3⟩;exact⟨_,rfl,Y,h3⟩
 refine(Any.slices_Clone_string laysClone b o (l.map S).length c (l.map E) w Oc (by simp;omega) (λj hj=>by
  rw[ay]at hj;rw[ha j (by simpa using hj),oX hj,cU])).m ?_
 rintro e w' ⟨v',rfl,Y,_,h3⟩;refine⟨_,rfl,?_,h3⟩
 have e1:((l.map E).take (l.map S).length).map Value.string=Strs l:=by
  rw[aP Oc,lu];rfl
 rw[e1,ay]at Y;rw[ay];exact Y
theorem KP(l m:List O)(v u:Z)(w:H){B C:Nat}(h:Sl B w v (l.map S))(k:Sl C w u (m.map S))(hl:l.length<=1024000000)(hm:m.length<=1024000000):bF prog 41 #[v,u] w (.bool (decide (l=m))):=by
 obtain⟨c,Y,I,h⟩:=h;obtain⟨d,k1,k2,k⟩:=k;rcases h with⟨hn,a,rfl⟩|⟨b,o,U,rfl,ha⟩
 ·obtain rfl:l=[]:=by simpa using hn
  have hu:∃ a2,u=.slice a2 m.length d:=by
   rcases k with⟨hn,a2,rfl⟩|⟨G,o2,U,rfl,ha⟩
   ·obtain rfl:m=[]:=by simpa using hn
    exact⟨a2,rfl⟩
   exact⟨_,by rw[ay]⟩
  obtain⟨a2,rfl⟩:=hu;refine(Any.slices_Equal_string_empty laysEqS a a2 c m.length d w M0).m ?_;rintro e w' ⟨rfl,rfl⟩;refine⟨?_,Below.refl _ _⟩
  have:decide (m.length=0)=decide (([]:List O)=m):=by
   rw[decide_eq_decide,dy];exact eq_comm
  rw[this]
 rcases k with⟨hn,a2,rfl⟩|⟨G,o2,hb2,rfl,ha2⟩
 ·obtain rfl:m=[]:=by simpa using hn
  by_cases h0:l=[]
  ·subst h0
   refine(Any.slices_Equal_string_empty laysEqS (some ⟨b,o,none⟩) a2 c 0 d w M0).m ?_;rintro e w' ⟨rfl,rfl⟩;exact⟨rfl,Below.refl _ _⟩
  have hpos:0<l.length:=eo.mpr h0;rw[ay,decide_eq_false h0];obtain⟨n,hn⟩:=V (l.length);rw[<-hn]at hpos hl ⊢
  have hne:((n:Int) != 0)=true:=by
   have:(n:Int)≠0:=M0
   simpa using this
  clear hn h0 ha Y;go_enter func41,ntmps41;go_wp2_with fail;go_ret;exact⟨rfl,Below.refl _ _⟩
 refine(Any.slices_Equal_string laysEqS b o (l.map S).length c G o2 (m.map S).length d (l.map E) (m.map E) w Oc Oc (by simp;omega) (by simp;omega) (λj hj=>by
  rw[ay]at hj;rw[ha j (by simpa using hj),oX hj,cU]) (λj hj=>by
  rw[ay]at hj;rw[ha2 j (by simpa using hj),oX hj,cU])).m ?_
 rintro e w' ⟨rfl,q,rfl⟩;refine⟨?_,nO (bg _)⟩
 have inj:∀ l m:List O,l.map E=m.map E->l=m:=by
  intro l
  induction l with
  |nil=>intro m h;cases m with|nil=>rfl|cons _ _=>cases h
  |cons x r ih =>
   intro m h;cases m with
   |nil=>cases h
   |cons y s =>
    injection h with Y I
    rw[Og Y,ih s I]
 have:decide ((l.map E).take (l.map S).length=(m.map E).take (m.map S).length)=decide (l=m):=by
  rw[aP Oc,aP Oc,decide_eq_decide];exact⟨inj l m,λh=>by rw[h]⟩
 rw[this]
theorem sK{aJ:O}{p:List O}{k:Nat}(h:p.length=k+2):cE aJ p=p.take (k+1):=by
 match p,h with
 |a::b::r,h =>
  show(a::b::r).dropLast=_;rw[iN,h];rfl
theorem sJ(aJ x:O):cE aJ [x]=if aJ=aR/\jN x=true then [x]else []:=rfl
theorem Rh{w:H}{base e g n cap:Nat}{o:List O}(h:w.ownsRow base e 1 (.slice (some ⟨g,0,none⟩) n cap) n (Strs o)){j:Nat}(hj:j<o.length):w.cell? ⟨g,j,none⟩=some (.string (E o[j])):=by
 have:=h.cells (g:=g) rfl j (.string (E o[j])) (by simp[hj]);rw[addr_add,bM]at this;exact this
theorem a04(aJ:O)(o:List O)(v:Z)(base:Nat)(w:H)(hown:w.ownsRow base 9 1 v o.length (Strs o))(hl:o.length<=1024000000)(X:∀ x∈o,x.length<=1024000000) :
  Calls prog 188 #[.string (E aJ),v] w λe w'=>(∃v',e=.returned v'/\w.ownsRow base 9 1 v' (cE aJ o).length (Strs (cE aJ o)))/\w'=w:=by
 obtain⟨i1,hi1,hz1,hz2,hz3⟩:=info_parts lT;have hfe:=rI aJ [102,105,108,101];rw[aB,aB]at hfe;obtain⟨c,hc⟩:=V (E aJ);have qU:(c.toList == [102,105,108,101])=decide (aJ=[102,105,108,101]):=by rw[hc,aB];exact hfe
 rw[<-hc];clear hc hfe;rcases hown.2 with⟨rfl,hn⟩|⟨g,cap,cur,rfl,hg,hh,hnc,hcm,hsz,htk⟩
 ·obtain rfl:o=[]:=az hn
  have HO:=F hown;clear hown hn qU;go_enter func188,ntmps188;go_wp2_with fail;go_ret;exact⟨⟨_,rfl,HO.o⟩,rfl⟩
 clear hh hsz htk hg
 match o,hown,hl,X,hnc with
 | [],hown,hl,X,hnc =>
  have HO:=F hown;clear hown qU;simp only[aO];go_enter func188,ntmps188;go_wp2_with fail;go_ret;exact⟨⟨_,rfl,HO.o⟩,rfl⟩
 | [x],hown,hl,X,hnc =>
  have hso:=sJ aJ x;have kc:∀ W,(Instr.sliceAt 22 (.slice (some ⟨g,0,none⟩) 1 cap) none (some (.int .i64 0)) none).run prog W=.ok (.slice (some ⟨g,0,none⟩) 0 cap) W:=λW=>kI underlying22 hi1 g 0 1 cap 0 M0 W;have hcell:=Rh hown (j:=0) Oc;have Lh:w.ownsRow base 9 1 (.slice (some ⟨g,0,none⟩) 0 cap) 0 []:=ownsRow_pop (xs:=[]) (last:=Strs [x]) (n:=0) rfl hown;have hnm:=λW=>p4 x W (X x Oc);obtain⟨R,hR⟩:=V (cE aJ [x]);rw[<-hR]at hso ⊢;simp only[gZ]at hcell;obtain⟨xx,nB⟩:=V (E x);rw[<-nB]at hcell hnm;have HO:=F hown;have HP:=F Lh;have mX:=F hnm;simp only[ah,aO,bM];have hw0:IntKind.i64.wrap ((1:Int)-1)=0:=rfl;clear hown Lh hnm nB hR;by_cases hf:aJ=[102,105,108,101]
  ·rw[decide_eq_true hf]at qU
   cases hq:jN x with
   |true =>
    rw[hq]at mX;rw[if_pos ⟨hf,hq⟩]at hso;have HS:=F hso;clear hso hf hq;go_enter func188,ntmps188
    go_wp2_with (first|(go_at_call 151;refine(mX.o _).m ?_;rintro e w2 ⟨rfl,hw⟩;subst hw))
    go_ret;exact⟨⟨_,rfl,by rw[HS.o];exact HO.o⟩,rfl⟩
   |false =>
    rw[hq]at mX;rw[if_neg (by simp[hq])]at hso;have HS:=F hso;clear hso hf hq;go_enter func188,ntmps188
    go_wp2_with (first|(go_at_call 151;refine(mX.o _).m ?_;rintro e w2 ⟨rfl,hw⟩;subst hw))
    go_ret;exact⟨⟨_,rfl,by rw[HS.o];exact HP.o⟩,rfl⟩
  rw[decide_eq_false hf]at qU;rw[if_neg (λh=>hf h.1)]at hso;have HS:=F hso;clear hso hf;go_enter func188,ntmps188;go_wp2_with fail;go_ret;exact⟨⟨_,rfl,by rw[HS.o];exact HP.o⟩,rfl⟩
 |x::y::r,hown,hl,X,hnc =>
  obtain⟨k,hk⟩:∃ k,(x::y::r).length=k+2:=⟨r.length,Oc⟩;have hso:=sK (aJ:=aJ) hk
  have hst:Strs (x::y::r)=Strs ((x::y::r).take (k+1))++(Strs (x::y::r)).drop (k+1):=by
   have e:Strs ((x::y::r).take (k+1))=(Strs (x::y::r)).take (k+1):=a6r;rw[e,cT]
  have htl:((x::y::r).take (k+1)).length=k+1:=by rw[aD,hk];omega
  rw[hst]at hown;rw[hk]at hown hnc hl ⊢;have Lh:w.ownsRow base 9 1 (.slice (some ⟨g,0,none⟩) (k+1) cap) (k+1) (Strs ((x::y::r).take (k+1))):=ownsRow_pop (by rw[ay,htl];omega) hown;have hsl:cE aJ (x::y::r)=(x::y::r).take (k+1):=hso;rw[hsl,htl];generalize Strs ((x::y::r).take (k+1))=Z' at *;have kc:∀ W,(Instr.sliceAt 22 (.slice (some ⟨g,0,none⟩) (k+2) cap) none (some (.int .i64 ((k+1:Nat):Int))) none).run prog W=.ok (.slice (some ⟨g,0,none⟩) (k+1) cap) W:=λW=>kI underlying22 hi1 g 0 (k+2) cap (k+1) M0 W;obtain⟨K,hK⟩:=V (k+1);obtain⟨N,hN⟩:=V (k+2);rw[<-hK,<-hN]at kc;rw[<-hK]at Lh;rw[<-hN,<-hK];have hw0:IntKind.i64.wrap ((N:Int)-1)=(K:Int):=by rw[show(N:Int)-1=(K:Int) by omega];exact IntWalk.i64_in _ M0
  have h0:((N:Int)==0)=false:=by
   have:(N:Int)≠0:=M0
   simpa using this
  have Y:((N:Int)==1)=false:=by
   have:(N:Int)≠1:=M0
   simpa using this
  have HP:=F Lh;clear Lh hown hk hso hst htl hsl hK hN hnc X;obtain⟨b,U⟩:=V (decide (aJ=[102,105,108,101]));rw[<-U]at qU;clear U;cases b <;>
  ·go_enter func188,ntmps188
   go_wp2_with fail;go_ret;exact⟨⟨_,rfl,HP.o⟩,rfl⟩

theorem Kl{ops:Array Oper}{rest:List Oper}{o:Oper}{a:Act}{Q:Exit->Act->H->Prop}{w:H}(hgd:o.guard=none)(s x:Operand)
  (ho:o.op=.call {callee:=.builtin .append,args:=#[s,x],argTypes:=#[22,22]}) (hs:a.eval s=.slice none 0 0)
  (ad:Addr) (m c:Nat) (l:List O) (X:a.eval x=.slice (some ad) m c) (hl:l.length=m) (hm:m<=1024000000) (hc:∀ j (hj:j<l.length),w.cell? (ad.add j)=some (.string (E l[j])))
  (h:∀ v' w',w'.ownsRow w.heap.size 9 1 v' m (Strs l)->r7 w w'->wpList prog ops Q rest (a.put o.dst v') w'):wpList prog ops Q (o::rest) a w:=by
 obtain⟨i1,hi1,hz1,hz2,hz3⟩:=info_parts lT;refine wpList_append_own _ hgd s x 22 ho w.heap.size 9 i1 (.string ⟨#[]⟩) 1 16 underlying22 hi1 hz1 hz2 hz3 P8 P8 (.slice none 0 0) 0 [] hs (World.ownsRow_nil _ _ _ _) ad m c (Strs l) X ?_ ?_ ?_ ?_ ?_ (ag _) ?_
 ·rw[ay,hl];omega
 ·intro j u hj
  have hjl:j<l.length:=by
   have:=(bh.1 hj).1
   simpa using this
  rw[hc j hjl];rw[eW,aG hjl]at hj;exact hj
 ·intro u hu
  obtain⟨y,_,rfl⟩:=dt.1 hu;rfl
 ·unfold maxLen;omega
 ·omega
 intro v' w' ho' hg _;refine h v' w' ?_ ⟨hg.os,hg.tape,hg.output,hg.size,λk hk=>hg.block k hk (by simp[Value.ownBlock])⟩
 simpa using ho'
theorem Ms{P:Program}{t e:TypeId}{i:TypeInfo}(ht:P.underlying t=some (.slice e))(hi:P.info? e=some i)(ad:Addr)(n c:Nat) :
  ∃ad2,∀W,(Instr.sliceAt t (.slice (some ad) n c) none (some (.int .i64 0)) none).run P W=.ok (.slice (some ad2) 0 c) W:=by
 have he:P.elem t=e:=by simp[Program.elem,ht]
 have ht':P.underlying t=some (.slice (P.elem t)):=by rw[he];exact ht
 by_cases hc:c=0
 ·refine⟨ad,λW=>?_⟩
  have:=run_slice_h W t (some ad) n c ht' .i64 0 M0 M0;rw[run_sliceAt_slice W t _ _ _ _ ht',this];simp[sizeOf,typeInfo,he,hi,sliced,hc]
 refine⟨ad.add 0,λW=>?_⟩;have:=run_slice_h W t (some ad) n c ht' .i64 0 M0 M0;rw[run_sliceAt_slice W t _ _ _ _ ht',this];simp[sizeOf,typeInfo,he,hi,sliced,hc]
theorem tK(aJ:O)(p:List O)(v:Z)(w:H)(h:Sl w.heap.size w v (p.map S))(hl:p.length<=1024000000)(X:∀ x∈p,x.length<=1024000000) :
  Calls prog 155 #[.string (E aJ),v] w (ga w 9 (Strs (cE aJ p))):=by
 obtain⟨i1,hi1,hz1,hz2,hz3⟩:=info_parts lT;have hfe:=rI aJ [102,105,108,101];rw[aB,aB]at hfe;obtain⟨c,hc⟩:=V (E aJ);have qU:(c.toList == [102,105,108,101])=decide (aJ=[102,105,108,101]):=by rw[hc,aB];exact hfe
 rw[<-hc];clear hc hfe;obtain⟨cap,Y,I,h⟩:=h;rcases h with⟨hn,a,rfl⟩|⟨b,o,U,rfl,ha⟩
 ·obtain rfl:p=[]:=by simpa using hn
  clear qU X hl;cases a with
  |none =>
   go_enter func155,ntmps155;go_wp2_with fail;go_ret;exact⟨_,rfl,World.ownsRow_nil _ _ _ _,Below.refl _ _⟩
  |some ad =>
   obtain⟨ad2,kc⟩:=Ms (P:=prog) underlying22 hi1 ad 0 cap;go_enter func155,ntmps155
   go_wp2_with (first
    |(at_builtin;refine Kl rfl (.const (.slice none 0 0)) (.tmp 29) rfl rfl ad2 0 cap [] rfl rfl M0 (λj hj=>absurd hj (cL j)) ?_;intro v2 w2 hown2 hb2;have eJ:=F hown2;clear hown2;have HB2:=F hb2;clear hb2))
   go_ret;exact⟨_,rfl,eJ.o,HB2.o⟩
 rw[ay]at *
 have hce:∀ j (hj:j<p.length),w.cell? ⟨b,o+j,none⟩=some (.string (E p[j])):=λj hj=>by
  rw[ha j (by simpa using hj),cU]
 clear ha
 match p,hl,X,hce,Y with
 | [],hl,X,hce,Y =>
  have kc:=λW=>kI (P:=prog) underlying22 hi1 b o 0 cap 0 M0 W;clear hce X qU;simp only[aO];go_enter func155,ntmps155
  go_wp2_with (first
   |(at_builtin;refine Kl rfl (.const (.slice none 0 0)) (.tmp 29) rfl rfl ⟨b,o,none⟩ 0 cap [] rfl rfl M0 (λj hj=>absurd hj (cL j)) ?_;intro v2 w2 hown2 hb2;have eJ:=F hown2;clear hown2;have HB2:=F hb2;clear hb2))
  go_ret;exact⟨_,rfl,eJ.o,HB2.o⟩
 | [x],hl,X,hce,Y =>
  have hso:=sJ aJ x;have kc:∀ W,(Instr.sliceAt 22 (.slice (some ⟨b,o,none⟩) 1 cap) none (some (.int .i64 0)) none).run prog W=.ok (.slice (some ⟨b,o,none⟩) 0 cap) W:=λW=>kI underlying22 hi1 b o 1 cap 0 M0 W;have kc1:∀ W,(Instr.sliceAt 22 (.slice (some ⟨b,o,none⟩) 1 cap) none (some (.int .i64 1)) none).run prog W=.ok (.slice (some ⟨b,o,none⟩) 1 cap) W:=λW=>kI underlying22 hi1 b o 1 cap 1 Y W;have hcell:=hce 0 Oc;rw[dH]at hcell;have hnm:=λW=>p4 x W (X x Oc);obtain⟨R,hR⟩:=V (cE aJ [x]);rw[<-hR]at hso ⊢;simp only[gZ]at hcell;have HCE:=F (show ∀j (hj:j < [x].length),w.cell? ((⟨b,o,none⟩:Addr).add j)=some (.string (E [x][j]))from λj hj=>by rw[addr_add];exact hce j hj);obtain⟨xx,nB⟩:=V (E x);rw[<-nB]at hcell hnm;have mX:=F hnm;simp only[ah,aO,bM];have hw0:IntKind.i64.wrap ((1:Int)-1)=0:=rfl;clear hnm nB hR hce X;by_cases hf:aJ=[102,105,108,101]
  ·rw[decide_eq_true hf]at qU
   cases hq:jN x with
   |true =>
    rw[hq]at mX;rw[if_pos ⟨hf,hq⟩]at hso;have HS:=F hso;clear hso hf hq;go_enter func155,ntmps155
    go_wp2_with (first
     |(go_at_call 151;refine(mX.o _).m ?_;rintro e w2 ⟨rfl,hw⟩;subst hw)
     |(at_builtin;refine Kl rfl (.const (.slice none 0 0)) (.tmp 29) rfl rfl ⟨b,o,none⟩ 1 cap [x] rfl rfl M0 HCE.o ?_;intro v2 w3 hown2 hb2;have eJ:=F hown2;clear hown2;have HB2:=F hb2;clear hb2))
    go_ret;exact⟨_,rfl,by rw[HS.o];exact eJ.o,HB2.o⟩
   |false =>
    rw[hq]at mX;rw[if_neg (by simp[hq])]at hso;have HS:=F hso;clear hso hf hq;go_enter func155,ntmps155
    go_wp2_with (first
     |(go_at_call 151;refine(mX.o _).m ?_;rintro e w2 ⟨rfl,hw⟩;subst hw)
     |(at_builtin;refine Kl rfl (.const (.slice none 0 0)) (.tmp 29) rfl rfl ⟨b,o,none⟩ 0 cap [] rfl rfl M0 (λj hj=>absurd hj (cL j)) ?_;intro v2 w3 hown2 hb2;have eJ:=F hown2;clear hown2;have HB2:=F hb2;clear hb2))
    go_ret;exact⟨_,rfl,by rw[HS.o];exact eJ.o,HB2.o⟩
  rw[decide_eq_false hf]at qU;rw[if_neg (λh=>hf h.1)]at hso;have HS:=F hso;clear hso hf;go_enter func155,ntmps155
  go_wp2_with (first
   |(at_builtin;refine Kl rfl (.const (.slice none 0 0)) (.tmp 29) rfl rfl ⟨b,o,none⟩ 0 cap [] rfl rfl M0 (λj hj=>absurd hj (cL j)) ?_;intro v2 w3 hown2 hb2;have eJ:=F hown2;clear hown2;have HB2:=F hb2;clear hb2))
  go_ret;exact⟨_,rfl,by rw[HS.o];exact eJ.o,HB2.o⟩
 |x::y::r,hl,X,hce,Y =>
  obtain⟨k,hk⟩:∃ k,(x::y::r).length=k+2:=⟨r.length,Oc⟩;have hsl:cE aJ (x::y::r)=(x::y::r).take (k+1):=sK (aJ:=aJ) hk;have htl:((x::y::r).take (k+1)).length=k+1:=by rw[aD,hk];omega
  have HCE:=F (show ∀j (hj:j<((x::y::r).take (k+1)).length),w.cell? ((⟨b,o,none⟩:Addr).add j)=some (.string (E ((x::y::r).take (k+1))[j]))from λj hj=>by
   rw[addr_add,hce j (by rw[htl]at hj;omega),M8])
  rw[hsl];rw[hk]at Y hl ⊢;have hkm:k+1<=1024000000:=M0;generalize (x::y::r).take (k+1)=Z' at *;have kc:∀ W,(Instr.sliceAt 22 (.slice (some ⟨b,o,none⟩) (k+2) cap) none (some (.int .i64 ((k+1:Nat):Int))) none).run prog W=.ok (.slice (some ⟨b,o,none⟩) (k+1) cap) W:=λW=>kI underlying22 hi1 b o (k+2) cap (k+1) M0 W;obtain⟨K,hK⟩:=V (k+1);obtain⟨N,hN⟩:=V (k+2);rw[<-hK,<-hN]at kc;rw[<-hK]at htl hkm;rw[<-hN];have hw0:IntKind.i64.wrap ((N:Int)-1)=(K:Int):=by rw[show(N:Int)-1=(K:Int) by omega];exact IntWalk.i64_in _ M0
  have h0:(0:Int)<N:=M0
  have h1':((N:Int)==1)=false:=by
   have:(N:Int)≠1:=M0
   simpa using this
  have zF:=F htl;clear hk hsl htl hK hN X hce;obtain⟨d,hd⟩:=V (decide (aJ=[102,105,108,101]));rw[<-hd]at qU;clear hd;cases d <;>
  ·go_enter func155,ntmps155
   go_wp2_with (first
    |(at_builtin;refine Kl rfl (.const (.slice none 0 0)) (.tmp 29) rfl rfl ⟨b,o,none⟩ K cap Z' rfl zF.o hkm HCE.o ?_;intro v2 w3 hown2 hb2;have eJ:=F hown2;clear hown2;have HB2:=F hb2;clear hb2))
   go_ret;exact⟨_,rfl,by rw[ay,zF.o];exact eJ.o,HB2.o⟩

theorem GR(aJ:O)(o:List O)(p:O)(r:List O):kH aJ o (p::r)=kH aJ (kT aJ o p (decide (r=[]))) r:=by
 cases r with
 |nil=>rfl
 |cons q t=>rfl
theorem RU{aJ:O}{o ps:List O}{k:Nat}(h:k<ps.length):kH aJ o (ps.drop k)=kH aJ (kT aJ o ps[k] (decide (k+1=ps.length))) (ps.drop (k+1)):=by
 rw[aC h,GR]
 have:decide (ps.drop (k+1)=[])=decide (k+1=ps.length):=by
  rw[decide_eq_decide,List.drop_eq_nil_iff];omega
 rw[this]
theorem sI(aJ:O)(p:List O):(cE aJ p).length<=p.length:=by
 match p with
 | []=>exact ag _
 | [x] =>
  rw[sJ]
  split <;>simp
 |a::b::r =>
  rw[sK (k:=r.length) Oc,aD];omega
theorem y6{sp:Bool}:∀ {s p:O},p∈gE sp s->p.length<=s.length
 | [],p,h=>by
  have:p=[]:=by simpa[gE]using h
  rw[this];exact ag _
 |c::t,p,h=>by
  rw[gE]at h;have ih:=λq (hq:q∈gE sp t)=>y6 hq
  split at h
  ·rcases aK.mp h with rfl|h
   ·simp
   have:=ih p h;rw[ah];omega
  split at h
  ·have:p=[c]:=by simpa using h
   rw[this];simp
  next q qs he =>
  rw[he]at ih;rcases aK.mp h with rfl|h
  ·have:=ih q (by simp)
   simp only[ah];omega
  have:=ih p (by simp[h]);rw[ah];omega
theorem gj(aJ s:O)(path:List O)(A:Z)(w:H)(h:Sl w.heap.size w A (path.map S))(hs:s.length<=307200000)(hl:path.length<=307200000)(X:∀ x∈path,x.length<=1024000000) :
  Calls prog 153 #[.string (E aJ),A,.string (E s)] w (ga w 9 (Strs (da aJ path s))):=by
 obtain⟨i1,hi1,hz1,hz2,hz3⟩:=info_parts lT;have hsp:=λW=>gl aJ W;have hss:=λW=>GZ s (eU aJ) W M0;have hup:=λ(o:List O) v base W (hown:World.ownsRow W base 9 1 v o.length (Strs o)) Y I=>a04 aJ o v base W hown Y I;have hfe:=rI aJ [102,105,108,101];rw[aB,aB]at hfe;obtain⟨c,hc⟩:=V (E aJ);have qU:(c.toList == [102,105,108,101])=decide (aJ=[102,105,108,101]):=by rw[hc,aB];exact hfe
 rw[<-hc]at hsp hup ⊢;clear hc hfe;obtain⟨R,hR⟩:=V (da aJ path s);rw[<-hR];unfold da at hR;have hpl:=λp (hp:p∈gE (eU aJ) s)=>y6 hp;have hsl:=DG (eU aJ) s;generalize eU aJ=sp at *;obtain⟨ps,hps⟩:=V (gE sp s);rw[<-hps]at hss hR hpl hsl;clear hps;obtain⟨t,ht⟩:=V (E s);rw[<-ht]at hss ⊢;clear ht;obtain⟨n,hn⟩:=V (ps.length);have hnm:n<=307200001:=M0;have ji:=F hsp;clear hsp;have Hw:=F hss;clear hss;have Bg:=F hup;clear hup;have HR:=F hR;clear hR;have Z5:=F (show ∀p∈ps,p.length<=307200000 from λp hp=>am (hpl p hp) hs);have HN:=F hn;have HH:=F h;have HX:=F X;have HLP:=F hl;clear hpl hsl hs h X hl hn;go_enter func153,ntmps153
 go_upto_region 3 with(first
  |(go_at_call 117;refine(ji.o _).m ?_;rintro e w1 ⟨rfl,hw⟩;subst hw)
  |(go_at_call 186;refine(Hw.o _).m ?_;rintro e w2 ⟨v2,rfl,ho,U⟩;have HO:=F ho;have HB2:=F U;clear ho U)
  |(go_at_call 54;refine(fQ path A _ ((HH.o.below HB2.o).more HB2.o.size) (by have:=HLP.o;omega)).m ?_;rintro e w3 ⟨v3,rfl,ho,U⟩;have jx:=F ho;have HB3:=F U;clear ho U))
 have hps:=Sl.ew HO.o;obtain⟨a2,c2,hv2⟩:=ex HO.o;subst hv2;rw[ay,<-HN.o]at hps ⊢;have HPS:=F hps;have HB:=F HB3.o;clear HO hps Hw;go_wp2_with fail
 go_loopw [8,20] (λov iv wr=>∃ (k:Nat) (o:List O),k<=n/\iv=.int .i64 k/\Hid (wr.ownsRow w2.heap.size 9 1 ov o.length (Strs o))/\Hid (kH aJ o (ps.drop k)=R/\o.length<=307200000+k/\∀ x∈o,x.length<=1024000000)/\Hid (r7 w2 wr)) (λ_ i _=>n-(intOf i).toNat)
 case atStart=>exact⟨0,path,M0,Oc,by have:=jx.o;rw[ay]at this;exact this,⟨HR.o.symm,by have:=HLP.o;omega,HX.o⟩,HB.o⟩
 case round =>
  clear jx HB3 HB;obtain⟨k,o,hk,rfl,HO,hinv,HB⟩:=hrel;obtain⟨ov,oc,hov⟩:=ex HO.o;subst hov;by_cases hlt:k<n
  ·have hkl:k<ps.length:=by rw[<-HN.o];exact hlt
   obtain⟨G,o2,rfl,hb2,hcell⟩:=gO (HPS.o.below HB.o) k hkl;obtain⟨hst,hol,hox⟩:=hinv.o;rw[RU hkl,<-HN.o]at hst;have hpl:=Z5.o _ (be hkl);have IN:=λW=>OQ ps[k] W M0;have nA:=λW=>IC ps[k] W M0;have U5:=λW=>oM ps[k] W M0;have henc:=λW=>eT 4 ps[k] W M0;have PR:=gv 4 ps[k];obtain⟨p,hp⟩:=V (ps[k]);rw[<-hp]at hst hcell IN nA U5 henc hpl PR;clear hp hinv;have hwz:w2.heap.size<=wr.heap.size:=HB.o.size;obtain⟨M,hM⟩:∃ M,n=M+1:=⟨n-1,M0⟩;have hwM:IntKind.i64.wrap ((n:Int)-1)=(M:Int):=by rw[show(n:Int)-1=(M:Int) by omega];exact IntWalk.i64_in _ M0
   obtain⟨la,hla⟩:=V (decide (k+1=n))
   have hlb:((k:Int)==(M:Int))=la:=by
    rw[hla,bX,beq_iff_eq,decide_eq_true_eq];omega
   rw[<-hla]at hst;obtain⟨pb,hpb⟩:=V (E p);replace hcell:World.cell? _ _=some (.string (E p)):=hcell;rw[<-hpb]at hcell IN nA U5 henc;have hsg:kT aJ o p la=if jC p=true then(if la=true then cE aJ o++[[]]else cE aJ o)else if kC p=true then(if la=true then o++[[]]else o)else if aJ=[102,105,108,101]/\o=[]/\dJ p=true then o++[p.take 1++[58]]else o++[dD 4 p]:=rfl;have uI:=F (show ∀o',o'=kT aJ o p la->o'.length<=o.length+1->(∀x∈o',x.length<=1024000000)->(kH aJ o' (ps.drop (k+1))=R/\o'.length<=307200000+(k+1)/\∀ x∈o',x.length<=1024000000)from λo' Y I h3=>⟨by rw[Y];exact hst,M0,h3⟩);have hos:∀ x∈cE aJ o,x.length<=1024000000:=λx X=>hox x (kh X);have Lg:=sI aJ o;have ma:=F hsg;have V9:=F hox;have HOS:=F hos;have HOL:=F hol;have Hr:=F IN;have WU:=F nA;have HDV:=F U5;have zC:=F henc;have HPB:=F hpb;have HEL:=F PR;have a7U:=F hpl;have a9Q:o.length<=614400001:=M0;obtain⟨ol,hole⟩:=V (o.length);have hown:=HO.o;rw[<-hole]at hown a9Q ⊢;have xu:=F hown;have Ht:=F hole;have hwk:IntKind.i64.wrap ((k:Int)+1)=((k+1:Nat):Int):=by rw[show(k:Int)+1=((k+1:Nat):Int) by omega];exact IntWalk.i64_in _ M0
   have hE:(E []:ByteArray)=⟨#[]⟩:=rfl;clear hM hole hst hox hol hla hpb hsg hos IN nA U5 henc PR hpl hown HO HH HX HLP Z5;cases ZV:jC p with
   |true =>
    rw[ZV]at Hr ma;have a4t:(cE aJ o).length<=ol:=by rw[Ht.o];exact Lg
    obtain⟨sl,hsl⟩:=V ((cE aJ o).length);rw[<-hsl]at a4t;cases la with
    |true =>
     have HS:=F (show cE aJ o++[[]]=kT aJ o p true by rw[ma.o];rfl);have HSL:=F hsl
     have HF:=F<|uI.o _ HS.o (by rw[ae,<-HSL.o,<-Ht.o];simp;omega) (λx X=>by
      rcases bO.mp X with X|X
      ·exact HOS.o x X
      rw[dS.mp X];simp)
     have mY:=F<|jg (cE aJ o) [];clear ZV hsl Lg
     go_wp2_with (first
      |(go_at_call 187;refine(Hr.o _).m ?_;rintro e x1 ⟨rfl,U⟩;have eJ:=F<|own_below xu.o U;have pw:=F<|HB.o.trans (U.m hwz);have Ge:=U.size;clear U)
      |(go_at_call 188;refine(Bg.o o _ w2.heap.size _ (by rw[<-Ht.o];exact eJ.o) (by rw[<-Ht.o];omega) V9.o).m ?_;rintro e x2 ⟨⟨v4,rfl,ho⟩,hw⟩;subst hw;have ho2:=ho;rw[<-HSL.o]at ho2;have qp:=F ho2;obtain⟨a4,c4,hv4⟩:=ex ho2;subst hv4;clear ho ho2)
      |(at_builtin;(refine et rfl (.tmp 42) (.tmp 43) _ rfl w2.heap.size 9 i1 (.string ⟨#[]⟩) 16 underlying22 hi1 hz1 hz2 hz3 P8 _ _ sl (Strs (cE aJ o)) rfl qp.o (.string ⟨#[]⟩) rfl rfl M0 P8 M0 ?_);intro v9 w9 ig Qa tr;have Ka:=F ig;clear ig;have jo:=F tr;clear tr))
     go_roundw
     case rel=>exact⟨k+1,cE aJ o++[[]],M0,Oc,by rw[mY.o,ae,<-HSL.o];exact Ka.o,HF.o,pw.o.trans jo.o⟩
     case measure=>simp[intOf];omega
    |false =>
     have HS:=F (show cE aJ o=kT aJ o p false by rw[ma.o];rfl);have HSL:=F hsl;have HF:=F<|uI.o _ HS.o (by rw[<-HSL.o,<-Ht.o];omega) HOS.o;clear ZV hsl Lg
     go_wp2_with (first
      |(go_at_call 187;refine(Hr.o _).m ?_;rintro e x1 ⟨rfl,U⟩;have eJ:=F<|own_below xu.o U;have pw:=F<|HB.o.trans (U.m hwz);have Ge:=U.size;clear U)
      |(go_at_call 188;refine(Bg.o o _ w2.heap.size _ (by rw[<-Ht.o];exact eJ.o) (by rw[<-Ht.o];omega) V9.o).m ?_;rintro e x2 ⟨⟨v4,rfl,ho⟩,hw⟩;subst hw;have ho2:=ho;rw[<-HSL.o]at ho2;have qp:=F ho2;obtain⟨a4,c4,hv4⟩:=ex ho2;subst hv4;clear ho ho2))
     go_roundw
     case rel=>exact⟨k+1,cE aJ o,M0,Oc,by rw[<-HSL.o];exact qp.o,HF.o,pw.o⟩
     case measure=>simp[intOf];omega
   |false =>
    rw[ZV]at Hr ma;cases hqt:kC p with
    |true =>
     rw[hqt]at WU ma;cases la with
     |true =>
      have HS:=F (show o++[[]]=kT aJ o p true by rw[ma.o];rfl)
      have HF:=F<|uI.o _ HS.o (by rw[ae];simp) (λx X=>by
       rcases bO.mp X with X|X
       ·exact V9.o x X
       rw[dS.mp X];simp)
      have mY:=F<|jg o [];clear ZV hqt Lg
      go_wp2_with (first
       |(go_at_call 187;refine(Hr.o _).m ?_;rintro e x1 ⟨rfl,U⟩;have eJ:=F<|own_below xu.o U;have pw:=F<|HB.o.trans (U.m hwz);have Ge:=U.size;clear U)
       |(go_at_call 189;refine(WU.o _).m ?_;rintro e y1 ⟨rfl,U⟩;have jx:=F<|own_below eJ.o U;have iV:=F<|pw.o.trans (U.m pw.o.size);have Qg:=U.size;clear U)
       |(at_builtin;(refine et rfl (.tmp 49) (.tmp 50) _ rfl w2.heap.size 9 i1 (.string ⟨#[]⟩) 16 underlying22 hi1 hz1 hz2 hz3 P8 _ _ ol (Strs o) rfl jx.o (.string ⟨#[]⟩) rfl rfl M0 P8 M0 ?_);intro v9 w9 ig Qa tr;have Ka:=F ig;clear ig;have jo:=F tr;clear tr))
      go_roundw
      case rel=>exact⟨k+1,o++[[]],M0,Oc,by rw[mY.o,ae,<-Ht.o];exact Ka.o,HF.o,iV.o.trans jo.o⟩
      case measure=>simp[intOf];omega
     |false =>
      have HS:=F (show o=kT aJ o p false by rw[ma.o];rfl);have HF:=F<|uI.o _ HS.o M0 V9.o;clear ZV hqt Lg
      go_wp2_with (first
       |(go_at_call 187;refine(Hr.o _).m ?_;rintro e x1 ⟨rfl,U⟩;have eJ:=F<|own_below xu.o U;have pw:=F<|HB.o.trans (U.m hwz);have Ge:=U.size;clear U)
       |(go_at_call 189;refine(WU.o _).m ?_;rintro e y1 ⟨rfl,U⟩;have jx:=F<|own_below eJ.o U;have iV:=F<|pw.o.trans (U.m pw.o.size);have Qg:=U.size;clear U))
      go_roundw
      case rel=>exact⟨k+1,o,M0,Oc,by rw[<-Ht.o];exact jx.o,HF.o,iV.o⟩
      case measure=>simp[intOf];omega
    |false =>
     rw[hqt]at WU ma;have hsd:kT aJ o p la=if aJ=[102,105,108,101]/\o=[]/\dJ p=true then o++[p.take 1++[58]]else o++[dD 4 p]:=ma.o
     have h2p:dJ p=true->p.length=2:=λh=>by
      by_cases hq:p.length=2
      ·exact hq
      rw[(qL hq).1]at h;cases h
     have yB:(o=[]) ↔ ol=0:=by rw[Ht.o];exact dy.symm
     clear ma ZV hqt Lg
     have henc:¬ (aJ=[102,105,108,101]/\o=[]/\dJ p=true)->(kH aJ (o++[dD 4 p]) (ps.drop (k+1))=R/\(o++[dD 4 p]).length<=307200000+(k+1)/\∀ x∈o++[dD 4 p],x.length<=1024000000):=λhno=>by
      rw[if_neg hno]at hsd;refine uI.o _ hsd.symm (by rw[ae];simp) (λx X=>?_);rcases bO.mp X with X|X
      ·exact V9.o x X
      rw[dS.mp X];have:=HEL.o;have:=a7U.o;omega
     have mY:=F<|jg o (dD 4 p);obtain⟨eb,Td⟩:=V (E (dD 4 p));rw[<-Td]at mY;replace zC:=F (show ∀W,bF prog 156 #[.string pb,.int .i64 4] W (.string eb)from by rw[Td];exact zC.o);have EA:=F henc;clear henc Td;by_cases hf:aJ=[102,105,108,101]
     ·rw[decide_eq_true hf]at qU
      by_cases ho0:ol=0
      ·cases Tf:dJ p with
       |true =>
        have hp2:=h2p Tf;rw[Tf]at HDV;have hex:pb.extract 0 1=E (p.take 1):=by rw[HPB.o];exact nY p 1
        obtain⟨d1,hd1⟩:=V (E (p.take 1));rw[<-hd1]at hex;have hpz:pb.size=2:=by rw[HPB.o,aF,hp2]
        have hdz:d1.size=1:=by rw[hd1,aF,aD,hp2];rfl
        obtain⟨d2,hd2⟩:=V (E (p.take 1++[58]));have hap:d1++(⟨#[58]⟩:ByteArray)=d2:=by rw[hd1,hd2,show(⟨#[58]⟩:ByteArray)=E [58]from rfl,mm]
        rw[if_pos ⟨hf,yB.mpr ho0,Tf⟩]at hsd
        have HF:=F<|uI.o _ hsd.symm (by rw[ae];simp) (λx X=>by
         rcases bO.mp X with X|X
         ·exact V9.o x X
         rw[dS.mp X,ae,aD];simp;omega)
        have a2w:=F<|jg o (p.take 1++[58]);rw[<-hd2]at a2w;clear hsd h2p yB Tf hp2 hd1 hd2 hf EA mY;subst ho0
        go_wp2_with (first
         |(go_at_call 187;refine(Hr.o _).m ?_;rintro e x1 ⟨rfl,U⟩;have eJ:=F<|own_below xu.o U;have pw:=F<|HB.o.trans (U.m hwz);have Ge:=U.size;clear U)
         |(go_at_call 189;refine(WU.o _).m ?_;rintro e y1 ⟨rfl,U⟩;have jx:=F<|own_below eJ.o U;have iV:=F<|pw.o.trans (U.m pw.o.size);have Qg:=U.size;clear U)
         |(go_at_call 184;refine(HDV.o _).m ?_;rintro e y3 ⟨rfl,hw⟩;subst hw)
         |(at_builtin;(refine et rfl (.tmp 64) (.tmp 68) _ rfl w2.heap.size 9 i1 (.string ⟨#[]⟩) 16 underlying22 hi1 hz1 hz2 hz3 P8 _ _ 0 (Strs o) rfl jx.o (.string d2) rfl rfl M0 P8 M0 ?_);intro v9 w9 ig Qa tr;have Ka:=F ig;clear ig;have jo:=F tr;clear tr))
        go_roundw
        case rel=>exact⟨k+1,o++[p.take 1++[58]],M0,Oc,by rw[a2w.o,ae,<-Ht.o];exact Ka.o,HF.o,iV.o.trans jo.o⟩
        case measure=>simp[intOf];omega
       |false =>
        rw[Tf]at HDV;have HF:=F<|EA.o (λh=>by rw[Tf]at h;cases h.2.2);clear hsd h2p yB Tf hf EA;subst ho0
        go_wp2_with (first
         |(go_at_call 187;refine(Hr.o _).m ?_;rintro e x1 ⟨rfl,U⟩;have eJ:=F<|own_below xu.o U;have pw:=F<|HB.o.trans (U.m hwz);have Ge:=U.size;clear U)
         |(go_at_call 189;refine(WU.o _).m ?_;rintro e y1 ⟨rfl,U⟩;have jx:=F<|own_below eJ.o U;have iV:=F<|pw.o.trans (U.m pw.o.size);have Qg:=U.size;clear U)
         |(go_at_call 184;refine(HDV.o _).m ?_;rintro e y3 ⟨rfl,hw⟩;subst hw)
         |(go_at_call 156;refine(zC.o _).m ?_;rintro e y2 ⟨rfl,U⟩;have xn:=F<|own_below jx.o U;have HBZ:=F<|iV.o.trans (U.m iV.o.size);have a4T:=U.size;clear U)
         |(at_builtin;(refine et rfl (.tmp 30) (.tmp 33) _ rfl w2.heap.size 9 i1 (.string ⟨#[]⟩) 16 underlying22 hi1 hz1 hz2 hz3 P8 _ _ 0 (Strs o) rfl xn.o (.string eb) rfl rfl M0 P8 M0 ?_);intro v9 w9 ig Qa tr;have Ka:=F ig;clear ig;have jo:=F tr;clear tr))
        go_roundw
        case rel=>exact⟨k+1,o++[dD 4 p],M0,Oc,by rw[mY.o,ae,<-Ht.o];exact Ka.o,HF.o,HBZ.o.trans jo.o⟩
        case measure=>simp[intOf];omega
      have Vc:((ol:Int)==0)=false:=by
       have:(ol:Int)≠0:=M0
       simpa using this
      have HF:=F<|EA.o (λh=>ho0 (yB.mp h.2.1));clear hsd h2p yB hf EA ho0
      go_wp2_with (first
       |(go_at_call 187;refine(Hr.o _).m ?_;rintro e x1 ⟨rfl,U⟩;have eJ:=F<|own_below xu.o U;have pw:=F<|HB.o.trans (U.m hwz);have Ge:=U.size;clear U)
       |(go_at_call 189;refine(WU.o _).m ?_;rintro e y1 ⟨rfl,U⟩;have jx:=F<|own_below eJ.o U;have iV:=F<|pw.o.trans (U.m pw.o.size);have Qg:=U.size;clear U)
       |(go_at_call 156;refine(zC.o _).m ?_;rintro e y2 ⟨rfl,U⟩;have xn:=F<|own_below jx.o U;have HBZ:=F<|iV.o.trans (U.m iV.o.size);have a4T:=U.size;clear U)
       |(at_builtin;(refine et rfl (.tmp 30) (.tmp 33) _ rfl w2.heap.size 9 i1 (.string ⟨#[]⟩) 16 underlying22 hi1 hz1 hz2 hz3 P8 _ _ ol (Strs o) rfl xn.o (.string eb) rfl rfl M0 P8 M0 ?_);intro v9 w9 ig Qa tr;have Ka:=F ig;clear ig;have jo:=F tr;clear tr))
      go_roundw
      case rel=>exact⟨k+1,o++[dD 4 p],M0,Oc,by rw[mY.o,ae,<-Ht.o];exact Ka.o,HF.o,HBZ.o.trans jo.o⟩
      case measure=>simp[intOf];omega
     rw[decide_eq_false hf]at qU;have HF:=F<|EA.o (λh=>hf h.1);clear hsd h2p yB hf EA
     go_wp2_with (first
      |(go_at_call 187;refine(Hr.o _).m ?_;rintro e x1 ⟨rfl,U⟩;have eJ:=F<|own_below xu.o U;have pw:=F<|HB.o.trans (U.m hwz);have Ge:=U.size;clear U)
      |(go_at_call 189;refine(WU.o _).m ?_;rintro e y1 ⟨rfl,U⟩;have jx:=F<|own_below eJ.o U;have iV:=F<|pw.o.trans (U.m pw.o.size);have Qg:=U.size;clear U)
      |(go_at_call 156;refine(zC.o _).m ?_;rintro e y2 ⟨rfl,U⟩;have xn:=F<|own_below jx.o U;have HBZ:=F<|iV.o.trans (U.m iV.o.size);have a4T:=U.size;clear U)
      |(at_builtin;(refine et rfl (.tmp 30) (.tmp 33) _ rfl w2.heap.size 9 i1 (.string ⟨#[]⟩) 16 underlying22 hi1 hz1 hz2 hz3 P8 _ _ ol (Strs o) rfl xn.o (.string eb) rfl rfl M0 P8 M0 ?_);intro v9 w9 ig Qa tr;have Ka:=F ig;clear ig;have jo:=F tr;clear tr))
     go_roundw
     case rel=>exact⟨k+1,o++[dD 4 p],M0,Oc,by rw[mY.o,ae,<-Ht.o];exact Ka.o,HF.o,HBZ.o.trans jo.o⟩
     case measure=>simp[intOf];omega
  obtain rfl:k=n:=M0;obtain⟨Y,_,_⟩:=hinv.o;have hdr:ps.drop k=[]:=bE (by rw[<-HN.o];exact ag _);rw[hdr]at Y;have HRR:=F (show R=o from Y.symm);clear Y hdr hinv;go_wp2_with fail;go_ret;refine⟨_,rfl,?_,dw HB2.o HB.o⟩;rw[HRR.o,ay];have h:=HO.o;rcases h.2 with⟨e1,e2⟩|⟨g,cap,cur,e1,e2,e3⟩
  ·exact⟨h.1,.inl ⟨e1,e2⟩⟩
  exact⟨h.1,.inr ⟨g,cap,cur,e1,am HB2.o.size e2,e3⟩⟩

structure Tn (b:Nat) (w w':H):Prop where
 s:w.heap.size<=w'.heap.size
 k:∀ j,j<w.heap.size->j≠b->w'.heap[j]? = w.heap[j]?
section
variable {b:Nat} {w w' w2:H}
theorem Tn.refl(b:Nat)(w:H):Tn b w w:=⟨ag _,λ_ _ _=>rfl⟩
theorem Tn.trans(h:Tn b w w')(k:Tn b w' w2):Tn b w w2:=⟨am h.s k.s,λj hj hn=>(k.k j (aN hj h.s) hn).trans (h.k j hj hn)⟩
theorem Tn.of_below(h:r7 w w'):Tn b w w':=⟨h.size,λj hj _=>h.block j hj⟩
theorem Tn.below(h:Tn b w w')(k:r7 w' w2):Tn b w w2:=h.trans (Tn.of_below k)
theorem Tn.cb(h:Tn b w w'){g:Nat}{T:TypeId}{cs:Array Z}(i:CB w g T cs)(hn:g≠b):CB w' g T cs:=⟨(h.k g i.lt hn).trans i.a⟩
theorem Tn.row(h:Tn b w w'){base e n:Nat}{v:Z}{xs:List Z}(i:w.ownsRow base e 1 v n xs)(U:b<base):w'.ownsRow base e 1 v n xs:=by
 refine⟨i.1,?_⟩;rcases i.2 with h0|⟨g,cap,cur,e1,hg,hh,hr⟩
 ·exact .inl h0
 exact .inr ⟨g,cap,cur,e1,hg,(h.k g (bw.1 hh).1 M0).trans hh,hr⟩
end
section
variable {P:Program} {ops:Array Oper} {rest:List Oper} {o:Oper} {a:Act} {w:H} {K:Act->H->Prop} {Q:Exit->Act->H->Prop}
theorem wU{w0:H}{b:Nat}{T:TypeId}{cs:Array Z}(i:OB w0 b T cs w)(k:Nat)(v:Z):Tn b w (w.setCell ⟨b,k,none⟩ v):=by
 rw[setCell_eq_setRow w b k cs T (0,0) v i.a];exact⟨by rw[setRow_size];exact ag _,λj _ hj=>setRow_other w b j _ hj⟩
theorem tO{w0:H}{b:Nat}{T:TypeId}:∀ (vs:List Z) (k:Nat) {cs:Array Z} {w:H},OB w0 b T cs w->Tn b w (w.setCells b k vs)
 | [],_,_,w,_=>Tn.refl b w
 |v::r,k,_,_,i=>(wU i k v).trans (tO r (k+1) (i.setCell k v))
theorem fX(ty:TypeId)(x y:Operand)(ho:o.op=.store ty x y)(w0:H)(b:Nat)(T:TypeId)(cs:Array Z)(i:OB w0 b T cs w)(k:Nat)(v:Z)(X:a.eval x=.pointer (some ⟨b,k,none⟩))(hy:a.eval y=v)
  (hk:k<cs.size) (hi:(P.info? ty).map (·.size)=some 1) (Y:v.oneCell'=true) (cs':Array Z) (hc:cs.setIfInBounds k v=cs')
  (h:∀ w',OB w0 b T cs' w'->Tn b w w'->K (a.put o.dst undef) w'):Oper.wp P o a w K Q:=by
 unfold Oper.wp execOp;simp only[ho,X,hy,Instr.storeAt,Instr.sureAddr,Sem.run_bind,Sem.run_pure,Result.andThen_ok,oz w b k ty T cs v i.a hk hi Y];exact h _ (hc▸i.setCell k v) (wU i k v)
theorem j5(ty:TypeId)(x y:Operand)(ho:o.op=.store ty x y)(w0:H)(b:Nat)(T:TypeId)(cs:Array Z)(i:OB w0 b T cs w)(k:Nat)(vs:List Z)(X:a.eval x=.pointer (some ⟨b,k,none⟩))(hy:a.eval y=.agg vs.toArray)
  (hk:k+vs.length<=cs.size) (hi:(P.info? ty).map (·.size)=some vs.length) (Y:∀ v∈vs,v.oneCell'=true) (cs':Array Z) (hc:ua cs k vs=cs')
  (h:∀ w',OB w0 b T cs' w'->Tn b w w'->K (a.put o.dst undef) w'):Oper.wp P o a w K Q :=
 wp_store_mid ty x y ho b k vs.toArray X hy (i.there (by simpa using hk)) (by simpa using hi) (all_oneCell_toArray Y) (h _ (hc▸i.setCells vs k) (tO vs k i))
theorem dX(hgd:o.guard=none)(ty:TypeId)(x y:Operand)(ho:o.op=.store ty x y)(w0:H)(b:Nat)(T:TypeId)(cs:Array Z)(i:OB w0 b T cs w)(k:Nat)(v:Z)(X:a.eval x=.pointer (some ⟨b,k,none⟩))(hy:a.eval y=v)
  (hk:k<cs.size) (hi:(P.info? ty).map (·.size)=some 1) (Y:v.oneCell'=true) (cs':Array Z) (hc:cs.setIfInBounds k v=cs')
  (h:∀ w',OB w0 b T cs' w'->Tn b w w'->wpList P ops Q rest (a.put o.dst undef) w'):wpList P ops Q (o::rest) a w :=
 wpList_plain hgd λ_ hK=>fX ty x y ho w0 b T cs i k v X hy hk hi Y cs' hc λw' Y I=>hK _ _ (h w' Y I)
theorem rh(hgd:o.guard=none)(ty:TypeId)(x y:Operand)(ho:o.op=.store ty x y)(w0:H)(b:Nat)(T:TypeId)(cs:Array Z)(i:OB w0 b T cs w)(k:Nat)(vs:List Z)(X:a.eval x=.pointer (some ⟨b,k,none⟩))(hy:a.eval y=.agg vs.toArray)
  (hk:k+vs.length<=cs.size) (hi:(P.info? ty).map (·.size)=some vs.length) (Y:∀ v∈vs,v.oneCell'=true) (cs':Array Z) (hc:ua cs k vs=cs')
  (h:∀ w',OB w0 b T cs' w'->Tn b w w'->wpList P ops Q rest (a.put o.dst undef) w'):wpList P ops Q (o::rest) a w :=
 wpList_plain hgd λ_ hK=>j5 ty x y ho w0 b T cs i k vs X hy hk hi Y cs' hc λw' Y I=>hK _ _ (h w' Y I)
end
theorem fP{A:Z}{u:Url}{k:Nat}(h:u.host.six.length=8)(hk:k<23):k<(ai A u).size:=by rw[kJ h];exact hk
theorem zp{A:Z}{u:Url}{g:gF}(h:u.host.six.length=8)(hg:g.six.length=8):3+(aS g).length<=(ai A u).size:=by rw[kJ h];simp[aS,hg]
theorem wj(aJ s:O)(w:H)(hs:s.length<=307200000):Calls prog 159 #[.string (E aJ),.string (E s)] w (ga w 9 (Strs (gW aJ s))):=by
 have hsl:=λW=>k9 aJ s W M0;have Y:=λW=>gj aJ s [] aI W Sl.nil hs Oc Oc;have I:=λW=>gj aJ (s.drop 1) [] aI W Sl.nil (by rw[aj];omega) Oc Oc;have hle:=AT (eU aJ) s;obtain⟨R,hR⟩:=V (gW aJ s);rw[<-hR];unfold gW at hR;generalize E aJ=c at *;generalize uE (eU aJ) s=k at *;obtain⟨t,ht⟩:=V (E s);have hsz:t.size=s.length:=by rw[ht,aF]
 have hex:t.extract 1 t.size=E (s.drop 1):=by rw[ht];exact gn s 1 _ (aF s)
 rw[<-ht]at hsl Y ⊢;clear ht;obtain⟨N,hN⟩:=V (t.size);have P6:t.size=N:=hN.symm;rw[P6]at hex;obtain⟨u,hu⟩:=V (E (s.drop 1));rw[<-hu]at hex I;have HSL:=F hsl;by_cases hk:0<k
 ·rw[if_pos hk]at hR
  rw[<-hR]at I;have H2:=F I;have hki:(0:Int)<k:=M0;have hN1:1<=N:=M0;have UY:(1:Int)<=N:=M0;clear hsl Y I hle hR hu hN hsz hs;go_enter func159,ntmps159
  go_wp2_with (first
   |(go_at_call 149;refine(HSL.o _).m ?_;rintro e w2 ⟨rfl,hw⟩;subst hw)
   |(go_at_call 153;refine(H2.o _).m ?_;rintro e w3 ⟨v,rfl,ho,U⟩;have HO:=F ho;have HB:=F U;clear ho U))
  go_ret;exact⟨_,rfl,HO.o,HB.o⟩
 rw[if_neg hk]at hR;rw[<-hR]at Y;have H1:=F Y;have hki:¬ (0:Int)<k:=M0;clear hsl Y I hle hR hu hN hsz hs hex;go_enter func159,ntmps159
 go_wp2_with (first
  |(go_at_call 149;refine(HSL.o _).m ?_;rintro e w2 ⟨rfl,hw⟩;subst hw)
  |(go_at_call 153;refine(H1.o _).m ?_;rintro e w3 ⟨v,rfl,ho,U⟩;have HO:=F ho;have HB:=F U;clear ho U))
 go_ret;exact⟨_,rfl,HO.o,HB.o⟩

theorem mU(w0:H)(b:Nat)(A Bm:Z)(u ub:Url)(w:H)(i:OB w0 b 34 (ai A u) w)(h8:u.host.six.length=8)(b8:ub.host.six.length=8) :
  Calls prog 160 #[.pointer (some ⟨b,0,none⟩),.agg (ai Bm ub)] w λe w'=>e=.returned (.tuple #[])/\OB w0 b 34 (ai A (takeA u ub)) w'/\Tn b w w':=by
 have II:=F i;have H8:=F h8;have B8:=F b8;have UA:=F<|ry Bm ub b8;have HI:=F (show(prog.info? 32).map (·.size)=some (aS ub.host).length by rw[jb];simp[aS,b8]);clear h8 b8;go_enter func160,ntmps160
 go_upto_region 1 with fail
 have X:=CB.new w 34 (ai Bm ub);have U:=(Below.refl w.heap.size w).alloc (ag _) (.cells (ai Bm ub) 34);have hne:w.heap.size≠b:=by have:=II.o.lt;omega
 obtain⟨w2,hw2⟩:=V (w.alloc (.cells (ai Bm ub) 34));rw[<-hw2]at X U ⊢;obtain⟨bx,hbx⟩:=V (w.heap.size);have HB:=F U;rw[<-hbx]at X hne ⊢;have HX:=F X;clear hw2 hbx X U;have I0:=F<|(II.o.below HB.o).below (bG (bg _));have C0:=F<|HX.o.keep (bG (bg _));have T0:=F<|(Tn.of_below (b:=b) HB.o).below (bG (bg _));refine wp_region_held_drew (S:=λW=>CB W bx 34 (ai Bm ub)) Rz (by first|exact HX.o.keep (bG (bg _))|exact C5.o|exact C4.o|exact C3.o|exact C2.o|exact C1.o) (λhHeld=>?_);refine ek 0 ?_;refine ek 1 ?_;refine ek 2 ?_;refine ek 3 ?_;refine ek 4 ?_;refine ek 5 ?_;refine tq 6 rfl ?_ (λwS hSw=>?_) ?_;rotate_left
 ·(try dsimp only at hSw)
  refine bK 9 (.tmp 9) ?_ bx 1 (S ub.usr) _ underlying9 rfl ?_ ?_
  ·rfl
  ·rfl
  exact hSw.aE UA.o.usr
 try simp only[Act.put,fH,fI,fJ]
 refine ek 7 ?_;refine tq 8 rfl ?_ (λwS hSw=>?_) ?_;rotate_left
 ·(try dsimp only at hSw)
  refine bK 9 (.tmp 11) ?_ bx 2 (S ub.er) _ underlying9 rfl ?_ ?_
  ·rfl
  ·rfl
  exact hSw.aE UA.o.er
 try simp only[Act.put,fH,fI,fJ]
 refine ek 9 ?_;refine tq 10 rfl ?_ (λwS hSw=>?_) ?_;rotate_left
 ·(try dsimp only at hSw)
  refine gU 32 (.tmp 13) ?_ bx 3 (aS ub.host) _ underlying32 rfl HI.o ?_ ?_
  ·rfl
  ·rfl
  exact hSw.range UA.o.host
 try simp only[Act.put,fH,fI,fJ]
 refine ek 11 ?_;refine tq 12 rfl ?_ (λwS hSw=>?_) ?_;rotate_left
 ·(try dsimp only at hSw)
  refine bK 4 (.tmp 15) ?_ bx 14 (.bool ub.bz) _ underlying4 rfl ?_ ?_
  ·rfl
  ·rfl
  exact hSw.aE UA.o.bz
 try simp only[Act.put,fH,fI,fJ]
 refine ek 13 ?_;refine tq 14 rfl ?_ (λwS hSw=>?_) ?_;rotate_left
 ·(try dsimp only at hSw)
  refine bK 3 (.tmp 17) ?_ bx 15 (.int .i64 ub.port) _ underlying3 rfl ?_ ?_
  ·rfl
  ·rfl
  exact hSw.aE UA.o.port
 try simp only[Act.put,fH,fI,fJ]
 refine ek 15 ?_;refine ek 16 ?_;refine rn 17 Rz rfl r5 (λK hK=>?_);refine fX 9 (.tmp 20) (.tmp 10) rfl w0 b 34 (ai A u) I0.o 1 (S ub.usr) rfl rfl (fP H8.o P8) bY.1 rfl (ai A {u with usr:=ub.usr}) ((fO A u H8.o).usr _) ?_;intro x1 i1 t1;have I1:=F i1;have C1:=F<|t1.cb C0.o hne;have T1:=F<|T0.o.trans t1;clear i1 t1;refine hK.out _ _ ?_ (λhHeld=>?_)
 ·first|exact HX.o.keep (bG (bg _))|exact C5.o|exact C4.o|exact C3.o|exact C2.o|exact C1.o
 clear hK K
 try simp only[Act.put]
 refine ek 18 ?_;refine ek 19 ?_;refine rn 20 Rz rfl r5 (λK hK=>?_);refine fX 9 (.tmp 22) (.tmp 12) rfl w0 b 34 (ai A {u with usr:=ub.usr}) I1.o 2 (S ub.er) rfl rfl (fP H8.o P8) bY.1 rfl (ai A {u with usr:=ub.usr,er:=ub.er}) ((fO A {u with usr:=ub.usr} H8.o).er _) ?_;intro x2 i1 t1;have I2:=F i1;have C2:=F<|t1.cb C1.o hne;have T2:=F<|T1.o.trans t1;clear i1 t1;refine hK.out _ _ ?_ (λhHeld=>?_)
 ·first|exact HX.o.keep (bG (bg _))|exact C5.o|exact C4.o|exact C3.o|exact C2.o|exact C1.o
 clear hK K
 try simp only[Act.put]
 refine ek 21 ?_;refine ek 22 ?_;refine rn 23 Rz rfl r5 (λK hK=>?_);refine j5 32 (.tmp 24) (.tmp 14) rfl w0 b 34 (ai A {u with usr:=ub.usr,er:=ub.er}) I2.o 3 (aS ub.host) rfl rfl (zp H8.o B8.o) HI.o jX (ai A {u with usr:=ub.usr,er:=ub.er,host:=ub.host}) (sP A {u with usr:=ub.usr,er:=ub.er} ub.host B8.o H8.o) ?_;intro x3 i1 t1;have I3:=F i1;have C3:=F<|t1.cb C2.o hne;have T3:=F<|T2.o.trans t1;clear i1 t1;refine hK.out _ _ ?_ (λhHeld=>?_)
 ·first|exact HX.o.keep (bG (bg _))|exact C5.o|exact C4.o|exact C3.o|exact C2.o|exact C1.o
 clear hK K
 try simp only[Act.put]
 refine ek 24 ?_;refine ek 25 ?_;refine rn 26 Rz rfl r5 (λK hK=>?_);refine fX 4 (.tmp 26) (.tmp 16) rfl w0 b 34 (ai A {u with usr:=ub.usr,er:=ub.er,host:=ub.host}) I3.o 14 (.bool ub.bz) rfl rfl (fP B8.o P8) bY.2.2 rfl (ai A {u with usr:=ub.usr,er:=ub.er,host:=ub.host,bz:=ub.bz}) ((fO A {u with usr:=ub.usr,er:=ub.er,host:=ub.host} B8.o).bz _) ?_;intro x4 i1 t1;have I4:=F i1;have C4:=F<|t1.cb C3.o hne;have T4:=F<|T3.o.trans t1;clear i1 t1;refine hK.out _ _ ?_ (λhHeld=>?_)
 ·first|exact HX.o.keep (bG (bg _))|exact C5.o|exact C4.o|exact C3.o|exact C2.o|exact C1.o
 clear hK K
 try simp only[Act.put]
 refine ek 27 ?_;refine ek 28 ?_;refine rn 29 Rz rfl r5 (λK hK=>?_);refine fX 3 (.tmp 28) (.tmp 18) rfl w0 b 34 (ai A {u with usr:=ub.usr,er:=ub.er,host:=ub.host,bz:=ub.bz}) I4.o 15 (.int .i64 ub.port) rfl rfl (fP B8.o P8) bY.2.1 rfl (ai A (takeA u ub)) ((fO A {u with usr:=ub.usr,er:=ub.er,host:=ub.host,bz:=ub.bz} B8.o).port _) ?_;intro x5 i1 t1;have I5:=F i1;have C5:=F<|t1.cb C4.o hne;have T5:=F<|T4.o.trans t1;clear i1 t1;refine hK.out _ _ ?_ (λhHeld=>?_)
 ·first|exact HX.o.keep (bG (bg _))|exact C5.o|exact C4.o|exact C3.o|exact C2.o|exact C1.o
 clear hK K
 try simp only[Act.put]
 refine wpAnyH_done Rz ?_ _;go_wp2_with fail
 go_end0
 exact⟨rfl,I5.o,T5.o⟩

theorem dC:(prog.info? 22).map (·.size)=some 1:=Rz
theorem bm{w:H}{base e n:Nat}{v:Z}{xs:List Z}(h:w.ownsRow base e 1 v n xs):v.oneCell'=true:=by
 obtain⟨a,c,rfl⟩:=ex h;rfl
theorem ru(w0:H)(b:Nat)(A Bm:Z)(u ub:Url)(w:H)(i:OB w0 b 34 (ai A u) w)(h8:u.host.six.length=8)(b8:ub.host.six.length=8)(hp:Sl w.heap.size w Bm (ub.path.map S))(hl:ub.path.length<=1024000000) :
  Calls prog 154 #[.pointer (some ⟨b,0,none⟩),.agg (ai Bm ub)] w λe w'=>e=.returned (.tuple #[])/\∃ pv',OB w0 b 34 (ai pv' (fM u ub)) w'/\w'.ownsRow w.heap.size 9 1 pv' ub.path.length (Strs ub.path)/\Tn b w w':=by
 have II:=F i;have H8:=F h8;have UA:=F<|ry Bm ub b8;have HP:=F hp;have HL:=F hl;obtain⟨tp,htp⟩:=V (fM u ub);rw[<-htp];unfold fM at htp;have UU:=F<|ry A u h8;clear h8 b8 hp hl i;go_enter func154,ntmps154
 go_upto_region 1 with fail
 have X:=CB.new w 34 (ai Bm ub);have U:=(Below.refl w.heap.size w).alloc (ag _) (.cells (ai Bm ub) 34);have hne:w.heap.size≠b:=by have:=II.o.lt;omega
 have hbw:b<w.heap.size:=II.o.lt;obtain⟨w2,hw2⟩:=V (w.alloc (.cells (ai Bm ub) 34));rw[<-hw2]at X U ⊢;obtain⟨bx,hbx⟩:=V (w.heap.size);have HB:=F U;rw[<-hbx]at X hne ⊢;have HX:=F X;have pw:=F hbx;clear hw2 hbx X U;have c18:=HX.o.aE UA.o.path;have I2:=F<|II.o.below HB.o;have hq:u.bZ=true\/u.bZ=false:=by cases u.bZ <;>simp
 obtain⟨qv,Tf⟩:=V (u.bZ)
 go_upto_region 2 with(first
  |(go_at_call 54;refine(fQ ub.path Bm _ ((HP.o.below HB.o).more HB.o.size) HL.o).m ?_;rintro e w3 ⟨v3,rfl,ho,U⟩;have R3:=F (show w3.ownsRow w.heap.size 9 1 v3 ub.path.length (Strs ub.path) by have ho2:=ho;rw[ay]at ho2;rcases ho2.2 with h|⟨g,cap,cur,e1,e2,e3⟩;exact⟨ho2.1,.inl h⟩;exact⟨ho2.1,.inr ⟨g,cap,cur,e1,am HB.o.size e2,e3⟩⟩);have I3:=F<|I2.o.below U;have C2:=F<|HX.o.keep U;have T3:=F<|(Tn.of_below (b:=b) HB.o).below U;clear ho U)
  |(refine dX rfl 22 (.tmp 9) (.tmp 7) rfl w0 b 34 (ai A u) I3.o 18 v3 rfl rfl (fP H8.o P8) dC (bm R3.o) (ai v3 {u with path:=ub.path}) ((fO A u H8.o).path _ _) ?_;intro w4 i1 t1;have I34:=F i1;have C3:=F<|t1.cb C2.o hne;have T34:=F<|T3.o.trans t1;have R34:=F<|t1.row R3.o hbw;clear i1 t1))
 clear c18;have UV:=F<|ry v3 {u with path:=ub.path} H8.o;have c19:=I34.o.aE UV.o.bZ;cases hqq:u.bZ with
 |true =>
  rw[if_pos hqq]at htp;have TJ:=F htp;replace c19:w4.cell? ⟨b,19,none⟩=some (.bool true):=by rw[c19,<-hqq]
  clear htp hq Tf hqq;go_wp2_with fail
  go_end0
  exact⟨rfl,_,(by rw[TJ.o];exact I34.o),R34.o,T34.o⟩
 |false =>
  rw[if_neg (by simp[hqq])]at htp;have TJ:=F htp;replace c19:w4.cell? ⟨b,19,none⟩=some (.bool false):=by rw[c19,<-hqq]
  clear htp hq Tf hqq
  go_upto_region 3 with fail
  have I4:=F<|I34.o.below (bG (bg _));have C4:=F<|C3.o.keep (bG (bg _));have T4:=F<|T34.o.below (bG (bg _));have R4:=F<|own_below R34.o (bG (bg _));clear c19;refine wp_region_held_drew (S:=λW=>CB W bx 34 (ai Bm ub)) Rz (by first|exact C3.o.keep (bG (bg _))|exact C6.o|exact C5.o) (λhHeld=>?_);refine ek 0 ?_;refine ek 1 ?_;refine ek 2 ?_;refine tq 3 rfl ?_ (λwS hSw=>?_) ?_;rotate_left
  ·(try dsimp only at hSw)
   refine bK 4 (.tmp 17) ?_ bx 19 (.bool ub.bZ) _ underlying4 rfl ?_ ?_
   ·rfl
   ·rfl
   exact hSw.aE UA.o.bZ
  try simp only[Act.put,fH,fI,fJ]
  refine ek 4 ?_;refine tq 5 rfl ?_ (λwS hSw=>?_) ?_;rotate_left
  ·(try dsimp only at hSw)
   refine bK 9 (.tmp 19) ?_ bx 20 (S ub.q) _ underlying9 rfl ?_ ?_
   ·rfl
   ·rfl
   exact hSw.aE UA.o.q
  try simp only[Act.put,fH,fI,fJ]
  refine ek 6 ?_;refine ek 7 ?_;refine rn 8 Rz rfl r5 (λK hK=>?_);refine fX 4 (.tmp 22) (.tmp 18) rfl w0 b 34 (ai v3 {u with path:=ub.path}) I4.o 19 (.bool ub.bZ) rfl rfl (fP H8.o P8) bY.2.2 rfl (ai v3 {u with path:=ub.path,bZ:=ub.bZ}) ((fO v3 {u with path:=ub.path} H8.o).bZ _) ?_;intro x5 i1 t1;have I5:=F i1;have C5:=F<|t1.cb C4.o hne;have T5:=F<|T4.o.trans t1;have R5:=F<|t1.row R4.o hbw;clear i1 t1;refine hK.out _ _ ?_ (λhHeld=>?_)
  ·first|exact C3.o.keep (bG (bg _))|exact C6.o|exact C5.o
  clear hK K
  try simp only[Act.put]
  refine ek 9 ?_;refine ek 10 ?_;refine rn 11 Rz rfl r5 (λK hK=>?_);refine fX 9 (.tmp 24) (.tmp 20) rfl w0 b 34 (ai v3 {u with path:=ub.path,bZ:=ub.bZ}) I5.o 20 (S ub.q) rfl rfl (fP H8.o P8) bY.1 rfl (ai v3 {u with path:=ub.path,bZ:=ub.bZ,q:=ub.q}) ((fO v3 {u with path:=ub.path,bZ:=ub.bZ} H8.o).q _) ?_;intro x6 i1 t1;have I6:=F i1;have C6:=F<|t1.cb C5.o hne;have T6:=F<|T5.o.trans t1;have R6:=F<|t1.row R5.o hbw;clear i1 t1;refine hK.out _ _ ?_ (λhHeld=>?_)
  ·first|exact C3.o.keep (bG (bg _))|exact C6.o|exact C5.o
  clear hK K
  try simp only[Act.put]
  refine wpAnyH_done Rz ?_ _;go_wp2_with fail
  go_end0
  exact⟨rfl,_,(by rw[TJ.o];exact I6.o),R6.o,T6.o⟩

structure Fk (J:Nat->Prop) (w w':H):Prop where
 os:w'.os=w.os
 tape:w'.tape=w.tape
 output:w'.output=w.output
 s:w.heap.size<=w'.heap.size
 k:∀ j,j<w.heap.size->¬ J j->w'.heap[j]? = w.heap[j]?
section
variable {J K:Nat->Prop} {w w' w2:H}
theorem Fk.refl(J:Nat->Prop)(w:H):Fk J w w:=⟨rfl,rfl,rfl,ag _,λ_ _ _=>rfl⟩
theorem Fk.trans(h:Fk J w w')(k:Fk J w' w2):Fk J w w2:=⟨k.os.trans h.os,k.tape.trans h.tape,k.output.trans h.output,am h.s k.s,λj hj hn=>(k.k j (aN hj h.s) hn).trans (h.k j hj hn)⟩
theorem Fk.more(h:Fk J w w')(hk:∀ j,J j->K j):Fk K w w':=⟨h.os,h.tape,h.output,h.s,λj hj hn=>h.k j hj λhJ=>hn (hk j hJ)⟩
theorem Fk.of_below(h:r7 w w'):Fk J w w':=⟨h.os,h.tape,h.output,h.size,λj hj _=>h.block j hj⟩
theorem Fk.below{B:Nat}{w0:H}(h:Fk J w w')(b:Below B w0 w)(hB:∀ j,J j->B<=j)(hs:B<=w.heap.size):Below B w0 w' :=
 b.trans ⟨h.os,h.tape,h.output,h.s,λj hj=>h.k j (aN hj hs) λhJ=>absurd (hB j hJ) (Nat.not_le_of_lt hj)⟩
theorem Fk.cb(h:Fk J w w'){g:Nat}{T:TypeId}{cs:Array Z}(i:CB w g T cs)(hn:¬ J g):CB w' g T cs:=⟨(h.k g i.lt hn).trans i.a⟩
theorem CB.set{b:Nat}{T:TypeId}{cs:Array Z}(i:CB w b T cs)(k:Nat)(v:Z):CB (w.setCell ⟨b,k,none⟩ v) b T (cs.setIfInBounds k v):=by
 rw[setCell_eq_setRow w b k cs T (0,0) v i.a];exact⟨setRow_heap w b _ _ _ _ i.a⟩
theorem Fk.set{b:Nat}{T:TypeId}{cs:Array Z}(i:CB w b T cs)(k:Nat)(v:Z)(U:J b):Fk J w (w.setCell ⟨b,k,none⟩ v):=by
 rw[setCell_eq_setRow w b k cs T (0,0) v i.a];exact⟨rfl,rfl,rfl,by rw[setRow_size];exact ag _,λj _ hj=>setRow_other w b j _ (λe=>hj (e▸U))⟩
theorem CB.vz{b:Nat}{T:TypeId}{cs:Array Z}(i:CB w b T cs)(k:Nat):w.frozen? ⟨b,k,none⟩=false:=by simp[World.frozen?,i.a]
end
def EJ(o:Option Nat)(s:Bool)(W:H):Prop:=∀ b,o=some b->CB W b 4 #[.bool s]
def OJ(o:Option Nat)(j:Nat):Prop:=o=some j
theorem EJ.fr{o:Option Nat}{s:Bool}{J:Nat->Prop}{w w':H}(h:EJ o s w)(f:Fk J w w')(hn:∀ b,o=some b->¬ J b):EJ o s w':=λb e=>f.cb (h b e) (hn b e)
structure Bn (g:Nat) (lb:Array Z) (o:Option Nat) (p nx:Bool->UInt8->Bool):Prop where
 eg:∀ (args:Array Z) (w:H),(callFunc g args).run prog w=.ok (.enter g args) w
 go:∀ (s:Bool) (c:UInt8) (W:H),EJ o s W->Calls prog g (#[.int .u8 (G c)]++lb) W λe w'=>e=.returned (.bool (p s c))/\EJ o (nx s c) w'/\Fk (OJ o) W w'
def nL(p nx:Bool->UInt8->Bool):Bool->O->Nat
 |_,[]=>0
 |s,c::r=>if p s c=true then nL p nx (nx s c) r+1 else 0
theorem Ic(p nx:Bool->UInt8->Bool):∀ (l:O) (s:Bool),nL p nx s l<=l.length
 | [],_=>ag _
 |c::r,s=>by
  rw[nL,ah]
  split
  ·have:=Ic p nx r (nx s c);omega
  exact aL _
theorem Ue(p nx:Bool->UInt8->Bool)(s:Bool){l:O}{j:Nat}(h:j<l.length):nL p nx s (l.drop j)=if p s l[j]=true then nL p nx (nx s l[j]) (l.drop (j+1))+1 else 0:=by
 rw[aC h,nL]
theorem NN(p nx:Bool->UInt8->Bool)(s:Bool){l:O}{j:Nat}(h:l.length<=j):nL p nx s (l.drop j)=0:=by
 rw[bE h];rfl
def SkJ(A':Nat)(o:Option Nat)(j:Nat):Prop:=j=A'\/o=some j
theorem rp{g:Nat}{lb:Array Z}{o:Option Nat}{p nx:Bool->UInt8->Bool}(hk:Bn g lb o p nx)(l:O)(k A' B:Nat)(s0:Bool)(w:H)(hl:l.length<=1024000000)(hkl:k<=l.length)
  (cA:CB w A' 3 #[.int .i64 k]) (cB:CB w B 9 #[.string (E l)]) (hi:EJ o s0 w) (hoA:o≠some A') (hoB:o≠some B) (Pz:B≠A') :
  Calls prog 83 #[.func (.func g) #[] lb,.pointer (some ⟨A',0,none⟩),.pointer (some ⟨B,0,none⟩)] w λe w' =>
   e=.returned (S ((l.drop k).take (nL p nx s0 (l.drop k))))/\CB w' A' 3 #[.int .i64 ((k+nL p nx s0 (l.drop k):Nat):Int)]/\CB w' B 9 #[.string (E l)]/\Fk (SkJ A' o) w w':=by
 have hM:=Ic p nx (l.drop k) s0;rw[aj]at hM;obtain⟨M,hMe⟩:=V (nL p nx s0 (l.drop k));rw[<-hMe]at hM ⊢;obtain⟨t,ht⟩:=V (E l);have hsz:t.size=l.length:=by rw[ht,aF]
 have hby:∀ j (hj:j<t.size) (hj2:j<l.length),((t[j]'hj).toNat:Int)=G l[j]:=λj hj hj2=>cy ht hj hj2;have hex:t.extract k (k+M)=E ((l.drop k).take M):=by rw[ht,cd];congr 2;omega
 rw[<-ht]at cB ⊢;clear ht;obtain⟨N,hN⟩:=V (t.size);have P6:t.size=N:=hN.symm;have oP:N<=1024000000:=M0;have hkN:k<=N:=M0;have hMN:k+M<=N:=M0;have MU:=F hex;clear hex;have eM:=F hsz;clear hsz hl hkl hN hM;have iV:=F hby;clear hby;have HME:=F hMe;clear hMe;have HK:=F hk;have eg:=hk.eg;clear hk;have HI:=F hi;clear hi;have Kc:=F hoA;clear hoA;have TE:=F hoB;clear hoB;have WQ:=F cA;have HCB:=F cB;have c1:=cA.aE (j:=0) (v:=.int .i64 k) rfl;have c2:=cB.aE (j:=0) (v:=.string t) rfl;clear cA cB;go_enter func83,ntmps83;go_wp2_with fail;clear c1 c2
 go_loopg [] (N+1) (λgf wr=>∃ (j:Nat) (s:Bool),k<=j/\j<=N/\N-j<gf/\Hid (M=j-k+nL p nx s (l.drop j))/\Hid (CB wr A' 3 #[.int .i64 j])/\Hid (CB wr B 9 #[.string t])/\Hid (EJ o s wr)/\Hid (Fk (SkJ A' o) w wr))
 case atStart=>exact⟨k,s0,ag _,hkN,M0,by rw[jy,bM];exact HME.o,WQ.o,HCB.o,HI.o,Fk.refl _ _⟩
 case round =>
  obtain⟨j,s,hkj,hjN,hf,hm,hA,hB,hI,hF⟩:=hrel;obtain⟨g',rfl⟩:∃ g',gk=g'+1:=⟨gk-1,M0⟩;have c1:=hA.o.aE (j:=0) (v:=.int .i64 j) rfl;have c2:=hB.o.aE (j:=0) (v:=.string t) rfl;by_cases hlt:j<N
  ·have hju:j<t.size:=by omega
   have hjl:j<l.length:=by have:=eM.o;omega
   have X:=iV.o j hju hjl;have hst:=Ue p nx s hjl;have cS:=HK.o.go s l[j] wr hI.o;have Lf:(j:Int)<(N:Int):=M0;generalize l[j]=c at X hst cS;obtain⟨X',hX⟩:=V (G c);rw[<-hX]at X cS;clear hX;cases hp:p s c with
   |true =>
    rw[hp]at cS;rw[if_pos hp]at hst;have hm2:M=j+1-k+nL p nx (nx s c) (l.drop (j+1)):=by have:=hm.o;omega
    have W7:=F hm2;clear hst hm hm2 hp;have rL:=F (show ¬OJ o A' from Kc.o);have HBN:=F (show ¬OJ o B from TE.o);have HAB:=F Pz
    go_wp2_with (first
     |(go_at_fn g;refine cS.m ?_;rintro e w2 ⟨rfl,hi2,hf2⟩;have HI2:=F hi2;have Hs:=F hf2;have HA2:=F<|hf2.cb hA.o rL.o;have HB2:=F<|hf2.cb hB.o HBN.o;have c3:=HA2.o.aE (j:=0) (v:=.int .i64 j) rfl;have f3:=HA2.o.vz 0;clear hi2 hf2))
    go_roundg g'
    case measure=>omega
    case rel =>
     have hN2:¬ SkJ A' o B:=λh=>h.elim HAB.o TE.o;exact⟨j+1,nx s c,M0,M0,M0,W7.o,F (by simpa using HA2.o.set 0 (.int .i64 ((j+1:Nat):Int))),(Fk.set (J:=λx=>x=A') HA2.o 0 _ rfl).cb HB2.o HAB.o,(HI2.o.fr (Fk.set (J:=λx=>x=A') HA2.o 0 _ rfl) (λb e U=>Kc.o (U▸e))),(hF.o.trans (Hs.o.more λx X=>.inr X)).trans (Fk.set HA2.o 0 _ (.inl rfl))⟩
   |false =>
    rw[hp]at cS;rw[if_neg (by rw[hp];simp)]at hst;have hm2:k+M=j:=by have:=hm.o;omega
    clear hst hm hp;have rL:=F (show ¬OJ o A' from Kc.o);have HBN:=F (show ¬OJ o B from TE.o);have W7:=F hm2;have Nv:=F (show t.extract k j=E ((l.drop k).take M) by rw[<-hm2];exact MU.o);clear hm2;have n9:=Nv.o
    go_wp2_with (first
     |(go_at_fn g;refine cS.m ?_;rintro e w2 ⟨rfl,hi2,hf2⟩;have HI2:=F hi2;have Hs:=F hf2;have HA2:=F<|hf2.cb hA.o rL.o;have HB2:=F<|hf2.cb hB.o HBN.o;have c3:=HA2.o.aE (j:=0) (v:=.int .i64 j) rfl;have c4:=HB2.o.aE (j:=0) (v:=.string t) rfl;clear hi2 hf2))
    go_ret;exact⟨r5,by rw[W7.o];exact HA2.o,HB2.o,hF.o.trans (Hs.o.more λx X=>.inr X)⟩
  obtain rfl:j=N:=M0
  have hm2:k+M=j:=by
   have:=hm.o;rw[NN p nx s (by have:=eM.o;omega)]at this;omega
  have n9:t.extract k j=E ((l.drop k).take M):=by rw[<-hm2];exact MU.o
  have W7:=F hm2;clear hm hm2;go_wp2_with fail;go_ret;exact⟨r5,by rw[W7.o];exact hA.o,hB.o,hF.o⟩
