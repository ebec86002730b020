/- Joined texts. -/
import Derived.WalkSmall
import Derived.Test.YtmndlfglgcioeaaGreatDoorEGAthH
set_option maxHeartbeats 40000000
namespace Go.Proofs.YtmndlfglgcioeaaGreatDoor
open Tryz
open Go.RowKit
set_option maxRecDepth 10000
theorem NI{l:List Bytes}{j:Nat}(hj:j<l.length):(l.map bs).getD j ByteArray.empty=bs l[j]:=by simp[List.getD,hj]
theorem je(l:List Bytes)(v:Value)(w:World)(h:Sl w.heap.size w v (l.map S))(hl:l.length<=1024000000):Calls prog 30 #[v] w (gU w 9 (Strs l)):=by
 obtain⟨c,h1,h2,h⟩:=h;rcases h with⟨hn,a,rfl⟩|⟨b,o,hb,rfl,ha⟩
 ·obtain rfl:l=[]:=by simpa using hn
  cases a with
  |none =>
   refine(Any.slices_Clone_string_nil laysClone 0 c w).mono ?_;rintro e w' ⟨rfl,rfl⟩;exact⟨_,rfl,World.ownsRow_nil _ _ _ _,Below.refl _ _⟩
  |some a =>
   refine(Any.slices_Clone_string_zero laysClone a c w).mono ?_;rintro e w' ⟨v',rfl,h1,_,h3⟩;exact⟨_,rfl,h1,h3⟩
 refine(Any.slices_Clone_string laysClone b o (l.map S).length c (l.map bs) w (by simp) (by simp;omega) (fun j hj=>by
  rw[am]at hj;rw[ha j (by simpa using hj),NI hj,cR])).mono ?_
 rintro e w' ⟨v',rfl,h1,_,h3⟩;refine⟨_,rfl,?_,h3⟩
 have e1:((l.map bs).take (l.map S).length).map Value.string=Strs l:=by
  rw[aP (by simp),gP];rfl
 rw[e1,am]at h1;rw[am];exact h1
theorem tj{aH:Bytes}{p:List Bytes}{k:Nat}(h:p.length=k+2):cI aH p=p.take (k+1):=by
 match p,h with
 |a::b::r,h =>
  show(a::b::r).dropLast=_;rw[m8,h];rfl
theorem ti(aH x:Bytes):cI aH [x]=if aH=aW∧iQ x=true then [x]else []:=rfl
theorem SJ{w:World}{base e g n cap:Nat}{o:List Bytes}(h:w.ownsRow base e 1 (.slice (some ⟨g,0,none⟩) n cap) n (Strs o)){j:Nat}(hj:j<o.length):w.cell? ⟨g,j,none⟩=some (.string (bs o[j])):=by
 have:=h.cells (g:=g) rfl j (.string (bs o[j])) (by simp[hj]);rw[addr_add,bC]at this;exact this
theorem a1P(aH:Bytes)(o:List Bytes)(v:Value)(base:Nat)(w:World)(hown:w.ownsRow base 9 1 v o.length (Strs o))(hl:o.length<=1024000000)(hx:∀ x∈o,x.length<=1024000000) :
  Calls prog 163 #[.string (bs aH),v] w fun e w'=>(∃v',e=.returned v'∧w.ownsRow base 9 1 v' (cI aH o).length (Strs (cI aH o)))∧w'=w:=by
 obtain⟨i1,hi1,hz1,hz2,hz3⟩:=info_parts mT;have hfe:=yC aH [102,105,108,101];rw[ay,ay]at hfe;obtain⟨c,hc⟩:=az (bs aH);have rM:(c.toList == [102,105,108,101])=decide (aH=[102,105,108,101]):=by rw[hc,ay];exact hfe
 rw[<-hc];clear hc hfe;rcases hown.2 with⟨rfl,hn⟩|⟨g,cap,cur,rfl,hg,hh,hnc,hcm,hsz,htk⟩
 ·obtain rfl:o=[]:=ak hn
  have HO:=h_ hown;clear hown hn rM;go_enter func163,ntmps163
  go_wp2_with fail
  go_ret;exact⟨⟨_,rfl,HO.out⟩,rfl⟩
 clear hh hsz htk hg
 match o,hown,hl,hx,hnc with
 | [],hown,hl,hx,hnc =>
  have HO:=h_ hown;clear hown rM;simp only[aN];go_enter func163,ntmps163
  go_wp2_with fail
  go_ret;exact⟨⟨_,rfl,HO.out⟩,rfl⟩
 | [x],hown,hl,hx,hnc =>
  have hso:=ti aH x;have kc:∀ W,(Instr.sliceAt 28 (.slice (some ⟨g,0,none⟩) 1 cap) none (some (.int .i64 0)) none).run prog W=.ok (.slice (some ⟨g,0,none⟩) 0 cap) W:=fun W=>lw underlying28 hi1 g 0 1 cap 0 (by omega) W;have hcell:=SJ hown (j:=0) (by simp);have Ms:w.ownsRow base 9 1 (.slice (some ⟨g,0,none⟩) 0 cap) 0 []:=ownsRow_pop (xs:=[]) (last:=Strs [x]) (n:=0) rfl hown;have hnm:=fun W=>qU x W (hx x (by simp));obtain⟨R,hR⟩:=az (cI aH [x]);rw[<-hR]at hso ⊢;simp only[jc]at hcell;obtain⟨xx,mZ⟩:=az (bs x);rw[<-mZ]at hcell hnm;have HO:=h_ hown;have HP:=h_ Ms;have om:=h_ hnm;simp only[ag,aN,bC];have hw0:IntKind.i64.wrap ((1:Int)-1)=0:=rfl;clear hown Ms hnm mZ hR;by_cases hf:aH=[102,105,108,101]
  ·rw[decide_eq_true hf]at rM
   cases hq:iQ x with
   |true =>
    rw[hq]at om;rw[if_pos ⟨hf,hq⟩]at hso;have HS:=h_ hso;clear hso hf hq;go_enter func163,ntmps163
    go_wp2_with (first|(go_at_call 127;refine(om.out _).mono ?_;rintro e w2 ⟨rfl,hw⟩;subst hw)|fail)
    go_ret;exact⟨⟨_,rfl,by rw[HS.out];exact HO.out⟩,rfl⟩
   |false =>
    rw[hq]at om;rw[if_neg (by simp[hq])]at hso;have HS:=h_ hso;clear hso hf hq;go_enter func163,ntmps163
    go_wp2_with (first|(go_at_call 127;refine(om.out _).mono ?_;rintro e w2 ⟨rfl,hw⟩;subst hw)|fail)
    go_ret;exact⟨⟨_,rfl,by rw[HS.out];exact HP.out⟩,rfl⟩
  rw[decide_eq_false hf]at rM;rw[if_neg (fun h=>hf h.1)]at hso;have HS:=h_ hso;clear hso hf;go_enter func163,ntmps163
  go_wp2_with fail
  go_ret;exact⟨⟨_,rfl,by rw[HS.out];exact HP.out⟩,rfl⟩
 |x::y::r,hown,hl,hx,hnc =>
  obtain⟨k,hk⟩:∃ k,(x::y::r).length=k+2:=⟨r.length,by simp⟩;have hso:=tj (aH:=aH) hk
  have hst:Strs (x::y::r)=Strs ((x::y::r).take (k+1))++(Strs (x::y::r)).drop (k+1):=by
   have e:Strs ((x::y::r).take (k+1))=(Strs (x::y::r)).take (k+1):=a6B;rw[e,cX]
  have htl:((x::y::r).take (k+1)).length=k+1:=by rw[aE,hk];omega
  rw[hst]at hown;rw[hk]at hown hnc hl ⊢;have Ms:w.ownsRow base 9 1 (.slice (some ⟨g,0,none⟩) (k+1) cap) (k+1) (Strs ((x::y::r).take (k+1))):=ownsRow_pop (by rw[am,htl];omega) hown;have hsl:cI aH (x::y::r)=(x::y::r).take (k+1):=hso;rw[hsl,htl];generalize Strs ((x::y::r).take (k+1))=Z at *;have kc:∀ W,(Instr.sliceAt 28 (.slice (some ⟨g,0,none⟩) (k+2) cap) none (some (.int .i64 ((k+1:Nat):Int))) none).run prog W=.ok (.slice (some ⟨g,0,none⟩) (k+1) cap) W:=fun W=>lw underlying28 hi1 g 0 (k+2) cap (k+1) (by omega) W;obtain⟨K,hK⟩:=az (k+1);obtain⟨N,hN⟩:=az (k+2);rw[<-hK,<-hN]at kc;rw[<-hK]at Ms;rw[<-hN,<-hK];have hw0:IntKind.i64.wrap ((N:Int)-1)=(K:Int):=by rw[show(N:Int)-1=(K:Int) by omega];exact IntWalk.i64_in _ (by omega)
  have h0:((N:Int)==0)=false:=by
   have:(N:Int)≠0:=by omega
   simpa using this
  have h1:((N:Int)==1)=false:=by
   have:(N:Int)≠1:=by omega
   simpa using this
  have HP:=h_ Ms;clear Ms hown hk hso hst htl hsl hK hN hnc hx;obtain⟨b,hb⟩:=az (decide (aH=[102,105,108,101]));rw[<-hb]at rM;clear hb;cases b <;>
  ·go_enter func163,ntmps163
   go_wp2_with fail
   go_ret;exact⟨⟨_,rfl,HP.out⟩,rfl⟩

theorem Ln{ops:Array Oper}{rest:List Oper}{o:Oper}{a:Act}{Q:Exit->Act->World->Prop}{w:World}(hgd:o.guard=none)(s x:Operand)
  (ho:o.op=.call {callee:=.builtin .append,args:=#[s,x],argTypes:=#[28,28]}) (hs:a.eval s=.slice none 0 0)
  (ad:Addr) (m c:Nat) (l:List Bytes) (hx:a.eval x=.slice (some ad) m c) (hl:l.length=m) (hm:m<=1024000000) (hc:∀ j (hj:j<l.length),w.cell? (ad.add j)=some (.string (bs l[j])))
  (h:∀ v' w',w'.ownsRow w.heap.size 9 1 v' m (Strs l)->Below w.heap.size w w'->wpList prog ops Q rest (a.put o.dst v') w'):wpList prog ops Q (o::rest) a w:=by
 obtain⟨i1,hi1,hz1,hz2,hz3⟩:=info_parts mT;refine wpList_append_own _ hgd s x 28 ho w.heap.size 9 i1 (.string ⟨#[]⟩) 1 16 underlying28 hi1 hz1 hz2 hz3 (by decide) (by decide) (.slice none 0 0) 0 [] hs (World.ownsRow_nil _ _ _ _) ad m c (Strs l) hx ?_ ?_ ?_ ?_ ?_ (af _) ?_
 ·rw[am,hl];omega
 ·intro j u hj
  have hjl:j<l.length:=by
   have:=(bf.1 hj).1
   simpa using this
  rw[hc j hjl];rw[eI,aJ hjl]at hj;exact hj
 ·intro u hu
  obtain⟨y,_,rfl⟩:=cm.1 hu;rfl
 ·unfold maxLen;omega
 ·omega
 intro v' w' ho' hg _;refine h v' w' ?_ ⟨hg.os,hg.tape,hg.output,hg.size,fun k hk=>hg.block k hk (by simp[Value.ownBlock])⟩
 simpa using ho'
theorem ND{P:Program}{t e:TypeId}{i:TypeInfo}(ht:P.underlying t=some (.slice e))(hi:P.info? e=some i)(ad:Addr)(n c:Nat) :
  ∃ad2,∀W,(Instr.sliceAt t (.slice (some ad) n c) none (some (.int .i64 0)) none).run P W=.ok (.slice (some ad2) 0 c) W:=by
 have he:P.elem t=e:=by simp[Program.elem,ht]
 have ht':P.underlying t=some (.slice (P.elem t)):=by rw[he];exact ht
 by_cases hc:c=0
 ·refine⟨ad,fun W=>?_⟩
  have:=run_slice_h W t (some ad) n c ht' .i64 0 (by omega) (by omega);rw[run_sliceAt_slice W t _ _ _ _ ht',this];simp[sizeOf,typeInfo,he,hi,sliced,hc]
 refine⟨ad.add 0,fun W=>?_⟩;have:=run_slice_h W t (some ad) n c ht' .i64 0 (by omega) (by omega);rw[run_sliceAt_slice W t _ _ _ _ ht',this];simp[sizeOf,typeInfo,he,hi,sliced,hc]
theorem uh(aH:Bytes)(p:List Bytes)(v:Value)(w:World)(h:Sl w.heap.size w v (p.map S))(hl:p.length<=1024000000)(hx:∀ x∈p,x.length<=1024000000) :
  Calls prog 131 #[.string (bs aH),v] w (gU w 9 (Strs (cI aH p))):=by
 obtain⟨i1,hi1,hz1,hz2,hz3⟩:=info_parts mT;have hfe:=yC aH [102,105,108,101];rw[ay,ay]at hfe;obtain⟨c,hc⟩:=az (bs aH);have rM:(c.toList == [102,105,108,101])=decide (aH=[102,105,108,101]):=by rw[hc,ay];exact hfe
 rw[<-hc];clear hc hfe;obtain⟨cap,h1,h2,h⟩:=h;rcases h with⟨hn,a,rfl⟩|⟨b,o,hb,rfl,ha⟩
 ·obtain rfl:p=[]:=by simpa using hn
  clear rM hx hl;cases a with
  |none =>
   go_enter func131,ntmps131
   go_wp2_with fail
   go_ret;exact⟨_,rfl,World.ownsRow_nil _ _ _ _,Below.refl _ _⟩
  |some ad =>
   obtain⟨ad2,kc⟩:=ND (P:=prog) underlying28 hi1 ad 0 cap;go_enter func131,ntmps131
   go_wp2_with (first
    |(at_builtin;refine Ln rfl (.const (.slice none 0 0)) (.tmp 29) rfl rfl ad2 0 cap [] rfl rfl (by omega) (fun j hj=>absurd hj (cg j)) ?_;intro v2 w2 hown2 hb2;have fg:=h_ hown2;clear hown2;have HB2:=h_ hb2;clear hb2)
    |fail)
   go_ret;exact⟨_,rfl,fg.out,HB2.out⟩
 rw[am]at *
 have hce:∀ j (hj:j<p.length),w.cell? ⟨b,o+j,none⟩=some (.string (bs p[j])):=fun j hj=>by
  rw[ha j (by simpa using hj),cR]
 clear ha
 match p,hl,hx,hce,h1 with
 | [],hl,hx,hce,h1 =>
  have kc:=fun W=>lw (P:=prog) underlying28 hi1 b o 0 cap 0 (by omega) W;clear hce hx rM;simp only[aN];go_enter func131,ntmps131
  go_wp2_with (first
   |(at_builtin;refine Ln rfl (.const (.slice none 0 0)) (.tmp 29) rfl rfl ⟨b,o,none⟩ 0 cap [] rfl rfl (by omega) (fun j hj=>absurd hj (cg j)) ?_;intro v2 w2 hown2 hb2;have fg:=h_ hown2;clear hown2;have HB2:=h_ hb2;clear hb2)
   |fail)
  go_ret;exact⟨_,rfl,fg.out,HB2.out⟩
 | [x],hl,hx,hce,h1 =>
  have hso:=ti aH x;have kc:∀ W,(Instr.sliceAt 28 (.slice (some ⟨b,o,none⟩) 1 cap) none (some (.int .i64 0)) none).run prog W=.ok (.slice (some ⟨b,o,none⟩) 0 cap) W:=fun W=>lw underlying28 hi1 b o 1 cap 0 (by omega) W;have kc1:∀ W,(Instr.sliceAt 28 (.slice (some ⟨b,o,none⟩) 1 cap) none (some (.int .i64 1)) none).run prog W=.ok (.slice (some ⟨b,o,none⟩) 1 cap) W:=fun W=>lw underlying28 hi1 b o 1 cap 1 h1 W;have hcell:=hce 0 (by simp);rw[dU]at hcell;have hnm:=fun W=>qU x W (hx x (by simp));obtain⟨R,hR⟩:=az (cI aH [x]);rw[<-hR]at hso ⊢;simp only[jc]at hcell;have HCE:=h_ (show ∀j (hj:j < [x].length),w.cell? ((⟨b,o,none⟩:Addr).add j)=some (.string (bs [x][j]))from fun j hj=>by rw[addr_add];exact hce j hj);obtain⟨xx,mZ⟩:=az (bs x);rw[<-mZ]at hcell hnm;have om:=h_ hnm;simp only[ag,aN,bC];have hw0:IntKind.i64.wrap ((1:Int)-1)=0:=rfl;clear hnm mZ hR hce hx;by_cases hf:aH=[102,105,108,101]
  ·rw[decide_eq_true hf]at rM
   cases hq:iQ x with
   |true =>
    rw[hq]at om;rw[if_pos ⟨hf,hq⟩]at hso;have HS:=h_ hso;clear hso hf hq;go_enter func131,ntmps131
    go_wp2_with (first
     |(go_at_call 127;refine(om.out _).mono ?_;rintro e w2 ⟨rfl,hw⟩;subst hw)
     |(at_builtin;refine Ln rfl (.const (.slice none 0 0)) (.tmp 29) rfl rfl ⟨b,o,none⟩ 1 cap [x] rfl rfl (by omega) HCE.out ?_;intro v2 w3 hown2 hb2;have fg:=h_ hown2;clear hown2;have HB2:=h_ hb2;clear hb2)
     |fail)
    go_ret;exact⟨_,rfl,by rw[HS.out];exact fg.out,HB2.out⟩
   |false =>
    rw[hq]at om;rw[if_neg (by simp[hq])]at hso;have HS:=h_ hso;clear hso hf hq;go_enter func131,ntmps131
    go_wp2_with (first
     |(go_at_call 127;refine(om.out _).mono ?_;rintro e w2 ⟨rfl,hw⟩;subst hw)
     |(at_builtin;refine Ln rfl (.const (.slice none 0 0)) (.tmp 29) rfl rfl ⟨b,o,none⟩ 0 cap [] rfl rfl (by omega) (fun j hj=>absurd hj (cg j)) ?_;intro v2 w3 hown2 hb2;have fg:=h_ hown2;clear hown2;have HB2:=h_ hb2;clear hb2)
     |fail)
    go_ret;exact⟨_,rfl,by rw[HS.out];exact fg.out,HB2.out⟩
  rw[decide_eq_false hf]at rM;rw[if_neg (fun h=>hf h.1)]at hso;have HS:=h_ hso;clear hso hf;go_enter func131,ntmps131
  go_wp2_with (first
   |(at_builtin;refine Ln rfl (.const (.slice none 0 0)) (.tmp 29) rfl rfl ⟨b,o,none⟩ 0 cap [] rfl rfl (by omega) (fun j hj=>absurd hj (cg j)) ?_;intro v2 w3 hown2 hb2;have fg:=h_ hown2;clear hown2;have HB2:=h_ hb2;clear hb2)
   |fail)
  go_ret;exact⟨_,rfl,by rw[HS.out];exact fg.out,HB2.out⟩
 |x::y::r,hl,hx,hce,h1 =>
  obtain⟨k,hk⟩:∃ k,(x::y::r).length=k+2:=⟨r.length,by simp⟩;have hsl:cI aH (x::y::r)=(x::y::r).take (k+1):=tj (aH:=aH) hk;have htl:((x::y::r).take (k+1)).length=k+1:=by rw[aE,hk];omega
  have HCE:=h_ (show ∀j (hj:j<((x::y::r).take (k+1)).length),w.cell? ((⟨b,o,none⟩:Addr).add j)=some (.string (bs ((x::y::r).take (k+1))[j]))from fun j hj=>by
   rw[addr_add,hce j (by rw[htl]at hj;omega),Oj])
  rw[hsl];rw[hk]at h1 hl ⊢;have hkm:k+1<=1024000000:=by omega
  generalize (x::y::r).take (k+1)=Z at *;have kc:∀ W,(Instr.sliceAt 28 (.slice (some ⟨b,o,none⟩) (k+2) cap) none (some (.int .i64 ((k+1:Nat):Int))) none).run prog W=.ok (.slice (some ⟨b,o,none⟩) (k+1) cap) W:=fun W=>lw underlying28 hi1 b o (k+2) cap (k+1) (by omega) W;obtain⟨K,hK⟩:=az (k+1);obtain⟨N,hN⟩:=az (k+2);rw[<-hK,<-hN]at kc;rw[<-hK]at htl hkm;rw[<-hN];have hw0:IntKind.i64.wrap ((N:Int)-1)=(K:Int):=by rw[show(N:Int)-1=(K:Int) by omega];exact IntWalk.i64_in _ (by omega)
  have h0:(0:Int)<N:=by omega
  have h1':((N:Int)==1)=false:=by
   have:(N:Int)≠1:=by omega
   simpa using this
  have Ap:=h_ htl;clear hk hsl htl hK hN hx hce;obtain⟨d,hd⟩:=az (decide (aH=[102,105,108,101]));rw[<-hd]at rM;clear hd;cases d <;>
  ·go_enter func131,ntmps131
   go_wp2_with (first
    |(at_builtin;refine Ln rfl (.const (.slice none 0 0)) (.tmp 29) rfl rfl ⟨b,o,none⟩ K cap Z rfl Ap.out hkm HCE.out ?_;intro v2 w3 hown2 hb2;have fg:=h_ hown2;clear hown2;have HB2:=h_ hb2;clear hb2)
    |fail)
   go_ret;exact⟨_,rfl,by rw[am,Ap.out];exact fg.out,HB2.out⟩

theorem Ig(aH:Bytes)(o:List Bytes)(p:Bytes)(r:List Bytes):ji aH o (p::r)=ji aH (jV aH o p (decide (r=[]))) r:=by
 cases r with
 |nil=>rfl
 |cons q t=>rfl
theorem Te{aH:Bytes}{o ps:List Bytes}{k:Nat}(h:k<ps.length):ji aH o (ps.drop k)=ji aH (jV aH o ps[k] (decide (k+1=ps.length))) (ps.drop (k+1)):=by
 rw[aq h,Ig]
 have:decide (ps.drop (k+1)=[])=decide (k+1=ps.length):=by
  rw[decide_eq_decide,List.drop_eq_nil_iff];omega
 rw[this]
theorem td(aH:Bytes)(p:List Bytes):(cI aH p).length<=p.length:=by
 match p with
 | []=>exact af _
 | [x] =>
  rw[ti]
  split <;>simp
 |a::b::r =>
  rw[tj (k:=r.length) (by simp),aE];omega
theorem zR{sp:Bool}:∀ {s p:Bytes},p∈fO sp s->p.length<=s.length
 | [],p,h=>by
  have:p=[]:=by simpa[fO]using h
  rw[this];exact af _
 |c::t,p,h=>by
  rw[fO]at h;have ih:=fun q (hq:q∈fO sp t)=>zR hq
  split at h
  ·rcases aj.mp h with rfl|h
   ·simp
   have:=ih p h;rw[ag];omega
  split at h
  ·have:p=[c]:=by simpa using h
   rw[this];simp
  next q qs he =>
  rw[he]at ih;rcases aj.mp h with rfl|h
  ·have:=ih q (by simp)
   simp only[ag];omega
  have:=ih p (by simp[h]);rw[ag];omega
theorem gY(aH s:Bytes)(path:List Bytes)(pv:Value)(w:World)(h:Sl w.heap.size w pv (path.map S))(hs:s.length<=307200000)(hl:path.length<=307200000)(hx:∀ x∈path,x.length<=1024000000) :
  Calls prog 129 #[.string (bs aH),pv,.string (bs s)] w (gU w 9 (Strs (dc aH path s))):=by
 obtain⟨i1,hi1,hz1,hz2,hz3⟩:=info_parts mT;have hsp:=fun W=>gZ aH W;have hss:=fun W=>Io s (eK aH) W (by omega);have hup:=fun(o:List Bytes) v base W (hown:World.ownsRow W base 9 1 v o.length (Strs o)) h1 h2=>a1P aH o v base W hown h1 h2;have hfe:=yC aH [102,105,108,101];rw[ay,ay]at hfe;obtain⟨c,hc⟩:=az (bs aH);have rM:(c.toList == [102,105,108,101])=decide (aH=[102,105,108,101]):=by rw[hc,ay];exact hfe
 rw[<-hc]at hsp hup ⊢;clear hc hfe;obtain⟨R,hR⟩:=az (dc aH path s);rw[<-hR];unfold dc at hR;have hpl:=fun p (hp:p∈fO (eK aH) s)=>zR hp;have hsl:=EK (eK aH) s;generalize eK aH=sp at *;obtain⟨ps,hps⟩:=az (fO sp s);rw[<-hps]at hss hR hpl hsl;clear hps;obtain⟨t,ht⟩:=az (bs s);rw[<-ht]at hss ⊢;clear ht;obtain⟨n,hn⟩:=az (ps.length);have hnm:n<=307200001:=by omega
 have j0:=h_ hsp;clear hsp;have OQ:=h_ hss;clear hss;have Cd:=h_ hup;clear hup;have HR:=h_ hR;clear hR;have HPL:=h_ (show ∀p∈ps,p.length<=307200000 from fun p hp=>ap (hpl p hp) hs);have HN:=h_ hn;have HH:=h_ h;have HX:=h_ hx;have HLP:=h_ hl;clear hpl hsl hs h hx hl hn;go_enter func129,ntmps129
 go_upto_region 3 with(first
  |(go_at_call 96;refine(j0.out _).mono ?_;rintro e w1 ⟨rfl,hw⟩;subst hw)
  |(go_at_call 161;refine(OQ.out _).mono ?_;rintro e w2 ⟨v2,rfl,ho,hb⟩;have HO:=h_ ho;have HB2:=h_ hb;clear ho hb)
  |(go_at_call 30;refine(je path pv _ ((HH.out.below HB2.out).more HB2.out.size) (by have:=HLP.out;omega)).mono ?_;rintro e w3 ⟨v3,rfl,ho,hb⟩;have kq:=h_ ho;have HB3:=h_ hb;clear ho hb)
  |fail)
 have hps:=Sl.dM HO.out;obtain⟨a2,c2,hv2⟩:=eS HO.out;subst hv2;rw[am,<-HN.out]at hps ⊢;have HPS:=h_ hps;have HB:=h_ HB3.out;clear HO hps OQ
 go_wp2_with fail
 go_loopw [8,20] (fun ov iv wr=>∃ (k:Nat) (o:List Bytes),k<=n∧iv=.int .i64 k∧Hid (wr.ownsRow w2.heap.size 9 1 ov o.length (Strs o))∧Hid (ji aH o (ps.drop k)=R∧o.length<=307200000+k∧∀ x∈o,x.length<=1024000000)∧Hid (Below w2.heap.size w2 wr)) (fun _ i _=>n-(intOf i).toNat)
 case atStart=>exact⟨0,path,by omega,by simp,by have:=kq.out;rw[am]at this;exact this,⟨HR.out.symm,by have:=HLP.out;omega,HX.out⟩,HB.out⟩
 case round =>
  clear kq HB3 HB;obtain⟨k,o,hk,rfl,HO,hinv,HB⟩:=hrel;obtain⟨ov,oc,hov⟩:=eS HO.out;subst hov;by_cases hlt:k<n
  ·have hkl:k<ps.length:=by rw[<-HN.out];exact hlt
   obtain⟨b2,o2,rfl,hb2,hcell⟩:=kT (HPS.out.below HB.out) k hkl;obtain⟨hst,hol,hox⟩:=hinv.out;rw[Te hkl,<-HN.out]at hst;have hpl:=HPL.out _ (bw hkl);have JL:=fun W=>Qh ps[k] W (by omega);have n8:=fun W=>JA ps[k] W (by omega);have V6:=fun W=>pG ps[k] W (by omega);have henc:=fun W=>fz 4 ps[k] W (by omega);have QW:=iw 4 ps[k];obtain⟨p,hp⟩:=az (ps[k]);rw[<-hp]at hst hcell JL n8 V6 henc hpl QW;clear hp hinv;have hwz:w2.heap.size<=wr.heap.size:=HB.out.size;obtain⟨M,hM⟩:∃ M,n=M+1:=⟨n-1,by omega⟩;have hwM:IntKind.i64.wrap ((n:Int)-1)=(M:Int):=by rw[show(n:Int)-1=(M:Int) by omega];exact IntWalk.i64_in _ (by omega)
   obtain⟨la,hla⟩:=az (decide (k+1=n))
   have hlb:((k:Int)==(M:Int))=la:=by
    rw[hla,cK,beq_iff_eq,decide_eq_true_eq];omega
   rw[<-hla]at hst;obtain⟨pb,hpb⟩:=az (bs p);replace hcell:World.cell? _ _=some (.string (bs p)):=hcell;rw[<-hpb]at hcell JL n8 V6 henc;have hsg:jV aH o p la=if kz p=true then(if la=true then cI aH o++[[]]else cI aH o)else if ll p=true then(if la=true then o++[[]]else o)else if aH=[102,105,108,101]∧o=[]∧dg p=true then o++[p.take 1++[58]]else o++[dq 4 p]:=rfl;have vm:=h_ (show ∀o',o'=jV aH o p la->o'.length<=o.length+1->(∀x∈o',x.length<=1024000000)->(ji aH o' (ps.drop (k+1))=R∧o'.length<=307200000+(k+1)∧∀ x∈o',x.length<=1024000000)from fun o' h1 h2 h3=>⟨by rw[h1];exact hst,by omega,h3⟩);have hos:∀ x∈cI aH o,x.length<=1024000000:=fun x hx=>hox x (k5 hx);have Mr:=td aH o;have mX:=h_ hsg;have HOX:=h_ hox;have HOS:=h_ hos;have HOL:=h_ hol;have IN:=h_ JL;have XP:=h_ n8;have HDV:=h_ V6;have Am:=h_ henc;have HPB:=h_ hpb;have HEL:=h_ QW;have a71:=h_ hpl;have a9F:o.length<=614400001:=by omega
   obtain⟨ol,hole⟩:=az (o.length);have hown:=HO.out;rw[<-hole]at hown a9F ⊢;have yn:=h_ hown;have IQ:=h_ hole;have hwk:IntKind.i64.wrap ((k:Int)+1)=((k+1:Nat):Int):=by rw[show(k:Int)+1=((k+1:Nat):Int) by omega];exact IntWalk.i64_in _ (by omega)
   have hE:(bs []:ByteArray)=⟨#[]⟩:=rfl;clear hM hole hst hox hol hla hpb hsg hos JL n8 V6 henc QW hpl hown HO HH HX HLP HPL;cases hqd:kz p with
   |true =>
    rw[hqd]at IN mX;have a4Q:(cI aH o).length<=ol:=by rw[IQ.out];exact Mr
    obtain⟨sl,hsl⟩:=az ((cI aH o).length);rw[<-hsl]at a4Q;cases la with
    |true =>
     have HS:=h_ (show cI aH o++[[]]=jV aH o p true by rw[mX.out];rfl);have HSL:=h_ hsl
     have HF:=h_ (vm.out _ HS.out (by rw[ae,<-HSL.out,<-IQ.out];simp;omega) (fun x hx=>by
      rcases au.mp hx with hx|hx
      ·exact HOS.out x hx
      rw[bE.mp hx];simp))
     have nO:=h_ (jW (cI aH o) []);clear hqd hsl Mr
     go_wp2_with (first
      |(go_at_call 162;refine(IN.out _).mono ?_;rintro e x1 ⟨rfl,hb⟩;have fg:=h_ (own_below yn.out hb);have qg:=h_ (HB.out.trans (hb.mono hwz));have GT:=hb.size;clear hb)
      |(go_at_call 163;refine(Cd.out o _ w2.heap.size _ (by rw[<-IQ.out];exact fg.out) (by rw[<-IQ.out];omega) HOX.out).mono ?_;rintro e x2 ⟨⟨v4,rfl,ho⟩,hw⟩;subst hw;have ho2:=ho;rw[<-HSL.out]at ho2;have rk:=h_ ho2;obtain⟨a4,c4,hv4⟩:=eS ho2;subst hv4;clear ho ho2)
      |(at_builtin;(refine eO rfl (.tmp 42) (.tmp 43) _ rfl w2.heap.size 9 i1 (.string ⟨#[]⟩) 16 underlying28 hi1 hz1 hz2 hz3 (by decide) _ _ sl (Strs (cI aH o)) rfl rk.out (.string ⟨#[]⟩) rfl rfl (by omega) (by decide) (by omega) ?_);intro v9 w9 jg Rg tR;have Lg:=h_ jg;clear jg;have ka:=h_ tR;clear tR)
      |fail)
     go_roundw
     case rel=>exact⟨k+1,cI aH o++[[]],by omega,by simp,by rw[nO.out,ae,<-HSL.out];exact Lg.out,HF.out,qg.out.trans ka.out⟩
     case measure=>simp[intOf];omega
    |false =>
     have HS:=h_ (show cI aH o=jV aH o p false by rw[mX.out];rfl);have HSL:=h_ hsl;have HF:=h_ (vm.out _ HS.out (by rw[<-HSL.out,<-IQ.out];omega) HOS.out);clear hqd hsl Mr
     go_wp2_with (first
      |(go_at_call 162;refine(IN.out _).mono ?_;rintro e x1 ⟨rfl,hb⟩;have fg:=h_ (own_below yn.out hb);have qg:=h_ (HB.out.trans (hb.mono hwz));have GT:=hb.size;clear hb)
      |(go_at_call 163;refine(Cd.out o _ w2.heap.size _ (by rw[<-IQ.out];exact fg.out) (by rw[<-IQ.out];omega) HOX.out).mono ?_;rintro e x2 ⟨⟨v4,rfl,ho⟩,hw⟩;subst hw;have ho2:=ho;rw[<-HSL.out]at ho2;have rk:=h_ ho2;obtain⟨a4,c4,hv4⟩:=eS ho2;subst hv4;clear ho ho2)
      |fail)
     go_roundw
     case rel=>exact⟨k+1,cI aH o,by omega,by simp,by rw[<-HSL.out];exact rk.out,HF.out,qg.out⟩
     case measure=>simp[intOf];omega
   |false =>
    rw[hqd]at IN mX;cases hqt:ll p with
    |true =>
     rw[hqt]at XP mX;cases la with
     |true =>
      have HS:=h_ (show o++[[]]=jV aH o p true by rw[mX.out];rfl)
      have HF:=h_ (vm.out _ HS.out (by rw[ae];simp) (fun x hx=>by
       rcases au.mp hx with hx|hx
       ·exact HOX.out x hx
       rw[bE.mp hx];simp))
      have nO:=h_ (jW o []);clear hqd hqt Mr
      go_wp2_with (first
       |(go_at_call 162;refine(IN.out _).mono ?_;rintro e x1 ⟨rfl,hb⟩;have fg:=h_ (own_below yn.out hb);have qg:=h_ (HB.out.trans (hb.mono hwz));have GT:=hb.size;clear hb)
       |(go_at_call 164;refine(XP.out _).mono ?_;rintro e y1 ⟨rfl,hb⟩;have kq:=h_ (own_below fg.out hb);have kd:=h_ (qg.out.trans (hb.mono qg.out.size));have Rm:=hb.size;clear hb)
       |(at_builtin;(refine eO rfl (.tmp 49) (.tmp 50) _ rfl w2.heap.size 9 i1 (.string ⟨#[]⟩) 16 underlying28 hi1 hz1 hz2 hz3 (by decide) _ _ ol (Strs o) rfl kq.out (.string ⟨#[]⟩) rfl rfl (by omega) (by decide) (by omega) ?_);intro v9 w9 jg Rg tR;have Lg:=h_ jg;clear jg;have ka:=h_ tR;clear tR)
       |fail)
      go_roundw
      case rel=>exact⟨k+1,o++[[]],by omega,by simp,by rw[nO.out,ae,<-IQ.out];exact Lg.out,HF.out,kd.out.trans ka.out⟩
      case measure=>simp[intOf];omega
     |false =>
      have HS:=h_ (show o=jV aH o p false by rw[mX.out];rfl);have HF:=h_ (vm.out _ HS.out (by omega) HOX.out);clear hqd hqt Mr
      go_wp2_with (first
       |(go_at_call 162;refine(IN.out _).mono ?_;rintro e x1 ⟨rfl,hb⟩;have fg:=h_ (own_below yn.out hb);have qg:=h_ (HB.out.trans (hb.mono hwz));have GT:=hb.size;clear hb)
       |(go_at_call 164;refine(XP.out _).mono ?_;rintro e y1 ⟨rfl,hb⟩;have kq:=h_ (own_below fg.out hb);have kd:=h_ (qg.out.trans (hb.mono qg.out.size));have Rm:=hb.size;clear hb)
       |fail)
      go_roundw
      case rel=>exact⟨k+1,o,by omega,by simp,by rw[<-IQ.out];exact kq.out,HF.out,kd.out⟩
      case measure=>simp[intOf];omega
    |false =>
     rw[hqt]at XP mX;have hsd:jV aH o p la=if aH=[102,105,108,101]∧o=[]∧dg p=true then o++[p.take 1++[58]]else o++[dq 4 p]:=mX.out
     have h2p:dg p=true->p.length=2:=fun h=>by
      by_cases hq:p.length=2
      ·exact hq
      rw[(rD hq).1]at h;cases h
     have ze:(o=[]) ↔ ol=0:=by rw[IQ.out];exact d9.symm
     clear mX hqd hqt Mr
     have henc:¬ (aH=[102,105,108,101]∧o=[]∧dg p=true)->(ji aH (o++[dq 4 p]) (ps.drop (k+1))=R∧(o++[dq 4 p]).length<=307200000+(k+1)∧∀ x∈o++[dq 4 p],x.length<=1024000000):=fun hno=>by
      rw[if_neg hno]at hsd;refine vm.out _ hsd.symm (by rw[ae];simp) (fun x hx=>?_);rcases au.mp hx with hx|hx
      ·exact HOX.out x hx
      rw[bE.mp hx];have:=HEL.out;have:=a71.out;omega
     have nO:=h_ (jW o (dq 4 p));obtain⟨eb,heb⟩:=az (bs (dq 4 p));rw[<-heb]at nO;replace Am:=h_ (show ∀W,bN prog 132 #[.string pb,.int .i64 4] W (.string eb)from by rw[heb];exact Am.out);have FD:=h_ henc;clear henc heb;by_cases hf:aH=[102,105,108,101]
     ·rw[decide_eq_true hf]at rM
      by_cases ho0:ol=0
      ·cases Ur:dg p with
       |true =>
        have hp2:=h2p Ur;rw[Ur]at HDV;have hex:pb.extract 0 1=bs (p.take 1):=by rw[HPB.out];exact sL p 1
        obtain⟨d1,hd1⟩:=az (bs (p.take 1));rw[<-hd1]at hex;have hpz:pb.size=2:=by rw[HPB.out,aM,hp2]
        have hdz:d1.size=1:=by rw[hd1,aM,aE,hp2];rfl
        obtain⟨d2,hd2⟩:=az (bs (p.take 1++[58]));have hap:d1++(⟨#[58]⟩:ByteArray)=d2:=by rw[hd1,hd2,show(⟨#[58]⟩:ByteArray)=bs [58]from rfl,sH]
        rw[if_pos ⟨hf,ze.mpr ho0,Ur⟩]at hsd
        have HF:=h_ (vm.out _ hsd.symm (by rw[ae];simp) (fun x hx=>by
         rcases au.mp hx with hx|hx
         ·exact HOX.out x hx
         rw[bE.mp hx,ae,aE];simp;omega))
        have a27:=h_ (jW o (p.take 1++[58]));rw[<-hd2]at a27;clear hsd h2p ze Ur hp2 hd1 hd2 hf FD nO;subst ho0
        go_wp2_with (first
         |(go_at_call 162;refine(IN.out _).mono ?_;rintro e x1 ⟨rfl,hb⟩;have fg:=h_ (own_below yn.out hb);have qg:=h_ (HB.out.trans (hb.mono hwz));have GT:=hb.size;clear hb)
         |(go_at_call 164;refine(XP.out _).mono ?_;rintro e y1 ⟨rfl,hb⟩;have kq:=h_ (own_below fg.out hb);have kd:=h_ (qg.out.trans (hb.mono qg.out.size));have Rm:=hb.size;clear hb)
         |(go_at_call 159;refine(HDV.out _).mono ?_;rintro e y3 ⟨rfl,hw⟩;subst hw)
         |(at_builtin;(refine eO rfl (.tmp 64) (.tmp 68) _ rfl w2.heap.size 9 i1 (.string ⟨#[]⟩) 16 underlying28 hi1 hz1 hz2 hz3 (by decide) _ _ 0 (Strs o) rfl kq.out (.string d2) rfl rfl (by omega) (by decide) (by omega) ?_);intro v9 w9 jg Rg tR;have Lg:=h_ jg;clear jg;have ka:=h_ tR;clear tR)
         |fail)
        go_roundw
        case rel=>exact⟨k+1,o++[p.take 1++[58]],by omega,by simp,by rw[a27.out,ae,<-IQ.out];exact Lg.out,HF.out,kd.out.trans ka.out⟩
        case measure=>simp[intOf];omega
       |false =>
        rw[Ur]at HDV;have HF:=h_ (FD.out (fun h=>by rw[Ur]at h;cases h.2.2));clear hsd h2p ze Ur hf FD;subst ho0
        go_wp2_with (first
         |(go_at_call 162;refine(IN.out _).mono ?_;rintro e x1 ⟨rfl,hb⟩;have fg:=h_ (own_below yn.out hb);have qg:=h_ (HB.out.trans (hb.mono hwz));have GT:=hb.size;clear hb)
         |(go_at_call 164;refine(XP.out _).mono ?_;rintro e y1 ⟨rfl,hb⟩;have kq:=h_ (own_below fg.out hb);have kd:=h_ (qg.out.trans (hb.mono qg.out.size));have Rm:=hb.size;clear hb)
         |(go_at_call 159;refine(HDV.out _).mono ?_;rintro e y3 ⟨rfl,hw⟩;subst hw)
         |(go_at_call 132;refine(Am.out _).mono ?_;rintro e y2 ⟨rfl,hb⟩;have yk:=h_ (own_below kq.out hb);have HBZ:=h_ (kd.out.trans (hb.mono kd.out.size));have a5i:=hb.size;clear hb)
         |(at_builtin;(refine eO rfl (.tmp 30) (.tmp 33) _ rfl w2.heap.size 9 i1 (.string ⟨#[]⟩) 16 underlying28 hi1 hz1 hz2 hz3 (by decide) _ _ 0 (Strs o) rfl yk.out (.string eb) rfl rfl (by omega) (by decide) (by omega) ?_);intro v9 w9 jg Rg tR;have Lg:=h_ jg;clear jg;have ka:=h_ tR;clear tR)
         |fail)
        go_roundw
        case rel=>exact⟨k+1,o++[dq 4 p],by omega,by simp,by rw[nO.out,ae,<-IQ.out];exact Lg.out,HF.out,HBZ.out.trans ka.out⟩
        case measure=>simp[intOf];omega
      have hob:((ol:Int)==0)=false:=by
       have:(ol:Int)≠0:=by omega
       simpa using this
      have HF:=h_ (FD.out (fun h=>ho0 (ze.mp h.2.1)));clear hsd h2p ze hf FD ho0
      go_wp2_with (first
       |(go_at_call 162;refine(IN.out _).mono ?_;rintro e x1 ⟨rfl,hb⟩;have fg:=h_ (own_below yn.out hb);have qg:=h_ (HB.out.trans (hb.mono hwz));have GT:=hb.size;clear hb)
       |(go_at_call 164;refine(XP.out _).mono ?_;rintro e y1 ⟨rfl,hb⟩;have kq:=h_ (own_below fg.out hb);have kd:=h_ (qg.out.trans (hb.mono qg.out.size));have Rm:=hb.size;clear hb)
       |(go_at_call 132;refine(Am.out _).mono ?_;rintro e y2 ⟨rfl,hb⟩;have yk:=h_ (own_below kq.out hb);have HBZ:=h_ (kd.out.trans (hb.mono kd.out.size));have a5i:=hb.size;clear hb)
       |(at_builtin;(refine eO rfl (.tmp 30) (.tmp 33) _ rfl w2.heap.size 9 i1 (.string ⟨#[]⟩) 16 underlying28 hi1 hz1 hz2 hz3 (by decide) _ _ ol (Strs o) rfl yk.out (.string eb) rfl rfl (by omega) (by decide) (by omega) ?_);intro v9 w9 jg Rg tR;have Lg:=h_ jg;clear jg;have ka:=h_ tR;clear tR)
       |fail)
      go_roundw
      case rel=>exact⟨k+1,o++[dq 4 p],by omega,by simp,by rw[nO.out,ae,<-IQ.out];exact Lg.out,HF.out,HBZ.out.trans ka.out⟩
      case measure=>simp[intOf];omega
     rw[decide_eq_false hf]at rM;have HF:=h_ (FD.out (fun h=>hf h.1));clear hsd h2p ze hf FD
     go_wp2_with (first
      |(go_at_call 162;refine(IN.out _).mono ?_;rintro e x1 ⟨rfl,hb⟩;have fg:=h_ (own_below yn.out hb);have qg:=h_ (HB.out.trans (hb.mono hwz));have GT:=hb.size;clear hb)
      |(go_at_call 164;refine(XP.out _).mono ?_;rintro e y1 ⟨rfl,hb⟩;have kq:=h_ (own_below fg.out hb);have kd:=h_ (qg.out.trans (hb.mono qg.out.size));have Rm:=hb.size;clear hb)
      |(go_at_call 132;refine(Am.out _).mono ?_;rintro e y2 ⟨rfl,hb⟩;have yk:=h_ (own_below kq.out hb);have HBZ:=h_ (kd.out.trans (hb.mono kd.out.size));have a5i:=hb.size;clear hb)
      |(at_builtin;(refine eO rfl (.tmp 30) (.tmp 33) _ rfl w2.heap.size 9 i1 (.string ⟨#[]⟩) 16 underlying28 hi1 hz1 hz2 hz3 (by decide) _ _ ol (Strs o) rfl yk.out (.string eb) rfl rfl (by omega) (by decide) (by omega) ?_);intro v9 w9 jg Rg tR;have Lg:=h_ jg;clear jg;have ka:=h_ tR;clear tR)
      |fail)
     go_roundw
     case rel=>exact⟨k+1,o++[dq 4 p],by omega,by simp,by rw[nO.out,ae,<-IQ.out];exact Lg.out,HF.out,HBZ.out.trans ka.out⟩
     case measure=>simp[intOf];omega
  obtain rfl:k=n:=by omega
  obtain⟨h1,_,_⟩:=hinv.out;have hdr:ps.drop k=[]:=bB (by rw[<-HN.out];exact af _);rw[hdr]at h1;have HRR:=h_ (show R=o from h1.symm);clear h1 hdr hinv
  go_wp2_with fail
  go_ret;refine⟨_,rfl,?_,iK HB2.out HB.out⟩;rw[HRR.out,am];have h:=HO.out;rcases h.2 with⟨e1,e2⟩|⟨g,cap,cur,e1,e2,e3⟩
  ·exact⟨h.1,.inl ⟨e1,e2⟩⟩
  exact⟨h.1,.inr ⟨g,cap,cur,e1,ap HB2.out.size e2,e3⟩⟩

structure Tn (b:Nat) (w w':World):Prop where
 s:w.heap.size<=w'.heap.size
 k:∀ j,j<w.heap.size->j≠b->w'.heap[j]? = w.heap[j]?
section
variable {b:Nat} {w w' w2:World}
theorem Tn.refl(b:Nat)(w:World):Tn b w w:=⟨af _,fun _ _ _=>rfl⟩
theorem Tn.trans(h:Tn b w w')(k:Tn b w' w2):Tn b w w2:=⟨ap h.s k.s,fun j hj hn=>(k.k j (aQ hj h.s) hn).trans (h.k j hj hn)⟩
theorem Tn.of_below(h:Below w.heap.size w w'):Tn b w w':=⟨h.size,fun j hj _=>h.block j hj⟩
theorem Tn.below(h:Tn b w w')(k:Below w'.heap.size w' w2):Tn b w w2:=h.trans (Tn.of_below k)
theorem Tn.cb(h:Tn b w w'){g:Nat}{T:TypeId}{cs:Array Value}(i:CB w g T cs)(hn:g≠b):CB w' g T cs:=⟨(h.k g i.lt hn).trans i.a⟩
theorem Tn.row(h:Tn b w w'){base e n:Nat}{v:Value}{xs:List Value}(i:w.ownsRow base e 1 v n xs)(hb:b<base):w'.ownsRow base e 1 v n xs:=by
 refine⟨i.1,?_⟩;rcases i.2 with h0|⟨g,cap,cur,e1,hg,hh,hr⟩
 ·exact .inl h0
 exact .inr ⟨g,cap,cur,e1,hg,(h.k g (bQ.1 hh).1 (by omega)).trans hh,hr⟩
end
section
variable {P:Program} {ops:Array Oper} {rest:List Oper} {o:Oper} {a:Act} {w:World} {K:Act->World->Prop} {Q:Exit->Act->World->Prop}
theorem xR{w0:World}{b:Nat}{T:TypeId}{cs:Array Value}(i:OB w0 b T cs w)(k:Nat)(v:Value):Tn b w (w.setCell ⟨b,k,none⟩ v):=by
 rw[setCell_eq_setRow w b k cs T (0,0) v i.a];exact⟨by rw[setRow_size];exact af _,fun j _ hj=>setRow_other w b j _ hj⟩
theorem uj{w0:World}{b:Nat}{T:TypeId}:∀ (vs:List Value) (k:Nat) {cs:Array Value} {w:World},OB w0 b T cs w->Tn b w (w.setCells b k vs)
 | [],_,_,w,_=>Tn.refl b w
 |v::r,k,_,_,i=>(xR i k v).trans (uj r (k+1) (i.setCell k v))
theorem gL(ty:TypeId)(x y:Operand)(ho:o.op=.store ty x y)(w0:World)(b:Nat)(T:TypeId)(cs:Array Value)(i:OB w0 b T cs w)(k:Nat)(v:Value)(hx:a.eval x=.pointer (some ⟨b,k,none⟩))(hy:a.eval y=v)
  (hk:k<cs.size) (hi:(P.info? ty).map (·.size)=some 1) (h1:v.oneCell'=true) (cs':Array Value) (hc:cs.setIfInBounds k v=cs')
  (h:∀ w',OB w0 b T cs' w'->Tn b w w'->K (a.put o.dst undef) w'):Oper.wp P o a w K Q:=by
 unfold Oper.wp execOp;simp only[ho,hx,hy,Instr.storeAt,Instr.sureAddr,Sem.run_bind,Sem.run_pure,Result.andThen_ok,oZ w b k ty T cs v i.a hk hi h1];exact h _ (hc▸i.setCell k v) (xR i k v)
theorem lW(ty:TypeId)(x y:Operand)(ho:o.op=.store ty x y)(w0:World)(b:Nat)(T:TypeId)(cs:Array Value)(i:OB w0 b T cs w)(k:Nat)(vs:List Value)(hx:a.eval x=.pointer (some ⟨b,k,none⟩))(hy:a.eval y=.agg vs.toArray)
  (hk:k+vs.length<=cs.size) (hi:(P.info? ty).map (·.size)=some vs.length) (h1:∀ v∈vs,v.oneCell'=true) (cs':Array Value) (hc:uz cs k vs=cs')
  (h:∀ w',OB w0 b T cs' w'->Tn b w w'->K (a.put o.dst undef) w'):Oper.wp P o a w K Q :=
 wp_store_mid ty x y ho b k vs.toArray hx hy (i.there (by simpa using hk)) (by simpa using hi) (all_oneCell_toArray h1) (h _ (hc▸i.setCells vs k) (uj vs k i))
theorem ex(hgd:o.guard=none)(ty:TypeId)(x y:Operand)(ho:o.op=.store ty x y)(w0:World)(b:Nat)(T:TypeId)(cs:Array Value)(i:OB w0 b T cs w)(k:Nat)(v:Value)(hx:a.eval x=.pointer (some ⟨b,k,none⟩))(hy:a.eval y=v)
  (hk:k<cs.size) (hi:(P.info? ty).map (·.size)=some 1) (h1:v.oneCell'=true) (cs':Array Value) (hc:cs.setIfInBounds k v=cs')
  (h:∀ w',OB w0 b T cs' w'->Tn b w w'->wpList P ops Q rest (a.put o.dst undef) w'):wpList P ops Q (o::rest) a w :=
 wpList_plain hgd fun _ hK=>gL ty x y ho w0 b T cs i k v hx hy hk hi h1 cs' hc fun w' h1 h2=>hK _ _ (h w' h1 h2)
theorem t4(hgd:o.guard=none)(ty:TypeId)(x y:Operand)(ho:o.op=.store ty x y)(w0:World)(b:Nat)(T:TypeId)(cs:Array Value)(i:OB w0 b T cs w)(k:Nat)(vs:List Value)(hx:a.eval x=.pointer (some ⟨b,k,none⟩))(hy:a.eval y=.agg vs.toArray)
  (hk:k+vs.length<=cs.size) (hi:(P.info? ty).map (·.size)=some vs.length) (h1:∀ v∈vs,v.oneCell'=true) (cs':Array Value) (hc:uz cs k vs=cs')
  (h:∀ w',OB w0 b T cs' w'->Tn b w w'->wpList P ops Q rest (a.put o.dst undef) w'):wpList P ops Q (o::rest) a w :=
 wpList_plain hgd fun _ hK=>lW ty x y ho w0 b T cs i k vs hx hy hk hi h1 cs' hc fun w' h1 h2=>hK _ _ (h w' h1 h2)
end
theorem gy{pv:Value}{u:Url}{k:Nat}(h:u.host.six.length=8)(hk:k<23):k<(ai pv u).size:=by rw[jX h];exact hk
theorem Aa{pv:Value}{u:Url}{g:ie}(h:u.host.six.length=8)(hg:g.six.length=8):3+(aZ g).length<=(ai pv u).size:=by rw[jX h];simp[aZ,hg]
theorem xj(aH s:Bytes)(w:World)(hs:s.length<=307200000):Calls prog 135 #[.string (bs aH),.string (bs s)] w (gU w 9 (Strs (gE aH s))):=by
 have hsl:=fun W=>lY aH s W (by omega);have h1:=fun W=>gY aH s [] aR W Sl.nil hs (by simp) (by simp);have h2:=fun W=>gY aH (s.drop 1) [] aR W Sl.nil (by rw[ah];omega) (by simp) (by simp);have hle:=BG (eK aH) s;obtain⟨R,hR⟩:=az (gE aH s);rw[<-hR];unfold gE at hR;generalize bs aH=c at *;generalize ra (eK aH) s=k at *;obtain⟨t,ht⟩:=az (bs s);have hsz:t.size=s.length:=by rw[ht,aM]
 have hex:t.extract 1 t.size=bs (s.drop 1):=by rw[ht];exact jy s 1 _ (aM s)
 rw[<-ht]at hsl h1 ⊢;clear ht;obtain⟨N,hN⟩:=az (t.size);have Re:t.size=N:=hN.symm;rw[Re]at hex;obtain⟨u,hu⟩:=az (bs (s.drop 1));rw[<-hu]at hex h2;have HSL:=h_ hsl;by_cases hk:0<k
 ·rw[if_pos hk]at hR
  rw[<-hR]at h2;have H2:=h_ h2;have hki:(0:Int)<k:=by omega
  have hN1:1<=N:=by omega
  have V4:(1:Int)<=N:=by omega
  clear hsl h1 h2 hle hR hu hN hsz hs;go_enter func135,ntmps135
  go_wp2_with (first
   |(go_at_call 125;refine(HSL.out _).mono ?_;rintro e w2 ⟨rfl,hw⟩;subst hw)
   |(go_at_call 129;refine(H2.out _).mono ?_;rintro e w3 ⟨v,rfl,ho,hb⟩;have HO:=h_ ho;have HB:=h_ hb;clear ho hb)
   |fail)
  go_ret;exact⟨_,rfl,HO.out,HB.out⟩
 rw[if_neg hk]at hR;rw[<-hR]at h1;have H1:=h_ h1;have hki:¬ (0:Int)<k:=by omega
 clear hsl h1 h2 hle hR hu hN hsz hs hex;go_enter func135,ntmps135
 go_wp2_with (first
  |(go_at_call 125;refine(HSL.out _).mono ?_;rintro e w2 ⟨rfl,hw⟩;subst hw)
  |(go_at_call 129;refine(H1.out _).mono ?_;rintro e w3 ⟨v,rfl,ho,hb⟩;have HO:=h_ ho;have HB:=h_ hb;clear ho hb)
  |fail)
 go_ret;exact⟨_,rfl,HO.out,HB.out⟩

theorem nL(w0:World)(b:Nat)(pv Ci:Value)(u ub:Url)(w:World)(i:OB w0 b 30 (ai pv u) w)(h8:u.host.six.length=8)(b8:ub.host.six.length=8) :
  Calls prog 137 #[.pointer (some ⟨b,0,none⟩),.agg (ai Ci ub)] w fun e w'=>e=.returned (.tuple #[])∧OB w0 b 30 (ai pv (takeA u ub)) w'∧Tn b w w':=by
 have II:=h_ i;have H8:=h_ h8;have B8:=h_ b8;have UA:=h_ (uF Ci ub b8);have HI:=h_ (show(prog.info? 27).map (·.size)=some (aZ ub.host).length by rw[jQ];simp[aZ,b8]);clear h8 b8;go_enter func137,ntmps137
 go_upto_region 1 with fail
 have hx:=CB.new w 30 (ai Ci ub);have hb:=(Below.refl w.heap.size w).alloc (af _) (.cells (ai Ci ub) 30);have hne:w.heap.size≠b:=by have:=II.out.lt;omega
 obtain⟨w2,hw2⟩:=az (w.alloc (.cells (ai Ci ub) 30));rw[<-hw2]at hx hb ⊢;obtain⟨bx,hbx⟩:=az (w.heap.size);have HB:=h_ hb;rw[<-hbx]at hx hne ⊢;have HX:=h_ hx;clear hw2 hbx hx hb;have I0:=h_ ((II.out.below HB.out).below (bH (bz _)));have C0:=h_ (HX.out.keep (bH (bz _)));have T0:=h_ ((Tn.of_below (b:=b) HB.out).below (bH (bz _)));refine wp_region_held_drew (S:=fun W=>CB W bx 30 (ai Ci ub)) (by kernel_rfl) (by first|exact HX.out.keep (bH (bz _))|exact C5.out|exact C4.out|exact C3.out|exact C2.out|exact C1.out) (fun hHeld=>?_);refine tq 0 rfl ?_ (fun wS hSw=>?_) ?_;rotate_left
 ·(try dsimp only at hSw);go_simp;first|done|with_reducible rfl
 try simp only[Act.put,cE,cF,cG]
 refine tq 1 rfl ?_ (fun wS hSw=>?_) ?_;rotate_left
 ·(try dsimp only at hSw);go_simp;first|done|with_reducible rfl
 try simp only[Act.put,cE,cF,cG]
 refine tq 2 rfl ?_ (fun wS hSw=>?_) ?_;rotate_left
 ·(try dsimp only at hSw);go_simp;first|done|with_reducible rfl
 try simp only[Act.put,cE,cF,cG]
 refine tq 3 rfl ?_ (fun wS hSw=>?_) ?_;rotate_left
 ·(try dsimp only at hSw);go_simp;first|done|with_reducible rfl
 try simp only[Act.put,cE,cF,cG]
 refine tq 4 rfl ?_ (fun wS hSw=>?_) ?_;rotate_left
 ·(try dsimp only at hSw);go_simp;first|done|with_reducible rfl
 try simp only[Act.put,cE,cF,cG]
 refine tq 5 rfl ?_ (fun wS hSw=>?_) ?_;rotate_left
 ·(try dsimp only at hSw);go_simp;first|done|with_reducible rfl
 try simp only[Act.put,cE,cF,cG]
 refine tq 6 rfl ?_ (fun wS hSw=>?_) ?_;rotate_left
 ·(try dsimp only at hSw)
  refine bK 9 (.tmp 9) ?_ bx 1 (S ub.usr) _ underlying9 rfl ?_ ?_
  ·rfl
  ·rfl
  exact hSw.aF UA.out.usr
 try simp only[Act.put,cE,cF,cG]
 refine tq 7 rfl ?_ (fun wS hSw=>?_) ?_;rotate_left
 ·(try dsimp only at hSw);go_simp;first|done|with_reducible rfl
 try simp only[Act.put,cE,cF,cG]
 refine tq 8 rfl ?_ (fun wS hSw=>?_) ?_;rotate_left
 ·(try dsimp only at hSw)
  refine bK 9 (.tmp 11) ?_ bx 2 (S ub.fp) _ underlying9 rfl ?_ ?_
  ·rfl
  ·rfl
  exact hSw.aF UA.out.fp
 try simp only[Act.put,cE,cF,cG]
 refine tq 9 rfl ?_ (fun wS hSw=>?_) ?_;rotate_left
 ·(try dsimp only at hSw);go_simp;first|done|with_reducible rfl
 try simp only[Act.put,cE,cF,cG]
 refine tq 10 rfl ?_ (fun wS hSw=>?_) ?_;rotate_left
 ·(try dsimp only at hSw)
  refine iX 27 (.tmp 13) ?_ bx 3 (aZ ub.host) _ underlying27 rfl HI.out ?_ ?_
  ·rfl
  ·rfl
  exact hSw.range UA.out.host
 try simp only[Act.put,cE,cF,cG]
 refine tq 11 rfl ?_ (fun wS hSw=>?_) ?_;rotate_left
 ·(try dsimp only at hSw);go_simp;first|done|with_reducible rfl
 try simp only[Act.put,cE,cF,cG]
 refine tq 12 rfl ?_ (fun wS hSw=>?_) ?_;rotate_left
 ·(try dsimp only at hSw)
  refine bK 4 (.tmp 15) ?_ bx 14 (.bool ub.bq) _ underlying4 rfl ?_ ?_
  ·rfl
  ·rfl
  exact hSw.aF UA.out.bq
 try simp only[Act.put,cE,cF,cG]
 refine tq 13 rfl ?_ (fun wS hSw=>?_) ?_;rotate_left
 ·(try dsimp only at hSw);go_simp;first|done|with_reducible rfl
 try simp only[Act.put,cE,cF,cG]
 refine tq 14 rfl ?_ (fun wS hSw=>?_) ?_;rotate_left
 ·(try dsimp only at hSw)
  refine bK 3 (.tmp 17) ?_ bx 15 (.int .i64 ub.port) _ underlying3 rfl ?_ ?_
  ·rfl
  ·rfl
  exact hSw.aF UA.out.port
 try simp only[Act.put,cE,cF,cG]
 refine tq 15 rfl ?_ (fun wS hSw=>?_) ?_;rotate_left
 ·(try dsimp only at hSw);go_simp;first|done|with_reducible rfl
 try simp only[Act.put,cE,cF,cG]
 refine tq 16 rfl ?_ (fun wS hSw=>?_) ?_;rotate_left
 ·(try dsimp only at hSw);go_simp;first|done|with_reducible rfl
 try simp only[Act.put,cE,cF,cG]
 refine rn 17 (by kernel_rfl) rfl (by rfl) (fun K hK=>?_);refine gL 9 (.tmp 20) (.tmp 10) rfl w0 b 30 (ai pv u) I0.out 1 (S ub.usr) rfl rfl (gy H8.out (by decide)) bU.1 rfl (ai pv {u with usr:=ub.usr}) ((gw pv u H8.out).usr _) ?_;intro x1 i1 t1;have I1:=h_ i1;have C1:=h_ (t1.cb C0.out hne);have T1:=h_ (T0.out.trans t1);clear i1 t1;refine hK.out _ _ ?_ (fun hHeld=>?_)
 ·first|exact HX.out.keep (bH (bz _))|exact C5.out|exact C4.out|exact C3.out|exact C2.out|exact C1.out
 clear hK K
 try simp only[Act.put]
 refine tq 18 rfl ?_ (fun wS hSw=>?_) ?_;rotate_left
 ·(try dsimp only at hSw);go_simp;first|done|with_reducible rfl
 try simp only[Act.put,cE,cF,cG]
 refine tq 19 rfl ?_ (fun wS hSw=>?_) ?_;rotate_left
 ·(try dsimp only at hSw);go_simp;first|done|with_reducible rfl
 try simp only[Act.put,cE,cF,cG]
 refine rn 20 (by kernel_rfl) rfl (by rfl) (fun K hK=>?_);refine gL 9 (.tmp 22) (.tmp 12) rfl w0 b 30 (ai pv {u with usr:=ub.usr}) I1.out 2 (S ub.fp) rfl rfl (gy H8.out (by decide)) bU.1 rfl (ai pv {u with usr:=ub.usr,fp:=ub.fp}) ((gw pv {u with usr:=ub.usr} H8.out).fp _) ?_;intro x2 i1 t1;have I2:=h_ i1;have C2:=h_ (t1.cb C1.out hne);have T2:=h_ (T1.out.trans t1);clear i1 t1;refine hK.out _ _ ?_ (fun hHeld=>?_)
 ·first|exact HX.out.keep (bH (bz _))|exact C5.out|exact C4.out|exact C3.out|exact C2.out|exact C1.out
 clear hK K
 try simp only[Act.put]
 refine tq 21 rfl ?_ (fun wS hSw=>?_) ?_;rotate_left
 ·(try dsimp only at hSw);go_simp;first|done|with_reducible rfl
 try simp only[Act.put,cE,cF,cG]
 refine tq 22 rfl ?_ (fun wS hSw=>?_) ?_;rotate_left
 ·(try dsimp only at hSw);go_simp;first|done|with_reducible rfl
 try simp only[Act.put,cE,cF,cG]
 refine rn 23 (by kernel_rfl) rfl (by rfl) (fun K hK=>?_);refine lW 27 (.tmp 24) (.tmp 14) rfl w0 b 30 (ai pv {u with usr:=ub.usr,fp:=ub.fp}) I2.out 3 (aZ ub.host) rfl rfl (Aa H8.out B8.out) HI.out kM (ai pv {u with usr:=ub.usr,fp:=ub.fp,host:=ub.host}) (tC pv {u with usr:=ub.usr,fp:=ub.fp} ub.host B8.out H8.out) ?_;intro x3 i1 t1;have I3:=h_ i1;have C3:=h_ (t1.cb C2.out hne);have T3:=h_ (T2.out.trans t1);clear i1 t1;refine hK.out _ _ ?_ (fun hHeld=>?_)
 ·first|exact HX.out.keep (bH (bz _))|exact C5.out|exact C4.out|exact C3.out|exact C2.out|exact C1.out
 clear hK K
 try simp only[Act.put]
 refine tq 24 rfl ?_ (fun wS hSw=>?_) ?_;rotate_left
 ·(try dsimp only at hSw);go_simp;first|done|with_reducible rfl
 try simp only[Act.put,cE,cF,cG]
 refine tq 25 rfl ?_ (fun wS hSw=>?_) ?_;rotate_left
 ·(try dsimp only at hSw);go_simp;first|done|with_reducible rfl
 try simp only[Act.put,cE,cF,cG]
 refine rn 26 (by kernel_rfl) rfl (by rfl) (fun K hK=>?_);refine gL 4 (.tmp 26) (.tmp 16) rfl w0 b 30 (ai pv {u with usr:=ub.usr,fp:=ub.fp,host:=ub.host}) I3.out 14 (.bool ub.bq) rfl rfl (gy B8.out (by decide)) bU.2.2 rfl (ai pv {u with usr:=ub.usr,fp:=ub.fp,host:=ub.host,bq:=ub.bq}) ((gw pv {u with usr:=ub.usr,fp:=ub.fp,host:=ub.host} B8.out).bq _) ?_;intro x4 i1 t1;have I4:=h_ i1;have C4:=h_ (t1.cb C3.out hne);have T4:=h_ (T3.out.trans t1);clear i1 t1;refine hK.out _ _ ?_ (fun hHeld=>?_)
 ·first|exact HX.out.keep (bH (bz _))|exact C5.out|exact C4.out|exact C3.out|exact C2.out|exact C1.out
 clear hK K
 try simp only[Act.put]
 refine tq 27 rfl ?_ (fun wS hSw=>?_) ?_;rotate_left
 ·(try dsimp only at hSw);go_simp;first|done|with_reducible rfl
 try simp only[Act.put,cE,cF,cG]
 refine tq 28 rfl ?_ (fun wS hSw=>?_) ?_;rotate_left
 ·(try dsimp only at hSw);go_simp;first|done|with_reducible rfl
 try simp only[Act.put,cE,cF,cG]
 refine rn 29 (by kernel_rfl) rfl (by rfl) (fun K hK=>?_);refine gL 3 (.tmp 28) (.tmp 18) rfl w0 b 30 (ai pv {u with usr:=ub.usr,fp:=ub.fp,host:=ub.host,bq:=ub.bq}) I4.out 15 (.int .i64 ub.port) rfl rfl (gy B8.out (by decide)) bU.2.1 rfl (ai pv (takeA u ub)) ((gw pv {u with usr:=ub.usr,fp:=ub.fp,host:=ub.host,bq:=ub.bq} B8.out).port _) ?_;intro x5 i1 t1;have I5:=h_ i1;have C5:=h_ (t1.cb C4.out hne);have T5:=h_ (T4.out.trans t1);clear i1 t1;refine hK.out _ _ ?_ (fun hHeld=>?_)
 ·first|exact HX.out.keep (bH (bz _))|exact C5.out|exact C4.out|exact C3.out|exact C2.out|exact C1.out
 clear hK K
 try simp only[Act.put]
 refine wpAnyH_done (by kernel_rfl) ?_ _
 go_wp2_with fail
 go_end0
 exact⟨rfl,I5.out,T5.out⟩

theorem dP:(prog.info? 28).map (·.size)=some 1:=by kernel_rfl
theorem bm{w:World}{base e n:Nat}{v:Value}{xs:List Value}(h:w.ownsRow base e 1 v n xs):v.oneCell'=true:=by
 obtain⟨a,c,rfl⟩:=eS h;rfl
theorem sd(w0:World)(b:Nat)(pv Ci:Value)(u ub:Url)(w:World)(i:OB w0 b 30 (ai pv u) w)(h8:u.host.six.length=8)(b8:ub.host.six.length=8)(hp:Sl w.heap.size w Ci (ub.path.map S))(hl:ub.path.length<=1024000000) :
  Calls prog 130 #[.pointer (some ⟨b,0,none⟩),.agg (ai Ci ub)] w fun e w'=>e=.returned (.tuple #[])∧∃ pv',OB w0 b 30 (ai pv' (gv u ub)) w'∧w'.ownsRow w.heap.size 9 1 pv' ub.path.length (Strs ub.path)∧Tn b w w':=by
 have II:=h_ i;have H8:=h_ h8;have UA:=h_ (uF Ci ub b8);have HP:=h_ hp;have HL:=h_ hl;obtain⟨tp,htp⟩:=az (gv u ub);rw[<-htp];unfold gv at htp;have UU:=h_ (uF pv u h8);clear h8 b8 hp hl i;go_enter func130,ntmps130
 go_upto_region 1 with fail
 have hx:=CB.new w 30 (ai Ci ub);have hb:=(Below.refl w.heap.size w).alloc (af _) (.cells (ai Ci ub) 30);have hne:w.heap.size≠b:=by have:=II.out.lt;omega
 have hbw:b<w.heap.size:=II.out.lt;obtain⟨w2,hw2⟩:=az (w.alloc (.cells (ai Ci ub) 30));rw[<-hw2]at hx hb ⊢;obtain⟨bx,hbx⟩:=az (w.heap.size);have HB:=h_ hb;rw[<-hbx]at hx hne ⊢;have HX:=h_ hx;have qg:=h_ hbx;clear hw2 hbx hx hb;have c18:=HX.out.aF UA.out.path;have I2:=h_ (II.out.below HB.out);have hq:u.bS=true∨u.bS=false:=by cases u.bS <;>simp
 obtain⟨qv,Ur⟩:=az (u.bS)
 go_upto_region 2 with(first
  |(go_at_call 30;refine(je ub.path Ci _ ((HP.out.below HB.out).more HB.out.size) HL.out).mono ?_;rintro e w3 ⟨v3,rfl,ho,hb⟩;have R3:=h_ (show w3.ownsRow w.heap.size 9 1 v3 ub.path.length (Strs ub.path) by have ho2:=ho;rw[am]at ho2;rcases ho2.2 with h|⟨g,cap,cur,e1,e2,e3⟩;exact⟨ho2.1,.inl h⟩;exact⟨ho2.1,.inr ⟨g,cap,cur,e1,ap HB.out.size e2,e3⟩⟩);have I3:=h_ (I2.out.below hb);have C2:=h_ (HX.out.keep hb);have T3:=h_ ((Tn.of_below (b:=b) HB.out).below hb);clear ho hb)
  |(refine ex rfl 28 (.tmp 9) (.tmp 7) rfl w0 b 30 (ai pv u) I3.out 18 v3 rfl rfl (gy H8.out (by decide)) dP (bm R3.out) (ai v3 {u with path:=ub.path}) ((gw pv u H8.out).path _ _) ?_;intro w4 i1 t1;have I34:=h_ i1;have C3:=h_ (t1.cb C2.out hne);have T34:=h_ (T3.out.trans t1);have R34:=h_ (t1.row R3.out hbw);clear i1 t1)
  |fail)
 clear c18;have UV:=h_ (uF v3 {u with path:=ub.path} H8.out);have c19:=I34.out.aF UV.out.bS;cases hqq:u.bS with
 |true =>
  rw[if_pos hqq]at htp;have HTP:=h_ htp;replace c19:w4.cell? ⟨b,19,none⟩=some (.bool true):=by rw[c19,<-hqq]
  clear htp hq Ur hqq
  go_wp2_with fail
  go_end0
  exact⟨rfl,_,(by rw[HTP.out];exact I34.out),R34.out,T34.out⟩
 |false =>
  rw[if_neg (by simp[hqq])]at htp;have HTP:=h_ htp;replace c19:w4.cell? ⟨b,19,none⟩=some (.bool false):=by rw[c19,<-hqq]
  clear htp hq Ur hqq
  go_upto_region 3 with fail
  have I4:=h_ (I34.out.below (bH (bz _)));have C4:=h_ (C3.out.keep (bH (bz _)));have T4:=h_ (T34.out.below (bH (bz _)));have R4:=h_ (own_below R34.out (bH (bz _)));clear c19;refine wp_region_held_drew (S:=fun W=>CB W bx 30 (ai Ci ub)) (by kernel_rfl) (by first|exact C3.out.keep (bH (bz _))|exact C6.out|exact C5.out) (fun hHeld=>?_);refine tq 0 rfl ?_ (fun wS hSw=>?_) ?_;rotate_left
  ·(try dsimp only at hSw);go_simp;first|done|with_reducible rfl
  try simp only[Act.put,cE,cF,cG]
  refine tq 1 rfl ?_ (fun wS hSw=>?_) ?_;rotate_left
  ·(try dsimp only at hSw);go_simp;first|done|with_reducible rfl
  try simp only[Act.put,cE,cF,cG]
  refine tq 2 rfl ?_ (fun wS hSw=>?_) ?_;rotate_left
  ·(try dsimp only at hSw);go_simp;first|done|with_reducible rfl
  try simp only[Act.put,cE,cF,cG]
  refine tq 3 rfl ?_ (fun wS hSw=>?_) ?_;rotate_left
  ·(try dsimp only at hSw)
   refine bK 4 (.tmp 17) ?_ bx 19 (.bool ub.bS) _ underlying4 rfl ?_ ?_
   ·rfl
   ·rfl
   exact hSw.aF UA.out.bS
  try simp only[Act.put,cE,cF,cG]
  refine tq 4 rfl ?_ (fun wS hSw=>?_) ?_;rotate_left
  ·(try dsimp only at hSw);go_simp;first|done|with_reducible rfl
  try simp only[Act.put,cE,cF,cG]
  refine tq 5 rfl ?_ (fun wS hSw=>?_) ?_;rotate_left
  ·(try dsimp only at hSw)
   refine bK 9 (.tmp 19) ?_ bx 20 (S ub.q) _ underlying9 rfl ?_ ?_
   ·rfl
   ·rfl
   exact hSw.aF UA.out.q
  try simp only[Act.put,cE,cF,cG]
  refine tq 6 rfl ?_ (fun wS hSw=>?_) ?_;rotate_left
  ·(try dsimp only at hSw);go_simp;first|done|with_reducible rfl
  try simp only[Act.put,cE,cF,cG]
  refine tq 7 rfl ?_ (fun wS hSw=>?_) ?_;rotate_left
  ·(try dsimp only at hSw);go_simp;first|done|with_reducible rfl
  try simp only[Act.put,cE,cF,cG]
  refine rn 8 (by kernel_rfl) rfl (by rfl) (fun K hK=>?_);refine gL 4 (.tmp 22) (.tmp 18) rfl w0 b 30 (ai v3 {u with path:=ub.path}) I4.out 19 (.bool ub.bS) rfl rfl (gy H8.out (by decide)) bU.2.2 rfl (ai v3 {u with path:=ub.path,bS:=ub.bS}) ((gw v3 {u with path:=ub.path} H8.out).bS _) ?_;intro x5 i1 t1;have I5:=h_ i1;have C5:=h_ (t1.cb C4.out hne);have T5:=h_ (T4.out.trans t1);have R5:=h_ (t1.row R4.out hbw);clear i1 t1;refine hK.out _ _ ?_ (fun hHeld=>?_)
  ·first|exact C3.out.keep (bH (bz _))|exact C6.out|exact C5.out
  clear hK K
  try simp only[Act.put]
  refine tq 9 rfl ?_ (fun wS hSw=>?_) ?_;rotate_left
  ·(try dsimp only at hSw);go_simp;first|done|with_reducible rfl
  try simp only[Act.put,cE,cF,cG]
  refine tq 10 rfl ?_ (fun wS hSw=>?_) ?_;rotate_left
  ·(try dsimp only at hSw);go_simp;first|done|with_reducible rfl
  try simp only[Act.put,cE,cF,cG]
  refine rn 11 (by kernel_rfl) rfl (by rfl) (fun K hK=>?_);refine gL 9 (.tmp 24) (.tmp 20) rfl w0 b 30 (ai v3 {u with path:=ub.path,bS:=ub.bS}) I5.out 20 (S ub.q) rfl rfl (gy H8.out (by decide)) bU.1 rfl (ai v3 {u with path:=ub.path,bS:=ub.bS,q:=ub.q}) ((gw v3 {u with path:=ub.path,bS:=ub.bS} H8.out).q _) ?_;intro x6 i1 t1;have I6:=h_ i1;have C6:=h_ (t1.cb C5.out hne);have T6:=h_ (T5.out.trans t1);have R6:=h_ (t1.row R5.out hbw);clear i1 t1;refine hK.out _ _ ?_ (fun hHeld=>?_)
  ·first|exact C3.out.keep (bH (bz _))|exact C6.out|exact C5.out
  clear hK K
  try simp only[Act.put]
  refine wpAnyH_done (by kernel_rfl) ?_ _
  go_wp2_with fail
  go_end0
  exact⟨rfl,_,(by rw[HTP.out];exact I6.out),R6.out,T6.out⟩

structure Fk (J:Nat->Prop) (w w':World):Prop where
 os:w'.os=w.os
 tape:w'.tape=w.tape
 output:w'.output=w.output
 s:w.heap.size<=w'.heap.size
 k:∀ j,j<w.heap.size->¬ J j->w'.heap[j]? = w.heap[j]?
section
variable {J K:Nat->Prop} {w w' w2:World}
theorem Fk.refl(J:Nat->Prop)(w:World):Fk J w w:=⟨rfl,rfl,rfl,af _,fun _ _ _=>rfl⟩
theorem Fk.trans(h:Fk J w w')(k:Fk J w' w2):Fk J w w2:=⟨k.os.trans h.os,k.tape.trans h.tape,k.output.trans h.output,ap h.s k.s,fun j hj hn=>(k.k j (aQ hj h.s) hn).trans (h.k j hj hn)⟩
theorem Fk.more(h:Fk J w w')(hk:∀ j,J j->K j):Fk K w w':=⟨h.os,h.tape,h.output,h.s,fun j hj hn=>h.k j hj fun hJ=>hn (hk j hJ)⟩
theorem Fk.of_below(h:Below w.heap.size w w'):Fk J w w':=⟨h.os,h.tape,h.output,h.size,fun j hj _=>h.block j hj⟩
theorem Fk.below{B:Nat}{w0:World}(h:Fk J w w')(b:Below B w0 w)(hB:∀ j,J j->B<=j)(hs:B<=w.heap.size):Below B w0 w' :=
 b.trans ⟨h.os,h.tape,h.output,h.s,fun j hj=>h.k j (aQ hj hs) fun hJ=>absurd (hB j hJ) (Nat.not_le_of_lt hj)⟩
theorem Fk.cb(h:Fk J w w'){g:Nat}{T:TypeId}{cs:Array Value}(i:CB w g T cs)(hn:¬ J g):CB w' g T cs:=⟨(h.k g i.lt hn).trans i.a⟩
theorem CB.set{b:Nat}{T:TypeId}{cs:Array Value}(i:CB w b T cs)(k:Nat)(v:Value):CB (w.setCell ⟨b,k,none⟩ v) b T (cs.setIfInBounds k v):=by
 rw[setCell_eq_setRow w b k cs T (0,0) v i.a];exact⟨setRow_heap w b _ _ _ _ i.a⟩
theorem Fk.set{b:Nat}{T:TypeId}{cs:Array Value}(i:CB w b T cs)(k:Nat)(v:Value)(hb:J b):Fk J w (w.setCell ⟨b,k,none⟩ v):=by
 rw[setCell_eq_setRow w b k cs T (0,0) v i.a];exact⟨rfl,rfl,rfl,by rw[setRow_size];exact af _,fun j _ hj=>setRow_other w b j _ (fun e=>hj (e▸hb))⟩
theorem CB.wy{b:Nat}{T:TypeId}{cs:Array Value}(i:CB w b T cs)(k:Nat):w.frozen? ⟨b,k,none⟩=false:=by simp[World.frozen?,i.a]
end
def FI(o:Option Nat)(s:Bool)(W:World):Prop:=∀ b,o=some b->CB W b 4 #[.bool s]
def OJ(o:Option Nat)(j:Nat):Prop:=o=some j
theorem FI.fr{o:Option Nat}{s:Bool}{J:Nat->Prop}{w w':World}(h:FI o s w)(f:Fk J w w')(hn:∀ b,o=some b->¬ J b):FI o s w':=fun b e=>f.cb (h b e) (hn b e)
structure Cj (g:Nat) (lb:Array Value) (o:Option Nat) (p nx:Bool->UInt8->Bool):Prop where
 eg:∀ (args:Array Value) (w:World),(callFunc g args).run prog w=.ok (.enter g args) w
 go:∀ (s:Bool) (c:UInt8) (W:World),FI o s W->Calls prog g (#[.int .u8 (b2 c)]++lb) W fun e w'=>e=.returned (.bool (p s c))∧FI o (nx s c) w'∧Fk (OJ o) W w'
def oy(p nx:Bool->UInt8->Bool):Bool->Bytes->Nat
 |_,[]=>0
 |s,c::r=>if p s c=true then oy p nx (nx s c) r+1 else 0
theorem Jg(p nx:Bool->UInt8->Bool):∀ (l:Bytes) (s:Bool),oy p nx s l<=l.length
 | [],_=>af _
 |c::r,s=>by
  rw[oy,ag]
  split
  ·have:=Jg p nx r (nx s c);omega
  exact aK _
theorem Vo(p nx:Bool->UInt8->Bool)(s:Bool){l:Bytes}{j:Nat}(h:j<l.length):oy p nx s (l.drop j)=if p s l[j]=true then oy p nx (nx s l[j]) (l.drop (j+1))+1 else 0:=by
 rw[aq h,oy]
theorem Ph(p nx:Bool->UInt8->Bool)(s:Bool){l:Bytes}{j:Nat}(h:l.length<=j):oy p nx s (l.drop j)=0:=by
 rw[bB h];rfl
def SkJ(A:Nat)(o:Option Nat)(j:Nat):Prop:=j=A∨o=some j
theorem r8{g:Nat}{lb:Array Value}{o:Option Nat}{p nx:Bool->UInt8->Bool}(hk:Cj g lb o p nx)(l:Bytes)(k A B:Nat)(s0:Bool)(w:World)(hl:l.length<=1024000000)(hkl:k<=l.length)
  (cA:CB w A 3 #[.int .i64 k]) (cB:CB w B 9 #[.string (bs l)]) (hi:FI o s0 w) (hoA:o≠some A) (hoB:o≠some B) (QN:B≠A) :
  Calls prog 35 #[.func (.func g) #[] lb,.pointer (some ⟨A,0,none⟩),.pointer (some ⟨B,0,none⟩)] w fun e w' =>
   e=.returned (S ((l.drop k).take (oy p nx s0 (l.drop k))))∧CB w' A 3 #[.int .i64 ((k+oy p nx s0 (l.drop k):Nat):Int)]∧CB w' B 9 #[.string (bs l)]∧Fk (SkJ A o) w w':=by
 have hM:=Jg p nx (l.drop k) s0;rw[ah]at hM;obtain⟨M,hMe⟩:=az (oy p nx s0 (l.drop k));rw[<-hMe]at hM ⊢;obtain⟨t,ht⟩:=az (bs l);have hsz:t.size=l.length:=by rw[ht,aM]
 have hby:∀ j (hj:j<t.size) (hj2:j<l.length),((t[j]'hj).toNat:Int)=b2 l[j]:=fun j hj hj2=>cJ ht hj hj2;have hex:t.extract k (k+M)=bs ((l.drop k).take M):=by rw[ht,bX];congr 2;omega
 rw[<-ht]at cB ⊢;clear ht;obtain⟨N,hN⟩:=az (t.size);have Re:t.size=N:=hN.symm;have p7:N<=1024000000:=by omega
 have hkN:k<=N:=by omega
 have hMN:k+M<=N:=by omega
 have Ob:=h_ hex;clear hex;have fL:=h_ hsz;clear hsz hl hkl hN hM;have kd:=h_ hby;clear hby;have HME:=h_ hMe;clear hMe;have HK:=h_ hk;have eg:=hk.eg;clear hk;have HI:=h_ hi;clear hi;have Lh:=h_ hoA;clear hoA;have Zi:=h_ hoB;clear hoB;have XM:=h_ cA;have HCB:=h_ cB;have c1:=cA.aF (j:=0) (v:=.int .i64 k) rfl;have c2:=cB.aF (j:=0) (v:=.string t) rfl;clear cA cB;go_enter func35,ntmps35
 go_wp2_with fail
 clear c1 c2
 go_loopg [] (N+1) (fun gf wr=>∃ (j:Nat) (s:Bool),k<=j∧j<=N∧N-j<gf∧Hid (M=j-k+oy p nx s (l.drop j))∧Hid (CB wr A 3 #[.int .i64 j])∧Hid (CB wr B 9 #[.string t])∧Hid (FI o s wr)∧Hid (Fk (SkJ A o) w wr))
 case atStart=>exact⟨k,s0,af _,hkN,by omega,by rw[gR,bC];exact HME.out,XM.out,HCB.out,HI.out,Fk.refl _ _⟩
 case round =>
  obtain⟨j,s,hkj,hjN,hf,hm,hA,hB,hI,hF⟩:=hrel;obtain⟨g',rfl⟩:∃ g',gk=g'+1:=⟨gk-1,by omega⟩;have c1:=hA.out.aF (j:=0) (v:=.int .i64 j) rfl;have c2:=hB.out.aF (j:=0) (v:=.string t) rfl;by_cases hlt:j<N
  ·have hju:j<t.size:=by omega
   have hjl:j<l.length:=by have:=fL.out;omega
   have hx:=kd.out j hju hjl;have hst:=Vo p nx s hjl;have cS:=HK.out.go s l[j] wr hI.out;have Mq:(j:Int)<(N:Int):=by omega
   generalize l[j]=c at hx hst cS;obtain⟨X,hX⟩:=az (b2 c);rw[<-hX]at hx cS;clear hX;cases hp:p s c with
   |true =>
    rw[hp]at cS;rw[if_pos hp]at hst;have hm2:M=j+1-k+oy p nx (nx s c) (l.drop (j+1)):=by have:=hm.out;omega
    have XX:=h_ hm2;clear hst hm hm2 hp;have sw:=h_ (show ¬OJ o A from Lh.out);have HBN:=h_ (show ¬OJ o B from Zi.out);have HAB:=h_ QN
    go_wp2_with (first
     |(go_at_fn g;refine cS.mono ?_;rintro e w2 ⟨rfl,hi2,hf2⟩;have HI2:=h_ hi2;have OH:=h_ hf2;have HA2:=h_ (hf2.cb hA.out sw.out);have HB2:=h_ (hf2.cb hB.out HBN.out);have c3:=HA2.out.aF (j:=0) (v:=.int .i64 j) rfl;have f3:=HA2.out.wy 0;clear hi2 hf2)
     |fail)
    go_roundg g'
    case measure=>omega
    case rel =>
     have hN2:¬ SkJ A o B:=fun h=>h.elim HAB.out Zi.out;exact⟨j+1,nx s c,by omega,by omega,by omega,XX.out,h_ (by simpa using HA2.out.set 0 (.int .i64 ((j+1:Nat):Int))),(Fk.set (J:=fun x=>x=A) HA2.out 0 _ rfl).cb HB2.out HAB.out,(HI2.out.fr (Fk.set (J:=fun x=>x=A) HA2.out 0 _ rfl) (fun b e hb=>Lh.out (hb▸e))),(hF.out.trans (OH.out.more fun x hx=>.inr hx)).trans (Fk.set HA2.out 0 _ (.inl rfl))⟩
   |false =>
    rw[hp]at cS;rw[if_neg (by rw[hp];simp)]at hst;have hm2:k+M=j:=by have:=hm.out;omega
    clear hst hm hp;have sw:=h_ (show ¬OJ o A from Lh.out);have HBN:=h_ (show ¬OJ o B from Zi.out);have XX:=h_ hm2;have OG:=h_ (show t.extract k j=bs ((l.drop k).take M) by rw[<-hm2];exact Ob.out);clear hm2;have qL:=OG.out
    go_wp2_with (first
     |(go_at_fn g;refine cS.mono ?_;rintro e w2 ⟨rfl,hi2,hf2⟩;have HI2:=h_ hi2;have OH:=h_ hf2;have HA2:=h_ (hf2.cb hA.out sw.out);have HB2:=h_ (hf2.cb hB.out HBN.out);have c3:=HA2.out.aF (j:=0) (v:=.int .i64 j) rfl;have c4:=HB2.out.aF (j:=0) (v:=.string t) rfl;clear hi2 hf2)
     |fail)
    go_ret;exact⟨by rfl,by rw[XX.out];exact HA2.out,HB2.out,hF.out.trans (OH.out.more fun x hx=>.inr hx)⟩
  obtain rfl:j=N:=by omega
  have hm2:k+M=j:=by
   have:=hm.out;rw[Ph p nx s (by have:=fL.out;omega)]at this;omega
  have qL:t.extract k j=bs ((l.drop k).take M):=by rw[<-hm2];exact Ob.out
  have XX:=h_ hm2;clear hm hm2
  go_wp2_with fail
  go_ret;exact⟨by rfl,by rw[XX.out];exact hA.out,hB.out,hF.out⟩
end Go.Proofs.YtmndlfglgcioeaaGreatDoor
