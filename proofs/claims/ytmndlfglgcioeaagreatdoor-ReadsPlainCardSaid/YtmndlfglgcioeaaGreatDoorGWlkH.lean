/- WlkH WlkI WlkJ WlkK WlkL WlkM SkpA: joined. -/
import Derived.WalkSmall
import Derived.Test.YtmndlfglgcioeaaGreatDoorGAthH
import Derived.Test.YtmndlfglgcioeaaGreatDoorShelf2
import Derived.Test.YtmndlfglgcioeaaGreatDoorGHlwA
import Derived.Test.YtmndlfglgcioeaaGreatDoorGReg
set_option maxHeartbeats 40000000
namespace Go.Proofs.YtmndlfglgcioeaaGreatDoor
open Tryz
open Go.RowKit
set_option maxRecDepth 10000
theorem qN {l:List Bytes} {j:Nat} (hj:j<l.length):(l.map bs).getD j ByteArray.empty=bs l[j]:=by simp[List.getD,hj]
theorem fX (l:List Bytes) (v:Value) (w:World) (h:Sl w.heap.size w v (l.map S)) (hl:l.length<=1024000000):Calls prog 30 #[v] w (fd w 9 (Strs l)):=by
 obtain⟨c,h1,h2,h⟩:=h
 rcases h with⟨hn,a,rfl⟩|⟨b,o,hb,rfl,ha⟩
 ·obtain rfl:l=[]:=by simpa using hn
  cases a with
  |none =>
   refine(Any.slices_Clone_string_nil laysClone 0 c w).mono ?_
   rintro e w' ⟨rfl,rfl⟩
   exact⟨_,rfl,World.ownsRow_nil _ _ _ _,Below.refl _ _⟩
  |some a =>
   refine(Any.slices_Clone_string_zero laysClone a c w).mono ?_
   rintro e w' ⟨v',rfl,h1,_,h3⟩
   exact⟨_,rfl,h1,h3⟩
 refine(Any.slices_Clone_string laysClone b o (l.map S).length c (l.map bs) w (by simp) (by simp;omega) (fun j hj=>by
  rw[aj]at hj
  rw[ha j (by simpa using hj),qN hj,bQ])).mono ?_
 rintro e w' ⟨v',rfl,h1,_,h3⟩
 refine⟨_,rfl,?_,h3⟩
 have e1:((l.map bs).take (l.map S).length).map Value.string=Strs l:=by
  rw[aI (by simp),nF]
  rfl
 rw[e1,aj]at h1
 rw[aj]
 exact h1
theorem Gv (l m:List Bytes) (v u:Value) (w:World) {B C:Nat} (h:Sl B w v (l.map S)) (k:Sl C w u (m.map S)) (hl:l.length<=1024000000) (hm:m.length<=1024000000):Calls prog 43 #[v,u] w fun e w'=>e=.returned (.bool (decide (l=m)))∧Below w.heap.size w w':=by
 obtain⟨c,h1,h2,h⟩:=h
 obtain⟨d,k1,k2,k⟩:=k
 rcases h with⟨hn,a,rfl⟩|⟨b,o,hb,rfl,ha⟩
 ·obtain rfl:l=[]:=by simpa using hn
  have hu:∃ a2,u=.slice a2 m.length d:=by
   rcases k with⟨hn,a2,rfl⟩|⟨b2,o2,hb,rfl,ha⟩
   ·obtain rfl:m=[]:=by simpa using hn
    exact⟨a2,rfl⟩
   exact⟨_,by rw[aj]⟩
  obtain⟨a2,rfl⟩:=hu
  refine(Any.slices_Equal_string_empty laysEqS a a2 c m.length d w (by omega)).mono ?_
  rintro e w' ⟨rfl,rfl⟩
  refine⟨?_,Below.refl _ _⟩
  have:decide (m.length=0)=decide (([]:List Bytes)=m):=by
   rw[decide_eq_decide,dE]
   exact eq_comm
  rw[this]
 rcases k with⟨hn,a2,rfl⟩|⟨b2,o2,hb2,rfl,ha2⟩
 ·obtain rfl:m=[]:=by simpa using hn
  by_cases h0:l=[]
  ·subst h0
   refine(Any.slices_Equal_string_empty laysEqS (some ⟨b,o,none⟩) a2 c 0 d w (by omega)).mono ?_
   rintro e w' ⟨rfl,rfl⟩
   exact⟨rfl,Below.refl _ _⟩
  have hpos:0<l.length:=fG.mpr h0
  rw[aj,decide_eq_false h0]
  obtain⟨n,hn⟩:=ap (l.length)
  rw[<-hn]at hpos hl ⊢
  have hne:((n:Int) != 0)=true:=by
   have:(n:Int)≠0:=by omega
   simpa using this
  clear hn h0 ha h1
  go_enter func43,ntmps43
  go_wp2_with fail
  go_ret
  exact⟨rfl,Below.refl _ _⟩
 refine(Any.slices_Equal_string laysEqS b o (l.map S).length c b2 o2 (m.map S).length d (l.map bs) (m.map bs) w (by simp) (by simp) (by simp;omega) (by simp;omega) (fun j hj=>by
  rw[aj]at hj
  rw[ha j (by simpa using hj),qN hj,bQ]) (fun j hj=>by
  rw[aj]at hj
  rw[ha2 j (by simpa using hj),qN hj,bQ])).mono ?_
 rintro e w' ⟨rfl,q,rfl⟩
 refine⟨?_,ma (aG _)⟩
 have inj:∀ l m:List Bytes,l.map bs=m.map bs->l=m:=by
  intro l
  induction l with
  |nil=>intro m h;cases m with|nil=>rfl|cons _ _=>cases h
  |cons x r ih =>
   intro m h
   cases m with
   |nil=>cases h
   |cons y s =>
    injection h with h1 h2
    rw[UE h1,ih s h2]
 have:decide ((l.map bs).take (l.map S).length=(m.map bs).take (m.map S).length)=decide (l=m):=by
  rw[aI (by simp),aI (by simp),decide_eq_decide]
  exact⟨inj l m,fun h=>by rw[h]⟩
 rw[this]
theorem qL {aC:Bytes} {p:List Bytes} {k:Nat} (h:p.length=k+2):bU aC p=p.take (k+1):=by
 match p,h with
 |a::b::r,h =>
  show(a::b::r).dropLast=_
  rw[kN,h]
  rfl
theorem qK (aC x:Bytes):bU aC [x]=if aC=aR∧iF x=true then [x]else []:=rfl
theorem M2 {w:World} {base e g n cap:Nat} {o:List Bytes} (h:w.ownsRow base e 1 (.slice (some ⟨g,0,none⟩) n cap) n (Strs o)) {j:Nat} (hj:j<o.length):w.cell? ⟨g,j,none⟩=some (.string (bs o[j])):=by
 have:=h.cells (g:=g) rfl j (.string (bs o[j])) (by simp[hj])
 rw[addr_add,bk]at this
 exact this
theorem Wz (aC:Bytes) (o:List Bytes) (v:Value) (base:Nat) (w:World) (hown:w.ownsRow base 9 1 v o.length (Strs o)) (hl:o.length<=1024000000) (hx:∀ x∈o,x.length<=1024000000) :
  Calls prog 163 #[.string (bs aC),v] w fun e w'=>(∃v',e=.returned v'∧w.ownsRow base 9 1 v' (bU aC o).length (Strs (bU aC o)))∧w'=w:=by
 obtain⟨i1,hi1,hz1,hz2,hz3⟩:=info_parts kF
 have hfe:=qG aC [102,105,108,101]
 rw[au,au]at hfe
 obtain⟨c,hc⟩:=ap (bs aC)
 have pi:(c.toList == [102,105,108,101])=decide (aC=[102,105,108,101]):=by rw[hc,au];exact hfe
 rw[<-hc]
 clear hc hfe
 rcases hown.2 with⟨rfl,hn⟩|⟨g,cap,cur,rfl,hg,hh,hnc,hcm,hsz,htk⟩
 ·obtain rfl:o=[]:=am hn
  have HO:=h_ hown
  clear hown hn pi
  go_enter func163,ntmps163
  go_wp2_with fail
  go_ret
  exact⟨⟨_,rfl,HO.out⟩,rfl⟩
 clear hh hsz htk hg
 match o,hown,hl,hx,hnc with
 | [],hown,hl,hx,hnc =>
  have HO:=h_ hown
  clear hown pi
  simp only[aQ]
  go_enter func163,ntmps163
  go_wp2_with fail
  go_ret
  exact⟨⟨_,rfl,HO.out⟩,rfl⟩
 | [x],hown,hl,hx,hnc =>
  have hso:=qK aC x
  have kc:∀ W,(Instr.sliceAt 28 (.slice (some ⟨g,0,none⟩) 1 cap) none (some (.int .i64 0)) none).run prog W=.ok (.slice (some ⟨g,0,none⟩) 0 cap) W:=fun W=>jx underlying28 hi1 g 0 1 cap 0 (by omega) W
  have hcell:=M2 hown (j:=0) (by simp)
  have GM:w.ownsRow base 9 1 (.slice (some ⟨g,0,none⟩) 0 cap) 0 []:=ownsRow_pop (xs:=[]) (last:=Strs [x]) (n:=0) rfl hown
  have hnm:=fun W=>ow x W (hx x (by simp))
  obtain⟨R,hR⟩:=ap (bU aC [x])
  rw[<-hR]at hso ⊢
  simp only[uG]at hcell
  obtain⟨xx,kL⟩:=ap (bs x)
  rw[<-kL]at hcell hnm
  have HO:=h_ hown
  have HP:=h_ GM
  have lS:=h_ hnm
  simp only[ag,aQ,bk]
  have hw0:IntKind.i64.wrap ((1:Int)-1)=0:=rfl
  clear hown GM hnm kL hR
  by_cases hf:aC=[102,105,108,101]
  ·rw[decide_eq_true hf]at pi
   cases hq:iF x with
   |true =>
    rw[hq]at lS
    rw[if_pos ⟨hf,hq⟩]at hso
    have HS:=h_ hso
    clear hso hf hq
    go_enter func163,ntmps163
    go_wp2_with (first|(go_at_call 127;refine(lS.out _).mono ?_;rintro e w2 ⟨rfl,hw⟩;subst hw)|fail)
    go_ret
    exact⟨⟨_,rfl,by rw[HS.out];exact HO.out⟩,rfl⟩
   |false =>
    rw[hq]at lS
    rw[if_neg (by simp[hq])]at hso
    have HS:=h_ hso
    clear hso hf hq
    go_enter func163,ntmps163
    go_wp2_with (first|(go_at_call 127;refine(lS.out _).mono ?_;rintro e w2 ⟨rfl,hw⟩;subst hw)|fail)
    go_ret
    exact⟨⟨_,rfl,by rw[HS.out];exact HP.out⟩,rfl⟩
  rw[decide_eq_false hf]at pi
  rw[if_neg (fun h=>hf h.1)]at hso
  have HS:=h_ hso
  clear hso hf
  go_enter func163,ntmps163
  go_wp2_with fail
  go_ret
  exact⟨⟨_,rfl,by rw[HS.out];exact HP.out⟩,rfl⟩
 |x::y::r,hown,hl,hx,hnc =>
  obtain⟨k,hk⟩:∃ k,(x::y::r).length=k+2:=⟨r.length,by simp⟩
  have hso:=qL (aC:=aC) hk
  have hst:Strs (x::y::r)=Strs ((x::y::r).take (k+1))++(Strs (x::y::r)).drop (k+1):=by
   have e:Strs ((x::y::r).take (k+1))=(Strs (x::y::r)).take (k+1):=a1c
   rw[e,cT]
  have htl:((x::y::r).take (k+1)).length=k+1:=by rw[aA,hk];omega
  rw[hst]at hown
  rw[hk]at hown hnc hl ⊢
  have GM:w.ownsRow base 9 1 (.slice (some ⟨g,0,none⟩) (k+1) cap) (k+1) (Strs ((x::y::r).take (k+1))):=ownsRow_pop (by rw[aj,htl];omega) hown
  have hsl:bU aC (x::y::r)=(x::y::r).take (k+1):=hso
  rw[hsl,htl]
  generalize Strs ((x::y::r).take (k+1))=Z at *
  have kc:∀ W,(Instr.sliceAt 28 (.slice (some ⟨g,0,none⟩) (k+2) cap) none (some (.int .i64 ((k+1:Nat):Int))) none).run prog W=.ok (.slice (some ⟨g,0,none⟩) (k+1) cap) W:=fun W=>jx underlying28 hi1 g 0 (k+2) cap (k+1) (by omega) W
  obtain⟨K,hK⟩:=ap (k+1)
  obtain⟨N,hN⟩:=ap (k+2)
  rw[<-hK,<-hN]at kc
  rw[<-hK]at GM
  rw[<-hN,<-hK]
  have hw0:IntKind.i64.wrap ((N:Int)-1)=(K:Int):=by rw[show(N:Int)-1=(K:Int) by omega];exact IntWalk.i64_in _ (by omega)
  have h0:((N:Int)==0)=false:=by
   have:(N:Int)≠0:=by omega
   simpa using this
  have h1:((N:Int)==1)=false:=by
   have:(N:Int)≠1:=by omega
   simpa using this
  have HP:=h_ GM
  clear GM hown hk hso hst htl hsl hK hN hnc hx
  obtain⟨b,hb⟩:=ap (decide (aC=[102,105,108,101]))
  rw[<-hb]at pi
  clear hb
  cases b <;>
  ·go_enter func163,ntmps163
   go_wp2_with fail
   go_ret
   exact⟨⟨_,rfl,HP.out⟩,rfl⟩

theorem F6 {ops:Array Oper} {rest:List Oper} {o:Oper} {a:Act} {Q:Exit->Act->World->Prop} {w:World} (hgd:o.guard=none) (s x:Operand)
  (ho:o.op=.call {callee:=.builtin .append,args:=#[s,x],argTypes:=#[28,28]}) (hs:a.eval s=.slice none 0 0)
  (ad:Addr) (m c:Nat) (l:List Bytes) (hx:a.eval x=.slice (some ad) m c) (hl:l.length=m) (hm:m<=1024000000) (hc:∀ j (hj:j<l.length),w.cell? (ad.add j)=some (.string (bs l[j])))
  (h:∀ v' w',w'.ownsRow w.heap.size 9 1 v' m (Strs l)->Below w.heap.size w w'->wpList prog ops Q rest (a.put o.dst v') w'):wpList prog ops Q (o::rest) a w:=by
 obtain⟨i1,hi1,hz1,hz2,hz3⟩:=info_parts kF
 refine wpList_append_own _ hgd s x 28 ho w.heap.size 9 i1 (.string ⟨#[]⟩) 1 16 underlying28 hi1 hz1 hz2 hz3 (by decide) (by decide) (.slice none 0 0) 0 [] hs (World.ownsRow_nil _ _ _ _) ad m c (Strs l) hx ?_ ?_ ?_ ?_ ?_ (ae _) ?_
 ·rw[aj,hl];omega
 ·intro j u hj
  have hjl:j<l.length:=by
   have:=(be.1 hj).1
   simpa using this
  rw[hc j hjl]
  rw[er,az hjl]at hj
  exact hj
 ·intro u hu
  obtain⟨y,_,rfl⟩:=kj.1 hu
  rfl
 ·unfold maxLen;omega
 ·omega
 intro v' w' ho' hg _
 refine h v' w' ?_ ⟨hg.os,hg.tape,hg.output,hg.size,fun k hk=>hg.block k hk (by simp[Value.ownBlock])⟩
 simpa using ho'
theorem Ij {P:Program} {t e:TypeId} {i:TypeInfo} (ht:P.underlying t=some (.slice e)) (hi:P.info? e=some i) (ad:Addr) (n c:Nat) :
  ∃ad2,∀W,(Instr.sliceAt t (.slice (some ad) n c) none (some (.int .i64 0)) none).run P W=.ok (.slice (some ad2) 0 c) W:=by
 have he:P.elem t=e:=by simp[Program.elem,ht]
 have ht':P.underlying t=some (.slice (P.elem t)):=by rw[he];exact ht
 by_cases hc:c=0
 ·refine⟨ad,fun W=>?_⟩
  have:=run_slice_h W t (some ad) n c ht' .i64 0 (by omega) (by omega)
  rw[run_sliceAt_slice W t _ _ _ _ ht',this]
  simp[sizeOf,typeInfo,he,hi,sliced,hc]
 refine⟨ad.add 0,fun W=>?_⟩
 have:=run_slice_h W t (some ad) n c ht' .i64 0 (by omega) (by omega)
 rw[run_sliceAt_slice W t _ _ _ _ ht',this]
 simp[sizeOf,typeInfo,he,hi,sliced,hc]
theorem rm (aC:Bytes) (p:List Bytes) (v:Value) (w:World) (h:Sl w.heap.size w v (p.map S)) (hl:p.length<=1024000000) (hx:∀ x∈p,x.length<=1024000000) :
  Calls prog 131 #[.string (bs aC),v] w (fd w 9 (Strs (bU aC p))):=by
 obtain⟨i1,hi1,hz1,hz2,hz3⟩:=info_parts kF
 have hfe:=qG aC [102,105,108,101]
 rw[au,au]at hfe
 obtain⟨c,hc⟩:=ap (bs aC)
 have pi:(c.toList == [102,105,108,101])=decide (aC=[102,105,108,101]):=by rw[hc,au];exact hfe
 rw[<-hc]
 clear hc hfe
 obtain⟨cap,h1,h2,h⟩:=h
 rcases h with⟨hn,a,rfl⟩|⟨b,o,hb,rfl,ha⟩
 ·obtain rfl:p=[]:=by simpa using hn
  clear pi hx hl
  cases a with
  |none =>
   go_enter func131,ntmps131
   go_wp2_with fail
   go_ret
   exact⟨_,rfl,World.ownsRow_nil _ _ _ _,Below.refl _ _⟩
  |some ad =>
   obtain⟨ad2,kc⟩:=Ij (P:=prog) underlying28 hi1 ad 0 cap
   go_enter func131,ntmps131
   go_wp2_with (first
    |(at_builtin;refine F6 rfl (.const (.slice none 0 0)) (.tmp 29) rfl rfl ad2 0 cap [] rfl rfl (by omega) (fun j hj=>absurd hj (bE j)) ?_;intro v2 w2 hown2 hb2;have eO:=h_ hown2;clear hown2;have HB2:=h_ hb2;clear hb2)
    |fail)
   go_ret
   exact⟨_,rfl,eO.out,HB2.out⟩
 rw[aj]at *
 have hce:∀ j (hj:j<p.length),w.cell? ⟨b,o+j,none⟩=some (.string (bs p[j])):=fun j hj=>by
  rw[ha j (by simpa using hj),bQ]
 clear ha
 match p,hl,hx,hce,h1 with
 | [],hl,hx,hce,h1 =>
  have kc:=fun W=>jx (P:=prog) underlying28 hi1 b o 0 cap 0 (by omega) W
  clear hce hx pi
  simp only[aQ]
  go_enter func131,ntmps131
  go_wp2_with (first
   |(at_builtin;refine F6 rfl (.const (.slice none 0 0)) (.tmp 29) rfl rfl ⟨b,o,none⟩ 0 cap [] rfl rfl (by omega) (fun j hj=>absurd hj (bE j)) ?_;intro v2 w2 hown2 hb2;have eO:=h_ hown2;clear hown2;have HB2:=h_ hb2;clear hb2)
   |fail)
  go_ret
  exact⟨_,rfl,eO.out,HB2.out⟩
 | [x],hl,hx,hce,h1 =>
  have hso:=qK aC x
  have kc:∀ W,(Instr.sliceAt 28 (.slice (some ⟨b,o,none⟩) 1 cap) none (some (.int .i64 0)) none).run prog W=.ok (.slice (some ⟨b,o,none⟩) 0 cap) W:=fun W=>jx underlying28 hi1 b o 1 cap 0 (by omega) W
  have kc1:∀ W,(Instr.sliceAt 28 (.slice (some ⟨b,o,none⟩) 1 cap) none (some (.int .i64 1)) none).run prog W=.ok (.slice (some ⟨b,o,none⟩) 1 cap) W:=fun W=>jx underlying28 hi1 b o 1 cap 1 h1 W
  have hcell:=hce 0 (by simp)
  rw[d8]at hcell
  have hnm:=fun W=>ow x W (hx x (by simp))
  obtain⟨R,hR⟩:=ap (bU aC [x])
  rw[<-hR]at hso ⊢
  simp only[uG]at hcell
  have HCE:=h_ (show ∀j (hj:j < [x].length),w.cell? ((⟨b,o,none⟩:Addr).add j)=some (.string (bs [x][j]))from fun j hj=>by rw[addr_add];exact hce j hj)
  obtain⟨xx,kL⟩:=ap (bs x)
  rw[<-kL]at hcell hnm
  have lS:=h_ hnm
  simp only[ag,aQ,bk]
  have hw0:IntKind.i64.wrap ((1:Int)-1)=0:=rfl
  clear hnm kL hR hce hx
  by_cases hf:aC=[102,105,108,101]
  ·rw[decide_eq_true hf]at pi
   cases hq:iF x with
   |true =>
    rw[hq]at lS
    rw[if_pos ⟨hf,hq⟩]at hso
    have HS:=h_ hso
    clear hso hf hq
    go_enter func131,ntmps131
    go_wp2_with (first
     |(go_at_call 127;refine(lS.out _).mono ?_;rintro e w2 ⟨rfl,hw⟩;subst hw)
     |(at_builtin;refine F6 rfl (.const (.slice none 0 0)) (.tmp 29) rfl rfl ⟨b,o,none⟩ 1 cap [x] rfl rfl (by omega) HCE.out ?_;intro v2 w3 hown2 hb2;have eO:=h_ hown2;clear hown2;have HB2:=h_ hb2;clear hb2)
     |fail)
    go_ret
    exact⟨_,rfl,by rw[HS.out];exact eO.out,HB2.out⟩
   |false =>
    rw[hq]at lS
    rw[if_neg (by simp[hq])]at hso
    have HS:=h_ hso
    clear hso hf hq
    go_enter func131,ntmps131
    go_wp2_with (first
     |(go_at_call 127;refine(lS.out _).mono ?_;rintro e w2 ⟨rfl,hw⟩;subst hw)
     |(at_builtin;refine F6 rfl (.const (.slice none 0 0)) (.tmp 29) rfl rfl ⟨b,o,none⟩ 0 cap [] rfl rfl (by omega) (fun j hj=>absurd hj (bE j)) ?_;intro v2 w3 hown2 hb2;have eO:=h_ hown2;clear hown2;have HB2:=h_ hb2;clear hb2)
     |fail)
    go_ret
    exact⟨_,rfl,by rw[HS.out];exact eO.out,HB2.out⟩
  rw[decide_eq_false hf]at pi
  rw[if_neg (fun h=>hf h.1)]at hso
  have HS:=h_ hso
  clear hso hf
  go_enter func131,ntmps131
  go_wp2_with (first
   |(at_builtin;refine F6 rfl (.const (.slice none 0 0)) (.tmp 29) rfl rfl ⟨b,o,none⟩ 0 cap [] rfl rfl (by omega) (fun j hj=>absurd hj (bE j)) ?_;intro v2 w3 hown2 hb2;have eO:=h_ hown2;clear hown2;have HB2:=h_ hb2;clear hb2)
   |fail)
  go_ret
  exact⟨_,rfl,by rw[HS.out];exact eO.out,HB2.out⟩
 |x::y::r,hl,hx,hce,h1 =>
  obtain⟨k,hk⟩:∃ k,(x::y::r).length=k+2:=⟨r.length,by simp⟩
  have hsl:bU aC (x::y::r)=(x::y::r).take (k+1):=qL (aC:=aC) hk
  have htl:((x::y::r).take (k+1)).length=k+1:=by rw[aA,hk];omega
  have HCE:=h_ (show ∀j (hj:j<((x::y::r).take (k+1)).length),w.cell? ((⟨b,o,none⟩:Addr).add j)=some (.string (bs ((x::y::r).take (k+1))[j]))from fun j hj=>by
   rw[addr_add,hce j (by rw[htl]at hj;omega),IM])
  rw[hsl]
  rw[hk]at h1 hl ⊢
  have hkm:k+1<=1024000000:=by omega
  generalize (x::y::r).take (k+1)=Z at *
  have kc:∀ W,(Instr.sliceAt 28 (.slice (some ⟨b,o,none⟩) (k+2) cap) none (some (.int .i64 ((k+1:Nat):Int))) none).run prog W=.ok (.slice (some ⟨b,o,none⟩) (k+1) cap) W:=fun W=>jx underlying28 hi1 b o (k+2) cap (k+1) (by omega) W
  obtain⟨K,hK⟩:=ap (k+1)
  obtain⟨N,hN⟩:=ap (k+2)
  rw[<-hK,<-hN]at kc
  rw[<-hK]at htl hkm
  rw[<-hN]
  have hw0:IntKind.i64.wrap ((N:Int)-1)=(K:Int):=by rw[show(N:Int)-1=(K:Int) by omega];exact IntWalk.i64_in _ (by omega)
  have h0:(0:Int)<N:=by omega
  have h1':((N:Int)==1)=false:=by
   have:(N:Int)≠1:=by omega
   simpa using this
  have yT:=h_ htl
  clear hk hsl htl hK hN hx hce
  obtain⟨d,hd⟩:=ap (decide (aC=[102,105,108,101]))
  rw[<-hd]at pi
  clear hd
  cases d <;>
  ·go_enter func131,ntmps131
   go_wp2_with (first
    |(at_builtin;refine F6 rfl (.const (.slice none 0 0)) (.tmp 29) rfl rfl ⟨b,o,none⟩ K cap Z rfl yT.out hkm HCE.out ?_;intro v2 w3 hown2 hb2;have eO:=h_ hown2;clear hown2;have HB2:=h_ hb2;clear hb2)
    |fail)
   go_ret
   exact⟨_,rfl,by rw[aj,yT.out];exact eO.out,HB2.out⟩

theorem Dy (aC:Bytes) (o:List Bytes) (p:Bytes) (r:List Bytes):ju aC o (p::r)=ju aC (jL aC o p (decide (r=[]))) r:=by
 cases r with
 |nil=>rfl
 |cons q t=>rfl
theorem Ny {aC:Bytes} {o ps:List Bytes} {k:Nat} (h:k<ps.length):ju aC o (ps.drop k)=ju aC (jL aC o ps[k] (decide (k+1=ps.length))) (ps.drop (k+1)):=by
 rw[ay h,Dy]
 have:decide (ps.drop (k+1)=[])=decide (k+1=ps.length):=by
  rw[decide_eq_decide,List.drop_eq_nil_iff]
  omega
 rw[this]
theorem qJ (aC:Bytes) (p:List Bytes):(bU aC p).length<=p.length:=by
 match p with
 | []=>exact ae _
 | [x] =>
  rw[qK]
  split <;>simp
 |a::b::r =>
  rw[qL (k:=r.length) (by simp),aA]
  omega
theorem wF {sp:Bool}:∀ {s p:Bytes},p∈fI sp s->p.length<=s.length
 | [],p,h=>by
  have:p=[]:=by simpa[fI]using h
  rw[this];exact ae _
 |c::t,p,h=>by
  rw[fI]at h
  have ih:=fun q (hq:q∈fI sp t)=>wF hq
  split at h
  ·rcases aN.mp h with rfl|h
   ·simp
   have:=ih p h
   rw[ag];omega
  split at h
  ·have:p=[c]:=by simpa using h
   rw[this];simp
  next q qs he =>
  rw[he]at ih
  rcases aN.mp h with rfl|h
  ·have:=ih q (by simp)
   simp only[ag];omega
  have:=ih p (by simp[h])
  rw[ag];omega
theorem fp (aC s:Bytes) (path:List Bytes) (pv:Value) (w:World) (h:Sl w.heap.size w pv (path.map S)) (hs:s.length<=307200000) (hl:path.length<=307200000) (hx:∀ x∈path,x.length<=1024000000) :
  Calls prog 129 #[.string (bs aC),pv,.string (bs s)] w (fd w 9 (Strs (cL aC path s))):=by
 obtain⟨i1,hi1,hz1,hz2,hz3⟩:=info_parts kF
 have hsp:=fun W=>fq aC W
 have hss:=fun W=>DH s (ep aC) W (by omega)
 have hup:=fun(o:List Bytes) v base W (hown:World.ownsRow W base 9 1 v o.length (Strs o)) h1 h2=>Wz aC o v base W hown h1 h2
 have hfe:=qG aC [102,105,108,101]
 rw[au,au]at hfe
 obtain⟨c,hc⟩:=ap (bs aC)
 have pi:(c.toList == [102,105,108,101])=decide (aC=[102,105,108,101]):=by rw[hc,au];exact hfe
 rw[<-hc]at hsp hup ⊢
 clear hc hfe
 obtain⟨R,hR⟩:=ap (cL aC path s)
 rw[<-hR]
 unfold cL at hR
 have hpl:=fun p (hp:p∈fI (ep aC) s)=>wF hp
 have hsl:=Av (ep aC) s
 generalize ep aC=sp at *
 obtain⟨ps,hps⟩:=ap (fI sp s)
 rw[<-hps]at hss hR hpl hsl
 clear hps
 obtain⟨t,ht⟩:=ap (bs s)
 rw[<-ht]at hss ⊢
 clear ht
 obtain⟨n,hn⟩:=ap (ps.length)
 have hnm:n<=307200001:=by omega
 have gF:=h_ hsp;clear hsp
 have Jn:=h_ hss;clear hss
 have yC:=h_ hup;clear hup
 have HR:=h_ hR;clear hR
 have WO:=h_ (show ∀p∈ps,p.length<=307200000 from fun p hp=>aq (hpl p hp) hs)
 have HN:=h_ hn
 have HH:=h_ h
 have HX:=h_ hx
 have HLP:=h_ hl
 clear hpl hsl hs h hx hl hn
 go_enter func129,ntmps129
 go_upto_region 3 with(first
  |(go_at_call 96;refine(gF.out _).mono ?_;rintro e w1 ⟨rfl,hw⟩;subst hw)
  |(go_at_call 161;refine(Jn.out _).mono ?_;rintro e w2 ⟨v2,rfl,ho,hb⟩;have HO:=h_ ho;have HB2:=h_ hb;clear ho hb)
  |(go_at_call 30;refine(fX path pv _ ((HH.out.below HB2.out).more HB2.out.size) (by have:=HLP.out;omega)).mono ?_;rintro e w3 ⟨v3,rfl,ho,hb⟩;have lB:=h_ ho;have HB3:=h_ hb;clear ho hb)
  |fail)
 have hps:=Sl.bL HO.out
 obtain⟨a2,c2,hv2⟩:=dS HO.out
 subst hv2
 rw[aj,<-HN.out]at hps ⊢
 have HPS:=h_ hps
 have HB:=h_ HB3.out
 clear HO hps Jn
 go_wp2_with fail
 go_loopw [8,20] (fun ov iv wr=>∃ (k:Nat) (o:List Bytes),k<=n∧iv=.int .i64 k∧Hid (wr.ownsRow w2.heap.size 9 1 ov o.length (Strs o))∧Hid (ju aC o (ps.drop k)=R∧o.length<=307200000+k∧∀ x∈o,x.length<=1024000000)∧Hid (Below w2.heap.size w2 wr)) (fun _ i _=>n-(intOf i).toNat)
 case atStart=>exact⟨0,path,by omega,by simp,by have:=lB.out;rw[aj]at this;exact this,⟨HR.out.symm,by have:=HLP.out;omega,HX.out⟩,HB.out⟩
 case round =>
  clear lB HB3 HB
  obtain⟨k,o,hk,rfl,HO,hinv,HB⟩:=hrel
  obtain⟨ov,oc,hov⟩:=dS HO.out
  subst hov
  by_cases hlt:k<n
  ·have hkl:k<ps.length:=by rw[<-HN.out];exact hlt
   obtain⟨b2,o2,rfl,hb2,hcell⟩:=nc (HPS.out.below HB.out) k hkl
   obtain⟨hst,hol,hox⟩:=hinv.out
   rw[Ny hkl,<-HN.out]at hst
   have hpl:=WO.out _ (bJ hkl)
   have EL:=fun W=>KP ps[k] W (by omega)
   have PW:=fun W=>EE ps[k] W (by omega)
   have PX:=fun W=>mU ps[k] W (by omega)
   have henc:=fun W=>eo 4 ps[k] W (by omega)
   have LG:=fB 4 ps[k]
   obtain⟨p,hp⟩:=ap (ps[k])
   rw[<-hp]at hst hcell EL PW PX henc hpl LG
   clear hp hinv
   have hwz:w2.heap.size<=wr.heap.size:=HB.out.size
   obtain⟨M,hM⟩:∃ M,n=M+1:=⟨n-1,by omega⟩
   have hwM:IntKind.i64.wrap ((n:Int)-1)=(M:Int):=by rw[show(n:Int)-1=(M:Int) by omega];exact IntWalk.i64_in _ (by omega)
   obtain⟨la,hla⟩:=ap (decide (k+1=n))
   have hlb:((k:Int)==(M:Int))=la:=by
    rw[hla,cg,beq_iff_eq,decide_eq_true_eq]
    omega
   rw[<-hla]at hst
   obtain⟨pb,hpb⟩:=ap (bs p)
   replace hcell:World.cell? _ _=some (.string (bs p)):=hcell
   rw[<-hpb]at hcell EL PW PX henc
   have hsg:jL aC o p la=if ip p=true then(if la=true then bU aC o++[[]]else bU aC o)else if jr p=true then(if la=true then o++[[]]else o)else if aC=[102,105,108,101]∧o=[]∧dp p=true then o++[p.take 1++[58]]else o++[df 4 p]:=rfl
   have r9:=h_ (show ∀o',o'=jL aC o p la->o'.length<=o.length+1->(∀x∈o',x.length<=1024000000)->(ju aC o' (ps.drop (k+1))=R∧o'.length<=307200000+(k+1)∧∀ x∈o',x.length<=1024000000)from fun o' h1 h2 h3=>⟨by rw[h1];exact hst,by omega,h3⟩)
   have hos:∀ x∈bU aC o,x.length<=1024000000:=fun x hx=>hox x (jb hx)
   have GL:=qJ aC o
   have kJ:=h_ hsg
   have WN:=h_ hox
   have HOS:=h_ hos
   have HOL:=h_ hol
   have DW:=h_ EL
   have Ry:=h_ PW
   have HDV:=h_ PX
   have xf:=h_ henc
   have HPB:=h_ hpb
   have TG:=h_ LG
   have a2w:=h_ hpl
   have a4i:o.length<=614400001:=by omega
   obtain⟨ol,hole⟩:=ap (o.length)
   have hown:=HO.out
   rw[<-hole]at hown a4i ⊢
   have uJ:=h_ hown
   have DY:=h_ hole
   have hwk:IntKind.i64.wrap ((k:Int)+1)=((k+1:Nat):Int):=by rw[show(k:Int)+1=((k+1:Nat):Int) by omega];exact IntWalk.i64_in _ (by omega)
   have hE:(bs []:ByteArray)=⟨#[]⟩:=rfl
   clear hM hole hst hox hol hla hpb hsg hos EL PW PX henc LG hpl hown HO HH HX HLP WO
   cases VA:ip p with
   |true =>
    rw[VA]at DW kJ
    have ZG:(bU aC o).length<=ol:=by rw[DY.out];exact GL
    obtain⟨sl,hsl⟩:=ap ((bU aC o).length)
    rw[<-hsl]at ZG
    cases la with
    |true =>
     have HS:=h_ (show bU aC o++[[]]=jL aC o p true by rw[kJ.out];rfl)
     have HSL:=h_ hsl
     have HF:=h_ (r9.out _ HS.out (by rw[af,<-HSL.out,<-DY.out];simp;omega) (fun x hx=>by
      rcases bl.mp hx with hx|hx
      ·exact HOS.out x hx
      rw[da.mp hx];simp))
     have lC:=h_ (gV (bU aC o) [])
     clear VA hsl GL
     go_wp2_with (first
      |(go_at_call 162;refine(DW.out _).mono ?_;rintro e x1 ⟨rfl,hb⟩;have eO:=h_ (own_below uJ.out hb);have uD:=h_ (HB.out.trans (hb.mono hwz));have CK:=hb.size;clear hb)
      |(go_at_call 163;refine(yC.out o _ w2.heap.size _ (by rw[<-DY.out];exact eO.out) (by rw[<-DY.out];omega) WN.out).mono ?_;rintro e x2 ⟨⟨v4,rfl,ho⟩,hw⟩;subst hw;have ho2:=ho;rw[<-HSL.out]at ho2;have Bf:=h_ ho2;obtain⟨a4,c4,hv4⟩:=dS ho2;subst hv4;clear ho ho2)
      |(at_builtin;(refine ez rfl (.tmp 42) (.tmp 43) _ rfl w2.heap.size 9 i1 (.string ⟨#[]⟩) 16 underlying28 hi1 hz1 hz2 hz3 (by decide) _ _ sl (Strs (bU aC o)) rfl Bf.out (.string ⟨#[]⟩) rfl rfl (by omega) (by decide) (by omega) ?_);intro v9 w9 fZ LR qZ;have FN:=h_ fZ;clear fZ;have hH:=h_ qZ;clear qZ)
      |fail)
     go_roundw
     case rel=>exact⟨k+1,bU aC o++[[]],by omega,by simp,by rw[lC.out,af,<-HSL.out];exact FN.out,HF.out,uD.out.trans hH.out⟩
     case measure=>simp[intOf];omega
    |false =>
     have HS:=h_ (show bU aC o=jL aC o p false by rw[kJ.out];rfl)
     have HSL:=h_ hsl
     have HF:=h_ (r9.out _ HS.out (by rw[<-HSL.out,<-DY.out];omega) HOS.out)
     clear VA hsl GL
     go_wp2_with (first
      |(go_at_call 162;refine(DW.out _).mono ?_;rintro e x1 ⟨rfl,hb⟩;have eO:=h_ (own_below uJ.out hb);have uD:=h_ (HB.out.trans (hb.mono hwz));have CK:=hb.size;clear hb)
      |(go_at_call 163;refine(yC.out o _ w2.heap.size _ (by rw[<-DY.out];exact eO.out) (by rw[<-DY.out];omega) WN.out).mono ?_;rintro e x2 ⟨⟨v4,rfl,ho⟩,hw⟩;subst hw;have ho2:=ho;rw[<-HSL.out]at ho2;have Bf:=h_ ho2;obtain⟨a4,c4,hv4⟩:=dS ho2;subst hv4;clear ho ho2)
      |fail)
     go_roundw
     case rel=>exact⟨k+1,bU aC o,by omega,by simp,by rw[<-HSL.out];exact Bf.out,HF.out,uD.out⟩
     case measure=>simp[intOf];omega
   |false =>
    rw[VA]at DW kJ
    cases ZN:jr p with
    |true =>
     rw[ZN]at Ry kJ
     cases la with
     |true =>
      have HS:=h_ (show o++[[]]=jL aC o p true by rw[kJ.out];rfl)
      have HF:=h_ (r9.out _ HS.out (by rw[af];simp) (fun x hx=>by
       rcases bl.mp hx with hx|hx
       ·exact WN.out x hx
       rw[da.mp hx];simp))
      have lC:=h_ (gV o [])
      clear VA ZN GL
      go_wp2_with (first
       |(go_at_call 162;refine(DW.out _).mono ?_;rintro e x1 ⟨rfl,hb⟩;have eO:=h_ (own_below uJ.out hb);have uD:=h_ (HB.out.trans (hb.mono hwz));have CK:=hb.size;clear hb)
       |(go_at_call 164;refine(Ry.out _).mono ?_;rintro e y1 ⟨rfl,hb⟩;have lB:=h_ (own_below eO.out hb);have fF:=h_ (uD.out.trans (hb.mono uD.out.size));have LZ:=hb.size;clear hb)
       |(at_builtin;(refine ez rfl (.tmp 49) (.tmp 50) _ rfl w2.heap.size 9 i1 (.string ⟨#[]⟩) 16 underlying28 hi1 hz1 hz2 hz3 (by decide) _ _ ol (Strs o) rfl lB.out (.string ⟨#[]⟩) rfl rfl (by omega) (by decide) (by omega) ?_);intro v9 w9 fZ LR qZ;have FN:=h_ fZ;clear fZ;have hH:=h_ qZ;clear qZ)
       |fail)
      go_roundw
      case rel=>exact⟨k+1,o++[[]],by omega,by simp,by rw[lC.out,af,<-DY.out];exact FN.out,HF.out,fF.out.trans hH.out⟩
      case measure=>simp[intOf];omega
     |false =>
      have HS:=h_ (show o=jL aC o p false by rw[kJ.out];rfl)
      have HF:=h_ (r9.out _ HS.out (by omega) WN.out)
      clear VA ZN GL
      go_wp2_with (first
       |(go_at_call 162;refine(DW.out _).mono ?_;rintro e x1 ⟨rfl,hb⟩;have eO:=h_ (own_below uJ.out hb);have uD:=h_ (HB.out.trans (hb.mono hwz));have CK:=hb.size;clear hb)
       |(go_at_call 164;refine(Ry.out _).mono ?_;rintro e y1 ⟨rfl,hb⟩;have lB:=h_ (own_below eO.out hb);have fF:=h_ (uD.out.trans (hb.mono uD.out.size));have LZ:=hb.size;clear hb)
       |fail)
      go_roundw
      case rel=>exact⟨k+1,o,by omega,by simp,by rw[<-DY.out];exact lB.out,HF.out,fF.out⟩
      case measure=>simp[intOf];omega
    |false =>
     rw[ZN]at Ry kJ
     have hsd:jL aC o p la=if aC=[102,105,108,101]∧o=[]∧dp p=true then o++[p.take 1++[58]]else o++[df 4 p]:=kJ.out
     have Y0:dp p=true->p.length=2:=fun h=>by
      by_cases hq:p.length=2
      ·exact hq
      rw[(oY hq).1]at h;cases h
     have vG:(o=[]) ↔ ol=0:=by rw[DY.out];exact dE.symm
     clear kJ VA ZN GL
     have henc:¬ (aC=[102,105,108,101]∧o=[]∧dp p=true)->(ju aC (o++[df 4 p]) (ps.drop (k+1))=R∧(o++[df 4 p]).length<=307200000+(k+1)∧∀ x∈o++[df 4 p],x.length<=1024000000):=fun hno=>by
      rw[if_neg hno]at hsd
      refine r9.out _ hsd.symm (by rw[af];simp) (fun x hx=>?_)
      rcases bl.mp hx with hx|hx
      ·exact WN.out x hx
      rw[da.mp hx]
      have:=TG.out
      have:=a2w.out
      omega
     have lC:=h_ (gV o (df 4 p))
     obtain⟨eb,heb⟩:=ap (bs (df 4 p))
     rw[<-heb]at lC
     replace xf:=h_ (show ∀W,Calls prog 132 #[.string pb,.int .i64 4] W fun e w'=>e=.returned (.string eb)∧Below W.heap.size W w' from by rw[heb];exact xf.out)
     have Be:=h_ henc
     clear henc heb
     by_cases hf:aC=[102,105,108,101]
     ·rw[decide_eq_true hf]at pi
      by_cases ho0:ol=0
      ·cases Ot:dp p with
       |true =>
        have hp2:=Y0 Ot
        rw[Ot]at HDV
        have hex:pb.extract 0 1=bs (p.take 1):=by rw[HPB.out];exact ql p 1
        obtain⟨d1,hd1⟩:=ap (bs (p.take 1))
        rw[<-hd1]at hex
        have hpz:pb.size=2:=by rw[HPB.out,aB,hp2]
        have hdz:d1.size=1:=by rw[hd1,aB,aA,hp2];rfl
        obtain⟨d2,hd2⟩:=ap (bs (p.take 1++[58]))
        have hap:d1++(⟨#[58]⟩:ByteArray)=d2:=by rw[hd1,hd2,show(⟨#[58]⟩:ByteArray)=bs [58]from rfl,gO]
        rw[if_pos ⟨hf,vG.mpr ho0,Ot⟩]at hsd
        have HF:=h_ (r9.out _ hsd.symm (by rw[af];simp) (fun x hx=>by
         rcases bl.mp hx with hx|hx
         ·exact WN.out x hx
         rw[da.mp hx,af,aA];simp;omega))
        have XM:=h_ (gV o (p.take 1++[58]))
        rw[<-hd2]at XM
        clear hsd Y0 vG Ot hp2 hd1 hd2 hf Be lC
        subst ho0
        go_wp2_with (first
         |(go_at_call 162;refine(DW.out _).mono ?_;rintro e x1 ⟨rfl,hb⟩;have eO:=h_ (own_below uJ.out hb);have uD:=h_ (HB.out.trans (hb.mono hwz));have CK:=hb.size;clear hb)
         |(go_at_call 164;refine(Ry.out _).mono ?_;rintro e y1 ⟨rfl,hb⟩;have lB:=h_ (own_below eO.out hb);have fF:=h_ (uD.out.trans (hb.mono uD.out.size));have LZ:=hb.size;clear hb)
         |(go_at_call 159;refine(HDV.out _).mono ?_;rintro e y3 ⟨rfl,hw⟩;subst hw)
         |(at_builtin;(refine ez rfl (.tmp 64) (.tmp 68) _ rfl w2.heap.size 9 i1 (.string ⟨#[]⟩) 16 underlying28 hi1 hz1 hz2 hz3 (by decide) _ _ 0 (Strs o) rfl lB.out (.string d2) rfl rfl (by omega) (by decide) (by omega) ?_);intro v9 w9 fZ LR qZ;have FN:=h_ fZ;clear fZ;have hH:=h_ qZ;clear qZ)
         |fail)
        go_roundw
        case rel=>exact⟨k+1,o++[p.take 1++[58]],by omega,by simp,by rw[XM.out,af,<-DY.out];exact FN.out,HF.out,fF.out.trans hH.out⟩
        case measure=>simp[intOf];omega
       |false =>
        rw[Ot]at HDV
        have HF:=h_ (Be.out (fun h=>by rw[Ot]at h;cases h.2.2))
        clear hsd Y0 vG Ot hf Be
        subst ho0
        go_wp2_with (first
         |(go_at_call 162;refine(DW.out _).mono ?_;rintro e x1 ⟨rfl,hb⟩;have eO:=h_ (own_below uJ.out hb);have uD:=h_ (HB.out.trans (hb.mono hwz));have CK:=hb.size;clear hb)
         |(go_at_call 164;refine(Ry.out _).mono ?_;rintro e y1 ⟨rfl,hb⟩;have lB:=h_ (own_below eO.out hb);have fF:=h_ (uD.out.trans (hb.mono uD.out.size));have LZ:=hb.size;clear hb)
         |(go_at_call 159;refine(HDV.out _).mono ?_;rintro e y3 ⟨rfl,hw⟩;subst hw)
         |(go_at_call 132;refine(xf.out _).mono ?_;rintro e y2 ⟨rfl,hb⟩;have uE:=h_ (own_below lB.out hb);have Xu:=h_ (fF.out.trans (hb.mono fF.out.size));have Z2:=hb.size;clear hb)
         |(at_builtin;(refine ez rfl (.tmp 30) (.tmp 33) _ rfl w2.heap.size 9 i1 (.string ⟨#[]⟩) 16 underlying28 hi1 hz1 hz2 hz3 (by decide) _ _ 0 (Strs o) rfl uE.out (.string eb) rfl rfl (by omega) (by decide) (by omega) ?_);intro v9 w9 fZ LR qZ;have FN:=h_ fZ;clear fZ;have hH:=h_ qZ;clear qZ)
         |fail)
        go_roundw
        case rel=>exact⟨k+1,o++[df 4 p],by omega,by simp,by rw[lC.out,af,<-DY.out];exact FN.out,HF.out,Xu.out.trans hH.out⟩
        case measure=>simp[intOf];omega
      have hob:((ol:Int)==0)=false:=by
       have:(ol:Int)≠0:=by omega
       simpa using this
      have HF:=h_ (Be.out (fun h=>ho0 (vG.mp h.2.1)))
      clear hsd Y0 vG hf Be ho0
      go_wp2_with (first
       |(go_at_call 162;refine(DW.out _).mono ?_;rintro e x1 ⟨rfl,hb⟩;have eO:=h_ (own_below uJ.out hb);have uD:=h_ (HB.out.trans (hb.mono hwz));have CK:=hb.size;clear hb)
       |(go_at_call 164;refine(Ry.out _).mono ?_;rintro e y1 ⟨rfl,hb⟩;have lB:=h_ (own_below eO.out hb);have fF:=h_ (uD.out.trans (hb.mono uD.out.size));have LZ:=hb.size;clear hb)
       |(go_at_call 132;refine(xf.out _).mono ?_;rintro e y2 ⟨rfl,hb⟩;have uE:=h_ (own_below lB.out hb);have Xu:=h_ (fF.out.trans (hb.mono fF.out.size));have Z2:=hb.size;clear hb)
       |(at_builtin;(refine ez rfl (.tmp 30) (.tmp 33) _ rfl w2.heap.size 9 i1 (.string ⟨#[]⟩) 16 underlying28 hi1 hz1 hz2 hz3 (by decide) _ _ ol (Strs o) rfl uE.out (.string eb) rfl rfl (by omega) (by decide) (by omega) ?_);intro v9 w9 fZ LR qZ;have FN:=h_ fZ;clear fZ;have hH:=h_ qZ;clear qZ)
       |fail)
      go_roundw
      case rel=>exact⟨k+1,o++[df 4 p],by omega,by simp,by rw[lC.out,af,<-DY.out];exact FN.out,HF.out,Xu.out.trans hH.out⟩
      case measure=>simp[intOf];omega
     rw[decide_eq_false hf]at pi
     have HF:=h_ (Be.out (fun h=>hf h.1))
     clear hsd Y0 vG hf Be
     go_wp2_with (first
      |(go_at_call 162;refine(DW.out _).mono ?_;rintro e x1 ⟨rfl,hb⟩;have eO:=h_ (own_below uJ.out hb);have uD:=h_ (HB.out.trans (hb.mono hwz));have CK:=hb.size;clear hb)
      |(go_at_call 164;refine(Ry.out _).mono ?_;rintro e y1 ⟨rfl,hb⟩;have lB:=h_ (own_below eO.out hb);have fF:=h_ (uD.out.trans (hb.mono uD.out.size));have LZ:=hb.size;clear hb)
      |(go_at_call 132;refine(xf.out _).mono ?_;rintro e y2 ⟨rfl,hb⟩;have uE:=h_ (own_below lB.out hb);have Xu:=h_ (fF.out.trans (hb.mono fF.out.size));have Z2:=hb.size;clear hb)
      |(at_builtin;(refine ez rfl (.tmp 30) (.tmp 33) _ rfl w2.heap.size 9 i1 (.string ⟨#[]⟩) 16 underlying28 hi1 hz1 hz2 hz3 (by decide) _ _ ol (Strs o) rfl uE.out (.string eb) rfl rfl (by omega) (by decide) (by omega) ?_);intro v9 w9 fZ LR qZ;have FN:=h_ fZ;clear fZ;have hH:=h_ qZ;clear qZ)
      |fail)
     go_roundw
     case rel=>exact⟨k+1,o++[df 4 p],by omega,by simp,by rw[lC.out,af,<-DY.out];exact FN.out,HF.out,Xu.out.trans hH.out⟩
     case measure=>simp[intOf];omega
  obtain rfl:k=n:=by omega
  obtain⟨h1,_,_⟩:=hinv.out
  have hdr:ps.drop k=[]:=bf (by rw[<-HN.out];exact ae _)
  rw[hdr]at h1
  have HRR:=h_ (show R=o from h1.symm)
  clear h1 hdr hinv
  go_wp2_with fail
  go_ret
  refine⟨_,rfl,?_,fJ HB2.out HB.out⟩
  rw[HRR.out,aj]
  have h:=HO.out
  rcases h.2 with⟨e1,e2⟩|⟨g,cap,cur,e1,e2,e3⟩
  ·exact⟨h.1,.inl ⟨e1,e2⟩⟩
  exact⟨h.1,.inr ⟨g,cap,cur,e1,aq HB2.out.size e2,e3⟩⟩

structure Tn (b:Nat) (w w':World):Prop where
 s:w.heap.size<=w'.heap.size
 k:∀ j,j<w.heap.size->j≠b->w'.heap[j]? = w.heap[j]?
section
variable {b:Nat} {w w' w2:World}
theorem Tn.refl (b:Nat) (w:World):Tn b w w:=⟨ae _,fun _ _ _=>rfl⟩
theorem Tn.trans (h:Tn b w w') (k:Tn b w' w2):Tn b w w2:=⟨aq h.s k.s,fun j hj hn=>(k.k j (aP hj h.s) hn).trans (h.k j hj hn)⟩
theorem Tn.of_below (h:Below w.heap.size w w'):Tn b w w':=⟨h.size,fun j hj _=>h.block j hj⟩
theorem Tn.below (h:Tn b w w') (k:Below w'.heap.size w' w2):Tn b w w2:=h.trans (Tn.of_below k)
theorem Tn.cb (h:Tn b w w') {g:Nat} {T:TypeId} {cs:Array Value} (i:CB w g T cs) (hn:g≠b):CB w' g T cs:=⟨(h.k g i.lt hn).trans i.a⟩
theorem Tn.sl (h:Tn b w w') {B:Nat} {v:Value} {xs:List Value} (i:Sl B w v xs) (hB:B<=b) (hw:B<=w.heap.size):Sl B w' v xs:=i.keep fun j hj=>h.k j (by omega) (by omega)
theorem Tn.row (h:Tn b w w') {base e n:Nat} {v:Value} {xs:List Value} (i:w.ownsRow base e 1 v n xs) (hb:b<base):w'.ownsRow base e 1 v n xs:=by
 refine⟨i.1,?_⟩
 rcases i.2 with h0|⟨g,cap,cur,e1,hg,hh,hr⟩
 ·exact .inl h0
 exact .inr ⟨g,cap,cur,e1,hg,(h.k g (bg.1 hh).1 (by omega)).trans hh,hr⟩
end
section
variable {P:Program} {ops:Array Oper} {rest:List Oper} {o:Oper} {a:Act} {w:World} {K:Act->World->Prop} {Q:Exit->Act->World->Prop}
theorem up {w0:World} {b:Nat} {T:TypeId} {cs:Array Value} (i:OB w0 b T cs w) (k:Nat) (v:Value):Tn b w (w.setCell ⟨b,k,none⟩ v):=by
 rw[setCell_eq_setRow w b k cs T (0,0) v i.a]
 exact⟨by rw[setRow_size];exact ae _,fun j _ hj=>setRow_other w b j _ hj⟩
theorem rp {w0:World} {b:Nat} {T:TypeId}:∀ (vs:List Value) (k:Nat) {cs:Array Value} {w:World},OB w0 b T cs w->Tn b w (w.setCells b k vs)
 | [],_,_,w,_=>Tn.refl b w
 |v::r,k,_,_,i=>(up i k v).trans (rp r (k+1) (i.setCell k v))
theorem fa (ty:TypeId) (x y:Operand) (ho:o.op=.store ty x y) (w0:World) (b:Nat) (T:TypeId) (cs:Array Value) (i:OB w0 b T cs w) (k:Nat) (v:Value) (hx:a.eval x=.pointer (some ⟨b,k,none⟩)) (hy:a.eval y=v)
  (hk:k<cs.size) (hi:(P.info? ty).map (·.size)=some 1) (h1:v.oneCell'=true) (cs':Array Value) (hc:cs.setIfInBounds k v=cs')
  (h:∀ w',OB w0 b T cs' w'->Tn b w w'->K (a.put o.dst undef) w'):Oper.wp P o a w K Q:=by
 unfold Oper.wp execOp
 simp only[ho,hx,hy,Instr.storeAt,Instr.sureAddr,Sem.run_bind,Sem.run_pure,Result.andThen_ok,mE w b k ty T cs v i.a hk hi h1]
 exact h _ (hc▸i.setCell k v) (up i k v)
theorem g9 (ty:TypeId) (x y:Operand) (ho:o.op=.store ty x y) (w0:World) (b:Nat) (T:TypeId) (cs:Array Value) (i:OB w0 b T cs w) (k:Nat) (vs:List Value) (hx:a.eval x=.pointer (some ⟨b,k,none⟩)) (hy:a.eval y=.agg vs.toArray)
  (hk:k+vs.length<=cs.size) (hi:(P.info? ty).map (·.size)=some vs.length) (h1:∀ v∈vs,v.oneCell'=true) (cs':Array Value) (hc:rF cs k vs=cs')
  (h:∀ w',OB w0 b T cs' w'->Tn b w w'->K (a.put o.dst undef) w'):Oper.wp P o a w K Q :=
 wp_store_mid ty x y ho b k vs.toArray hx hy (i.there (by simpa using hk)) (by simpa using hi) (all_oneCell_toArray h1) (h _ (hc▸i.setCells vs k) (rp vs k i))
theorem dJ (hgd:o.guard=none) (ty:TypeId) (x y:Operand) (ho:o.op=.store ty x y) (w0:World) (b:Nat) (T:TypeId) (cs:Array Value) (i:OB w0 b T cs w) (k:Nat) (v:Value) (hx:a.eval x=.pointer (some ⟨b,k,none⟩)) (hy:a.eval y=v)
  (hk:k<cs.size) (hi:(P.info? ty).map (·.size)=some 1) (h1:v.oneCell'=true) (cs':Array Value) (hc:cs.setIfInBounds k v=cs')
  (h:∀ w',OB w0 b T cs' w'->Tn b w w'->wpList P ops Q rest (a.put o.dst undef) w'):wpList P ops Q (o::rest) a w :=
 wpList_plain hgd fun _ hK=>fa ty x y ho w0 b T cs i k v hx hy hk hi h1 cs' hc fun w' h1 h2=>hK _ _ (h w' h1 h2)
theorem rh (hgd:o.guard=none) (ty:TypeId) (x y:Operand) (ho:o.op=.store ty x y) (w0:World) (b:Nat) (T:TypeId) (cs:Array Value) (i:OB w0 b T cs w) (k:Nat) (vs:List Value) (hx:a.eval x=.pointer (some ⟨b,k,none⟩)) (hy:a.eval y=.agg vs.toArray)
  (hk:k+vs.length<=cs.size) (hi:(P.info? ty).map (·.size)=some vs.length) (h1:∀ v∈vs,v.oneCell'=true) (cs':Array Value) (hc:rF cs k vs=cs')
  (h:∀ w',OB w0 b T cs' w'->Tn b w w'->wpList P ops Q rest (a.put o.dst undef) w'):wpList P ops Q (o::rest) a w :=
 wpList_plain hgd fun _ hK=>g9 ty x y ho w0 b T cs i k vs hx hy hk hi h1 cs' hc fun w' h1 h2=>hK _ _ (h w' h1 h2)
end
theorem eX {pv:Value} {u:Url} {k:Nat} (h:u.host.six.length=8) (hk:k<23):k<(ah pv u).size:=by rw[eL h];exact hk
theorem wP {pv:Value} {u:Url} {g:gE} (h:u.host.six.length=8) (hg:g.six.length=8):3+(aW g).length<=(ah pv u).size:=by rw[eL h];simp[aW,hg]
theorem tK (aC s:Bytes) (w:World) (hs:s.length<=307200000):Calls prog 135 #[.string (bs aC),.string (bs s)] w (fd w 9 (Strs (fU aC s))):=by
 have hsl:=fun W=>jZ aC s W (by omega)
 have h1:=fun W=>fp aC s [] aD W Sl.nil hs (by simp) (by simp)
 have h2:=fun W=>fp aC (s.drop 1) [] aD W Sl.nil (by rw[ai];omega) (by simp) (by simp)
 have hle:=yn (ep aC) s
 obtain⟨R,hR⟩:=ap (fU aC s)
 rw[<-hR]
 unfold fU at hR
 generalize bs aC=c at *
 generalize r4 (ep aC) s=k at *
 obtain⟨t,ht⟩:=ap (bs s)
 have hsz:t.size=s.length:=by rw[ht,aB]
 have hex:t.extract 1 t.size=bs (s.drop 1):=by rw[ht];exact gn s 1 _ (aB s)
 rw[<-ht]at hsl h1 ⊢
 clear ht
 obtain⟨N,hN⟩:=ap (t.size)
 have LP:t.size=N:=hN.symm
 rw[LP]at hex
 obtain⟨u,hu⟩:=ap (bs (s.drop 1))
 rw[<-hu]at hex h2
 have HSL:=h_ hsl
 by_cases hk:0<k
 ·rw[if_pos hk]at hR
  rw[<-hR]at h2
  have H2:=h_ h2
  have hki:(0:Int)<k:=by omega
  have hN1:1<=N:=by omega
  have PR:(1:Int)<=N:=by omega
  clear hsl h1 h2 hle hR hu hN hsz hs
  go_enter func135,ntmps135
  go_wp2_with (first
   |(go_at_call 125;refine(HSL.out _).mono ?_;rintro e w2 ⟨rfl,hw⟩;subst hw)
   |(go_at_call 129;refine(H2.out _).mono ?_;rintro e w3 ⟨v,rfl,ho,hb⟩;have HO:=h_ ho;have HB:=h_ hb;clear ho hb)
   |fail)
  go_ret
  exact⟨_,rfl,HO.out,HB.out⟩
 rw[if_neg hk]at hR
 rw[<-hR]at h1
 have H1:=h_ h1
 have hki:¬ (0:Int)<k:=by omega
 clear hsl h1 h2 hle hR hu hN hsz hs hex
 go_enter func135,ntmps135
 go_wp2_with (first
  |(go_at_call 125;refine(HSL.out _).mono ?_;rintro e w2 ⟨rfl,hw⟩;subst hw)
  |(go_at_call 129;refine(H1.out _).mono ?_;rintro e w3 ⟨v,rfl,ho,hb⟩;have HO:=h_ ho;have HB:=h_ hb;clear ho hb)
  |fail)
 go_ret
 exact⟨_,rfl,HO.out,HB.out⟩

theorem lu (w0:World) (b:Nat) (pv yG:Value) (u ub:Url) (w:World) (i:OB w0 b 30 (ah pv u) w) (h8:u.host.six.length=8) (b8:ub.host.six.length=8) :
  Calls prog 137 #[.pointer (some ⟨b,0,none⟩),.agg (ah yG ub)] w fun e w'=>e=.returned (.tuple #[])∧OB w0 b 30 (ah pv (takeA u ub)) w'∧Tn b w w':=by
 have II:=h_ i
 have H8:=h_ h8
 have B8:=h_ b8
 have UA:=h_ (qP yG ub b8)
 have HI:=h_ (show(prog.info? 27).map (·.size)=some (aW ub.host).length by rw[gR];simp[aW,b8])
 clear h8 b8
 go_enter func137,ntmps137
 go_upto_region 1 with fail
 have hx:=CB.new w 30 (ah yG ub)
 have hb:=(Below.refl w.heap.size w).alloc (ae _) (.cells (ah yG ub) 30)
 have hne:w.heap.size≠b:=by have:=II.out.lt;omega
 obtain⟨w2,hw2⟩:=ap (w.alloc (.cells (ah yG ub) 30))
 rw[<-hw2]at hx hb ⊢
 obtain⟨bx,hbx⟩:=ap (w.heap.size)
 have HB:=h_ hb
 rw[<-hbx]at hx hne ⊢
 have HX:=h_ hx
 clear hw2 hbx hx hb
 have I0:=h_ ((II.out.below HB.out).below (aJ (aG _)))
 have C0:=h_ (HX.out.keep (aJ (aG _)))
 have T0:=h_ ((Tn.of_below (b:=b) HB.out).below (aJ (aG _)))
 refine wp_region_held_drew (S:=fun W=>CB W bx 30 (ah yG ub)) (by kernel_rfl) (by first|exact HX.out.keep (aJ (aG _))|exact C5.out|exact C4.out|exact C3.out|exact C2.out|exact C1.out) (fun hHeld=>?_)
 refine tq 0 rfl ?_ (fun wS hSw=>?_) ?_
 rotate_left
 ·(try dsimp only at hSw);go_simp;first|done|with_reducible rfl
 try simp only[Act.put,aK,aL,aM]
 refine tq 1 rfl ?_ (fun wS hSw=>?_) ?_
 rotate_left
 ·(try dsimp only at hSw);go_simp;first|done|with_reducible rfl
 try simp only[Act.put,aK,aL,aM]
 refine tq 2 rfl ?_ (fun wS hSw=>?_) ?_
 rotate_left
 ·(try dsimp only at hSw);go_simp;first|done|with_reducible rfl
 try simp only[Act.put,aK,aL,aM]
 refine tq 3 rfl ?_ (fun wS hSw=>?_) ?_
 rotate_left
 ·(try dsimp only at hSw);go_simp;first|done|with_reducible rfl
 try simp only[Act.put,aK,aL,aM]
 refine tq 4 rfl ?_ (fun wS hSw=>?_) ?_
 rotate_left
 ·(try dsimp only at hSw);go_simp;first|done|with_reducible rfl
 try simp only[Act.put,aK,aL,aM]
 refine tq 5 rfl ?_ (fun wS hSw=>?_) ?_
 rotate_left
 ·(try dsimp only at hSw);go_simp;first|done|with_reducible rfl
 try simp only[Act.put,aK,aL,aM]
 refine tq 6 rfl ?_ (fun wS hSw=>?_) ?_
 rotate_left
 ·(try dsimp only at hSw)
  refine aF 9 (.tmp 9) ?_ bx 1 (S ub.usr) _ underlying9 rfl ?_ ?_
  ·rfl
  ·rfl
  exact hSw.ak UA.out.usr
 try simp only[Act.put,aK,aL,aM]
 refine tq 7 rfl ?_ (fun wS hSw=>?_) ?_
 rotate_left
 ·(try dsimp only at hSw);go_simp;first|done|with_reducible rfl
 try simp only[Act.put,aK,aL,aM]
 refine tq 8 rfl ?_ (fun wS hSw=>?_) ?_
 rotate_left
 ·(try dsimp only at hSw)
  refine aF 9 (.tmp 11) ?_ bx 2 (S ub.ed) _ underlying9 rfl ?_ ?_
  ·rfl
  ·rfl
  exact hSw.ak UA.out.ed
 try simp only[Act.put,aK,aL,aM]
 refine tq 9 rfl ?_ (fun wS hSw=>?_) ?_
 rotate_left
 ·(try dsimp only at hSw);go_simp;first|done|with_reducible rfl
 try simp only[Act.put,aK,aL,aM]
 refine tq 10 rfl ?_ (fun wS hSw=>?_) ?_
 rotate_left
 ·(try dsimp only at hSw)
  refine dM 27 (.tmp 13) ?_ bx 3 (aW ub.host) _ underlying27 rfl HI.out ?_ ?_
  ·rfl
  ·rfl
  exact hSw.range UA.out.host
 try simp only[Act.put,aK,aL,aM]
 refine tq 11 rfl ?_ (fun wS hSw=>?_) ?_
 rotate_left
 ·(try dsimp only at hSw);go_simp;first|done|with_reducible rfl
 try simp only[Act.put,aK,aL,aM]
 refine tq 12 rfl ?_ (fun wS hSw=>?_) ?_
 rotate_left
 ·(try dsimp only at hSw)
  refine aF 4 (.tmp 15) ?_ bx 14 (.bool ub.aZ) _ underlying4 rfl ?_ ?_
  ·rfl
  ·rfl
  exact hSw.ak UA.out.aZ
 try simp only[Act.put,aK,aL,aM]
 refine tq 13 rfl ?_ (fun wS hSw=>?_) ?_
 rotate_left
 ·(try dsimp only at hSw);go_simp;first|done|with_reducible rfl
 try simp only[Act.put,aK,aL,aM]
 refine tq 14 rfl ?_ (fun wS hSw=>?_) ?_
 rotate_left
 ·(try dsimp only at hSw)
  refine aF 3 (.tmp 17) ?_ bx 15 (.int .i64 ub.port) _ underlying3 rfl ?_ ?_
  ·rfl
  ·rfl
  exact hSw.ak UA.out.port
 try simp only[Act.put,aK,aL,aM]
 refine tq 15 rfl ?_ (fun wS hSw=>?_) ?_
 rotate_left
 ·(try dsimp only at hSw);go_simp;first|done|with_reducible rfl
 try simp only[Act.put,aK,aL,aM]
 refine tq 16 rfl ?_ (fun wS hSw=>?_) ?_
 rotate_left
 ·(try dsimp only at hSw);go_simp;first|done|with_reducible rfl
 try simp only[Act.put,aK,aL,aM]
 refine rn 17 (by kernel_rfl) rfl (by rfl) (fun K hK=>?_)
 refine fa 9 (.tmp 20) (.tmp 10) rfl w0 b 30 (ah pv u) I0.out 1 (S ub.usr) rfl rfl (eX H8.out (by decide)) bF.1 rfl (ah pv {u with usr:=ub.usr}) ((eW pv u H8.out).usr _) ?_
 intro x1 i1 t1
 have I1:=h_ i1;have C1:=h_ (t1.cb C0.out hne);have T1:=h_ (T0.out.trans t1)
 clear i1 t1
 refine hK.out _ _ ?_ (fun hHeld=>?_)
 ·first|exact HX.out.keep (aJ (aG _))|exact C5.out|exact C4.out|exact C3.out|exact C2.out|exact C1.out
 clear hK K
 try simp only[Act.put]
 refine tq 18 rfl ?_ (fun wS hSw=>?_) ?_
 rotate_left
 ·(try dsimp only at hSw);go_simp;first|done|with_reducible rfl
 try simp only[Act.put,aK,aL,aM]
 refine tq 19 rfl ?_ (fun wS hSw=>?_) ?_
 rotate_left
 ·(try dsimp only at hSw);go_simp;first|done|with_reducible rfl
 try simp only[Act.put,aK,aL,aM]
 refine rn 20 (by kernel_rfl) rfl (by rfl) (fun K hK=>?_)
 refine fa 9 (.tmp 22) (.tmp 12) rfl w0 b 30 (ah pv {u with usr:=ub.usr}) I1.out 2 (S ub.ed) rfl rfl (eX H8.out (by decide)) bF.1 rfl (ah pv {u with usr:=ub.usr,ed:=ub.ed}) ((eW pv {u with usr:=ub.usr} H8.out).ed _) ?_
 intro x2 i1 t1
 have I2:=h_ i1;have C2:=h_ (t1.cb C1.out hne);have T2:=h_ (T1.out.trans t1)
 clear i1 t1
 refine hK.out _ _ ?_ (fun hHeld=>?_)
 ·first|exact HX.out.keep (aJ (aG _))|exact C5.out|exact C4.out|exact C3.out|exact C2.out|exact C1.out
 clear hK K
 try simp only[Act.put]
 refine tq 21 rfl ?_ (fun wS hSw=>?_) ?_
 rotate_left
 ·(try dsimp only at hSw);go_simp;first|done|with_reducible rfl
 try simp only[Act.put,aK,aL,aM]
 refine tq 22 rfl ?_ (fun wS hSw=>?_) ?_
 rotate_left
 ·(try dsimp only at hSw);go_simp;first|done|with_reducible rfl
 try simp only[Act.put,aK,aL,aM]
 refine rn 23 (by kernel_rfl) rfl (by rfl) (fun K hK=>?_)
 refine g9 27 (.tmp 24) (.tmp 14) rfl w0 b 30 (ah pv {u with usr:=ub.usr,ed:=ub.ed}) I2.out 3 (aW ub.host) rfl rfl (wP H8.out B8.out) HI.out iN (ah pv {u with usr:=ub.usr,ed:=ub.ed,host:=ub.host}) (qQ pv {u with usr:=ub.usr,ed:=ub.ed} ub.host B8.out H8.out) ?_
 intro x3 i1 t1
 have I3:=h_ i1;have C3:=h_ (t1.cb C2.out hne);have T3:=h_ (T2.out.trans t1)
 clear i1 t1
 refine hK.out _ _ ?_ (fun hHeld=>?_)
 ·first|exact HX.out.keep (aJ (aG _))|exact C5.out|exact C4.out|exact C3.out|exact C2.out|exact C1.out
 clear hK K
 try simp only[Act.put]
 refine tq 24 rfl ?_ (fun wS hSw=>?_) ?_
 rotate_left
 ·(try dsimp only at hSw);go_simp;first|done|with_reducible rfl
 try simp only[Act.put,aK,aL,aM]
 refine tq 25 rfl ?_ (fun wS hSw=>?_) ?_
 rotate_left
 ·(try dsimp only at hSw);go_simp;first|done|with_reducible rfl
 try simp only[Act.put,aK,aL,aM]
 refine rn 26 (by kernel_rfl) rfl (by rfl) (fun K hK=>?_)
 refine fa 4 (.tmp 26) (.tmp 16) rfl w0 b 30 (ah pv {u with usr:=ub.usr,ed:=ub.ed,host:=ub.host}) I3.out 14 (.bool ub.aZ) rfl rfl (eX B8.out (by decide)) bF.2.2 rfl (ah pv {u with usr:=ub.usr,ed:=ub.ed,host:=ub.host,aZ:=ub.aZ}) ((eW pv {u with usr:=ub.usr,ed:=ub.ed,host:=ub.host} B8.out).aZ _) ?_
 intro x4 i1 t1
 have I4:=h_ i1;have C4:=h_ (t1.cb C3.out hne);have T4:=h_ (T3.out.trans t1)
 clear i1 t1
 refine hK.out _ _ ?_ (fun hHeld=>?_)
 ·first|exact HX.out.keep (aJ (aG _))|exact C5.out|exact C4.out|exact C3.out|exact C2.out|exact C1.out
 clear hK K
 try simp only[Act.put]
 refine tq 27 rfl ?_ (fun wS hSw=>?_) ?_
 rotate_left
 ·(try dsimp only at hSw);go_simp;first|done|with_reducible rfl
 try simp only[Act.put,aK,aL,aM]
 refine tq 28 rfl ?_ (fun wS hSw=>?_) ?_
 rotate_left
 ·(try dsimp only at hSw);go_simp;first|done|with_reducible rfl
 try simp only[Act.put,aK,aL,aM]
 refine rn 29 (by kernel_rfl) rfl (by rfl) (fun K hK=>?_)
 refine fa 3 (.tmp 28) (.tmp 18) rfl w0 b 30 (ah pv {u with usr:=ub.usr,ed:=ub.ed,host:=ub.host,aZ:=ub.aZ}) I4.out 15 (.int .i64 ub.port) rfl rfl (eX B8.out (by decide)) bF.2.1 rfl (ah pv (takeA u ub)) ((eW pv {u with usr:=ub.usr,ed:=ub.ed,host:=ub.host,aZ:=ub.aZ} B8.out).port _) ?_
 intro x5 i1 t1
 have I5:=h_ i1;have C5:=h_ (t1.cb C4.out hne);have T5:=h_ (T4.out.trans t1)
 clear i1 t1
 refine hK.out _ _ ?_ (fun hHeld=>?_)
 ·first|exact HX.out.keep (aJ (aG _))|exact C5.out|exact C4.out|exact C3.out|exact C2.out|exact C1.out
 clear hK K
 try simp only[Act.put]
 refine wpAnyH_done (by kernel_rfl) ?_ _
 go_wp2_with fail
 go_end0
 exact⟨rfl,I5.out,T5.out⟩

theorem dy:(prog.info? 28).map (·.size)=some 1:=by kernel_rfl
theorem aS {w:World} {base e n:Nat} {v:Value} {xs:List Value} (h:w.ownsRow base e 1 v n xs):v.oneCell'=true:=by
 obtain⟨a,c,rfl⟩:=dS h
 rfl
theorem pN (w0:World) (b:Nat) (pv yG:Value) (u ub:Url) (w:World) (i:OB w0 b 30 (ah pv u) w) (h8:u.host.six.length=8) (b8:ub.host.six.length=8) (hp:Sl w.heap.size w yG (ub.path.map S)) (hl:ub.path.length<=1024000000) :
  Calls prog 130 #[.pointer (some ⟨b,0,none⟩),.agg (ah yG ub)] w fun e w'=>e=.returned (.tuple #[])∧∃ pv',OB w0 b 30 (ah pv' (eV u ub)) w'∧w'.ownsRow w.heap.size 9 1 pv' ub.path.length (Strs ub.path)∧Tn b w w':=by
 have II:=h_ i
 have H8:=h_ h8
 have UA:=h_ (qP yG ub b8)
 have HP:=h_ hp
 have HL:=h_ hl
 obtain⟨tp,htp⟩:=ap (eV u ub)
 rw[<-htp]
 unfold eV at htp
 have UU:=h_ (qP pv u h8)
 clear h8 b8 hp hl i
 go_enter func130,ntmps130
 go_upto_region 1 with fail
 have hx:=CB.new w 30 (ah yG ub)
 have hb:=(Below.refl w.heap.size w).alloc (ae _) (.cells (ah yG ub) 30)
 have hne:w.heap.size≠b:=by have:=II.out.lt;omega
 have hbw:b<w.heap.size:=II.out.lt
 obtain⟨w2,hw2⟩:=ap (w.alloc (.cells (ah yG ub) 30))
 rw[<-hw2]at hx hb ⊢
 obtain⟨bx,hbx⟩:=ap (w.heap.size)
 have HB:=h_ hb
 rw[<-hbx]at hx hne ⊢
 have HX:=h_ hx
 have uD:=h_ hbx
 clear hw2 hbx hx hb
 have c18:=HX.out.ak UA.out.path
 have I2:=h_ (II.out.below HB.out)
 have hq:u.bP=true∨u.bP=false:=by cases u.bP <;>simp
 obtain⟨qv,Ot⟩:=ap (u.bP)
 go_upto_region 2 with(first
  |(go_at_call 30;refine(fX ub.path yG _ ((HP.out.below HB.out).more HB.out.size) HL.out).mono ?_;rintro e w3 ⟨v3,rfl,ho,hb⟩;have R3:=h_ (show w3.ownsRow w.heap.size 9 1 v3 ub.path.length (Strs ub.path) by have ho2:=ho;rw[aj]at ho2;rcases ho2.2 with h|⟨g,cap,cur,e1,e2,e3⟩;exact⟨ho2.1,.inl h⟩;exact⟨ho2.1,.inr ⟨g,cap,cur,e1,aq HB.out.size e2,e3⟩⟩);have I3:=h_ (I2.out.below hb);have C2:=h_ (HX.out.keep hb);have T3:=h_ ((Tn.of_below (b:=b) HB.out).below hb);clear ho hb)
  |(refine dJ rfl 28 (.tmp 9) (.tmp 7) rfl w0 b 30 (ah pv u) I3.out 18 v3 rfl rfl (eX H8.out (by decide)) dy (aS R3.out) (ah v3 {u with path:=ub.path}) ((eW pv u H8.out).path _ _) ?_;intro w4 i1 t1;have I34:=h_ i1;have C3:=h_ (t1.cb C2.out hne);have T34:=h_ (T3.out.trans t1);have R34:=h_ (t1.row R3.out hbw);clear i1 t1)
  |fail)
 clear c18
 have UV:=h_ (qP v3 {u with path:=ub.path} H8.out)
 have c19:=I34.out.ak UV.out.bP
 cases hqq:u.bP with
 |true =>
  rw[if_pos hqq]at htp
  have WT:=h_ htp
  replace c19:w4.cell? ⟨b,19,none⟩=some (.bool true):=by rw[c19,<-hqq]
  clear htp hq Ot hqq
  go_wp2_with fail
  go_end0
  exact⟨rfl,_,(by rw[WT.out];exact I34.out),R34.out,T34.out⟩
 |false =>
  rw[if_neg (by simp[hqq])]at htp
  have WT:=h_ htp
  replace c19:w4.cell? ⟨b,19,none⟩=some (.bool false):=by rw[c19,<-hqq]
  clear htp hq Ot hqq
  go_upto_region 3 with fail
  have I4:=h_ (I34.out.below (aJ (aG _)))
  have C4:=h_ (C3.out.keep (aJ (aG _)))
  have T4:=h_ (T34.out.below (aJ (aG _)))
  have R4:=h_ (own_below R34.out (aJ (aG _)))
  clear c19
  refine wp_region_held_drew (S:=fun W=>CB W bx 30 (ah yG ub)) (by kernel_rfl) (by first|exact C3.out.keep (aJ (aG _))|exact C6.out|exact C5.out) (fun hHeld=>?_)
  refine tq 0 rfl ?_ (fun wS hSw=>?_) ?_
  rotate_left
  ·(try dsimp only at hSw);go_simp;first|done|with_reducible rfl
  try simp only[Act.put,aK,aL,aM]
  refine tq 1 rfl ?_ (fun wS hSw=>?_) ?_
  rotate_left
  ·(try dsimp only at hSw);go_simp;first|done|with_reducible rfl
  try simp only[Act.put,aK,aL,aM]
  refine tq 2 rfl ?_ (fun wS hSw=>?_) ?_
  rotate_left
  ·(try dsimp only at hSw);go_simp;first|done|with_reducible rfl
  try simp only[Act.put,aK,aL,aM]
  refine tq 3 rfl ?_ (fun wS hSw=>?_) ?_
  rotate_left
  ·(try dsimp only at hSw)
   refine aF 4 (.tmp 17) ?_ bx 19 (.bool ub.bP) _ underlying4 rfl ?_ ?_
   ·rfl
   ·rfl
   exact hSw.ak UA.out.bP
  try simp only[Act.put,aK,aL,aM]
  refine tq 4 rfl ?_ (fun wS hSw=>?_) ?_
  rotate_left
  ·(try dsimp only at hSw);go_simp;first|done|with_reducible rfl
  try simp only[Act.put,aK,aL,aM]
  refine tq 5 rfl ?_ (fun wS hSw=>?_) ?_
  rotate_left
  ·(try dsimp only at hSw)
   refine aF 9 (.tmp 19) ?_ bx 20 (S ub.q) _ underlying9 rfl ?_ ?_
   ·rfl
   ·rfl
   exact hSw.ak UA.out.q
  try simp only[Act.put,aK,aL,aM]
  refine tq 6 rfl ?_ (fun wS hSw=>?_) ?_
  rotate_left
  ·(try dsimp only at hSw);go_simp;first|done|with_reducible rfl
  try simp only[Act.put,aK,aL,aM]
  refine tq 7 rfl ?_ (fun wS hSw=>?_) ?_
  rotate_left
  ·(try dsimp only at hSw);go_simp;first|done|with_reducible rfl
  try simp only[Act.put,aK,aL,aM]
  refine rn 8 (by kernel_rfl) rfl (by rfl) (fun K hK=>?_)
  refine fa 4 (.tmp 22) (.tmp 18) rfl w0 b 30 (ah v3 {u with path:=ub.path}) I4.out 19 (.bool ub.bP) rfl rfl (eX H8.out (by decide)) bF.2.2 rfl (ah v3 {u with path:=ub.path,bP:=ub.bP}) ((eW v3 {u with path:=ub.path} H8.out).bP _) ?_
  intro x5 i1 t1
  have I5:=h_ i1;have C5:=h_ (t1.cb C4.out hne);have T5:=h_ (T4.out.trans t1);have R5:=h_ (t1.row R4.out hbw)
  clear i1 t1
  refine hK.out _ _ ?_ (fun hHeld=>?_)
  ·first|exact C3.out.keep (aJ (aG _))|exact C6.out|exact C5.out
  clear hK K
  try simp only[Act.put]
  refine tq 9 rfl ?_ (fun wS hSw=>?_) ?_
  rotate_left
  ·(try dsimp only at hSw);go_simp;first|done|with_reducible rfl
  try simp only[Act.put,aK,aL,aM]
  refine tq 10 rfl ?_ (fun wS hSw=>?_) ?_
  rotate_left
  ·(try dsimp only at hSw);go_simp;first|done|with_reducible rfl
  try simp only[Act.put,aK,aL,aM]
  refine rn 11 (by kernel_rfl) rfl (by rfl) (fun K hK=>?_)
  refine fa 9 (.tmp 24) (.tmp 20) rfl w0 b 30 (ah v3 {u with path:=ub.path,bP:=ub.bP}) I5.out 20 (S ub.q) rfl rfl (eX H8.out (by decide)) bF.1 rfl (ah v3 {u with path:=ub.path,bP:=ub.bP,q:=ub.q}) ((eW v3 {u with path:=ub.path,bP:=ub.bP} H8.out).q _) ?_
  intro x6 i1 t1
  have I6:=h_ i1;have C6:=h_ (t1.cb C5.out hne);have T6:=h_ (T5.out.trans t1);have R6:=h_ (t1.row R5.out hbw)
  clear i1 t1
  refine hK.out _ _ ?_ (fun hHeld=>?_)
  ·first|exact C3.out.keep (aJ (aG _))|exact C6.out|exact C5.out
  clear hK K
  try simp only[Act.put]
  refine wpAnyH_done (by kernel_rfl) ?_ _
  go_wp2_with fail
  go_end0
  exact⟨rfl,_,(by rw[WT.out];exact I6.out),R6.out,T6.out⟩

structure Fk (J:Nat->Prop) (w w':World):Prop where
 os:w'.os=w.os
 tape:w'.tape=w.tape
 output:w'.output=w.output
 s:w.heap.size<=w'.heap.size
 k:∀ j,j<w.heap.size->¬ J j->w'.heap[j]? = w.heap[j]?
section
variable {J K:Nat->Prop} {w w' w2:World}
theorem Fk.refl (J:Nat->Prop) (w:World):Fk J w w:=⟨rfl,rfl,rfl,ae _,fun _ _ _=>rfl⟩
theorem Fk.trans (h:Fk J w w') (k:Fk J w' w2):Fk J w w2:=⟨k.os.trans h.os,k.tape.trans h.tape,k.output.trans h.output,aq h.s k.s,fun j hj hn=>(k.k j (aP hj h.s) hn).trans (h.k j hj hn)⟩
theorem Fk.more (h:Fk J w w') (hk:∀ j,J j->K j):Fk K w w':=⟨h.os,h.tape,h.output,h.s,fun j hj hn=>h.k j hj fun hJ=>hn (hk j hJ)⟩
theorem Fk.of_below (h:Below w.heap.size w w'):Fk J w w':=⟨h.os,h.tape,h.output,h.size,fun j hj _=>h.block j hj⟩
theorem Fk.below {B:Nat} {w0:World} (h:Fk J w w') (b:Below B w0 w) (hB:∀ j,J j->B<=j) (hs:B<=w.heap.size):Below B w0 w' :=
 b.trans ⟨h.os,h.tape,h.output,h.s,fun j hj=>h.k j (aP hj hs) fun hJ=>absurd (hB j hJ) (Nat.not_le_of_lt hj)⟩
theorem Fk.cb (h:Fk J w w') {g:Nat} {T:TypeId} {cs:Array Value} (i:CB w g T cs) (hn:¬ J g):CB w' g T cs:=⟨(h.k g i.lt hn).trans i.a⟩
theorem CB.set {b:Nat} {T:TypeId} {cs:Array Value} (i:CB w b T cs) (k:Nat) (v:Value):CB (w.setCell ⟨b,k,none⟩ v) b T (cs.setIfInBounds k v):=by
 rw[setCell_eq_setRow w b k cs T (0,0) v i.a]
 exact⟨setRow_heap w b _ _ _ _ i.a⟩
theorem Fk.set {b:Nat} {T:TypeId} {cs:Array Value} (i:CB w b T cs) (k:Nat) (v:Value) (hb:J b):Fk J w (w.setCell ⟨b,k,none⟩ v):=by
 rw[setCell_eq_setRow w b k cs T (0,0) v i.a]
 exact⟨rfl,rfl,rfl,by rw[setRow_size];exact ae _,fun j _ hj=>setRow_other w b j _ (fun e=>hj (e▸hb))⟩
theorem CB.s6 {b:Nat} {T:TypeId} {cs:Array Value} (i:CB w b T cs) (k:Nat):w.frozen? ⟨b,k,none⟩=false:=by simp[World.frozen?,i.a]
end
def Bl (o:Option Nat) (s:Bool) (W:World):Prop:=∀ b,o=some b->CB W b 4 #[.bool s]
def OJ (o:Option Nat) (j:Nat):Prop:=o=some j
theorem Bl.fr {o:Option Nat} {s:Bool} {J:Nat->Prop} {w w':World} (h:Bl o s w) (f:Fk J w w') (hn:∀ b,o=some b->¬ J b):Bl o s w':=fun b e=>f.cb (h b e) (hn b e)
structure yH (g:Nat) (lb:Array Value) (o:Option Nat) (p nx:Bool->UInt8->Bool):Prop where
 eg:∀ (args:Array Value) (w:World),(callFunc g args).run prog w=.ok (.enter g args) w
 go:∀ (s:Bool) (c:UInt8) (W:World),Bl o s W->Calls prog g (#[.int .u8 (b2 c)]++lb) W fun e w'=>e=.returned (.bool (p s c))∧Bl o (nx s c) w'∧Fk (OJ o) W w'
def l6 (p nx:Bool->UInt8->Bool):Bool->Bytes->Nat
 |_,[]=>0
 |s,c::r=>if p s c=true then l6 p nx (nx s c) r+1 else 0
theorem Eg (p nx:Bool->UInt8->Bool):∀ (l:Bytes) (s:Bool),l6 p nx s l<=l.length
 | [],_=>ae _
 |c::r,s=>by
  rw[l6,ag]
  split
  ·have:=Eg p nx r (nx s c);omega
  exact aO _
theorem Pg (p nx:Bool->UInt8->Bool) (s:Bool) {l:Bytes} {j:Nat} (h:j<l.length):l6 p nx s (l.drop j)=if p s l[j]=true then l6 p nx (nx s l[j]) (l.drop (j+1))+1 else 0:=by
 rw[ay h,l6]
theorem J1 (p nx:Bool->UInt8->Bool) (s:Bool) {l:Bytes} {j:Nat} (h:l.length<=j):l6 p nx s (l.drop j)=0:=by
 rw[bf h];rfl
def SkJ (A:Nat) (o:Option Nat) (j:Nat):Prop:=j=A∨o=some j
theorem pK {g:Nat} {lb:Array Value} {o:Option Nat} {p nx:Bool->UInt8->Bool} (hk:yH g lb o p nx) (l:Bytes) (k A B:Nat) (s0:Bool) (w:World) (hl:l.length<=1024000000) (hkl:k<=l.length)
  (cA:CB w A 3 #[.int .i64 k]) (cB:CB w B 9 #[.string (bs l)]) (hi:Bl o s0 w) (hoA:o≠some A) (hoB:o≠some B) (Lz:B≠A) :
  Calls prog 35 #[.func (.func g) #[] lb,.pointer (some ⟨A,0,none⟩),.pointer (some ⟨B,0,none⟩)] w fun e w' =>
   e=.returned (S ((l.drop k).take (l6 p nx s0 (l.drop k))))∧CB w' A 3 #[.int .i64 ((k+l6 p nx s0 (l.drop k):Nat):Int)]∧CB w' B 9 #[.string (bs l)]∧Fk (SkJ A o) w w':=by
 have hM:=Eg p nx (l.drop k) s0
 rw[ai]at hM
 obtain⟨M,hMe⟩:=ap (l6 p nx s0 (l.drop k))
 rw[<-hMe]at hM ⊢
 obtain⟨t,ht⟩:=ap (bs l)
 have hsz:t.size=l.length:=by rw[ht,aB]
 have hby:∀ j (hj:j<t.size) (hj2:j<l.length),((t[j]'hj).toNat:Int)=b2 l[j]:=fun j hj hj2=>bV ht hj hj2
 have hex:t.extract k (k+M)=bs ((l.drop k).take M):=by rw[ht,bM];congr 2;omega
 rw[<-ht]at cB ⊢
 clear ht
 obtain⟨N,hN⟩:=ap (t.size)
 have LP:t.size=N:=hN.symm
 have pg:N<=1024000000:=by omega
 have hkN:k<=N:=by omega
 have hMN:k+M<=N:=by omega
 have IE:=h_ hex;clear hex
 have e7:=h_ hsz;clear hsz hl hkl hN hM
 have fF:=h_ hby;clear hby
 have HME:=h_ hMe;clear hMe
 have HK:=h_ hk
 have eg:=hk.eg
 clear hk
 have HI:=h_ hi;clear hi
 have FO:=h_ hoA;clear hoA
 have TL:=h_ hoB;clear hoB
 have FL:=h_ cA
 have IC:=h_ cB
 have c1:=cA.ak (j:=0) (v:=.int .i64 k) rfl
 have c2:=cB.ak (j:=0) (v:=.string t) rfl
 clear cA cB
 go_enter func35,ntmps35
 go_wp2_with fail
 clear c1 c2
 go_loopg [] (N+1) (fun gf wr=>∃ (j:Nat) (s:Bool),k<=j∧j<=N∧N-j<gf∧Hid (M=j-k+l6 p nx s (l.drop j))∧Hid (CB wr A 3 #[.int .i64 j])∧Hid (CB wr B 9 #[.string t])∧Hid (Bl o s wr)∧Hid (Fk (SkJ A o) w wr))
 case atStart=>exact⟨k,s0,ae _,hkN,by omega,by rw[fc,bk];exact HME.out,FL.out,IC.out,HI.out,Fk.refl _ _⟩
 case round =>
  obtain⟨j,s,hkj,Zw,hf,hm,hA,hB,hI,hF⟩:=hrel
  obtain⟨g',rfl⟩:∃ g',gk=g'+1:=⟨gk-1,by omega⟩
  have c1:=hA.out.ak (j:=0) (v:=.int .i64 j) rfl
  have c2:=hB.out.ak (j:=0) (v:=.string t) rfl
  by_cases hlt:j<N
  ·have hju:j<t.size:=by omega
   have hjl:j<l.length:=by have:=e7.out;omega
   have hx:=fF.out j hju hjl
   have hst:=Pg p nx s hjl
   have cS:=HK.out.go s l[j] wr hI.out
   have a8V:(j:Int)<(N:Int):=by omega
   generalize l[j]=c at hx hst cS
   obtain⟨X,hX⟩:=ap (b2 c)
   rw[<-hX]at hx cS
   clear hX
   cases hp:p s c with
   |true =>
    rw[hp]at cS
    rw[if_pos hp]at hst
    have hm2:M=j+1-k+l6 p nx (nx s c) (l.drop (j+1)):=by have:=hm.out;omega
    have XF:=h_ hm2
    clear hst hm hm2 hp
    have pX:=h_ (show ¬OJ o A from FO.out)
    have HBN:=h_ (show ¬OJ o B from TL.out)
    have HAB:=h_ Lz
    go_wp2_with (first
     |(go_at_fn g;refine cS.mono ?_;rintro e w2 ⟨rfl,hi2,hf2⟩;have HI2:=h_ hi2;have Jk:=h_ hf2;have HA2:=h_ (hf2.cb hA.out pX.out);have HB2:=h_ (hf2.cb hB.out HBN.out);have c3:=HA2.out.ak (j:=0) (v:=.int .i64 j) rfl;have f3:=HA2.out.s6 0;clear hi2 hf2)
     |fail)
    go_roundg g'
    case measure=>omega
    case rel =>
     have Y9:¬ SkJ A o B:=fun h=>h.elim HAB.out TL.out
     exact⟨j+1,nx s c,by omega,by omega,by omega,XF.out,h_ (by simpa using HA2.out.set 0 (.int .i64 ((j+1:Nat):Int))),(Fk.set (J:=fun x=>x=A) HA2.out 0 _ rfl).cb HB2.out HAB.out,(HI2.out.fr (Fk.set (J:=fun x=>x=A) HA2.out 0 _ rfl) (fun b e hb=>FO.out (hb▸e))),(hF.out.trans (Jk.out.more fun x hx=>.inr hx)).trans (Fk.set HA2.out 0 _ (.inl rfl))⟩
   |false =>
    rw[hp]at cS
    rw[if_neg (by rw[hp];simp)]at hst
    have hm2:k+M=j:=by have:=hm.out;omega
    clear hst hm hp
    have pX:=h_ (show ¬OJ o A from FO.out)
    have HBN:=h_ (show ¬OJ o B from TL.out)
    have XF:=h_ hm2
    have Jj:=h_ (show t.extract k j=bs ((l.drop k).take M) by rw[<-hm2];exact IE.out)
    clear hm2
    have nY:=Jj.out
    go_wp2_with (first
     |(go_at_fn g;refine cS.mono ?_;rintro e w2 ⟨rfl,hi2,hf2⟩;have HI2:=h_ hi2;have Jk:=h_ hf2;have HA2:=h_ (hf2.cb hA.out pX.out);have HB2:=h_ (hf2.cb hB.out HBN.out);have c3:=HA2.out.ak (j:=0) (v:=.int .i64 j) rfl;have c4:=HB2.out.ak (j:=0) (v:=.string t) rfl;clear hi2 hf2)
     |fail)
    go_ret
    exact⟨by rfl,by rw[XF.out];exact HA2.out,HB2.out,hF.out.trans (Jk.out.more fun x hx=>.inr hx)⟩
  obtain rfl:j=N:=by omega
  have hm2:k+M=j:=by
   have:=hm.out
   rw[J1 p nx s (by have:=e7.out;omega)]at this
   omega
  have nY:t.extract k j=bs ((l.drop k).take M):=by rw[<-hm2];exact IE.out
  have XF:=h_ hm2
  clear hm hm2
  go_wp2_with fail
  go_ret
  exact⟨by rfl,by rw[XF.out];exact hA.out,hB.out,hF.out⟩
end Go.Proofs.YtmndlfglgcioeaaGreatDoor
