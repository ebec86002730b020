/- Package idna and its reference: how a sign stands. Written by genIdn.py. -/
import Derived.IntWalk
import Derived.Test.YtmndlfglgcioeaaGreatDoorEGTextD
set_option maxHeartbeats 40000000
namespace Go.Proofs.YtmndlfglgcioeaaGreatDoor
open Tryz
open Go.RowKit
set_option maxRecDepth 10000
theorem Aq{a:ByteArray}{b:Bytes}(h:a=bs b):Ending.returned (.string a)=.returned (S b):=by rw[h]
theorem join_one(c:Int):cf [c]=enc c:=by simp[cf]
theorem nw:cf [0x69,0x307]=[105,204,135]:=by decide +kernel
theorem jz:cf [0x2e]=[46]:=by decide +kernel
theorem kN:cf [0x61,0x2f,0x63]=[97,47,99]:=by decide +kernel
theorem kO:cf [0x63,0x2f,0x6f]=[99,47,111]:=by decide +kernel
theorem M5(c:Int)(w:World):iz prog 218 #[.int .i64 c] w (S (cf (lF c))):=by
 rcases xS c with⟨h|h|h|h|h|h,e⟩|⟨h,h2,e⟩|⟨h,h2,e⟩|⟨rfl,e⟩|⟨h,e⟩|⟨rfl|rfl|rfl,e⟩|⟨rfl,e⟩|⟨rfl,e⟩|⟨h,e⟩|⟨h,e⟩|⟨h|h,e⟩|⟨h,e⟩|⟨h,e⟩
 iterate 6
  ·rw[e]
   clear e;have q0:(c==304)=false:=by simp;omega
   have q1:(c==8228)=false:=by simp;omega
   have q2:(c==12290)=false:=by simp;omega
   have q3:(c==65377)=false:=by simp;omega
   have q4:(c==8448)=false:=by simp;omega
   have q5:(c==8453)=false:=by simp;omega
   go_enter func218,ntmps218
   go_wp2_with (first|(go_at_call 228;first|(refine(iu _ _ _ _ (by omega)).mono ?_;rintro e w2 ⟨rfl,rfl⟩)|(refine(iq _ _ _ _ (by omega)).mono ?_;rintro e w2 ⟨rfl,rfl⟩))|(go_at_call 45;refine(gu _ _).mono ?_;rintro e w2 ⟨rfl,rfl⟩)|fail)
   go_ret;exact⟨Aq (by first|rfl|rw[join_one]|(rw[nw];rfl)|(rw[jz];rfl)|(rw[kN];rfl)|(rw[kO];rfl)|(rw[join_one];congr 2;omega)),rfl⟩
 ·rw[e]
  clear e;have q0:(c==304)=false:=by simp;omega
  have q1:(c==8228)=false:=by simp;omega
  have q2:(c==12290)=false:=by simp;omega
  have q3:(c==65377)=false:=by simp;omega
  have q4:(c==8448)=false:=by simp;omega
  have q5:(c==8453)=false:=by simp;omega
  have tm:Int.tmod c 2=0:=by rw[eE (by omega)];exact h2
  go_enter func218,ntmps218
  go_wp2_with (first|(go_at_call 228;first|(refine(iu _ _ _ _ (by omega)).mono ?_;rintro e w2 ⟨rfl,rfl⟩)|(refine(iq _ _ _ _ (by omega)).mono ?_;rintro e w2 ⟨rfl,rfl⟩))|(go_at_call 45;refine(gu _ _).mono ?_;rintro e w2 ⟨rfl,rfl⟩)|fail)
  go_ret;exact⟨Aq (by first|rfl|rw[join_one]|(rw[nw];rfl)|(rw[jz];rfl)|(rw[kN];rfl)|(rw[kO];rfl)|(rw[join_one];congr 2;omega)),rfl⟩
 ·rw[e]
  clear e;have q0:(c==304)=false:=by simp;omega
  have q1:(c==8228)=false:=by simp;omega
  have q2:(c==12290)=false:=by simp;omega
  have q3:(c==65377)=false:=by simp;omega
  have q4:(c==8448)=false:=by simp;omega
  have q5:(c==8453)=false:=by simp;omega
  have tm:Int.tmod c 2=1:=by rw[eE (by omega)];exact h2
  go_enter func218,ntmps218
  go_wp2_with (first|(go_at_call 228;first|(refine(iu _ _ _ _ (by omega)).mono ?_;rintro e w2 ⟨rfl,rfl⟩)|(refine(iq _ _ _ _ (by omega)).mono ?_;rintro e w2 ⟨rfl,rfl⟩))|(go_at_call 45;refine(gu _ _).mono ?_;rintro e w2 ⟨rfl,rfl⟩)|fail)
  go_ret;exact⟨Aq (by first|rfl|rw[join_one]|(rw[nw];rfl)|(rw[jz];rfl)|(rw[kN];rfl)|(rw[kO];rfl)|(rw[join_one];congr 2;omega)),rfl⟩
 ·rw[e]
  clear e;go_enter func218,ntmps218
  go_wp2_with (first|(go_at_call 228;first|(refine(iu _ _ _ _ (by omega)).mono ?_;rintro e w2 ⟨rfl,rfl⟩)|(refine(iq _ _ _ _ (by omega)).mono ?_;rintro e w2 ⟨rfl,rfl⟩))|(go_at_call 45;refine(gu _ _).mono ?_;rintro e w2 ⟨rfl,rfl⟩)|fail)
  go_ret;exact⟨Aq (by first|rfl|rw[join_one]|(rw[nw];rfl)|(rw[jz];rfl)|(rw[kN];rfl)|(rw[kO];rfl)|(rw[join_one];congr 2;omega)),rfl⟩
 ·rw[e]
  clear e;have q0:(c==304)=false:=by simp;omega
  have q1:(c==8228)=false:=by simp;omega
  have q2:(c==12290)=false:=by simp;omega
  have q3:(c==65377)=false:=by simp;omega
  have q4:(c==8448)=false:=by simp;omega
  have q5:(c==8453)=false:=by simp;omega
  go_enter func218,ntmps218
  go_wp2_with (first|(go_at_call 228;first|(refine(iu _ _ _ _ (by omega)).mono ?_;rintro e w2 ⟨rfl,rfl⟩)|(refine(iq _ _ _ _ (by omega)).mono ?_;rintro e w2 ⟨rfl,rfl⟩))|(go_at_call 45;refine(gu _ _).mono ?_;rintro e w2 ⟨rfl,rfl⟩)|fail)
  go_ret;exact⟨Aq (by first|rfl|rw[join_one]|(rw[nw];rfl)|(rw[jz];rfl)|(rw[kN];rfl)|(rw[kO];rfl)|(rw[join_one];congr 2;omega)),rfl⟩
 iterate 5
  ·rw[e]
   clear e;go_enter func218,ntmps218
   go_wp2_with (first|(go_at_call 228;first|(refine(iu _ _ _ _ (by omega)).mono ?_;rintro e w2 ⟨rfl,rfl⟩)|(refine(iq _ _ _ _ (by omega)).mono ?_;rintro e w2 ⟨rfl,rfl⟩))|(go_at_call 45;refine(gu _ _).mono ?_;rintro e w2 ⟨rfl,rfl⟩)|fail)
   go_ret;exact⟨Aq (by first|rfl|rw[join_one]|(rw[nw];rfl)|(rw[jz];rfl)|(rw[kN];rfl)|(rw[kO];rfl)|(rw[join_one];congr 2;omega)),rfl⟩
 iterate 4
  ·rw[e]
   clear e;have q0:(c==304)=false:=by simp;omega
   have q1:(c==8228)=false:=by simp;omega
   have q2:(c==12290)=false:=by simp;omega
   have q3:(c==65377)=false:=by simp;omega
   have q4:(c==8448)=false:=by simp;omega
   have q5:(c==8453)=false:=by simp;omega
   go_enter func218,ntmps218
   go_wp2_with (first|(go_at_call 228;first|(refine(iu _ _ _ _ (by omega)).mono ?_;rintro e w2 ⟨rfl,rfl⟩)|(refine(iq _ _ _ _ (by omega)).mono ?_;rintro e w2 ⟨rfl,rfl⟩))|(go_at_call 45;refine(gu _ _).mono ?_;rintro e w2 ⟨rfl,rfl⟩)|fail)
   go_ret;exact⟨Aq (by first|rfl|rw[join_one]|(rw[nw];rfl)|(rw[jz];rfl)|(rw[kN];rfl)|(rw[kO];rfl)|(rw[join_one];congr 2;omega)),rfl⟩
 ·rw[e]
  clear e;have q0:(c==304)=false:=by simp;omega
  have q1:(c==8228)=false:=by simp;omega
  have q2:(c==12290)=false:=by simp;omega
  have q3:(c==65377)=false:=by simp;omega
  have q4:(c==8448)=false:=by simp;omega
  have q5:(c==8453)=false:=by simp;omega
  have tm:Int.tmod (c-120782) 10=(c-120782)%10:=eE (by omega);have tm2:0<=(c-120782)%10∧(c-120782)%10<10:=by omega
  go_enter func218,ntmps218
  go_wp2_with (first|(go_at_call 228;first|(refine(iu _ _ _ _ (by omega)).mono ?_;rintro e w2 ⟨rfl,rfl⟩)|(refine(iq _ _ _ _ (by omega)).mono ?_;rintro e w2 ⟨rfl,rfl⟩))|(go_at_call 45;refine(gu _ _).mono ?_;rintro e w2 ⟨rfl,rfl⟩)|fail)
  go_ret;exact⟨Aq (by first|rfl|rw[join_one]|(rw[nw];rfl)|(rw[jz];rfl)|(rw[kN];rfl)|(rw[kO];rfl)|(rw[join_one];congr 2;omega)),rfl⟩
 rw[e];clear e;have q0:(c==304)=false:=by simp;omega
 have q1:(c==8228)=false:=by simp;omega
 have q2:(c==12290)=false:=by simp;omega
 have q3:(c==65377)=false:=by simp;omega
 have q4:(c==8448)=false:=by simp;omega
 have q5:(c==8453)=false:=by simp;omega
 go_enter func218,ntmps218
 go_wp2_with (first|(go_at_call 228;first|(refine(iu _ _ _ _ (by omega)).mono ?_;rintro e w2 ⟨rfl,rfl⟩)|(refine(iq _ _ _ _ (by omega)).mono ?_;rintro e w2 ⟨rfl,rfl⟩))|(go_at_call 45;refine(gu _ _).mono ?_;rintro e w2 ⟨rfl,rfl⟩)|fail)
 go_ret;exact⟨Aq (by first|rfl|rw[join_one]|(rw[nw];rfl)|(rw[jz];rfl)|(rw[kN];rfl)|(rw[kO];rfl)|(rw[join_one];congr 2;omega)),rfl⟩
end Go.Proofs.YtmndlfglgcioeaaGreatDoor
