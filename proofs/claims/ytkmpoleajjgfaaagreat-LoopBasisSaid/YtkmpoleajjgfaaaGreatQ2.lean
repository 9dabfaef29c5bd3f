/- Parts of the proof, in order. -/
import Derived.Test.YtkmpoleajjgfaaaGreatQ1
import Derived.Test.YtkmpoleajjgfaaaGreatRows
import Derived.JoinedOf
import Derived.KernelRfl
namespace Go.Proofs.YtkmpoleajjgfaaaGreat
def kD:List (List Nat):=[[104,97,114,110,101,115,115],
 [54,48,102,50,54,50,57,100,55,51,55,98,52,52,52,52,54,100,53,101,98,102,55,50,49,101,97,52,51,55,101,100,56,48,55,56,50,50,54,50,101,48,97,49,55,54,102,53,97,54,98,57,102,100,56,98,98,57,56,99,50,50,100,97],
 [99,117,116],
 [97,116],
 [103,114,105,100,109,97,114,107,101,116,47,103,114,105,100,109,97,114,107,101,116,116,111,112,46,76,111,111,112,66,97,115,105,115]]
def GW:List (List Nat)->List Nat
 |[]=>[]
 |[w]=>w
 |w::ws=>w++32::GW ws
theorem Jg(w:List Nat)(h:w.all (fun n=>n !=32 && n<128)=true):wordsSigns (w.map Char.ofNat)=[w.map Char.ofNat]:=by
 induction w with
 |nil=>rfl
 |cons c w ih=>
  simp only[List.all_cons,Bool.and_eq_true]at h;have e:=ih h.2
  have hc:Char.ofNat c≠Char.ofNat 32:=by
   intro he;have h1:c<128:=by simpa using h.1.2
   have h2:c≠32:=by simpa using h.1.1
   have h3:(Char.ofNat c).toNat=(Char.ofNat 32).toNat:=by rw[he]
   have h4:(Char.ofNat c).toNat=c:=by
    unfold Char.ofNat;rw[dif_pos (Or.inl (by omega))];simp only[Char.ofNatAux,Char.toNat]
    show(BitVec.ofNatLT c _).toNat=c
    rfl
   rw[h4]at h3;exact h2 h3
  show wordsSigns (Char.ofNat c::w.map Char.ofNat)=_
  rw[wordsSigns,e]
  ·rfl
  ·exact hc
theorem E6(w:List Nat)(r:List Char)(h:w.all (fun n=>n !=32 && n<128)=true):wordsSigns (w.map Char.ofNat++Char.ofNat 32::r)=w.map Char.ofNat::wordsSigns r:=by
 induction w with
 |nil=>rfl
 |cons c w ih=>
  simp only[List.all_cons,Bool.and_eq_true]at h;have e:=ih h.2
  have hc:Char.ofNat c≠Char.ofNat 32:=by
   intro he;have h1:c<128:=by simpa using h.1.2
   have h2:c≠32:=by simpa using h.1.1
   have h3:(Char.ofNat c).toNat=(Char.ofNat 32).toNat:=by rw[he]
   have h4:(Char.ofNat c).toNat=c:=by
    unfold Char.ofNat;rw[dif_pos (Or.inl (by omega))];simp only[Char.ofNatAux,Char.toNat]
    show(BitVec.ofNatLT c _).toNat=c
    rfl
   rw[h4]at h3;exact h2 h3
  show wordsSigns (Char.ofNat c::(w.map Char.ofNat++Char.ofNat 32::r))=_
  rw[wordsSigns,e]
  ·rfl
  ·exact hc
theorem vq:∀ws:List (List Nat),ws≠[]->ws.all (fun w=>w.all (fun n=>n !=32 && n<128))=true->wordsSigns ((GW ws).map Char.ofNat)=ws.map (·.map Char.ofNat)
 |[],h,_=>absurd rfl h
 |[w],_,h=>by
  simp only[List.all_cons,Bool.and_eq_true]at h;exact Jg w h.1
 |w::x::ws,_,h=>by
  simp only[List.all_cons,Bool.and_eq_true]at h;have e:=vq (x::ws) (by simp) (by simp only[List.all_cons,Bool.and_eq_true];exact h.2)
  show wordsSigns ((w++32::GW (x::ws)).map Char.ofNat)=_
  rw[List.map_append,List.map_cons,E6 _ _ h.1,e]
  rfl
theorem QD:Tryz.prog.initOrder=String.ofList ((GW kD).map Char.ofNat):=by kernel_rfl
theorem E7:wordsSigns Tryz.prog.initOrder.toList=kD.map (·.map Char.ofNat):=by
 rw[QD,String.toList_ofList];exact vq kD (by unfold kD;simp) (by decide+kernel)
theorem Jh:behindMainWord (wordsSigns Tryz.prog.initOrder.toList)=(kD.drop 2).map (·.map Char.ofNat):=by
 rw[E7]
 kernel_rfl
theorem Ck(P:Program)(c:List Char)(rest:List (List Char))(h:behindMainWord (wordsSigns P.initOrder.toList)=c::rest)(h1:stripLifts liftWords (c::rest)=([],c::rest))(h2:((c::rest).head?==some "cut".toList)=true)
 (h3:P.laysLater=false) (h4:P.bearsReflect=false) (h5:P.doorFits []=true):P.mayEnter=true:=by
 unfold Program.mayEnter;rw[h];simp only[h1,h2,h3,h4,h5];simp
theorem QE(P:Program)(c:List Char)(rest:List (List Char))(h:behindMainWord (wordsSigns P.initOrder.toList)=c::rest)(h1:(c== "gc".toList||c== "spec".toList)=false)(h2:(c== "cut".toList)=true):P.make=some .cut:=by
 unfold Program.make;rw[h];simp only[h1,h2];simp
theorem M5(P:Program)(c:List Char)(rest:List (List Char))(h:behindMainWord (wordsSigns P.initOrder.toList)=c::rest)(h1:stripLifts liftWords (c::rest)=([],c::rest))(h2:((c::rest).head?==some "carried".toList)=false):P.liftsFinal=false:=by
 unfold Program.liftsFinal Program.headLifts;rw[h];simp only[h1,h2];simp
def rH:List (List Char):=((kD.drop 2).drop 1).map (·.map Char.ofNat)
def vr:List Char:=[Char.ofNat 99,Char.ofNat 117,Char.ofNat 116]
theorem vv:behindMainWord (wordsSigns Tryz.prog.initOrder.toList)=vr::rH:=by rw[Jh];kernel_rfl
theorem M6:stripLifts liftWords (vr::rH)=([],vr::rH):=by kernel_rfl
theorem Ji:Tryz.prog.mayEnter=true:=Ck _ _ _ vv M6 (by kernel_rfl) (by kernel_rfl) (by kernel_rfl) (by kernel_rfl)
theorem VY:Tryz.prog.liftsFinal=false:=M5 _ _ _ vv M6 (by kernel_rfl)
theorem ac0:Tryz.prog.make=some .cut:=QE _ _ _ vv (by kernel_rfl) (by kernel_rfl)
theorem anf{a b:Bool}(h:a=true)(k:b=true):(a && b)=true:=by rw[h,k];rfl
end Go.Proofs.YtkmpoleajjgfaaaGreat
