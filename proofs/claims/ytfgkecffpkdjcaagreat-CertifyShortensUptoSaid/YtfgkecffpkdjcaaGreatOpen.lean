/- How the arguments of the statements are opened: slices of limbs, integers; what their sizes are. -/
import Derived.Test.YtfgkecffpkdjcaaGreatRows
import Derived.Test.YtfgkecffpkdjcaaGreatMB
import Derived.ProofKit
import Derived.OpenShut
import Derived.ShutString
import Derived.ChangeOld
import Derived.Below
import Derived.SizedLaws
import Derived.JoinedCond
import Derived.Lib.SmallJoins
namespace Go.Proofs.YtfgkecffpkdjcaaGreat
open Go.ChangeShapes Go.WideShapes Go.ChangeAt Go.RowKit Go.Joins Gm
theorem own:ownKnob Tryz.prog.godebug = none:=by kernel_rfl
theorem laidOut:laidOutB Tryz.prog = true:=by kernel_rfl
theorem cells_u32:Tryz.prog.cellsOf 135 = 1:=by kernel_rfl
section
variable {H:Type} {enc:TypeId × Value→H} {W:World}
theorem open_limbs {n:Nat} {v:Value} {y:DataW H × List MemPlace} (h:DataW.trod enc Tryz.prog W 0 (fun _=>true) true n 32 [v] = some y) :
  ∃ A c xs,v = .slice A xs.length c∧Lim W A c xs∧((y.1 = .nil∧c = 0)∨∃ elems spare,y.1 = .slice elems spare∧elems.length + spare.length = c):=by
 rcases open_ints Tryz.underlying32 Tryz.underlying135 cells_u32 h with ⟨hcs,hx⟩ | ⟨a,len,cap,zs,hcs,_,hl,hm,hz,hx,hcell,hwz⟩
 ·simp at hcs
  subst hcs
  exact ⟨none,0,[],rfl,Lim.nil _ _,.inl ⟨by rw [hx],rfl⟩⟩
 ·simp at hcs
  subst hcs
  have hz':zs.length = cap:=by simpa using hz
  have hlen:((zs.take len).map Int.toNat).length = len:=by simp;omega
  refine ⟨some a,cap,(zs.take len).map Int.toNat,by rw [hlen],?_,.inr ⟨_,_,by rw [hx],?_⟩⟩
  ·refine ⟨?_,by rw [hlen];exact hl,by simpa [maxLen] using hm,?_⟩
   ·intro x hx'
    obtain ⟨z,hzm,rfl⟩:=List.mem_map.1 hx'
    have hb:=bounds_u32 (hwz z (List.mem_of_mem_take hzm))
    have:=Ba_eq
    omega
   ·intro h0
    rw [hlen] at h0
    obtain ⟨b,off,spot⟩:=a
    have h1:=hcell 0 (by omega)
    have hspot:spot = none:=by simpa [Addr.add] using World.cell?_spot h1
    subst hspot
    refine ⟨b,off,rfl,World.block_lt_of_cell? W _ (by simpa [Addr.add] using h1),fun k hk=>?_⟩
    rw [hlen] at hk
    have h2:=hcell k (by omega)
    have he:(Addr.mk b off none).add k = ⟨b,off + k,none⟩:=by
     unfold Addr.add
     split
     ·next h0=>rw [h0];rfl
     ·rfl
    rw [he] at h2
    rw [h2]
    have hk2:k < zs.length:=by omega
    have hb:=bounds_u32 (hwz zs[k] (List.getElem_mem hk2))
    congr 2
    rw [List.getD_eq_getElem?_getD,List.getElem?_eq_getElem hk2,List.getElem?_map,List.getElem?_take_of_lt hk,List.getElem?_eq_getElem hk2]
    simp
    omega
  ·simp only [lits,List.length_map,List.length_take,List.length_drop];omega
theorem bulk_length (l:List (DataW H)):l.length≤Rows.uptoBulkAll l:=by
 induction l with
 | nil=>simp [Rows.uptoBulkAll]
 | cons x r ih=>
   have:1≤Rows.uptoBulk x:=by
    cases x with
    | lit l=>cases l <;> simp [Rows.uptoBulk]
    | nil=>simp [Rows.uptoBulk]
    | ptr d=>simp [Rows.uptoBulk]
    | slice elems spare=>simp [Rows.uptoBulk]
    | agg parts=>simp [Rows.uptoBulk]
    | iface t d=>simp [Rows.uptoBulk]
    | map entries=>simp [Rows.uptoBulk]
    | held h=>simp [Rows.uptoBulk]
   simp only [Rows.uptoBulkAll,List.length_cons];omega
theorem limbs_bulk {d:DataW H} {c:Nat} (h:(d = .nil∧c = 0)∨∃ elems spare,d = .slice elems spare∧elems.length + spare.length = c):c≤Rows.uptoBulk d:=by
 rcases h with ⟨_,rfl⟩ | ⟨elems,spare,rfl,rfl⟩
 ·omega
 ·have h1:=bulk_length elems
  have h2:=bulk_length spare
  simp only [Rows.uptoBulk]
  omega
end
end Go.Proofs.YtfgkecffpkdjcaaGreat
