/- Of my texts: DmV. -/
import Derived.Test.YtnbkbenkhkinoaaGreatDoorM08
import Derived.Lib.SlKeysI
namespace Go.Proofs.YtnbkbenkhkinoaaGreatDoor
set_option linter.unusedVariables false
set_option linter.unusedSimpArgs false
open Go.RowKit Go.Maps Go.Sort
def upto (n:Nat):List Int:=(List.range n).map fun(i:Nat)=>(i:Int)
theorem upto_at {n i:Nat} (h:i<n):(upto n)[i]?=some (i:Int):=by
 unfold upto;rw[List.getElem?_map,List.getElem?_range h];rfl
theorem upto_length (n:Nat):(upto n).length=n:=by
 unfold upto;rw[List.length_map,List.length_range]
theorem upto_nodup (n:Nat):(upto n).Nodup:=by
 unfold upto;exact List.pairwise_map.2 ((List.pairwise_lt_range (n:=n)).imp fun {a b:Nat} (h:a<b) (e:(a:Int)=(b:Int))=>by omega)
theorem upto_sorted (n:Nat):(upto n).Pairwise (fun a b=>leI a b=true):=by
 unfold upto;exact List.pairwise_map.2 ((List.pairwise_lt_range (n:=n)).imp fun {a b:Nat} (h:a<b)=>show decide ((a:Int)≤(b:Int))=true by simp;omega)
theorem MapIs.has_iff {D:Dt} {gs:List Nat} (h:MapIs D gs) (x:Int):Maps.has D (.int .i64 x)=true↔x∈upto gs.length:=by
 constructor
 · intro hx;have h2:=h.has x hx;unfold upto;exact List.mem_map.2 ⟨x.toNat,List.mem_range.2 (by omega),by omega⟩
 · intro hx;unfold upto at hx;obtain⟨i,hi,rfl⟩:=List.mem_map.1 hx;have hi2:=List.mem_range.1 hi
   cases hh:Maps.has D (.int .i64 (i:Int)) with
   | true=>rfl
   | false =>
     have h3:=h.at_ i _ (List.getElem?_eq_getElem hi2) (.lit (.int .i64 0));rw[atKey_of_not_has hh]at h3;simp only[DataW.lit.injEq,Lit.int.injEq,true_and]at h3;omega
theorem keys_sorted {gs ss:List Int} {n:Nat} (hs:ss.Perm gs) (hn:gs.Perm (upto n)):ss.mergeSort (fun x y=>decide (x≤y))=upto n:=by
 have e:=mergeSort_of_perm_i (hs.trans hn);have e2:(upto n).mergeSort leI=upto n:=List.mergeSort_of_pairwise (upto_sorted n);exact e.trans e2
end Go.Proofs.YtnbkbenkhkinoaaGreatDoor
