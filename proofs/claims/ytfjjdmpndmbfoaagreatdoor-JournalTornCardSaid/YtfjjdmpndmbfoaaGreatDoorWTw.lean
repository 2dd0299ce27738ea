import Derived.Test.YtfjjdmpndmbfoaaGreatDoorWTv
set_option linter.unusedVariables false
set_option linter.unusedSimpArgs false
set_option maxRecDepth 100000
set_option maxHeartbeats 16000000
namespace Go.Proofs.YtfjjdmpndmbfoaaGreatDoor
section
open Go.ChangeShapes Go.WideShapes Go.ChangeAt Go.RowKit
section
variable {H:Type} {enc:TypeId×Value->H} {base:Nat} {v v0 v1:Value} {d d0 d1:DataW H} {p p0 p1:List MemPlace} {W:World}
theorem cellsCut30:Tryz.prog.cellsOf 38=2:=by kernel_rfl
theorem cellsU8b:Tryz.prog.cellsOf 5=1:=by kernel_rfl
theorem cellsU16b:Tryz.prog.cellsOf 36=1:=by kernel_rfl
theorem cutsArg (hv:Value.okWide Tryz.prog W .any base 23 v) (h:DataW.Trod enc Tryz.prog W 0 (fun _=>true) true 23 v d p):∃l,CutsV W v l/\l.length<=9223372036854775807:=by
 obtain ⟨A0,n0,c0,rfl⟩:=okWide_slice Tryz.underlying23 hv;obtain ⟨fuel,h⟩:=h;obtain ⟨A,len,c,e2,U,V,o⟩:=sliceOpenN Tryz.underlying23 cellsCut30 (by omega) h
 have e2:Value.slice A0 n0 c0=Value.slice A len c:=by
  have e3:(Value.slice A0 n0 c0).cells.toList=[Value.slice A0 n0 c0]:=rfl;rw [e3] at e2;injection e2
 rw [e2];rcases En len with rfl | hpos
 ·exact ⟨[],⟨A,c,rfl,fun k G=>by simp at G⟩,by simp⟩
 ·obtain ⟨b,off,rfl,E⟩:=o hpos
  obtain ⟨l,I,hp⟩:=chooseList (β:=Nat×Nat) (p:=fun i x=>W.cell? ⟨b,off+(i*2),none⟩=some (.int .u8 (x.1:Nat))/\W.cell? ⟨b,off+(i*2+1),none⟩=some (.int .u16 (x.2:Nat))/\x.1<=255/\x.2<=65535) len (fun i Q=>by
   obtain ⟨cl,n,y,hn,h1,B,D⟩:=E i Q;obtain ⟨M,hf⟩:=fieldOpenN Tryz.underlying38 D;rw [cellsCut30] at M
   obtain ⟨x0,x1,rfl⟩:∃a b,cl=[a,b]:=by
    match cl,M with
    | [a,b],_=>exact ⟨a,b,rfl⟩
   obtain ⟨m0,y0,-,f0⟩:=hf 0 _ _ _ rfl cellsU8b;obtain ⟨m1,y1,-,f1⟩:=hf 1 _ _ _ rfl cellsU16b;have f0:DataW.trod enc Tryz.prog W 0 (fun _=>true) true m0 5 [x0]=some y0:=f0;have f1:DataW.trod enc Tryz.prog W 0 (fun _=>true) true m1 36 [x1]=some y1:=f1;obtain ⟨k0,e0,_,J⟩:=DataW.trod_int Tryz.underlying5 f0;obtain ⟨k1,e1,_,K⟩:=DataW.trod_int Tryz.underlying36 f1;have this0:=J;have this1:=K;simp only [Lit.wf,IntKind.has,DQ,DO] at this0 this1;have a1:IntKind.u8.min=0:=rfl;have a2:IntKind.u8.max=255:=rfl;have a3:IntKind.u16.min=0:=rfl;have a4:IntKind.u16.max=65535:=rfl;injection e0 with e0;injection e1 with e1;subst e0 e1;have g0:=B 0 (by omega);have g1:=B 1 (by omega);refine ⟨(k0.toNat,k1.toNat),?_,?_,by show k0.toNat<=255;omega,by show k1.toNat<=65535;omega⟩
   ·show _=some (Value.int .u8 ((k0.toNat:Nat):Int));rw [Int.toNat_of_nonneg (by omega)];exact g0
   ·show _=some (Value.int .u16 ((k1.toNat:Nat):Int));rw [Int.toNat_of_nonneg (by omega)];exact g1)
  refine ⟨l,⟨some ⟨b,off,none⟩,c,by rw [I],fun k G=>?_⟩,by omega⟩;obtain ⟨h1,B,D,O⟩:=hp k _ (DC G);exact ⟨b,off,rfl,h1,by rw [Nat.add_assoc];exact B,D,O⟩
theorem journalTorn_walk (W:World) (G:zq W) (o:Value.okWide Tryz.prog W .any base 22 v0) (h0:DataW.Trod enc Tryz.prog W 0 (fun _=>true) true 22 v0 d0 p0)
  (B:Value.okWide Tryz.prog W .any base 23 v1) (h1:DataW.Trod enc Tryz.prog W 0 (fun _=>true) true 23 v1 d1 p1):
  Calls Tryz.prog 3 #[v0,v1] W fun e w'=>e=.returned (.bool true)/\Below W.heap.size W w':=by
 obtain ⟨ls,i0,i1,i2⟩:=intssArg o h0;obtain ⟨bs,D,E⟩:=cutsArg B h1;exact jtorn_calls W G i0 i1 i2 D E
end
end
end Go.Proofs.YtfjjdmpndmbfoaaGreatDoor
