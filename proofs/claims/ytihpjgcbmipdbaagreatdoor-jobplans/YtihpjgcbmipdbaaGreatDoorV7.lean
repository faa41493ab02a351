import Derived.Test.YtihpjgcbmipdbaaGreatDoorV6
import Derived.Shelf.Strconv.AtoiErr
import Derived.Shelf.Strconv.Atoi
import Derived.Shelf.Strconv.AppendIntPublic10
set_option linter.unusedVariables false
namespace Go.Vm
open Go.Proofs Go.Shelf Go.RowKit Go.Sort Go.Lib
section
variable {P:Program} {ρ:Ren} {w:World}
structure wM (e:TypeId) (w w':World) (v v':Value) (n:Nat) (xs:List Value):Prop where
 own:fF w' e 1 v' n xs
 grown:w.grownBy w' v.ownBlock
 place:Place w v v'
theorem xu {e:TypeId} {v:Value} {n k:Nat} {xs:List Value} (h:fF w e k v n xs):v.ownBlock=blk v:=by
 rcases h.2 with ⟨rfl,_⟩ | ⟨g,cap,cur,rfl,_⟩ <;> rfl
theorem wM.trans {e:TypeId} {w0 w1 w2:World} {v0 v1 v2:Value} {n1 n2:Nat} {xs ys:List Value} (h:wM e w0 w1 v0 v1 n1 xs) (k:wM e w1 w2 v1 v2 n2 ys) (h0:v0.ownBlock=blk v0):wM e w0 w2 v0 v2 n2 ys:=by
 refine ⟨k.own,⟨k.grown.os.trans h.grown.os,k.grown.tape.trans h.grown.tape,k.grown.output.trans h.grown.output,Nat.le_trans h.grown.size k.grown.size,fun b hb iv => ?_⟩,fun b hb => ?_⟩
 ·have h1:=h.grown.block b hb iv
  rw[<-h1];refine k.grown.block b (Nat.lt_of_lt_of_le hb h.grown.size) fun hh => ?_
  rw[xu h.own] at hh;rcases h.place b hh.symm with hp | hp
  ·omega
  ·exact iv (by rw[h0,hp])
 ·rcases k.place b hb with hp | hp
  ·exact .inl (Nat.le_trans h.grown.size hp)
  ·exact h.place b hp
theorem wM.behind {e:TypeId} {w0 w1 w2:World} {v v':Value} {n:Nat} {xs:List Value} (hb:Below w0.heap.size w0 w1) (k:wM e w1 w2 v v' n xs):wM e w0 w2 v v' n xs :=
 ⟨k.own,⟨k.grown.os.trans hb.os,k.grown.tape.trans hb.tape,k.grown.output.trans hb.output,Nat.le_trans hb.size k.grown.size,fun b h iv=>(k.grown.block b (Nat.lt_of_lt_of_le h hb.size) iv).trans (hb.block b h)⟩,
  fun b hk=>(k.place b hk).imp (fun h=>Nat.le_trans hb.size h) id⟩
theorem fF.below {e:TypeId} {w0 w1:World} {v:Value} {n:Nat} {xs:List Value} (h:fF w0 e 1 v n xs) (hb:Below w0.heap.size w0 w1):fF w1 e 1 v n xs:=by
 refine ⟨h.1,?_⟩;rcases h.2 with h | ⟨g,cap,cur,h1,h2,⟨fz,h3,h4⟩,h5⟩
 ·exact .inl h
 ·exact .inr ⟨g,cap,cur,h1,h2,⟨fz,h3,by rw[hb.block g (mr h4)]; exact h4⟩,h5⟩
theorem AG {ops:Array Oper} {rest:List Oper} {o:Oper} {a:Act} {Q:Exit->Act->World->Prop} (Z7:o.guard=none) (s x:Operand) (t:TypeId)
  (ho:o.op = .call { callee := .builtin .append,args := #[s,x],argTypes := #[t,t] }) (e:TypeId) (i:TypeInfo) (z:Value) (ht:P.underlying t=some (.slice e)) (hi:P.info? e=some i) (hz:i.zero=some z) (Aw:i.size=1) (G3:i.bytes=1) (UC:z.cells.size=1)
  (v:Value) (n:Nat) (xs:List Value) (hs:a.eval s=v) (dD:fF w e 1 v n xs) (ad:Addr) (m c:Nat) (news:List Value) (hx:a.eval x = .slice (some ad) m c) (hl:news.length=m) (zH:∀ j u,news[j]? = some u->w.cell? (ad.add j)=some u) (h1:∀ u∈news,u.oneCell'=true)
  (hb:n+m<=140737488355328) (h:∀ v' w',wM e w w' v v' (n+m) (xs++news)->wpList P ops Q rest (a.put o.dst v') w'):wpList P ops Q (o::rest) a w:=by
 refine wpList_plain Z7 fun K hK => ?_
 obtain ⟨v',w',hr,h2,h3,h4⟩:=wB (P:=P) (w:=w) (t:=t) (ty:=o.type) ht hi hz (by rw[Aw]; exact UC) (by omega) (by omega) (by rw[Aw]; exact dD) (vx := .slice (some ad) m c) (m:=m) (news:=news) (.inr ⟨ad,c,rfl,by rw[Aw,hl,Nat.mul_one],zH,h1⟩) (by rw[G3]; omega);rw[Aw] at h2;unfold Oper.wp execOp;simp only[ho,resolve,invoke,builtin,Sem.run_bind,Sem.run_pure,Result.andThen_ok,List.map_toArray,List.map_cons,List.map_nil,hs,hx,hr];exact hK _ _ (h v' w' ⟨h2,h3,h4⟩)
theorem Bd {ops:Array Oper} {rest:List Oper} {o:Oper} {a:Act} {Q:Exit->Act->World->Prop} (Z7:o.guard=none) (sl x:Operand) (t u:TypeId)
  (ho:o.op = .call { callee := .builtin .append,args := #[sl,x],argTypes := #[t,u] }) (e:TypeId) (i:TypeInfo) (ht:P.underlying t=some (.slice e)) (hu:P.underlying u=some .string) (hi:P.info? e=some i) (hz:i.zero=some (.int .u8 0)) (CK:i.size=1) (G3:i.bytes=1)
  (v:Value) (n:Nat) (xs:List Value) (hs:a.eval sl=v) (dD:fF w e 1 v n xs) (s:ByteArray) (hx:a.eval x = .string s) (hb:n+s.size<=140737488355328)
  (h:∀ v' w',wM e w w' v v' (n+s.size) (xs++strCells s)->wpList P ops Q rest (a.put o.dst v') w'):wpList P ops Q (o::rest) a w:=by
 refine wpList_plain Z7 fun K hK => ?_
 obtain ⟨v',w',hr,h2,h3,h4⟩:=th (P:=P) (w:=w) (ty:=o.type) ht hu hi hz CK G3 dD s hb;unfold Oper.wp execOp;simp only[ho,resolve,invoke,builtin,Sem.run_bind,Sem.run_pure,Result.andThen_ok,List.map_toArray,List.map_cons,List.map_nil,hs,hx,hr];exact hK _ _ (h v' w' ⟨h2,h3,h4⟩)
set_option maxHeartbeats 6400000 in
set_option maxRecDepth 100000 in
theorem KW (L:LaysM.n288 P ρ) (n u:Nat) (hu:u<100) (sv:Value) (xs:List Value) (w:World) (dD:fF w (ρ.t 5) 1 sv n xs) (GW:n+20<=140737488355328) :
  Calls P (ρ.f 288) #[sv,.int .u64 u,.int .i64 10] w fun e w' => ∃ v',e = .returned v'/\wM (ρ.t 5) w w' sv v' (n+(decDigits u).length) (xs++Lib.byteCells (decDigits u)):=by
 have mixed:=L.mixed;have t5:=L.t5; have a5:=L.a5; have z5:=L.z5; have v5:=L.v5;have t37:=L.t37; have u37:=run_underlying L.t37; have a37:=L.a37; have z37:=L.z37; have v37:=L.v37;have t53:=L.t53; have a53:=L.a53; have z53:=L.z53; have v53:=L.v53;have t3:=L.t3; have a3:=L.a3; have z3:=L.z3; have v3:=L.v3;have t4:=L.t4; have a4:=L.a4; have z4:=L.z4; have v4:=L.v4;have t9:=L.t9; have a9:=L.a9; have z9:=L.z9; have v9:=L.v9;have t171:=L.t171; have a171:=L.a171; have z171:=L.z171; have v171:=L.v171;have t0:=L.t0; have a0:=L.a0; have z0:=L.z0; have v0:=L.v0;have t173:=L.t173; have a173:=L.a173; have z173:=L.z173; have v173:=L.v173;have e283:∀ args w,(callFunc (ρ.f 283) args).run P w = .ok (.enter (ρ.f 283) args) w:=enters_of L.f283 (by kernel_rfl) rfl
 obtain ⟨i0,hi,RX,wD,Wt⟩:=info_parts L.i5;have hlen:(decDigits u).length<=20:=by
  rw[Lib.decDigits_length];by_cases T2:u<10
  ·rw[Lib.nDigits_small T2]; omega
  ·rw[Lib.nDigits_big T2,Lib.nDigits_small (show u / 10<10 by omega)]; omega
 have nf:(⟨(decDigits u).toArray⟩:ByteArray).size=(decDigits u).length:=by simp[ByteArray.size]
 go_enter L.f288,Body.n288_ntmps ρ
 go_wp2_with (first
  | (go_at_fn (ρ.f 283); refine (Any.internal_strconv_small { L with } u hu _).mono ?_; rintro e w' ⟨rfl,rfl⟩)
  | (at_builtin; refine Bd rfl _ _ (ρ.t 37) (ρ.t 9) rfl (ρ.t 5) i0 L.t37 L.t9 hi RX wD Wt _ _ _ rfl dD ⟨(decDigits u).toArray⟩ rfl (by rw[nf]; omega) ?_))
 intro v' w1 hg
 go_wp2
 go_ret
 refine ⟨v',rfl,?_⟩
 first | exact hg | (rw[nf] at hg; exact hg)
set_option maxHeartbeats 12800000 in
set_option maxRecDepth 100000 in
theorem Qj (L:LaysM.n288 P ρ) (n u:Nat) (hu:100<=u) (GX:u<18446744073709551616) (sv:Value) (xs:List Value) (w:World) (dD:fF w (ρ.t 5) 1 sv n xs) (GW:n+20<=140737488355328)
  (Dv:Lib.TabIs P w "internal/strconv.uint64pow10" .u64 Lib.pow10Tab) :
  Calls P (ρ.f 288) #[sv,.int .u64 u,.int .i64 10] w fun e w' => ∃ v',e = .returned v'/\wM (ρ.t 5) w w' sv v' (n+(decDigits u).length) (xs++Lib.byteCells (decDigits u)):=by
 have mixed:=L.mixed;have t5:=L.t5; have a5:=L.a5; have z5:=L.z5; have v5:=L.v5;have t37:=L.t37; have u37:=run_underlying L.t37; have a37:=L.a37; have z37:=L.z37; have v37:=L.v37;have t53:=L.t53; have a53:=L.a53; have z53:=L.z53; have v53:=L.v53;have t3:=L.t3; have a3:=L.a3; have z3:=L.z3; have v3:=L.v3;have t4:=L.t4; have a4:=L.a4; have z4:=L.z4; have v4:=L.v4;have t9:=L.t9; have a9:=L.a9; have z9:=L.z9; have v9:=L.v9;have t171:=L.t171; have a171:=L.a171; have z171:=L.z171; have v171:=L.v171;have t0:=L.t0; have a0:=L.a0; have z0:=L.z0; have v0:=L.v0;have t173:=L.t173; have a173:=L.a173; have z173:=L.z173; have v173:=L.v173;have e284:∀ args w,(callFunc (ρ.f 284) args).run P w = .ok (.enter (ρ.f 284) args) w:=enters_of L.f284 (by kernel_rfl) rfl
 have e285:∀ args w,(callFunc (ρ.f 285) args).run P w = .ok (.enter (ρ.f 285) args) w:=enters_of L.f285 (by kernel_rfl) rfl
 obtain ⟨i0,hi,RX,wD,Wt⟩:=info_parts L.i5;have Y1:1<=u:=by omega
 have aaX:Lib.nDigits u<=20:=by have:=Lib.numDigits_eq u Y1 GX; split at this <;> omega
 have Y2:P.arrayLen (ρ.t 171)=24:=by simp[Program.arrayLen,L.t171]
 have UQ:∀ W,(Instr.sliceAt (ρ.t 171) (.pointer (some ⟨w.heap.size,0,none⟩)) none (some (.int .i64 (Lib.nDigits u:Int))) none).run P W = .ok (.slice (some ⟨w.heap.size,0,none⟩) (Lib.nDigits u) 24) W:=fun W=>by
  rw[run_sliceAt_array_h W (ρ.t 171) ⟨w.heap.size,0,none⟩ (by simp[Program.arrayLen,Program.elem,L.t171]) .i64 (Lib.nDigits u:Int) (by omega) (by rw[Y2]; omega)]
  go_simp
 have Z8:=Lib.holds_zero0 w (ρ.t 171) (Lib.nDigits u) (by omega);have WJ:=Any.internal_strconv_formatBase10 { L with } w.heap.size 0 24 u (Array.replicate (Lib.nDigits u) 0) (w.alloc (.cells Lib.zeros24 (ρ.t 171))) Z8 (by rw[Array.size_replicate]; exact Lib.lt_pow_nDigits u) GX (by rw[Array.size_replicate]; omega)
 rw[Array.size_replicate] at WJ;have HH0:=Lib.hid Z8;have iu:(100:Int)<=(u:Int):=by omega
 clear Z8 Y2
 go_enter L.f288,Body.n288_ntmps ρ
 go_wp2_with (first
  | (go_at_fn (ρ.f 284); refine (Any.internal_strconv_numDigits { L with } u Y1 GX _ (Lib.tabIs_alloc Dv _)).mono ?_; rintro e w' ⟨rfl,rfl⟩))
 go_at_fn (ρ.f 285)
 refine WJ.mono ?_
 rintro e w' ⟨rfl,k,v',dk,rfl,hF⟩
 have uA:∀ j u',(Lib.byteCells (decDigits u))[j]? = some u'->((putRow (fun (b:UInt8)=>Value.int .u8 (b.toNat:Int)) (w.alloc (.cells Lib.zeros24 (ρ.t 171))) w.heap.size 0 dk).drewN k).cell? ((⟨w.heap.size,0,none⟩:Addr).add j)=some u':=by
  intro j u' hj;have Rx:j<(decDigits u).length:=by
   have h5:=(List.getElem?_eq_some_iff.1 hj).1
   rwa [Lib.byteCells_length] at h5
  have e5:(Lib.byteCells (decDigits u))[j]? = some (Value.int .u8 ((decDigits u)[j].toNat:Int)):=by simp[Lib.byteCells,Rx]
  rw[e5] at hj;cases hj;rw[Lib.row_is_numeral hF j Rx,Lib.add_plain,World.cell?_drewN];exact cell?_putRow (fun (b:UInt8)=>Value.int .u8 (b.toNat:Int)) _ w.heap.size 0 _ dk HH0.out (by rw[hF.size,Array.size_replicate]) j (by rw[hF.size]; rw[Lib.decDigits_length] at Rx; exact Rx)
 obtain ⟨os,eo⟩:=Lib.fin_at w (.cells Lib.zeros24 (ρ.t 171)) dk k 0;have WK:Below w.heap.size w ((putRow (fun (b:UInt8)=>Value.int .u8 (b.toNat:Int)) (w.alloc (.cells Lib.zeros24 (ρ.t 171))) w.heap.size 0 dk).drewN k):=by rw[eo]; exact Lib.below_grow _ w (Nat.le_refl _) k os
 have UR:=fF.below dD WK;generalize (putRow (fun (b:UInt8)=>Value.int .u8 (b.toNat:Int)) (w.alloc (.cells Lib.zeros24 (ρ.t 171))) w.heap.size 0 dk).drewN k=W2 at uA UR WK ⊢
 clear eo HH0 WJ
 go_wp2_with (at_builtin; refine AG rfl _ _ (ρ.t 37) rfl (ρ.t 5) i0 (.int .u8 0) L.t37 hi RX wD Wt rfl _ _ _ rfl UR ⟨w.heap.size,0,none⟩ (Lib.nDigits u) 24 (Lib.byteCells (decDigits u)) rfl ?c0 uA ?c2 ?c3 ?_)
 case c0=>rw[Lib.byteCells_length,Lib.decDigits_length]
 case c2=>intro u' wG; simp only[Lib.byteCells,List.mem_map] at wG; obtain ⟨b,_,rfl⟩:=wG; rfl
 case c3=>omega
 intro v2 w3 hg
 go_wp2
 go_ret
 refine ⟨v2,rfl,?_⟩;rw[Lib.decDigits_length];exact hg.behind WK
theorem H5 (L:LaysM.n288 P ρ) (n u:Nat) (GX:u<18446744073709551616) (sv:Value) (xs:List Value) (w:World) (dD:fF w (ρ.t 5) 1 sv n xs) (GW:n+20<=140737488355328)
  (Dv:Lib.TabIs P w "internal/strconv.uint64pow10" .u64 Lib.pow10Tab) :
  Calls P (ρ.f 288) #[sv,.int .u64 u,.int .i64 10] w fun e w' => ∃ v',e = .returned v'/\wM (ρ.t 5) w w' sv v' (n+(decDigits u).length) (xs++Lib.byteCells (decDigits u)):=by
 by_cases h:u<100
 ·exact KW L n u h sv xs w dD GW
 ·exact Qj L n u (by omega) GX sv xs w dD GW Dv
set_option maxHeartbeats 6400000 in
set_option maxRecDepth 100000 in
theorem Nx (L:LaysM.n249 P ρ) (n:Nat) (i:Int) (h0 : -9223372036854775808<=i) (h1:i<=9223372036854775807) (sv:Value) (xs:List Value) (w:World) (dD:fF w (ρ.t 5) 1 sv n xs) (GW:n+21<=140737488355328)
  (Dv:∀ w',w.grownBy w' sv.ownBlock->Lib.TabIs P w' "internal/strconv.uint64pow10" .u64 Lib.pow10Tab) :
  Calls P (ρ.f 249) #[sv,.int .i64 i,.int .i64 10] w fun e w' => ∃ v',e = .returned v'/\wM (ρ.t 5) w w' sv v' (n+(Lib.itoa i).length) (xs++Lib.byteCells (Lib.itoa i)):=by
 have mixed:=L.mixed;have t5:=L.t5; have a5:=L.a5; have z5:=L.z5; have v5:=L.v5;have t37:=L.t37; have u37:=run_underlying L.t37; have a37:=L.a37; have z37:=L.z37; have v37:=L.v37;have t2:=L.t2; have a2:=L.a2; have z2:=L.z2; have v2:=L.v2;have t3:=L.t3; have a3:=L.a3; have z3:=L.z3; have v3:=L.v3;have t53:=L.t53; have a53:=L.a53; have z53:=L.z53; have v53:=L.v53;have t4:=L.t4; have a4:=L.a4; have z4:=L.z4; have v4:=L.v4;have e288:∀ args w,(callFunc (ρ.f 288) args).run P w = .ok (.enter (ρ.f 288) args) w:=enters_of L.f288 (by kernel_rfl) rfl
 obtain ⟨i0,hi,RX,wD,Wt⟩:=info_parts L.i5;have Yt:=Dv w ⟨rfl,rfl,rfl,Nat.le_refl _,fun _ _ _=>rfl⟩;by_cases OA:i<0
 ·obtain ⟨u,rfl⟩:∃ u:Nat,i = -(u:Int):=⟨i.natAbs,by omega⟩
  have Y1:1<=u:=by omega
  have GX:u<18446744073709551616:=by omega
  have hwr:IntKind.u64.wrap (-IntKind.u64.wrap (-(u:Int)))=(u:Int):=by rw[IntKind.wrap_u64,IntKind.wrap_u64]; omega
  rw[Lib.itoa_neg u Y1];have hba:Below w.heap.size w (w.alloc (.cells #[.int .u8 45] (ρ.t 5))):=(Below.refl _ w).alloc (Nat.le_refl _) _
  go_enter L.f249,Body.n249_ntmps ρ
  go_wp2_with (at_builtin; refine AG rfl _ _ (ρ.t 37) rfl (ρ.t 5) i0 (.int .u8 0) L.t37 hi RX wD Wt rfl _ _ _ rfl (fF.below dD ((Below.refl _ w).alloc (Nat.le_refl _) _)) ⟨w.heap.size,0,none⟩ 1 1 [Value.int .u8 45] rfl rfl (by intro j u' hj; match j,hj with | 0,hj=>simp at hj; subst hj; simp[Addr.add]) (by intro u' wG; simp at wG; subst wG; rfl) (by omega) ?_)
  intro v1 w1 hg0;have hg:=hg0.behind ((Below.refl _ w).alloc (Nat.le_refl _) _);have Yu:=Dv w1 hg.grown
  go_wp2_with (go_at_fn (ρ.f 288); refine (H5 { L with } (n+1) u GX v1 _ w1 hg.own (by omega) Yu).mono ?_; rintro e w2 ⟨v2,rfl,T0⟩)
  go_wp2
  go_ret
  refine ⟨v2,rfl,?_⟩;have e1:n+((decDigits u).length+1)=n+1+(decDigits u).length:=by omega
  have e2:xs++Lib.byteCells (45::decDigits u)=xs++[Value.int .u8 45]++Lib.byteCells (decDigits u):=by simp[Lib.byteCells]
  rw[e1,e2];exact hg.trans T0 (xu dD)
 ·obtain ⟨u,rfl⟩:∃ u:Nat,i=u:=⟨i.toNat,by omega⟩
  have GX:u<18446744073709551616:=by omega
  rw[Lib.itoa_nonneg]
  go_enter L.f249,Body.n249_ntmps ρ
  go_wp2_with (go_at_fn (ρ.f 288); refine (H5 { L with } n u GX sv xs w dD (by omega) Yt).mono ?_; rintro e w2 ⟨v2,rfl,T0⟩)
  go_wp2
  first | go_ret | go_ret2
  exact ⟨v2,rfl,T0⟩
set_option maxRecDepth 100000 in
theorem MB (L:LaysM.n176 P ρ) (n:Nat) (i:Int) (h0 : -9223372036854775808<=i) (h1:i<=9223372036854775807) (sv:Value) (xs:List Value) (w:World) (dD:fF w (ρ.t 5) 1 sv n xs) (GW:n+21<=140737488355328)
  (Dv:∀ w',w.grownBy w' sv.ownBlock->Lib.TabIs P w' "internal/strconv.uint64pow10" .u64 Lib.pow10Tab) :
  Calls P (ρ.f 176) #[sv,.int .i64 i,.int .i64 10] w fun e w' => ∃ v',e = .returned v'/\wM (ρ.t 5) w w' sv v' (n+(Lib.itoa i).length) (xs++Lib.byteCells (Lib.itoa i)):=by
 have mixed:=L.mixed;have t5:=L.t5; have a5:=L.a5; have z5:=L.z5; have v5:=L.v5;have t37:=L.t37; have u37:=run_underlying L.t37; have a37:=L.a37; have z37:=L.z37; have v37:=L.v37;have t2:=L.t2; have a2:=L.a2; have z2:=L.z2; have v2:=L.v2;have t3:=L.t3; have a3:=L.a3; have z3:=L.z3; have v3:=L.v3;have e249:∀ args w,(callFunc (ρ.f 249) args).run P w = .ok (.enter (ρ.f 249) args) w:=enters_of L.f249 (by kernel_rfl) rfl
 go_enter L.f176,Body.n176_ntmps ρ
 go_wp2_with (go_at_fn (ρ.f 249); refine (Nx { L with } n i h0 h1 sv xs w dD GW Dv).mono ?_; rintro e w2 ⟨v2,rfl,T0⟩)
 go_wp2
 go_ret
 exact ⟨v2,rfl,T0⟩
end
section
variable {P:Program} {ρ:Ren} {kt:KT}
theorem CW {w:World} {X:Nat->Prop} (l:List UInt8):Els (bg kt) w X .u8 l (Lib.byteCells l):=by
 refine ⟨by rw[Lib.byteCells_length]; exact (Nat.mul_one _).symm,?_,?_,?_⟩
 ·intro u hu
  simp only[Lib.byteCells,List.mem_map] at hu;obtain ⟨b,_,rfl⟩:=hu;rfl
 ·intro i hi c dh
  have ym:c=0:=by have:c<1:=dh; omega
  subst ym;have e:i*(bg kt).sz .u8+0=i:=by show i*1+0=i; omega
  refine ⟨.int .u8 (l[i].toNat:Int),?_,?_⟩
  ·rw[e]; simp[Lib.byteCells,hi]
  ·have:=l[i].toNat_lt
   exact .int (by simp only[iy,adi,ac9]; omega)
 ·intro i hi c dh
  have ym:c=0:=by have:c<1:=dh; omega
  subst ym;rfl
def LY (e:TypeId):Spec Kd:={ params:=[.a (.row e .u8),.a (.int .i64),.a (.int .i64)],ret := .one (.a (.row e .u8)),pins:=[],pl:={ nt:=0 },ts:=[] }
def xJ (x:List UInt8×Int×Int):Option (List UInt8) :=
 if decide (x.2.2=10)=true then if decide (x.1.length<=140737488355000)=true then if decide (-9223372036854775808<=x.2.1)=true then if decide (x.2.1<=9223372036854775807)=true then some (x.1++Lib.itoa x.2.1) else none else none else none else none
theorem Fo {l:List UInt8} {i b:Int} {r:List UInt8} (h:xJ (l,i,b)=some r):b=10/\l.length<=140737488355000 /\ -9223372036854775808<=i/\i<=9223372036854775807/\r=l++Lib.itoa i:=by
 unfold xJ at h;split at h
 case isFalse=>cases h
 split at h
 case isFalse=>cases h
 split at h
 case isFalse=>cases h
 split at h
 case isFalse=>cases h
 rename_i h1 h2 h3 h4;cases h;exact ⟨of_decide_eq_true h1,of_decide_eq_true h2,of_decide_eq_true h3,of_decide_eq_true h4,rfl⟩
theorem Py {w:World} {e:TypeId} {v:Value} {l k:List UInt8} {xs:List Value} (h:fF w e 1 v (l.length+k.length) xs):fF w e 1 v (l++k).length xs:=by rw[adf]; exact h
theorem Tn {w:World} {Y:Nat->Prop} {e:TypeId} {k:Kd} {l:List (El k)} {v:Value} {bl:List Nat} (h:Own (bg kt) w Y (.row e k l) v bl):bc (bg kt) w Y e k l v/\bl=(blk v).toList:=by
 cases h with
 | c h =>
  cases h with
  | sh hr hs=>cases hs
  | row h=>exact ⟨h,rfl⟩
theorem Jr (L:LaysM.n176 P ρ) (Ad:∀ w,kt.gl w->Lib.TabIs P w "internal/strconv.uint64pow10" .u64 Lib.pow10Tab) {f:FuncId} {fn:Func} (hf:P.funcs[f]? = some fn) (hb:fn.body.isSome=true) (iT:(fn.name == "runtime.NumGoroutine")=false) (ef:ρ.f 176=f) :
  Ctr (bg kt) P f (ai (bg kt) (LY (ρ.t 5)) xJ):=by
 refine mD fun x r hx w vs Y bl dD vO hY hg UP => ?_
 obtain ⟨l,i,b⟩:=x;obtain ⟨rfl,g2,g3,g4,rfl⟩:=Fo hx;obtain ⟨vs⟩:=vs;cases dD with
 | cons o1 t1=>cases t1 with
  | cons o2 t2=>cases t2 with
   | cons o3 t3=>cases t3 with
    | nil =>
     rename_i sv b1 b2 b3 v2 v3;obtain ⟨rfl,rfl⟩:=Gl o2;obtain ⟨rfl,rfl⟩:=Gl o3;obtain ⟨hr,rfl⟩:=Tn o1;obtain ⟨xs,yk,K9⟩:=hr.els;refine .inl ⟨fA hf hb iT,?_⟩;have Dv:∀ w',w.grownBy w' sv.ownBlock->Lib.TabIs P w' "internal/strconv.uint64pow10" .u64 Lib.pow10Tab:=by
      intro w' WI;refine Ad w' (kt.gl_ok w w' hg fun b hb=>WI.block b (Nat.lt_of_lt_of_le hb (kt.gl_sz w hg)) fun e => ?_);have:=UP b (by rw[xu yk] at e; simp[<-e]);have h5:(bg kt).gb=kt.gb:=rfl;omega
     refine Calls.mono (ef ▸ MB L (List.length l) i g3 g4 sv xs w yk (by omega) Dv) ?_
     rintro e w' ⟨v',rfl,hG⟩
     have u6:(blk v').toList++[]=(blk v').toList:=List.append_nil _;have OG:∀ k,k<w.heap.size->k ∉ (blk sv).toList++([]++([]++[]))->w'.heap[k]? = w.heap[k]? := by
      intro k hk uw;refine hG.grown.block k hk fun e=>uw ?_
      rw[xu yk] at e;simp[<-e]
     refine ⟨v',(blk v').toList,[],rfl,?_,?_,?_,.skip (by intro t cs; exact ⟨nofun,nofun⟩) (.skip (by intro t cs; exact ⟨nofun,nofun⟩) (.skip (by intro t cs; exact ⟨nofun,nofun⟩) .nil)),⟨hG.grown.os,hG.grown.tape,hG.grown.output,hG.grown.size,OG⟩⟩
     ·rw[u6]; cases blk v' <;> simp
     ·intro k hk
      rw[u6,Option.mem_toList] at hk;refine ⟨xZ hG.own k hk,?_⟩;rcases hG.place k hk with h | h
      ·exact .inl h
      ·right; simp[h]
     ·refine Ans.c (.row (bc.mk' (xs:=xs++Lib.byteCells (Lib.itoa i)) (Py hG.own) ?_))
      refine Els.append (K9.mono fun k vM uw => ?_) (CW _);have hnY:k ∉ (blk sv).toList:=fun hm=>(hY k (by simp[Option.mem_toList.1 hm])).1 vM
      refine ⟨⟨.inl vM,?_⟩,Nat.lt_of_lt_of_le uw hG.grown.size,OG k uw (by simpa using hnY)⟩;rw[u6];intro hm;rcases hG.place k (Option.mem_toList.1 hm) with h | h
      ·omega
      ·exact hnY (by simp[h])
def Ls:Spec Kd:={ params:=[.a .str],ret := .tup [.a (.int .i64),.a (.any .er)],pins:=[],pl:={ nt:=0 },ts:=[] }
def LM (x:List UInt8):Option (Int×Bool):=if decide (x.length<=18)=true then some (match Lib.atoi x with | some n=>(n,false) | none=>(0,true)) else none
theorem FC {l:List UInt8} {n:Nat} (h:l.length<=n):(⟨l.toArray⟩:ByteArray).size<=n:=by show l.toArray.size<=n; rw[List.size_toArray]; exact h
theorem Sa {w:World} {Y:Nat->Prop} {a:DV El} {vs:Array Value} {bl:List Nat} (h:ig (Own (bg kt) w Y) [a] vs.toList bl) :
  ∃ u,vs = #[u]/\Own (bg kt) w Y a u bl:=by
 obtain ⟨xs⟩:=vs;cases h with
 | cons h t =>
  cases t;exact ⟨_,rfl,by simpa using h⟩
theorem Qk (L:LaysC.n172 P ρ) (Ad:∀ w,kt.gl w -> ∃ te pe,w.cell? ⟨ρ.g 15,0,none⟩=some (.iface te pe)) (her:kt.j.er=ρ.t 168) {f:FuncId} {fn:Func} (hf:P.funcs[f]? = some fn) (hb:fn.body.isSome=true) (iT:(fn.name == "runtime.NumGoroutine")=false) (ef:ρ.f 172=f) :
  Ctr (bg kt) P f (ai (bg kt) Ls LM):=by
 refine mD fun x r hx w vs Y bl dD vO hY hg UP => ?_
 unfold LM at hx;split at hx
 case isFalse=>cases hx
 rename_i h1;have h1:=of_decide_eq_true h1;cases hx;obtain ⟨u,rfl,o1⟩:=Sa dD;obtain ⟨rfl,rfl⟩:=u4 o1;refine .inl ⟨fA hf hb iT,?_⟩;have nf:(⟨x.toArray⟩:ByteArray).size<=18:=FC h1;have fin:∀ (n:Int) (b:Bool) (v:Value) (w':World),Rep (bg kt) w' (fun b=>(Y b\/w.heap.size<=b\/b∈([]:List Nat))/\b ∉ ([]:List Nat)++[]) (.any .er b) v->Below w.heap.size w w'->Comes (bg kt) Ls (kN (bg kt) Ls.params x) (n,b) w [.string ⟨x.toArray⟩] Y [] (.returned (.tuple #[.int .i64 n,v])) w':=by
  intro n b v w' hr hw;refine ⟨_,[],[],rfl,by simp,by simp,⟨#[.int .i64 n,v],rfl,?_⟩,.skip (by intro t cs; exact ⟨nofun,nofun⟩) .nil,⟨hw.os,hw.tape,hw.output,hw.size,fun k hk _=>hw.block k hk⟩⟩;exact .cons (b:=[]) (.c (.sh (L8 _ _ rfl) rfl)) (.cons (b:=[]) (.c (.sh hr rfl)) .nil)
 cases ha:Lib.atoi x with
 | some n =>
  refine Calls.mono (ef ▸ Any.strconv_Atoi { L with } ⟨x.toArray⟩ n nf (by simpa using ha) w) ?_
  rintro e w' ⟨rfl,t,rfl⟩
  exact fin n false .nilIface _ (.any .nili) (Lib.bytesWorld_below _ _ _)
 | none =>
  obtain ⟨te,pe,hc⟩:=Ad w hg;refine Calls.mono (ef ▸ Any.strconv_Atoi_err L ⟨x.toArray⟩ nf (by simpa using ha) _ w hc (.inr ⟨te,pe,rfl⟩)) ?_
  rintro e w' ⟨N,rfl,h2,h3,h4⟩
  refine fin 0 true _ _ (.any ?_) h4;show Rep (bg kt) _ _ (.ifc kt.j.er .junk) _;rw[her];exact .ifc _ (.junk _)
end
end Go.Vm
