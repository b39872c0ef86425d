/- A part of the proof of the law MessageKeeps, as its statement says it: for every input; its conditions are the statement's own. -/
import Derived.Orders
import Derived.Scope
import Derived.Recover
import Derived.Test.YtjbjeeoifhegfaaGreatDoorZMessageKeeps1
set_option linter.unusedVariables false
set_option linter.unusedSimpArgs false
open List renaming getElem?_eq_getElem->zmS
open List renaming getElem?_map->zmT
open List renaming mem_cons_of_mem->zmV
open List renaming mem_cons_self->zmW
open Option renaming bind_some->zm4
open List renaming length_append->zm5
open List renaming nil_append->zm7
open Bool renaming and_eq_true->zm8
open Option.some renaming injEq->zm9
namespace Go.Proofs.YtjbjeeoifhegfaaGreatDoor.E
section
variable {P:Program} {E:Env} {G G':Gh} {w w':World} {X:Hd->Prop} {s s':RS} {a a':Act}
variable {cf:Nat->List AV->za->Option (Out×za)}
theorem zat:∀ k,xl k->X0 k:=fun k hk=>by cases k<;>first|exact hk.elim|exact ⟨by simp,by simp⟩
theorem VRel.simp' {hh:Nat->Hd}:∀ {x:AV} {v:Value},wS x=true->VRel P E G w hh x v->SRel G x v
 |.pv _,_,_,h=>h
 |.ptr ..,_,_,h=>h
 |.slu ..,_,hs,_=>by simp[wS] at hs
 |.agg ..,_,hs,_=>by simp[wS] at hs
 |.elp ..,_,hs,_=>by simp[wS] at hs
 |.clo ..,_,hs,_=>by simp[wS] at hs
 |.gm ..,_,hs,_=>by simp[wS] at hs
 |.mp ..,_,hs,_=>by simp[wS] at hs
 |.tup ..,_,hs,_=>by simp[wS] at hs
 |.und,_,hs,_=>by simp[wS] at hs
 |.dead,_,hs,_=>by simp[wS] at hs
theorem zeV (hS:SysOk P E) (h:Rel P E G s a w) {pre:Option Nat} {o:Oper} {fn:Fn} {first captured:Array Operand} (ho:o.op=.makeFunc fn first captured) (hd:∀ d',o.dst=some d'->d'<a.tmps.size) {ws:List W} {pn:Pn} (hr:(act E cf pre o).run s=some (ws,pn)):OpOk P E G s a w pre o (s.puts ws) pn:=by
 have hx:(execOp a.eval o).run P w=.ok (.value (.func fn (first.map a.eval) (captured.map a.eval))) w:=by simp[execOp,ho,Instr.makeFunc]
 simp only[act,ho] at hr
 obtain ⟨u1,fs,v1,h1,h2,rfl⟩:=zmR hr
 obtain ⟨G1,f1,p1,r1,l1,e1⟩:=YQ hS _ h h1
 rw[RS.puts_append]
 obtain ⟨u2,cs,v2,h3,h4,rfl⟩:=zmR h2
 obtain ⟨G2,f2,p2,r2,l2,e2⟩:=YQ hS _ r1 h3
 rw[RS.puts_append]
 have lr1:fs.all wS=true->LRel G2 fs (first.map a.eval):=fun hs=>⟨by rw[l1];simp,fun j q x hq hx=>by
  have hj:j<first.size:=by have:=(List.getElem?_eq_some_iff.1 hq).1;rw[l1] at this;simpa using this
  obtain ⟨k1,k2,k3⟩:=e1 j q (first[j],0) hq (by simp[hj])
  have:x=a.eval first[j]:=by simp[hj] at hx;exact hx.symm
  subst this
  exact ((k3 (fun _=>.imm)).fr f2 (fun _=>X1_old.1)).simp' (List.all_eq_true.1 hs q (List.mem_of_getElem? hq))⟩
 have lr2:cs.all wS=true->LRel G2 cs (captured.map a.eval):=fun hs=>⟨by rw[l2];simp,fun j q x hq hx=>by
  have hj:j<captured.size:=by have:=(List.getElem?_eq_some_iff.1 hq).1;rw[l2] at this;simpa using this
  obtain ⟨k1,k2,k3⟩:=e2 j q (captured[j],0) hq (by simp[hj])
  have:x=a.eval captured[j]:=by simp[hj] at hx;exact hx.symm
  subst this
  exact (k3 (fun _=>.imm)).simp' (List.all_eq_true.1 hs q (List.mem_of_getElem? hq))⟩
 split at h4
 ·rename_i hemp
  simp only[zm8,List.isEmpty_iff] at hemp
  have z1:first=#[]:=by apply Array.ext';simpa[hemp.1] using l1.symm
  have z2:captured=#[]:=by apply Array.ext';simpa[hemp.2] using l2.symm
  refine xO h ((f1.trans f2).weaken xn X0_old) (xV (p2.trans p1)) r2 hd h4 (x:=.func fn (first.map a.eval) (captured.map a.eval)) ?_ hx pre
  rw[z1,z2]
  simp only[Array.map_empty]
  exact PRep.v rfl
 ·split at h4
  ·rename_i hs
   simp only[zm8] at hs
   exact xO h ((f1.trans f2).weaken xn X0_old) (xV (p2.trans p1)) r2 hd h4 (x:=.func fn (first.map a.eval) (captured.map a.eval)) ⟨_,_,rfl,lr1 hs.1,lr2 hs.2⟩ hx pre
  ·exact (zr h4).elim
theorem zeW (hS:SysOk P E) (h:Rel P E G s a w) {pre:Option Nat} {o:Oper} {t:Nat} {x:Operand} (ho:o.op=.makeInterface t x) (hd:∀ d',o.dst=some d'->d'<a.tmps.size) {ws:List W} {pn:Pn} (hr:(act E cf pre o).run s=some (ws,pn)):OpOk P E G s a w pre o (s.puts ws) pn:=by
 simp only[act,ho] at hr
 obtain ⟨u1,i,v1,h1,h2,rfl⟩:=zmR hr
 obtain ⟨rfl,hi⟩:=yX h1
 simp only[RS.puts,zm7] at h2 ⊢
 obtain ⟨u2,_,v2,h3,h4,rfl⟩:=zmR h2
 obtain ⟨rfl,hn⟩:=z5 h3
 simp only[RS.puts,zm7] at h4 ⊢
 obtain ⟨u3,v,v3,h5,h6,rfl⟩:=zmR h4
 obtain ⟨G1,f1,p1,r1,q1,q2,hv⟩:=YP hS h h5
 rw[RS.puts_append]
 split at h6
 ·obtain ⟨d,hu,hd'⟩:=(hS.ty t i hi).un
  have hcon:(Instr.makeInterface t (a.eval x)).run P w=.ok (.iface t (a.eval x)) w:=by
   rw[hn] at hd'
   cases d<;>first|(simp[Y2] at hd';done)|simp[Instr.makeInterface,run_underlying hu]
  exact xO h (f1.weaken xn X0_old) (xV p1) r1 hd h6 (x:=.iface t (a.eval x)) (PRep.ifc (hv (fun _=>.imm))) (by simp[execOp,ho,hcon]) pre
 ·exact (zr h6).elim
theorem ze4 (hS:SysOk P E) (h:Rel P E G s a w) {pre:Option Nat} {o:Oper} {t u:Nat} {x:Operand} (ho:o.op=.typeAssert x t u true) (hd:∀ d',o.dst=some d'->d'<a.tmps.size) {ws:List W} {pn:Pn} (hr:(act E cf pre o).run s=some (ws,pn)):OpOk P E G s a w pre o (s.puts ws) pn:=by
 simp only[act,ho] at hr
 obtain ⟨u1,i,v1,h1,h2,rfl⟩:=zmR hr
 obtain ⟨rfl,hi⟩:=yX h1
 simp only[RS.puts,zm7] at h2 ⊢
 obtain ⟨u2,_,v2,h3,h4,rfl⟩:=zmR h2
 obtain ⟨rfl,hn⟩:=z5 h3
 simp only[RS.puts,zm7] at h4 ⊢
 obtain ⟨u3,v,v3,h5,h6,rfl⟩:=zmR h4
 obtain ⟨G1,f1,p1,r1,q1,q2,hv⟩:=YP hS h h5
 rw[RS.puts_append]
 split at h6
 ·rename_i p
  obtain ⟨u4,q,v4,h7,h8,rfl⟩:=zmR h6
  obtain ⟨rfl,hq⟩:=zE h7
  simp only[RS.puts,zm7] at h8 ⊢
  obtain ⟨u5,_,v5,h9,h10,rfl⟩:=zmR h8
  obtain ⟨rfl,hqu⟩:=z5 h9
  simp only[RS.puts,zm7] at h10 ⊢
  obtain ⟨qt,qp⟩:=q
  obtain rfl:qt=u:=of_decide_eq_true hqu
  have hp:p=.ifc qt qp:=by have:=zbb hq;cases this;rfl
  subst hp
  obtain ⟨d,hu,hd'⟩:=(hS.ty qt i hi).un
  have hP:PRep G1.g (.ifc qt qp) (a.eval x):=hv (fun _=>.imm)
  generalize hy:a.eval x=y at hP
  cases hP with
  |ifc hP=>
   rename_i z
   have hcon:(Instr.typeAssert (.iface qt z) t qt true).run P w=.ok (.tuple #[z,.bool true]) w:=by
    rw[hn] at hd'
    cases d<;>first|(simp[Y2] at hd';done)|simp[Instr.typeAssert,run_underlying hu]
   refine xO h (f1.weaken xn X0_old) (xV p1) r1 hd h10 (x:=.tuple #[z,.bool true]) (PRep.tup rfl fun j q u hq hu=>?_) (by simp[execOp,ho,hy,hcon]) pre
   match j with
   |0=>simp at hq hu;subst hq;subst hu;exact hP
   |1=>simp at hq hu;subst hq;subst hu;exact PRep.v rfl
   |j+2=>simp at hq
 ·exact (zr h6).elim
theorem zbj {n:Int}:∀ (l:List (Int×Nat)) {s:RS} {ws:List W} {f:Nat},(J7 n l).run s=some (ws,f)->ws=[]/\∃ p,l.find? (fun q=>q.1==n)=some p/\f=p.2
 |[],s,ws,f,h=>(zr h).elim
 |q::l,s,ws,f,h=>by
  rcases Q2 h with ⟨hb,h'⟩|⟨hb,h'⟩
  ·obtain ⟨rfl,rfl⟩:=Yd h'
   exact ⟨rfl,q,by simp[hb],rfl⟩
  ·obtain ⟨rfl,p,hp,hf⟩:=zbj l h'
   exact ⟨rfl,p,by simp only[List.find?_cons,hb];exact hp,hf⟩
theorem zeU (hS:SysOk P E) (h:Rel P E G s a w) {pre:Option Nat} {o:Oper} {t:Nat} {x y:Operand} (ho:o.op=.lookup t x y false) (hd:∀ d',o.dst=some d'->d'<a.tmps.size) {ws:List W} {pn:Pn} (hr:(act E cf pre o).run s=some (ws,pn)):OpOk P E G s a w pre o (s.puts ws) pn:=by
 simp only[act,ho] at hr
 obtain ⟨u1,v,v1,h1,h2,rfl⟩:=zmR hr
 obtain ⟨rfl,hh,hv⟩:=xG hS h h1
 simp only[RS.puts,zm7] at h2 ⊢
 split at h2
 ·rename_i g
  obtain ⟨u2,n,v2,h3,h4,rfl⟩:=zmR h2
  obtain ⟨rfl,hn⟩:=Zz hS h h3
  simp only[RS.puts,zm7] at h4 ⊢
  obtain ⟨u3,l,v3,h5,h6,rfl⟩:=zmR h4
  obtain ⟨rfl,hl⟩:=zE h5
  simp only[RS.puts,zm7] at h6 ⊢
  obtain ⟨u4,_,v4,h7,h8,rfl⟩:=zmR h6
  obtain ⟨rfl,hb⟩:=z5 h7
  simp only[zm8,decide_eq_true_eq] at hb
  simp only[RS.puts,zm7] at h8 ⊢
  obtain ⟨u5,pf,v5,h9,h10,rfl⟩:=zmR h8
  obtain ⟨rfl,p,hp,rfl⟩:=zbj _ h9
  simp only[RS.puts,zm7] at h10 ⊢
  obtain ⟨bm,es,clock,hx,_,hw,hlk⟩:MRel P E G w g (a.eval x):=hv
  have:=hlk w hw l n.2 p hl hp
  rw[hb.1] at this
  exact ym h hd h10 (x:=.func (.func p.2) #[] #[]) (PRep.v rfl) (by simp[execOp,ho,hx,hn,hb.2,this]) pre
 ·exact (zr h2).elim
theorem ze0 (hS:SysOk P E) (h:Rel P E G s a w) {pre:Option Nat} {o:Oper} {x:Operand} (ho:o.op=.panic x) {ws:List W} {pn:Pn} (hr:(act E cf pre o).run s=some (ws,pn)):OpOk P E G s a w pre o (s.puts ws) pn:=by
 simp only[act,ho] at hr
 obtain ⟨u1,v,v1,h1,h2,rfl⟩:=zmR hr
 obtain ⟨rfl,hh,hv⟩:=xG hS h h1
 simp only[RS.puts,zm7] at h2 ⊢
 obtain ⟨u0,q,v0,h01,h02,rfl⟩:=zmR h2
 obtain ⟨rfl,hq⟩:=zE h01
 have:=zbb hq
 subst this
 obtain ⟨t,p⟩:=q
 obtain ⟨rfl,rfl⟩:=run_pure h02
 intro K Q hK
 have hv':PRep G.g (.ifc t p) (a.eval x):=hv
 have hv2:=hv'
 generalize hy:a.eval x=y at hv2
 cases hv2 with
 |ifc hp=>
  rename_i u
  have hx:(execOp a.eval o).run P w=.halt (.panic (.iface t u)) w:=by simp[execOp,ho,hy,Instr.panic]
  unfold Oper.wp
  rw[hx]
  exact hK G w _ (Fr.refl.weaken (fun _ h=>h.elim) X0_old) (fun _ _ _ _ h=>h) h (hy▸hv')
theorem zkQ {t e sz:Nat} {ke:TypeInfo} (hu:P.underlying t=some (.slice e)) (he:P.info? e=some ke) (hs:ke.size=sz) (w:World) (p:Option Addr) (len cap:Nat) (lo hi:Option Value) (l h:Int)
  (hl:(lo=none/\l=0)∨∃ k,lo=some (.int k l)) (hh:(hi=none/\h=len)∨∃ k,hi=some (.int k h)) (h0:0<=l) (h1:l<=h) (h2:h<=len) (hc:len<=cap) :
  (Instr.sliceAt t (.slice p len cap) lo hi none).run P w=.ok (.slice (if cap=l.toNat then p else p.map (·.add (l.toNat*sz))) (h.toNat-l.toNat) (cap-l.toNat)) w:=by
 have e1:(h.toNat:Int)=h:=Int.toNat_of_nonneg (by omega)
 have a1:0<=h:=by omega
 have a2:h<=(cap:Int):=by omega
 rcases hl with ⟨rfl,rfl⟩|⟨k,rfl⟩<;>rcases hh with ⟨rfl,rfl⟩|⟨k',rfl⟩ <;>
  simp[Instr.sliceAt,Instr.slice,run_underlying hu,Instr.sliceBounds,run_sliceBound,sizeOf,typeInfo,he,hs,h0,h1,a1,a2,e1]
theorem zk6 {sz:Nat} {xs:List PV} {p:Option Addr} {len cap:Nat} (hP:PRep G.g (.sl sz xs) (.slice p len cap)) {l h:Nat} (h1:l<=h) (h2:h<=xs.length) :
  len=xs.length/\len<=cap/\PRep G.g (.sl sz ((xs.take h).drop l)) (.slice (if cap=l then p else p.map (·.add (l*sz))) (h-l) (cap-l)):=by
 cases hP with
 |sl0=>
  refine ⟨rfl,Nat.zero_le _,?_⟩
  simp at h2
  subst h2
  obtain rfl:l=0:=by omega
  simp
  exact .sl0
 |sl g1 g2 g3 g4 g5 g6=>
  rename_i b o c
  refine ⟨rfl,g2,?_⟩
  have hlen:((xs.take h).drop l).length=h-l:=by simp;omega
  by_cases hz:h-l=0
  ·have:(xs.take h).drop l=[]:=List.eq_nil_of_length_eq_zero (by omega)
   rw[this,hz]
   exact .sl0
  ·rw[if_neg (by omega)]
   have e:(some (⟨b,o,none⟩:Addr)).map (·.add (l*sz))=some ⟨b,o+l*sz,none⟩:=by simp[Addr.add_lit]
   rw[e,←hlen]
   have get:∀ (i:Nat) (x:PV),((xs.take h).drop l)[i]? = some x->xs[l+i]? = some x:=by
    intro i x hx
    rw[List.getElem?_drop,List.getElem?_take] at hx
    split at hx
    ·exact hx
    ·cases hx
   have hm:(h-l)*sz+l*sz=h*sz:=by rw[←Nat.add_mul];congr 1;omega
   have hm2:h*sz<=xs.length*sz:=Nat.mul_le_mul_right _ h2
   refine .sl g1 (by omega) (by rw[hlen];omega) (fun x hx=>g4 x (List.mem_of_mem_take (List.mem_of_mem_drop hx))) ?_ ?_
   ·intro i x j q u hx hq hu
    refine g5 (l+i) x j q u (get i x hx) hq ?_
    rw[←hu];congr 1;rw[Nat.add_mul];omega
   ·intro i x j q u hx hq hu
    refine g6 (l+i) x j q u (get i x hx) hq ?_
    rw[←hu];congr 1;rw[Nat.add_mul];omega
theorem za6 (hS:SysOk P E) (h:Rel P E G s a w) {hi:Option Operand} {d:Int} {ws:List W} {n:Int} (hr:((match hi with|some y=>do let n ←intOf E 3 y;pure n.2|none=>pure d):RM Int).run s=some (ws,n)) :
  ws=[]/\((hi.map a.eval=none/\n=d)∨∃ k,hi.map a.eval=some (.int k n)):=by
 cases hi with
 |none=>obtain ⟨rfl,rfl⟩:=run_pure hr;exact ⟨rfl,.inl ⟨rfl,rfl⟩⟩
 |some y=>
  obtain ⟨u1,m,v1,h1,h2,rfl⟩:=zmR hr
  obtain ⟨rfl,hm⟩:=Zz hS h h1
  obtain ⟨rfl,rfl⟩:=run_pure h2
  exact ⟨rfl,.inr ⟨m.1,by simp[hm]⟩⟩
theorem ze2 (hS:SysOk P E) (h:Rel P E G s a w) {pre:Option Nat} {o:Oper} {t:Nat} {x:Operand} {lo hi:Option Operand} (ho:o.op=.slice t x lo hi none) (hd:∀ d',o.dst=some d'->d'<a.tmps.size) {ws:List W} {pn:Pn} (hr:(act E cf pre o).run s=some (ws,pn)):OpOk P E G s a w pre o (s.puts ws) pn:=by
 simp only[act,ho] at hr
 obtain ⟨u1,i,v1,h1,h2,rfl⟩:=zmR hr
 obtain ⟨rfl,hi'⟩:=yX h1
 simp only[RS.puts,zm7] at h2 ⊢
 obtain ⟨u2,el,v2,h3,h4,rfl⟩:=zmR h2
 obtain ⟨rfl,hel⟩:=zE h3
 obtain ⟨hu,ke,z,he,hks,_⟩:=(hS.ty t i hi').el el hel
 simp only[RS.puts,zm7] at h4 ⊢
 obtain ⟨u3,v,v3,h5,h6,rfl⟩:=zmR h4
 obtain ⟨G1,f1,p1,r1,q1,q2,hv⟩:=YP hS h h5
 rw[RS.puts_append]
 split at h6
 ·obtain ⟨u0,q,v0,h01,h02,rfl⟩:=zmR h6
  obtain ⟨rfl,hq⟩:=zE h01
  have:=WW hq
  subst this
  obtain ⟨sz,xs⟩:=q
  simp only[RS.puts,zm7] at h02 ⊢
  obtain ⟨u4,_,v4,h7,h8,rfl⟩:=zmR h02
  obtain ⟨rfl,hb⟩:=z5 h7
  have hb':=of_decide_eq_true hb
  simp only[RS.puts,zm7] at h8 ⊢
  obtain ⟨u5,hN,v5,h9,h10,rfl⟩:=zmR h8
  obtain ⟨rfl,hH⟩:=za6 hS r1 h9
  simp only[RS.puts,zm7] at h10 ⊢
  obtain ⟨u6,lN,v6,h11,h12,rfl⟩:=zmR h10
  obtain ⟨rfl,hL⟩:=za6 hS r1 h11
  simp only[RS.puts,zm7] at h12 ⊢
  obtain ⟨u7,_,v7,h13,h14,rfl⟩:=zmR h12
  obtain ⟨rfl,hb2⟩:=z5 h13
  simp only[zm8,decide_eq_true_eq] at hb2
  simp only[RS.puts,zm7] at h14 ⊢
  have hP:PRep G1.g (.sl sz xs) (a.eval x):=hv (fun _=>.imm)
  obtain ⟨p,len,cap,hx⟩:∃ p len cap,a.eval x=.slice p len cap:=by
   generalize a.eval x=y at hP
   cases hP<;>exact ⟨_,_,_,rfl⟩
  rw[hx] at hP
  obtain ⟨e1,e2,e3⟩:=zk6 hP (l:=lN.toNat) (h:=hN.toNat) (by omega) (by omega)
  have hH':(hi.map a.eval=none/\hN=(len:Int))∨∃ k,hi.map a.eval=some (.int k hN):=by rw[e1];exact hH
  have hrun:=zkQ hu he (hks.trans hb'.symm) w p len cap (lo.map a.eval) (hi.map a.eval) lN hN hL hH' hb2.1.1 hb2.1.2 (by rw[e1];exact hb2.2) e2
  exact xO h (f1.weaken xn X0_old) (xV p1) r1 hd h14 e3 (by simp only[execOp,ho,hx,Option.map_none,Sem.run_bind,hrun,Result.andThen_ok,Sem.run_pure]) pre
 ·exact (zr h6).elim
theorem zaZ {T:TypeId} (wo:WOk P E G w) {e sz len cap:Nat} {xs:List PV} {c:Array Value} (h0:0<sz) (hlen:xs.length=len) (hlc:len<=cap) (hcm:cap<=maxLen) (hcs:c.size=cap*sz) (hT:T=e)
  (hrow:RowRep G.g sz xs (c.toList.take (len*sz))) (w1:World) (hw1:w1.heap=w.heap.push (.cells c T)) (hos:w1.os=w.os) (htp:w1.tape=w.tape) (hot:w1.output=w.output) :
  ∃ G':Gh,Fr G w G' w1 (fun _=>False)/\G'.ph=G.ph/\WOk P E G' w1/\VRel P E G' w1 (fun j=>.hand j) (.slu e sz xs) (.slice (some ⟨w.heap.size,0,none⟩) len cap):=by
 let G':Gh:=⟨G.g,G.ph,fun b=>if b=w.heap.size then some (.hand 0) else G.ka b⟩
 have hnew:w1.heap[w.heap.size]? = some (.cells c T):=by rw[hw1];simp
 have hold:∀ b,b<w.heap.size->w1.heap[b]? = w.heap[b]?:=fun b hb=>by rw[hw1,Array.getElem?_push_lt hb,Array.getElem?_eq_getElem hb]
 have hka:∀ b k,G.ka b=some k->G'.ka b=some k:=fun b k hb=>by
  show (if b=w.heap.size then some (Hd.hand 0) else G.ka b)=some k
  rw[if_neg (Nat.ne_of_lt (wo.dom b k hb))];exact hb
 have f:Fr G w G' w1 (fun _=>False):=⟨fun _ _ h=>h,fun _ _ h=>h,fun b k hb _=>⟨hka b k hb,hold b (wo.dom b k hb)⟩,⟨id,id⟩,hos,htp,hot,by rw[hw1];simp⟩
 refine ⟨G',f,rfl,wo.fr f (fun b cc hc=>?_) (fun b k hb=>?_),?_⟩
 ·obtain ⟨k1,T',fr,k2⟩:=wo.imm b cc hc
  exact ⟨hka b _ k1,T',fr,(hold b (wo.dom b _ k1)).trans k2⟩
 ·have hsz:w1.heap.size=w.heap.size+1:=by rw[hw1];simp
  by_cases hbb:b=w.heap.size
  ·omega
  ·have:G.ka b=some k:=by
    have:(if b=w.heap.size then some (Hd.hand 0) else G.ka b)=some k:=hb
    rwa [if_neg hbb] at this
   have:=wo.dom b k this
   omega
 ·refine ⟨h0,c.toList.take (len*sz),⟨?_,.inr ⟨w.heap.size,cap,c,by rw[hlen],Nat.zero_le _,by rw[hnew,hT],by rw[hlen];exact hlc,hcm,hcs,by rw[hlen]⟩⟩,hrow,fun b hb=>?_⟩
  ·rw[hlen]
   have:len*sz<=cap*sz:=Nat.mul_le_mul_right _ hlc
   simp;omega
  ·simp[Value.ownBlock] at hb
   subst hb
   show (if w.heap.size=w.heap.size then some (Hd.hand 0) else G.ka w.heap.size)=some (.hand 0)
   rw[if_pos rfl]
end
section
variable {P:Program} {E:Env} {G G':Gh} {w w':World} {X:Hd->Prop} {s s':RS} {a a':Act}
variable {cf:Nat->List AV->za->Option (Out×za)}
structure ZEl (P:Program) (e:Nat) (p:PV):Prop where
 k:∃ k z,P.info? e=some k/\k.zero=some z/\z.cells.size=p.cells.length/\∀ (g:Nat->Option (Array Value)) (j:Nat) (q:PV) (u:Value),p.cells[j]? = some q->z.cells[j]? = some u->q.isCell=true/\PRep g q u
theorem zdc (hS:SysOk P E) {e:Nat} {ws:List W} {p:PV} (hr:(Ky E e).run s=some (ws,p)):ws=[]/\ZEl P e p:=by
 unfold Ky at hr
 obtain ⟨u1,i,v1,h1,h2,rfl⟩:=zmR hr
 obtain ⟨rfl,hi⟩:=yX h1
 simp only[RS.puts,zm7] at h2 ⊢
 obtain ⟨u2,ps,v2,h3,h4,rfl⟩:=zmR h2
 obtain ⟨rfl,hps⟩:=zE h3
 simp only[RS.puts,zm7] at h4 ⊢
 obtain ⟨k,z,hk,hks,hz,hzs,hzl,hzr⟩:=(hS.ty e i hi).info
 have hl:ps.length=i.zero.length:=by
  have:∀ (l:List AV) (ps:List PV),l.mapM (fun a=>zb (vH a))=some ps->ps.length=l.length:=by
   intro l
   induction l with
   |nil=>intro ps h;simp at h;subst h;rfl
   |cons q r ih=>
    intro ps h
    simp only[List.mapM_cons,Option.bind_eq_bind,Option.bind_eq_some_iff,Option.pure_def,zm9] at h
    obtain ⟨p,_,ps',hps,rfl⟩:=h
    simp[ih ps' hps]
  exact this _ _ hps
 have hget:∀ (j:Nat) (q:PV),ps[j]? = some q->∃ b,i.zero[j]? = some b/\zb (vH b)=some q:=by
  have:∀ (l:List AV) (ps:List PV),l.mapM (fun a=>zb (vH a))=some ps->∀ (j:Nat) (q:PV),ps[j]? = some q->∃ b,l[j]? = some b/\zb (vH b)=some q:=by
   intro l
   induction l with
   |nil=>intro ps h j q hq;simp at h;subst h;simp at hq
   |cons c r ih=>
    intro ps h j q hq
    simp only[List.mapM_cons,Option.bind_eq_bind,Option.bind_eq_some_iff,Option.pure_def,zm9] at h
    obtain ⟨p,hp,ps',hps,rfl⟩:=h
    cases j with
    |zero=>simp at hq;subst hq;exact ⟨c,rfl,hp⟩
    |succ j=>simp at hq;obtain ⟨b,hb,hb'⟩:=ih ps' hps j q hq;exact ⟨b,by simpa using hb,hb'⟩
  exact this _ _ hps
 have cell:∀ (g:Nat->Option (Array Value)) (j:Nat) (q:PV) (u:Value),ps[j]? = some q->z.cells[j]? = some u->q.isCell=true/\PRep g q u:=by
  intro g j q u hq hu
  obtain ⟨b,hb,hbq⟩:=hget j q hq
  have hZ:=hzr j b u hb hu
  cases b with
  |pv p=>
   simp[vH,zb] at hbq
   subst hbq
   cases p with
   |v x=>obtain ⟨h1,rfl⟩:=hZ;exact ⟨rfl,.v h1⟩
   |_=>exact hZ.elim
  |slu e' sz xs=>
   simp[vH,zb] at hbq
   subst hbq
   cases xs with
   |nil=>obtain ⟨rfl,_⟩:=hZ;exact ⟨rfl,.sl0⟩
   |cons y ys=>exact hZ.elim
  |_=>simp[vH,zb] at hbq
 split at h4
 ·obtain ⟨rfl,rfl⟩:=run_pure h4
  exact ⟨rfl,⟨k,z,hk,hz,by simp[PV.cells,hl,hzs],cell⟩⟩
 ·split at h4
  ·obtain ⟨rfl,rfl⟩:=run_pure h4
   have hp1:p.isCell=true:=by
    obtain ⟨u,hu⟩:∃ u,z.cells[0]? = some u:=by
     have:0<z.cells.size:=by rw[hzs,←hl];simp
     exact ⟨_,Array.getElem?_eq_getElem this⟩
    exact (cell (fun _=>none) 0 p u rfl hu).1
   have hpc:p.cells=[p]:=by cases p<;>simp_all [PV.cells,PV.isCell]
   refine ⟨rfl,⟨k,z,hk,hz,by rw[hzs,←hl,hpc],fun g j q u hq hu=>?_⟩⟩
   rw[hpc] at hq
   exact cell g j q u hq hu
  ·exact (zr h4).elim
theorem zde {e sz n:Nat} {p:PV} {g:Nat->Option (Array Value)} (hsz:p.cells.length=sz) {z:Value} (hzs:z.cells.size=p.cells.length) (hz:∀ (j:Nat) (q:PV) (u:Value),p.cells[j]? = some q->z.cells[j]? = some u->q.isCell=true/\PRep g q u)
  {us:List Value} (hu:∀ (k:Nat) (u:Value),us[k]? = some u->z.cells[k%sz]? = some u):RowRep g sz (List.replicate n p) us:=by
 refine ⟨fun x hx=>by rw[List.eq_of_mem_replicate hx];exact hsz,fun i x j q u hx hq huu=>?_⟩
 have hxp:x=p:=by
  have:=List.mem_of_getElem? hx
  exact List.eq_of_mem_replicate this
 subst hxp
 have hj:j<sz:=by rw[←hsz];exact (List.getElem?_eq_some_iff.1 hq).1
 have:=hu _ u huu
 rw[Nat.add_comm,Nat.add_mul_mod_self_right,Nat.mod_eq_of_lt hj] at this
 exact hz j q u hq this
theorem zaQ {z:Array Value} {n k:Nat} {u:Value} (h:(madeCells z n).toList[k]? = some u) (hz:0<z.size):z[k%z.size]? = some u:=by
 simp only[madeCells,Array.toList_map,Array.toList_range,zmT] at h
 cases hk:(List.range n)[k]? with
 |none=>simp[hk] at h
 |some k' =>
  have:k' = k:=by
   have:=List.getElem?_eq_some_iff.1 hk
   obtain ⟨h1,h2⟩:=this
   simpa using h2.symm
  subst this
  simp only[hk,Option.map_some,zm9] at h
  have hlt:k'%z.size<z.size:=Nat.mod_lt _ hz
  rw[←h,getElem!_pos z (k'%z.size) hlt,Array.getElem?_eq_getElem hlt]
theorem zeX (hS:SysOk P E) (h:Rel P E G s a w) {pre:Option Nat} {o:Oper} {t:Nat} {x y:Operand} (ho:o.op=.makeSlice t x y) (hd:∀ d',o.dst=some d'->d'<a.tmps.size) {ws:List W} {pn:Pn} (hr:(act E cf pre o).run s=some (ws,pn)):OpOk P E G s a w pre o (s.puts ws) pn:=by
 simp only[act,ho] at hr
 obtain ⟨u1,i,v1,h1,h2,rfl⟩:=zmR hr
 obtain ⟨rfl,hi⟩:=yX h1
 simp only[RS.puts,zm7] at h2 ⊢
 obtain ⟨u2,el,v2,h3,h4,rfl⟩:=zmR h2
 obtain ⟨rfl,hel⟩:=zE h3
 obtain ⟨hu,ke,z0,he,hks,hkb,hkz,hz0,h0⟩:=(hS.ty t i hi).el el hel
 simp only[RS.puts,zm7] at h4 ⊢
 obtain ⟨u3,n,v3,h5,h6,rfl⟩:=zmR h4
 obtain ⟨rfl,hn⟩:=Zz hS h h5
 simp only[RS.puts,zm7] at h6 ⊢
 obtain ⟨u4,m,v4,h7,h8,rfl⟩:=zmR h6
 obtain ⟨rfl,hm⟩:=Zz hS h h7
 simp only[RS.puts,zm7] at h8 ⊢
 obtain ⟨u5,_,v5,h9,h10,rfl⟩:=zmR h8
 obtain ⟨rfl,hb⟩:=z5 h9
 simp only[zm8,decide_eq_true_eq,ye] at hb
 obtain ⟨⟨⟨b1,b2⟩,b3⟩,b4,b5⟩:=hb
 simp only[RS.puts,zm7] at h10 ⊢
 obtain ⟨u6,p,v6,h11,h12,rfl⟩:=zmR h10
 obtain ⟨rfl,⟨k,z,hk,hz,hzs,hcell⟩⟩:=zdc hS h11
 rw[he] at hk;cases hk
 rw[hkz] at hz;cases hz
 simp only[RS.puts,zm7] at h12 ⊢
 obtain ⟨u7,_,v7,h13,h14,rfl⟩:=zmR h12
 obtain ⟨rfl,hpl⟩:=z5 h13
 have hpl':p.cells.length=el.2.1:=of_decide_eq_true hpl
 simp only[RS.puts,zm7] at h14 ⊢
 have hrun:=run_make (P:=P) w t el.1 ke z0 hu he hkz n.1 m.1 n.2 m.2 b1 b2 (by
  rw[hkb]
  have e1:((m.2.toNat:Nat):Int)=m.2:=Int.toNat_of_nonneg (by omega)
  have:(m.2.toNat*el.2.2:Nat)<=140737488355328:=b4
  have h2:((m.2.toNat*el.2.2:Nat):Int)<=((140737488355328:Nat):Int):=Int.ofNat_le.mpr this
  rw[Int.natCast_mul,e1,Int.mul_comm] at h2
  omega) (by omega)
 have hsz0:0<z0.cells.size:=by rw[hz0];exact h0
 obtain ⟨G1,f1,p1,wo1,hv⟩:=zaZ h.wo (T:=el.1) (e:=el.1) (sz:=el.2.1) (len:=n.2.toNat) (cap:=m.2.toNat) (xs:=List.replicate n.2.toNat p) (c:=madeCells z0.cells (m.2.toNat*ke.size)) h0 (by simp) (by omega) (by unfold maxLen;omega) (by rw[size_madeCells,hks]) rfl
  (zde (e:=0) hpl' hzs (hcell G.g) (fun k' u' hu' => by
   rw[List.getElem?_take] at hu'
   split at hu'
   ·have:=zaQ hu' hsz0
    rwa [hz0] at this
   ·cases hu')) (w.alloc (.cells (madeCells z0.cells (m.2.toNat*ke.size)) el.1)) rfl rfl rfl rfl
 have r1:=h.fr f1 wo1 (fun l b hb=>p1▸hb) (fun k hk=>hk.elim)
 exact xO h (f1.weaken (fun _ h=>h.elim) X0_old) (xV p1) r1 hd h14 hv (by simp only[execOp,ho,hn,hm,Sem.run_bind,hrun,Result.andThen_ok,Sem.run_pure]) pre
theorem zeJ (hS:SysOk P E) (h:Rel P E G s a w) {pre:Option Nat} {o:Oper} {t n:Nat} {parts:Array (Nat×Operand)} (ho:o.op=.buildSlice t n parts) (hd:∀ d',o.dst=some d'->d'<a.tmps.size) {ws:List W} {pn:Pn} (hr:(act E cf pre o).run s=some (ws,pn)):OpOk P E G s a w pre o (s.puts ws) pn:=by
 simp only[act,ho] at hr
 obtain ⟨u1,i,v1,h1,h2,rfl⟩:=zmR hr
 obtain ⟨rfl,hi⟩:=yX h1
 simp only[RS.puts,zm7] at h2 ⊢
 obtain ⟨u2,el,v2,h3,h4,rfl⟩:=zmR h2
 obtain ⟨rfl,hel⟩:=zE h3
 obtain ⟨hu,ke,z0,he,hks,hkb,hkz,hz0,h0⟩:=(hS.ty t i hi).el el hel
 simp only[RS.puts,zm7] at h4 ⊢
 obtain ⟨u3,_,v3,h5,h6,rfl⟩:=zmR h4
 obtain ⟨rfl,hb⟩:=z5 h5
 simp only[zm8,decide_eq_true_eq] at hb
 obtain ⟨b1,b2⟩:=hb
 simp only[RS.puts,zm7] at h6 ⊢
 obtain ⟨u4,as0,v4,h7,h8,rfl⟩:=zmR h6
 obtain ⟨G1,f1,p1,r1,l1,e1⟩:=YQ hS _ h h7
 rw[RS.puts_append]
 obtain ⟨u5,ps,v5,h9,h10,rfl⟩:=zmR h8
 obtain ⟨rfl,hps⟩:=zE h9
 have hpv:=QV hps
 simp only[RS.puts,zm7] at h10 ⊢
 obtain ⟨u6,_,v6,h11,h12,rfl⟩:=zmR h10
 obtain ⟨rfl,hall⟩:=z5 h11
 simp only[List.all_eq_true,zm8,decide_eq_true_eq] at hall
 simp only[RS.puts,zm7] at h12 ⊢
 have hpn:parts.toList.length=n:=by have:=congrArg List.length b2;simpa using this
 have hpsn:ps.length=n:=by
  have:as0.length=n:=by rw[l1];simpa using hpn
  rw[hpv] at this;simpa using this
 let vs:List Value:=parts.toList.map fun q=>a.eval q.2
 have hvl:vs.length=n:=by simp[vs];simpa using hpn
 have yl:∀ (j:Nat) (p:PV) (u:Value),ps[j]? = some p->vs[j]? = some u->u.cells.size=el.2.1/\∀ (k:Nat) (q:PV) (y:Value),p.cells[k]? = some q->u.cells[k]? = some y->q.isCell=true/\PRep G1.g q y:=by
  intro j p u hp hu
  have hj:j<parts.toList.length:=by have:=(List.getElem?_eq_some_iff.1 hu).1;simpa[vs] using this
  have hu':u=a.eval (parts.toList[j]).2:=by simp[vs,zmS hj] at hu;exact hu.symm
  subst hu'
  obtain ⟨_,_,k3⟩:=e1 j (.pv p) ((parts.toList[j]).2,el.1) (by rw[hpv];simp[hp]) (by simp[zmS hj])
  obtain ⟨q1,q2⟩:=hall p (List.mem_of_getElem? hp)
  obtain ⟨c1,c2⟩:=Xb (k3 (fun _=>.imm)) (by simp only[z9,List.all_map,List.all_eq_true];intro q hq;exact q2 q hq)
  have hlen:(z9 (.pv p)).length=p.cells.length:=by simp[z9]
  refine ⟨by rw[c1,hlen,q1],fun k q y hq hy=>?_⟩
  exact c2 k (.pv q) y (by simp[z9,hq]) hy
 have hvs:∀ v∈vs,v.cells.size=el.2.1:=fun v hv=>by
  obtain ⟨j,hj,rfl⟩:=List.getElem_of_mem hv
  have hjp:j<ps.length:=by omega
  exact (yl j ps[j] vs[j] (zmS hjp) (zmS hj)).1
 have hparts:(parts.map fun (i,x)=>(i,a.eval x)).toList=(vs.zipIdx 0).map fun x=>(x.2,x.1):=by
  apply List.ext_getElem?
  intro j
  simp only[Array.toList_map,zmT,List.getElem?_zipIdx]
  by_cases hj:j<parts.toList.length
  ·have hidx:(parts.toList[j]).1=j:=by
    have:=congrArg (fun l=>l[j]?) b2
    simp only[zmT,zmS hj,Option.map_some] at this
    rw[List.getElem?_range (by omega)] at this
    exact Option.some.inj this
   simp[vs,zmS hj]
   simpa using hidx
  ·simp[vs,List.getElem?_eq_none (Nat.le_of_not_lt hj)]
 have hrun:(Instr.buildSlice t n (parts.map fun (i,x)=>(i,a.eval x))).run P w=.ok (.slice (some ⟨w.heap.size,0,none⟩) n n) (w.alloc (.cells (vs.flatMap fun v=>v.cells.toList).toArray el.1)):=by
  by_cases hn0:n=0
  ·have hv0:vs=[]:=List.eq_nil_of_length_eq_zero (by omega)
   have hp0:(parts.map fun (i,x)=>(i,a.eval x))=#[]:=by apply Array.ext';rw[hparts,hv0];rfl
   rw[hp0,hv0,hn0]
   simp[Instr.buildSlice,run_underlying hu,sizeOf,typeInfo,he,Instr.fill,newRow,show Array.range 0=#[] from rfl]
  ·have hpos:0<n*ke.size:=Nat.mul_pos (by omega) (by rw[hks];exact h0)
   refine run_buildSlice w t el.1 n _ _ ke z0 hu he hkz (by rw[hks];omega) (by omega) ?_
   rw[hparts,hks]
   exact Great.fill_whole h0 vs _ hvs (by rw[hvl];simp)
 have hcs:(vs.flatMap fun v=>v.cells.toList).toArray.size=n*el.2.1:=by
  have:∀ l:List Value,(∀ v∈l,v.cells.size=el.2.1)->(l.flatMap fun v=>v.cells.toList).length=l.length*el.2.1:=by
   intro l
   induction l with
   |nil=>intro _;simp
   |cons y r ih=>intro hl;rw[List.flatMap_cons,zm5,ih (fun v hv=>hl v (zmV _ hv)),List.length_cons,Nat.add_mul,Nat.one_mul];have:=hl y zmW;simp[this];omega
  simp[this vs hvs,hvl]
 have hmul:n*1<=n*el.2.1:=Nat.mul_le_mul_left _ h0
 obtain ⟨G2,f2,p2,wo2,hv⟩:=zaZ r1.wo (T:=el.1) (e:=el.1) (sz:=el.2.1) (len:=n) (cap:=n) (xs:=ps) (c:=(vs.flatMap fun v=>v.cells.toList).toArray) h0 hpsn (Nat.le_refl _) (by unfold maxLen;omega) hcs rfl
  ⟨fun x hx=>(hall x hx).1,fun i x j q u hx hq hu=>by
   have hjs:j<el.2.1:=by rw[←(hall x (List.mem_of_getElem? hx)).1];exact (List.getElem?_eq_some_iff.1 hq).1
   have hil:i<ps.length:=(List.getElem?_eq_some_iff.1 hx).1
   rw[List.getElem?_take] at hu
   split at hu
   ·rw[Great.flat_get h0 vs hvs] at hu
    have d1:(i*el.2.1+j)/el.2.1=i:=by rw[Nat.add_comm,Nat.add_mul_div_right _ _ h0,Nat.div_eq_of_lt hjs,Nat.zero_add]
    have d2:(i*el.2.1+j)%el.2.1=j:=by rw[Nat.add_comm,Nat.add_mul_mod_self_right,Nat.mod_eq_of_lt hjs]
    rw[d1,d2] at hu
    have hiv:i<vs.length:=by omega
    rw[zmS hiv,zm4] at hu
    exact (yl i x vs[i] hx (zmS hiv)).2 j q u hq hu
   ·cases hu⟩ (w.alloc (.cells (vs.flatMap fun v=>v.cells.toList).toArray el.1)) rfl rfl rfl rfl
 have r2:=r1.fr f2 wo2 (fun l b hb=>p2▸hb) (fun k hk=>hk.elim)
 exact xO h ((f1.weaken xn X0_old).trans (f2.weaken (fun _ h=>h.elim) X0_old)) (xV (p2.trans p1)) r2 hd h12 hv (by simp only[execOp,ho,Sem.run_bind,hrun,Result.andThen_ok,Sem.run_pure]) pre
end
section
variable {P:Program} {E:Env} {G G':Gh} {w w':World} {X:Hd->Prop} {s s':RS} {a a':Act}
variable {cf:Nat->List AV->za->Option (Out×za)}
theorem j5:∀ (vs:List Value) (k off:Nat) (cells:Array Value),off+k+vs.length<=cells.size->
  ((vs.zipIdx k).foldl (fun cs x=>cs.setIfInBounds (off+x.2) x.1) cells).toList=yP cells.toList (off+k) vs
 |[],k,off,cells,_=>by simp[yP]
 |v::r,k,off,cells,h=>by
  simp only[List.zipIdx_cons,List.foldl_cons]
  rw[j5 r (k+1) off _ (by simp at h ⊢;omega)]
  have:(cells.setIfInBounds (off+k) v).toList=cells.toList.set (off+k) v:=by simp
  rw[this,show off+(k+1)=off+k+1 by omega]
  exact zcb cells.toList (off+k) v r (by simp at h ⊢;omega)
theorem jX {pl:Nat->Option (Nat×Nat)}:∀ (parts:List (Nat×List AV×Value)) (cs:List AV) (c:Array Value) (r:List AV),c.size=cs.length->
  (∀ (j:Nat) (q:AV) (y:Value),cs[j]? = some q->c[j]? = some y->BRel G w (.hand j) q y)->
  (∀ x∈parts,x.2.2.cells.size=x.2.1.length)->(∀ x∈parts,∀ o n,pl x.1=some (o,n)->∀ (j:Nat) (q:AV) (y:Value),x.2.1[j]? = some q->x.2.2.cells[j]? = some y->BRel G w (.hand (o+j)) q y)->
  WE pl cs (parts.map fun x=>(x.1,x.2.1))=some r->
  ∃ c',Instr.fill pl c (parts.map fun x=>(x.1,x.2.2))=some c'/\c'.size=r.length/\∀ (j:Nat) (q:AV) (y:Value),r[j]? = some q->c'[j]? = some y->BRel G w (.hand j) q y
 |[],cs,c,r,hs,hc,_,_,h=>by
  simp only[List.map_nil,WE,zm9] at h
  subst h
  exact ⟨c,rfl,hs,hc⟩
 |(i,qs,v)::rest,cs,c,r,hs,hc,hz,hp,h=>by
  simp only[List.map_cons,WE] at h
  split at h
  ·rename_i o n hpl
   split at h
   ·rename_i hcond
    obtain ⟨h1,h2⟩:=hcond
    have hv:v.cells.size=qs.length:=hz (i,qs,v) zmW
    have hfit:o+0+v.cells.toList.length<=c.size:=by simp[hv,hs];omega
    have hl:=j5 v.cells.toList 0 o c hfit
    simp only[Nat.add_zero] at hl
    let c1:Array Value:=(v.cells.zipIdx.foldl (fun cs x=>cs.setIfInBounds (o+x.2) x.1) c)
    have hc1:c1.toList=yP c.toList o v.cells.toList:=by
     rw[←hl]
     show (Array.foldl _ c v.cells.zipIdx).toList=_
     rw[←Array.foldl_toList]
     congr 2
     simp[Array.toList_zipIdx]
    have hfit2:o+v.cells.toList.length<=c.toList.length:=by simpa using hfit
    have hfit3:o+qs.length<=cs.length:=by omega
    have hs1:c1.size=(yP cs o qs).length:=by
     rw[←Array.length_toList,hc1,Kf _ _ _ hfit2,Kf _ _ _ hfit3]
     simpa using hs
    obtain ⟨c',g1,g2,g3⟩:=jX rest (yP cs o qs) c1 r hs1 (fun j q y hq hy=>by
     have hy':(yP c.toList o v.cells.toList)[j]? = some y:=by rw[←hc1];simpa using hy
     rw[Ke _ _ _ hfit2] at hy'
     rw[Ke _ _ _ hfit3] at hq
     have hvl:v.cells.toList.length=qs.length:=by simpa using hv
     by_cases hj:o<=j/\j<o+qs.length
     ·rw[if_pos hj] at hq
      rw[if_pos (by omega)] at hy'
      have:=hp (i,qs,v) zmW o n hpl (j-o) q y hq (by simpa using hy')
      rwa [show o+(j-o)=j by omega] at this
     ·rw[if_neg hj] at hq
      rw[if_neg (by omega)] at hy'
      exact hc j q y hq (by simpa using hy')) (fun x hx=>hz x (zmV _ hx)) (fun x hx=>hp x (zmV _ hx)) h
    refine ⟨c',?_,g2,g3⟩
    simp only[List.map_cons,Instr.fill,hpl]
    rw[if_neg]
    ·exact g1
    ·have e1:v.cells.size=n:=hv.trans h1
     have e2:¬(o+v.cells.size>c.size):=by omega
     simp only[e1,ne_eq,not_true_eq_false,decide_false,Bool.false_or,decide_eq_true_eq]
     omega
   ·cases h
  ·cases h
theorem zjM (hS:SysOk P E) {t:Nat} {i:TI} (hT:TyOk P t i) {fs:Array Field} (hu:P.underlying t=some (.struct fs)) (hn:fs.size=i.fields.length) (hall:∀ x∈i.fields,(find E.ti x.2).isSome=true) :
  ∃ places,fs.toList.mapM (fun f=>(P.info? f.type).map fun k=>(f.offset,k.size))=some places/\∀ j:Nat,places[j]? = (i.fields[j]?).bind fun (f:Nat×Nat)=>(find E.ti f.2).map fun k=>(f.1,k.size):=by
 have hf:∀ (j:Nat) (fd:Field) (x:Nat×Nat),fs[j]? = some fd->i.fields[j]? = some x->fd.offset=x.1/\fd.type=x.2:=by
  intro j fd x hfd hx
  obtain ⟨fs',fd',h1,h2,h3,h4⟩:=hT.fields j x hx
  rw[hu] at h1
  cases h1
  rw[hfd] at h2
  cases h2
  exact ⟨h3,h4⟩
 have gen:∀ (l:List Field) (xs:List (Nat×Nat)),l.length=xs.length->(∀ (j:Nat) (fd:Field) (x:Nat×Nat),l[j]? = some fd->xs[j]? = some x->fd.offset=x.1/\fd.type=x.2)->(∀ x∈xs,(find E.ti x.2).isSome=true)->
   ∃ places,l.mapM (fun f=>(P.info? f.type).map fun k=>(f.offset,k.size))=some places/\∀ j:Nat,places[j]? = (xs[j]?).bind fun (f:Nat×Nat)=>(find E.ti f.2).map fun k=>(f.1,k.size):=by
  intro l
  induction l with
  |nil=>
   intro xs hl _ _
   have:xs=[]:=List.eq_nil_of_length_eq_zero (by simpa using hl.symm)
   subst this
   exact ⟨[],rfl,fun j=>by simp⟩
  |cons fd r ih=>
   intro xs hl hj hx
   cases xs with
   |nil=>simp at hl
   |cons x ys=>
    obtain ⟨h1,h2⟩:=hj 0 fd x rfl rfl
    obtain ⟨ps,q1,q2⟩:=ih ys (by simpa using hl) (fun j fd' x' hfd hx' => hj (j+1) fd' x' (by simpa using hfd) (by simpa using hx')) (fun x' hx' => hx x' (zmV _ hx'))
    obtain ⟨k,hk⟩:=Option.isSome_iff_exists.1 (hx x zmW)
    obtain ⟨ki,z,g1,g2,_⟩:=(hS.ty _ k hk).info
    refine ⟨(x.1,k.size)::ps,by simp[List.mapM_cons,h1,h2,g1,g2,q1],fun j=>?_⟩
    cases j with
    |zero=>simp[hk]
    |succ j=>simpa using q2 j
 exact gen fs.toList i.fields (by simpa using hn) (fun j fd x h1 h2=>hf j fd x (by simpa using h1) h2) hall
theorem zbh:∀ (l:List (AV×Nat)) {s:RS} {ws:List W} {css:List (List AV)},(QM E l).run s=some (ws,css)->ws=[]/\css=l.map fun x=>z9 x.1
 |[],s,ws,css,h=>by
  obtain ⟨rfl,rfl⟩:=run_pure h
  exact ⟨rfl,rfl⟩
 |(q,t)::l,s,ws,css,h=>by
  simp only[QM] at h
  obtain ⟨u1,i,v1,h1,h2,rfl⟩:=zmR h
  obtain ⟨rfl,hi⟩:=yX h1
  simp only[RS.puts,zm7] at h2 ⊢
  obtain ⟨u2,cs,v2,h3,h4,rfl⟩:=zmR h2
  obtain ⟨rfl,rfl,_⟩:=J6 h3
  simp only[RS.puts,zm7] at h4 ⊢
  obtain ⟨u3,r,v3,h5,h6,rfl⟩:=zmR h4
  obtain ⟨rfl,rfl⟩:=zbh l h5
  obtain ⟨rfl,rfl⟩:=run_pure h6
  exact ⟨rfl,rfl⟩
theorem zeI (hS:SysOk P E) (h:Rel P E G s a w) {pre:Option Nat} {o:Oper} {t:Nat} {parts:Array (Nat×Operand)} (ho:o.op=.build t parts) (hd:∀ d',o.dst=some d'->d'<a.tmps.size) {ws:List W} {pn:Pn} (hr:(act E cf pre o).run s=some (ws,pn)):OpOk P E G s a w pre o (s.puts ws) pn:=by
 simp only[act,ho] at hr
 obtain ⟨u1,i,v1,h1,h2,rfl⟩:=zmR hr
 obtain ⟨rfl,hi⟩:=yX h1
 have hT:=hS.ty t i hi
 simp only[RS.puts,zm7] at h2 ⊢
 obtain ⟨u2,_,v2,h3,h4,rfl⟩:=zmR h2
 obtain ⟨rfl,hb⟩:=z5 h3
 simp only[zm8,Bool.or_eq_true,decide_eq_true_eq,List.all_eq_true] at hb
 obtain ⟨b1,b2⟩:=hb
 simp only[RS.puts,zm7] at h4 ⊢
 obtain ⟨u3,as0,v3,h5,h6,rfl⟩:=zmR h4
 obtain ⟨k,z,hk,hks,hz,hzs,hzl,hzr⟩:=hT.info
 let pl:Nat->Option (Nat×Nat):=XC E i
 have key:∃ G1,Fr G w G1 w X0/\G1.ph=G.ph/\Rel P E G1 (s.puts u3) a w/\as0.length=parts.toList.length/\
   ((as0.flatMap z9).all wG=true->∀ (j:Nat) (v:AV) (q:Nat×Operand),as0[j]? = some v->parts.toList[j]? = some q->(a.eval q.2).cells.size=(z9 v).length/\
    ∀ o n,pl q.1=some (o,n)->∀ (m:Nat) (c:AV) (y:Value),(z9 v)[m]? = some c->(a.eval q.2).cells[m]? = some y->BRel G1 w (.hand (o+m)) c y):=by
  split at h5
  ·rename_i q hq
   obtain ⟨u4,v,v4,h7,h8,rfl⟩:=zmR h5
   obtain ⟨rfl,rfl⟩:=run_pure h8
   obtain ⟨G1,f1,p1,r1,hv⟩:=ZK hS h h7
   let off:Nat:=((pl q.1).map (·.1)).getD 0
   let G2:Gh:=⟨G1.g,G1.ph,fun b=>match G1.ka b with|some (.hand j)=>some (.hand (off+j))|q=>q⟩
   have hka:∀ b k,G1.ka b=some k->¬xl k->G2.ka b=some k:=by
    intro b k hb hk
    show (match G1.ka b with|some (.hand j)=>some (Hd.hand (off+j))|q=>q)=some k
    rw[hb]
    cases k<;>first|rfl|exact absurd trivial hk
   have f:Fr G1 w G2 w xl:=⟨fun _ _ h=>h,fun _ _ h=>h,fun b k hb hk=>⟨hka b k hb hk,rfl⟩,⟨id,id⟩,rfl,rfl,rfl,Nat.le_refl _⟩
   have wo:WOk P E G2 w:=r1.wo.fr f (fun b c hc=>by
     obtain ⟨k1,k2⟩:=r1.wo.imm b c hc
     exact ⟨hka b _ k1 id,k2⟩) (fun b k hb=>by
     cases hg:G1.ka b with
     |none=>
      have:G2.ka b=none:=by
       show (match G1.ka b with|some (.hand j)=>some (Hd.hand (off+j))|q=>q)=none
       rw[hg]
      rw[this] at hb;cases hb
     |some q=>exact r1.wo.dom b q hg)
   have hv2:VRel P E G2 w (fun j=>.hand (off+j)) v (a.eval q.2):=hv.move f (fun j b hb=>⟨by
    show (match G1.ka b with|some (.hand j)=>some (Hd.hand (off+j))|q=>q)=some (.hand (off+j))
    rw[hb],rfl⟩)
   refine ⟨G2,(f1.weaken xn X0_old).trans (f.weaken zat X0_old),p1,by rw[List.append_nil];exact r1.fr f wo (fun _ _ h=>h) (fun _ h=>h),by rw[hq];rfl,fun hok j v' q' hj hq' => ?_⟩
   cases j with
   |succ j=>simp at hj
   |zero=>
    simp at hj
    subst hj
    rw[hq] at hq'
    simp at hq'
    subst hq'
    obtain ⟨c1,c2⟩:=Xb hv2 (by simpa using hok)
    refine ⟨c1,fun o n hon m c y hc hy=>?_⟩
    have:=c2 m c y hc hy
    have ho:off=o:=by simp[off,hon]
    rwa [ho] at this
  ·obtain ⟨G1,f1,p1,r1,l1,e1⟩:=YQ hS _ h h5
   refine ⟨G1,f1.weaken xn X0_old,p1,r1,by simpa using l1,fun hok j v q hj hq=>?_⟩
   obtain ⟨k1,k2,k3⟩:=e1 j v (q.2,_) hj (by rw[zmT,hq];rfl)
   have hokv:(z9 v).all wG=true:=by
    rw[List.all_eq_true] at hok ⊢
    exact fun c hc=>hok c (List.mem_flatMap.2 ⟨v,List.mem_of_getElem? hj,hc⟩)
   exact ⟨(Xb (k3 (fun _=>.imm)) hokv).1,fun o n _ m c y hc hy=>(Xb (k3 (fun m=>.hand (o+m))) hokv).2 m c y hc hy⟩
 obtain ⟨G1,f1,p1,r1,l1,e1⟩:=key
 rw[RS.puts_append]
 obtain ⟨u9,css,v9,h07,h08,rfl⟩:=zmR h6
 obtain ⟨rfl,hcss⟩:=zbh _ h07
 have hcss:css=as0.map z9:=by
  rw[hcss]
  show List.map (z9∘Prod.fst) _=_
  rw[←List.map_map,List.map_fst_zip (by rw[l1];simp)]
 subst hcss
 simp only[RS.puts,zm7] at h08 ⊢
 obtain ⟨u5,_,v5,h7,h8,rfl⟩:=zmR h08
 obtain ⟨rfl,hok⟩:=z5 h7
 have e1:=e1 (by
  rw[List.all_eq_true] at hok ⊢
  intro c hc
  obtain ⟨v,hv,hcv⟩:=List.mem_flatMap.1 hc
  exact List.all_eq_true.1 (hok _ (List.mem_map_of_mem hv)) c hcv)
 simp only[RS.puts,zm7] at h8 ⊢
 obtain ⟨u6,r,v6,h9,h10,rfl⟩:=zmR h8
 obtain ⟨rfl,hr'⟩:=zE h9
 simp only[RS.puts,zm7] at h10 ⊢
 let L:List (Nat×List AV×Value):=(parts.toList.zip as0).map fun x=>(x.1.1,z9 x.2,a.eval x.1.2)
 have hget:∀ x∈L,∃ (j:Nat) (v:AV) (q:Nat×Operand),as0[j]? = some v/\parts.toList[j]? = some q/\x=(q.1,z9 v,a.eval q.2):=by
  intro x hx
  obtain ⟨y,hy,rfl⟩:=List.mem_map.1 hx
  obtain ⟨j,hj,rfl⟩:=List.getElem_of_mem hy
  have hj1:j<parts.toList.length:=by simp at hj;simp;omega
  have hj2:j<as0.length:=by omega
  exact ⟨j,as0[j],parts.toList[j],zmS hj2,zmS hj1,by simp⟩
 have hL1:(L.map fun x=>(x.1,x.2.1))=(parts.toList.map (·.1)).zip (as0.map z9):=by
  apply List.ext_getElem?
  intro j
  simp only[L,List.map_map,zmT,List.zip_map]
  cases (parts.toList.zip as0)[j]?<;>rfl
 have hL2:(L.map fun x=>(x.1,x.2.2))=(parts.map fun (i,x)=>(i,a.eval x)).toList:=by
  apply List.ext_getElem?
  intro j
  simp only[L,List.map_map,zmT,Array.toList_map]
  by_cases hj:j<parts.toList.length
  ·have hj2:j<as0.length:=by omega
   have:(parts.toList.zip as0)[j]? = some (parts.toList[j],as0[j]):=by simp[List.getElem?_zip_eq_some,zmS hj,zmS hj2]
   rw[this,zmS hj]
   rfl
  ·rw[List.getElem?_eq_none (Nat.le_of_not_lt hj),List.getElem?_eq_none (by simp at hj ⊢;omega)]
   rfl
 obtain ⟨c',g1,g2,g3⟩:=jX (G:=G1) (w:=w) (pl:=pl) L i.zero z.cells r hzs (fun j q y hq hy=>(hzr j q y hq hy).b)
  (fun x hx=>by obtain ⟨j,v,q,h1,h2,rfl⟩:=hget x hx;exact (e1 j v q h1 h2).1)
  (fun x hx o n hon=>by obtain ⟨j,v,q,h1,h2,rfl⟩:=hget x hx;exact (e1 j v q h1 h2).2 o n hon) (by rw[hL1];exact hr')
 have hbuilt:P.built t (parts.map fun (i,x)=>(i,a.eval x)).toList=some c':=by
  unfold Program.built
  cases harr:i.arr with
  |some x=>
   obtain ⟨e,ke,hu,he,hke,hae⟩:=hT.arr x harr
   simp only[hk,hu,hz,he]
   rw[←hL2,←g1]
   congr 1
   funext j
   show _=XC E i j
   simp only[XC,harr,hke]
  |none=>
   have b3:=b2.resolve_left (by simp[harr])
   obtain ⟨fs,hu,we⟩:=hT.struct b1 harr
   obtain ⟨places,hpl,hpg⟩:=zjM hS hT hu we b3
   simp only[hk,hu,hz,hpl]
   rw[←hL2,←g1]
   congr 1
   funext j
   simp only[List.getElem?_toArray]
   show _=XC E i j
   simp only[XC,harr]
   exact hpg j
 refine xO h f1 (xV p1) r1 hd h10 (x:=.agg c') ⟨c',rfl,g2,g3⟩ ?_ pre
 have:=run_build (P:=P) w t (parts.map fun (i,x)=>(i,a.eval x)) c' hbuilt
 simp only[execOp,ho,Sem.run_bind,this,Result.andThen_ok,Sem.run_pure]
end
section
variable {P:Program} {E:Env} {G G':Gh} {w w':World} {X:Hd->Prop} {s s':RS} {a a':Act}
variable {cf:Nat->List AV->za->Option (Out×za)}
theorem RowRep.one {g:Nat->Option (Array Value)} {sz:Nat} {xs:List PV} {us:List Value} (h:RowRep g sz xs us) (h0:0<sz) (hl:us.length=xs.length*sz):∀ u∈us,u.oneCell' = true:=by
 intro u hu
 obtain ⟨k,hk,rfl⟩:=List.getElem_of_mem hu
 have hi:k/sz<xs.length:=Nat.div_lt_of_lt_mul (by rw[Nat.mul_comm];omega)
 have hj:k%sz<(xs[k/sz]).cells.length:=by rw[h.1 _ (List.getElem_mem hi)];exact Nat.mod_lt _ h0
 obtain ⟨h1,h2⟩:=h.2 (k/sz) xs[k/sz] (k%sz) (xs[k/sz]).cells[k%sz] us[k] (zmS hi) (zmS hj) (by
  rw[Nat.mul_comm,Nat.div_add_mod];exact zmS hk)
 exact h2.one h1
theorem RowRep.append {g:Nat->Option (Array Value)} {sz:Nat} {xs ys:List PV} {us vs:List Value} (h:RowRep g sz xs us) (k:RowRep g sz ys vs) (hl:us.length=xs.length*sz):RowRep g sz (xs++ys) (us++vs):=by
 refine ⟨fun x hx=>(List.mem_append.1 hx).elim (h.1 x) (k.1 x),fun i x j q u hx hq hu=>?_⟩
 by_cases hi:i<xs.length
 ·rw[List.getElem?_append_left hi] at hx
  have hj:j<sz:=by rw[←h.1 x (List.mem_of_getElem? hx)];exact (List.getElem?_eq_some_iff.1 hq).1
  have:i*sz+sz<=xs.length*sz:=by
   calc i*sz+sz=(i+1)*sz:=by rw[Nat.add_mul,Nat.one_mul]
    _<=xs.length*sz:=Nat.mul_le_mul_right _ hi
  rw[List.getElem?_append_left (by omega)] at hu
  exact h.2 i x j q u hx hq hu
 ·rw[List.getElem?_append_right (by omega)] at hx
  have:xs.length*sz<=i*sz:=Nat.mul_le_mul_right _ (by omega)
  rw[List.getElem?_append_right (by omega)] at hu
  refine k.2 (i-xs.length) x j q u hx hq ?_
  rw[←hu];congr 1;rw[Nat.sub_mul,hl];omega
theorem qz (wo:WOk P E G w) {sz:Nat} {ys:List PV} {v:Value} (h:PRep G.g (.sl sz ys) v∨∃ k e,URel G w k e sz ys v) :
  ∃ p cap us,v=.slice p ys.length cap/\us.length=ys.length*sz/\RowRep G.g sz ys us/\(p=none->ys=[])/\∀ ad,p=some ad->∀ (j:Nat) (u:Value),us[j]? = some u->w.cell? (ad.add j)=some u:=by
 rcases h with h|⟨k,e,h0,us,⟨hl,h1⟩,h2,_⟩
 ·cases h with
  |sl0=>exact ⟨_,_,[],rfl,by simp,⟨fun x hx=>by simp at hx,fun i x j q u hx=>by simp at hx⟩,fun _=>rfl,fun ad _ j u hu=>by simp at hu⟩
  |sl g1 g2 g3 g4 g5 g6=>
   rename_i b o cap c
   obtain ⟨_,T,fr,hb⟩:=wo.imm b c g1
   have get:∀ (k:Nat) (u:Value),((c.toList.drop o).take (ys.length*sz))[k]? = some u->c[o+k]? = some u:=by
    intro k u hu
    rw[List.getElem?_take] at hu
    split at hu
    ·rw[List.getElem?_drop] at hu;simpa using hu
    ·cases hu
   refine ⟨_,_,(c.toList.drop o).take (ys.length*sz),rfl,by simp;omega,⟨g4,fun i x j q u hx hq hu=>?_⟩,fun e=>(by cases e),fun ad e j u hu=>?_⟩
   ·have:=get _ u hu
    rw[show o+(i*sz+j)=o+i*sz+j by omega] at this
    exact ⟨g5 i x j q u hx hq this,g6 i x j q u hx hq this⟩
   ·cases e
    rw[Addr.add_lit]
    simp[World.cell?,hb,get j u hu]
 ·have hown:w.ownsRow 0 e sz v ys.length us:=⟨hl,h1⟩
  rcases h1 with ⟨rfl,hn⟩|⟨g,cap,cur,rfl,_,hg,hnc,hcm,hcs,htk⟩
  ·exact ⟨none,0,us,by rw[hn],hl,h2,fun _=>List.eq_nil_of_length_eq_zero hn,fun ad e=>by cases e⟩
  ·refine ⟨_,cap,us,rfl,hl,h2,fun e=>(by cases e),fun ad e j u hu=>?_⟩
   cases e
   exact hown.cells rfl j u hu
theorem zkK {t ty e:TypeId} {i:TypeInfo} {size:Nat} (ht:P.underlying t=some (.slice e)) (hi:P.info? e=some i) {v:Value} {n c:Nat} {xs:List Value} (hown:w.ownsRow 0 e size v n xs) :
  (Builtin.append_ #[t,t] ty #[v,.slice none 0 c]).run P w=.ok v w:=by
 rcases hown.2 with ⟨rfl,rfl⟩|⟨g,cap,cur,rfl,_,_,hnc,_⟩
 ·simp[Builtin.append_,run_underlying ht,sizeOf,typeInfo,hi,Builtin.lenOf,Builtin.firstCells]
 ·simp[Builtin.append_,run_underlying ht,sizeOf,typeInfo,hi,Builtin.lenOf,Builtin.firstCells,hnc,storeCells]
theorem za7 {base:Nat} {e:TypeId} {size n cap:Nat} {xs rest:List Value} (hb:base<=w.heap.size) (hx:xs.length=n*size) (hr:rest.length=(cap-n)*size) (hnc:n<=cap) (hcm:cap<=maxLen) :
  (w.alloc (.cells (xs++rest).toArray e)).ownsRow base e size (.slice (some ⟨w.heap.size,0,none⟩) n cap) n xs/\w.grownBy (w.alloc (.cells (xs++rest).toArray e)) none:=by
 refine ⟨⟨hx,.inr ⟨w.heap.size,cap,_,rfl,hb,heap_alloc_new w _,hnc,hcm,?_,?_⟩⟩,World.grownBy_alloc w _ none⟩
 ·simp only[List.size_toArray,zm5,hx,hr,←Nat.add_mul]
  congr 1
  omega
 ·rw[List.toList_toArray,←hx,List.take_left]
theorem zkM {t tn ty e:TypeId} {i:TypeInfo} {z:Value} {kn kq:IntKind} {size bytes:Nat} (ht:P.underlying t=some (.slice e)) (htn:P.underlying tn=some (.int kn)) (hi:P.info? e=some i) (hz:i.zero=some z) (hsize:i.size=size) (hby:i.bytes=bytes) (hzs:z.cells.size=size) (h0:0<size) (hz1:∀ u∈z.cells,u.oneCell' = true)
  {v:Value} {n:Nat} {xs:List Value} (hown:w.ownsRow 0 e size v n xs) (m:Nat) (h63:n+m<=maxLen) (hbytes:(n+m)*bytes<=140737488355328) :
  ∃ v' w',(Builtin.append_ #[t,tn] ty #[v,.int kq m]).run P w=.ok v' w'/\w'.ownsRow 0 e size v' (n+m) (xs++(Builtin.zeroCells z.cells m).toList)/\w.grownBy w' v.ownBlock/\∀ b,v'.ownBlock=some b->v.ownBlock=some b∨w.heap.size<=b:=by
 subst hsize
 subst hby
 have hsmall:n+m<=9223372036854775807:=by simp only[maxLen] at h63;omega
 have hmz:(Builtin.zeroCells z.cells m).toList.length=m*i.size:=by simp[size_zeroCells,hzs]
 have hw:IntKind.i64.wrap (m:Int)=m:=by rw[IntKind.wrap_i64];omega
 have hneg:¬((m:Int)<0):=by omega
 have hw0:IntKind.i64.wrap (0:Int)=0:=by rw[IntKind.wrap_i64];omega
 have hmb:m*i.bytes<=140737488355328:=Nat.le_trans (Nat.mul_le_mul_right _ (by omega)) hbytes
 have h48i:¬(281474976710656<(m:Int)*(i.bytes:Int)):=by rw[←Int.natCast_mul];omega
 rcases hown.2 with ⟨rfl,rfl⟩|⟨g,cap,cur,rfl,hbg,hg,hnc,hcm,hcs,htake⟩
 ·have hx:xs=[]:=List.eq_nil_of_length_eq_zero (by simpa using hown.1)
  subst hx
  by_cases hm:m=0
  ·subst hm
   refine ⟨.slice none 0 0,w,?_,?_,⟨rfl,rfl,rfl,Nat.le_refl _,fun _ _ _=>rfl⟩,fun b hb=>.inl hb⟩
   ·simp[Builtin.append_,run_underlying ht,run_underlying htn,sizeOf,typeInfo,hi,asInt,asIntOf,hw0]
   ·have:(Builtin.zeroCells z.cells 0).toList=[]:=List.eq_nil_of_length_eq_zero (by simpa using hmz)
    rw[this]
    exact World.ownsRow_nil w 0 e i.size
  ·have hr:=Lib.run_append_nil_zeros (P:=P) w t tn ty e i z kq kn ht htn hi hz m (by omega) h0 (by omega) (by omega)
   have hge:=grownCap_ge w m 0 e
   have hcm':grownCap w m 0 e<=maxLen:=grownCap_le_maxLen w m 0 e (by omega)
   obtain ⟨q1,q2⟩:=za7 (w:=w.drew) (base:=0) (e:=e) (size:=i.size) (n:=m) (cap:=grownCap w m 0 e) (xs:=(Builtin.zeroCells z.cells m).toList) (rest:=(Builtin.zeroCells z.cells (grownCap w m 0 e-m)).toList) (Nat.zero_le _) hmz (by simp[size_zeroCells,hzs]) hge hcm'
   have e1:((Builtin.zeroCells z.cells m).toList++(Builtin.zeroCells z.cells (grownCap w m 0 e-m)).toList).toArray=Builtin.zeroCells z.cells m++Builtin.zeroCells z.cells (grownCap w m 0 e-m):=by
    apply Array.ext';simp
   rw[e1] at q1 q2
   refine ⟨_,_,hr,by simpa using q1,⟨rfl,rfl,rfl,by simp,fun k hk _=>heap_alloc_old w.drew _ k hk⟩,fun b hb=>.inr (by simp[Value.ownBlock] at hb;omega)⟩
 ·by_cases hroom:n+m<=cap
  ·have hfit:n*i.size+(Builtin.zeroCells z.cells m).toList.length<=cur.size:=by rw[hmz,hcs,←Nat.add_mul];exact Nat.mul_le_mul_right _ hroom
   have hone:∀ u∈(Builtin.zeroCells z.cells m).toList,u.oneCell' = true:=by
    intro u hu
    simp only[Builtin.zeroCells,Array.toList_map,List.mem_map] at hu
    obtain ⟨k,_,rfl⟩:=hu
    have hlt:k%z.cells.size<z.cells.size:=Nat.mod_lt _ (by rw[hzs];exact h0)
    rw[getElem!_pos z.cells _ hlt]
    exact hz1 _ (Array.getElem_mem hlt)
   have hst:=run_storeCells_at P g (n*i.size) e (Builtin.zeroCells z.cells m).toList 0 cur w hg (by simpa using hfit) hone
   simp only[Nat.add_zero] at hst
   have hr:(Builtin.append_ #[t,tn] ty #[.slice (some ⟨g,0,none⟩) n cap,.int kq m]).run P w=.ok (.slice (some ⟨g,0,none⟩) (n+m) cap) (w.setRow g (cur.toList.take (n*i.size)++(Builtin.zeroCells z.cells m).toList++cur.toList.drop (n*i.size+(Builtin.zeroCells z.cells m).toList.length)).toArray):=by
    by_cases hm:m=0
    ·subst hm
     have hz0:(Builtin.zeroCells z.cells 0).toList=[]:=List.eq_nil_of_length_eq_zero (by simpa using hmz)
     rw[hz0] at hst ⊢
     simp[Builtin.append_,run_underlying ht,run_underlying htn,sizeOf,typeInfo,hi,asInt,asIntOf,hw0,hnc,Addr.add_lit] at hst ⊢
     rw[hst]
     rfl
    ·have hns:¬(m*i.size=0):=Nat.mul_ne_zero hm (by omega)
     simp[Builtin.append_,run_underlying ht,run_underlying htn,sizeOf,typeInfo,zeroValue,hi,hz,asInt,asIntOf,hw,hneg,h48i,hns,hroom,Addr.add_lit,hst]
   refine ⟨_,_,hr,⟨by rw[zm5,hown.1,hmz,Nat.add_mul],.inr ⟨g,cap,_,rfl,hbg,setRow_heap w g cur _ e _ hg,hroom,hcm,?_,?_⟩⟩,⟨rfl,rfl,rfl,by simp,fun k _ hk=>setRow_other w g k _ (fun e=>hk (by simp[Value.ownBlock,e]))⟩,fun b hb=>.inl hb⟩
   ·simp only[List.size_toArray,zm5,List.length_take,List.length_drop,Array.length_toList] at hfit ⊢
    omega
   ·rw[htake,List.toList_toArray]
    have:(xs++(Builtin.zeroCells z.cells m).toList).length=(n+m)*i.size:=by rw[zm5,hown.1,hmz,Nat.add_mul]
    rw[←this]
    exact List.take_left
  ·have hm:m≠0:=by omega
   have holds:(Builtin.firstCells i.size n (.slice (some ⟨g,0,none⟩) n cap)).run P w.drew=.ok xs.toArray w.drew :=
    run_firstCells_some (P:=P) w.drew i.size n ⟨g,0,none⟩ n cap xs hown.1 (fun j u hu=>hown.cells (g:=g) rfl j u hu)
   have hr:=Lib.run_append_grow_zeros (P:=P) w t tn ty e i z kq kn ht htn hi hz (some ⟨g,0,none⟩) n cap xs holds m (by omega) h0 (by omega) (by omega) (by omega) (growslice_fits (by omega) hbytes)
   have hge:=grownCap_ge w (n+m) cap e
   have hcm':grownCap w (n+m) cap e<=maxLen:=grownCap_le_maxLen w (n+m) cap e (by omega)
   obtain ⟨q1,q2⟩:=za7 (w:=w.drew) (base:=0) (e:=e) (size:=i.size) (n:=n+m) (cap:=grownCap w (n+m) cap e) (xs:=xs++(Builtin.zeroCells z.cells m).toList) (rest:=(Builtin.zeroCells z.cells (grownCap w (n+m) cap e-(n+m))).toList) (Nat.zero_le _) (by rw[zm5,hown.1,hmz,Nat.add_mul]) (by simp[size_zeroCells,hzs]) hge hcm'
   have e1:(xs++(Builtin.zeroCells z.cells m).toList++(Builtin.zeroCells z.cells (grownCap w (n+m) cap e-(n+m))).toList).toArray=xs.toArray++Builtin.zeroCells z.cells m++Builtin.zeroCells z.cells (grownCap w (n+m) cap e-(n+m)):=by
    apply Array.ext';simp
   rw[e1] at q1 q2
   exact ⟨_,_,hr,q1,⟨rfl,rfl,rfl,by simp,fun k hk _=>heap_alloc_old w.drew _ k hk⟩,fun b hb=>.inr (by simp[Value.ownBlock] at hb;omega)⟩
theorem zkL {t ty e:TypeId} {i:TypeInfo} {z:Value} {size bytes:Nat} (ht:P.underlying t=some (.slice e)) (hi:P.info? e=some i) (hz:i.zero=some z) (hsize:i.size=size) (hby:i.bytes=bytes) (hzs:z.cells.size=size) (h0:0<size)
  {v:Value} {n:Nat} {xs:List Value} (hown:w.ownsRow 0 e size v n xs) (ad:Addr) (m c:Nat) (news:List Value) (hl:news.length=m*size) (hnews:∀ (j:Nat) (u:Value),news[j]? = some u->w.cell? (ad.add j)=some u) (h1:∀ u∈news,u.oneCell' = true) (h63:n+m<=maxLen) (hbytes:(n+m)*bytes<=140737488355328) :
  ∃ v' w',(Builtin.append_ #[t,t] ty #[v,.slice (some ad) m c]).run P w=.ok v' w'/\w'.ownsRow 0 e size v' (n+m) (xs++news)/\w.grownBy w' v.ownBlock/\∀ b,v'.ownBlock=some b->v.ownBlock=some b∨w.heap.size<=b:=by
 have hsmall:n+m<=9223372036854775807:=by simp only[maxLen] at h63;omega
 rcases hown.2 with ⟨rfl,hn⟩|⟨g,cap,cur,rfl,hbg,hg,hnc,hcm,hcs,htake⟩
 ·have hown':w.ownsRow w.heap.size e size (.slice none 0 0) n xs:=⟨hown.1,.inl ⟨rfl,hn⟩⟩
  obtain ⟨v',w',hr,q1,q2,_⟩:=run_append_own (P:=P) w w.heap.size t ty e i z size bytes ht hi hz hsize hby hzs h0 _ n xs hown' ad m c news hl hnews h1 h63 hbytes (Nat.le_refl _)
  exact ⟨v',w',hr,⟨q1.1,q1.2.elim .inl (fun ⟨g,cap,cur,a1,_,a3⟩=>.inr ⟨g,cap,cur,a1,Nat.zero_le _,a3⟩)⟩,q2,fun b hb=>.inr (q1.lt b hb).1⟩
 ·obtain ⟨v',w',hr,q1,q2,_⟩:=run_append_own (P:=P) w 0 t ty e i z size bytes ht hi hz hsize hby hzs h0 _ n xs hown ad m c news hl hnews h1 h63 hbytes (Nat.zero_le _)
  refine ⟨v',w',hr,q1,q2,fun b hb=>?_⟩
  subst hsize
  by_cases hroom:n+m<=cap
  ·have hfit:n*i.size+news.length<=cur.size:=by rw[hl,hcs,←Nat.add_mul];exact Nat.mul_le_mul_right _ hroom
   have hr2:=run_append_room (P:=P) w t ty e i ht hi g n cap cur hg ad m c news hl hnews h1 hroom hfit
   rw[hr2] at hr
   injection hr with e1 e2
   subst e1
   exact .inl hb
  ·have holds:∀ (j:Nat) (u:Value),xs[j]? = some u->w.cell? ((⟨g,0,none⟩:Addr).add j)=some u:=hown.cells (g:=g) rfl
   subst hby
   have hr2:=run_append_grow (P:=P) w t ty e i z ht hi hz ⟨g,0,none⟩ n cap xs hown.1 holds ad m c news hl hnews (by omega) (by omega) (growslice_fits (by omega) hbytes)
   rw[hr2] at hr
   injection hr with e1 e2
   subst e1
   exact .inr (by simp[Value.ownBlock] at hb;omega)
def Xp:Option Hd->Bool
 |none=>true
 |some (.hand _)=>true
 |_=>false
theorem zhY {q:Hd} (hq:¬xl q):Xp (some q)=false:=by cases q<;>first|rfl|exact absurd trivial hq
theorem grow (h:Rel P E G s a w) {e sz:Nat} {xs ys:List PV} {v v':Value} {us:List Value} (h0:0<sz) (hold:∀ b,v.ownBlock=some b->G.ka b=some (.hand 0)) (hown:w'.ownsRow 0 e sz v' (xs.length+ys.length) us) (hrow:RowRep G.g sz (xs++ys) us) (hgr:w.grownBy w' v.ownBlock) (hnb:∀ b,v'.ownBlock=some b->v.ownBlock=some b∨w.heap.size<=b) :
  ∃ G':Gh,Fr G w G' w' xl/\G'.ph=G.ph/\Rel P E G' s a w'/\VRel P E G' w' (fun j=>.hand j) (.slu e sz (xs++ys)) v':=by
 let G':Gh:=⟨G.g,G.ph,fun b=>if v'.ownBlock=some b/\Xp (G.ka b)=true then some (.hand 0) else G.ka b⟩
 have hka:∀ b q,G.ka b=some q->¬xl q->G'.ka b=some q:=by
  intro b q hb hq
  show (if v'.ownBlock=some b/\Xp (G.ka b)=true then some (Hd.hand 0) else G.ka b)=some q
  rw[if_neg (fun e=>by have:=e.2;rw[hb,zhY hq] at this;cases this)]
  exact hb
 have hheap:∀ b q,G.ka b=some q->¬xl q->w'.heap[b]? = w.heap[b]?:=fun b q hb hq=>hgr.block b (h.wo.dom b q hb) (fun e=>by rw[hold b e.symm] at hb;cases hb;exact hq trivial)
 have f:Fr G w G' w' xl:=⟨fun _ _ h=>h,fun _ _ h=>h,fun b q hb hq=>⟨hka b q hb hq,hheap b q hb hq⟩,⟨id,id⟩,hgr.os,hgr.tape,hgr.output,hgr.size⟩
 have wo:WOk P E G' w':=h.wo.fr f (fun b c hc=>by
   obtain ⟨k1,T,fr,k2⟩:=h.wo.imm b c hc
   exact ⟨hka b _ k1 id,T,fr,(hheap b _ k1 id).trans k2⟩) (fun b q hb=>by
   have hb':(if v'.ownBlock=some b/\Xp (G.ka b)=true then some (Hd.hand 0) else G.ka b)=some q:=hb
   split at hb'
   ·rename_i e;exact (hown.lt b e.1).2
   ·exact Nat.lt_of_lt_of_le (h.wo.dom b q hb') hgr.size)
 refine ⟨G',f,rfl,h.fr f wo (fun _ _ h=>h) (fun _ h=>h),h0,us,by rw[zm5];exact hown,hrow,fun b hb=>?_⟩
 show (if v'.ownBlock=some b/\Xp (G.ka b)=true then some (Hd.hand 0) else G.ka b)=some (.hand 0)
 by_cases hbo:v.ownBlock=some b
 ·rw[hold b hbo]
  split<;>rfl
 ·-- a new block,or the row's own
  have hnew:Xp (G.ka b)=true:=by
   cases hg:G.ka b with
   |none=>rfl
   |some q=>
    rcases hnb b hb with e|e
    ·exact absurd e hbo
    ·have:=h.wo.dom b q hg
     omega
  rw[if_pos ⟨hb,hnew⟩]
theorem zeS (hS:SysOk P E) (h:Rel P E G s a w) {pre:Option Nat} {o:Oper} {t:Nat} {x:Operand} {c:Call} (ho:o.op=.call c) (hc:c.callee=.builtin .len) (ha:c.args=#[x]) (hat:c.argTypes=#[t]) (hd:∀ d',o.dst=some d'->d'<a.tmps.size) {ws:List W} {pn:Pn}
  (hr:(vL E o.dst .len [(x,t)]).run s=some (ws,pn)):OpOk P E G s a w pre o (s.puts ws) pn:=by
 simp only[vL] at hr
 obtain ⟨u2,i,v2,h3,h4,rfl⟩:=zmR hr
 obtain ⟨rfl,hi⟩:=yX h3
 simp only[RS.puts,zm7] at h4 ⊢
 obtain ⟨u3,el,v3,h5,h6,rfl⟩:=zmR h4
 obtain ⟨rfl,hel⟩:=zE h5
 simp only[RS.puts,zm7] at h6 ⊢
 have hu:∃ e,P.underlying t=some (.slice e):=⟨_,((hS.ty t i hi).el el hel).1⟩
 obtain ⟨u1,l,v1,h1,h2,rfl⟩:=zmR h6
 obtain ⟨rfl,hl⟩:=JQ hS h h1
 simp only[RS.puts,zm7] at h2 ⊢
 obtain ⟨p,cap,us,hx,_⟩:=qz h.wo hl
 obtain ⟨e,hu⟩:=hu
 have hrun:(Builtin.len_ #[t] o.type #[a.eval x]).run P w=.ok (goInt l.2.length) w:=by
  rw[hx];simp[Builtin.len_,run_underlying hu]
 refine ym h hd h2 (x:=goInt l.2.length) vi ?_ pre
 simp only[execOp,ho,resolve,hc,ha,hat,List.map_toArray,List.map_cons,List.map_nil,Sem.run_bind,Sem.run_pure,Result.andThen_ok,invoke,builtin,hrun]
theorem K8 {o:Oper} {c:Call} {b:Builtin} {args:List Operand} {ats:List Nat} (ho:o.op=.call c) (hc:c.callee=.builtin b) (ha:c.args=args.toArray) (hat:c.argTypes=ats.toArray) :
  ∃ consts,(execOp a.eval o).run P w=(builtin b ats.toArray o.type consts (args.map a.eval).toArray).run P w:=by
 refine ⟨c.args.map fun|.const _=>true|_=>false,?_⟩
 simp only[execOp,ho,resolve,hc,Sem.run_bind,Sem.run_pure,Result.andThen_ok,invoke]
 rw[hat,show c.args.map a.eval=(args.map a.eval).toArray by rw[ha];simp]
 rfl
theorem gG (hS:SysOk P E) (h:Rel P E G s a w) {pre:Option Nat} {o:Oper} {t u:Nat} {x y:Operand} {c:Call} {b:Builtin} (hb:b=.max∨b=.min) (ho:o.op=.call c) (hc:c.callee=.builtin b) (ha:c.args=#[x,y]) (hat:c.argTypes=#[t,u]) (hd:∀ d',o.dst=some d'->d'<a.tmps.size) {ws:List W} {pn:Pn}
  (hr:(vL E o.dst b [(x,t),(y,u)]).run s=some (ws,pn)):OpOk P E G s a w pre o (s.puts ws) pn:=by
 obtain ⟨consts,hx⟩:=K8 (P:=P) (a:=a) (w:=w) ho hc (args:=[x,y]) (ats:=[t,u]) ha hat
 rcases hb with rfl|rfl
 all_goals
  simp only[vL] at hr
  obtain ⟨u1,m,v1,h1,h2,rfl⟩:=zmR hr
  obtain ⟨rfl,hm⟩:=Zz hS h h1
  simp only[RS.puts,zm7] at h2 ⊢
  obtain ⟨u2,n,v2,h3,h4,rfl⟩:=zmR h2
  obtain ⟨rfl,hn⟩:=Zz hS h h3
  simp only[RS.puts,zm7] at h4 ⊢
  refine ym h hd h4 vi ?_ pre
  rw[hx]
  simp[builtin,Builtin.max_,Builtin.min_,Builtin.max2,Builtin.min2,hm,hn,List.foldlM]
def zdf (P:Program) (G:Gh) (w:World) (o:Oper) (a:Act) (e sz:Nat) (v:Value) (ys:List PV):Prop :=
 ∀ (n:Nat) (us:List Value),w.ownsRow 0 e sz v n us->n+ys.length<=140737488355328->(∃ bytes,(n+ys.length)*bytes<=140737488355328/\(P.info? e).map (·.bytes)=some bytes)->
  ∃ v' w' news,(execOp a.eval o).run P w=.ok (.value v') w'/\w'.ownsRow 0 e sz v' (n+ys.length) (us++news)/\RowRep G.g sz ys news/\w.grownBy w' v.ownBlock/\∀ b,v'.ownBlock=some b->v.ownBlock=some b∨w.heap.size<=b
theorem gM (hS:SysOk P E) (h:Rel P E G s a w) {pre:Option Nat} {o:Oper} {t e sz bytes:Nat} {x:Operand} {ys:List PV} (hd:∀ d',o.dst=some d'->d'<a.tmps.size) (hby:(P.info? e).map (·.bytes)=some bytes) (h0:0<sz)
  (H:zdf P G w o a e sz (a.eval x) ys) {ws:List W} {pn:Pn} (hr:(VE E o.dst t x e sz bytes ys).run s=some (ws,pn)):OpOk P E G s a w pre o (s.puts ws) pn:=by
 have fin:∀ {G1:Gh} {s1:RS} {xs:List PV} {ws1:List W},Fr G w G1 w X0->G1.ph=G.ph->Rel P E G1 s1 a w->URel G1 w (.hand 0) e sz xs (a.eval x)->ye (xs.length+ys.length) bytes=true->(done o.dst (.slu e sz (xs++ys))).run s1=some (ws1,pn)->OpOk P E G s a w pre o (s1.puts ws1) pn:=by
  intro G1 s1 xs ws1 f1 p1 r1 hU hroom hdone
  simp only[ye,zm8,decide_eq_true_eq] at hroom
  obtain ⟨_,us,hown,hrow,hlab⟩:=hU
  obtain ⟨v',w',news,hrun,q1,q2,q3,q4⟩:=H xs.length us hown hroom.2 ⟨bytes,hroom.1,hby⟩
  obtain ⟨G2,f2,p2,r2,hv⟩:=grow r1 h0 hlab q1 (hrow.append (q2.mono f1.g) hown.1) q3 q4
  exact xO h (f1.trans (f2.weaken zat X0_old)) (xV (p2.trans p1)) r2 hd hdone hv hrun pre
 have cst:∀ {x':Operand} {v1:List W} {r:AV},(Zi E t x').run s=some ([],r)->a.eval x' = a.eval x->(match r with
   |.slu e' sz' xs=>(do
    need (decide (e' = e)&&decide (sz' = sz)&&ye (xs.length+ys.length) bytes)
    done o.dst (.slu e sz (xs++ys)):RM Pn)
   |_=>.fail).run s=some (v1,pn)->OpOk P E G s a w pre o (s.puts v1) pn:=by
  intro x' v1 r hk hxx hrun
  obtain ⟨_,hv,Qq⟩:=w7 (a:=a) hS h.wo hk (fun j=>.hand j)
  rw[hxx] at hv
  split at hrun
  ·rename_i e' sz' xs
   obtain ⟨u3,_,v3,h5,h6,rfl⟩:=zmR hrun
   obtain ⟨rfl,hn⟩:=z5 h5
   simp only[zm8,decide_eq_true_eq] at hn
   obtain ⟨⟨rfl,rfl⟩,hroom⟩:=hn
   simp only[RS.puts,zm7] at h6 ⊢
   exact fin (Fr.refl.weaken (fun _ h=>h.elim) X0_old) rfl h hv hroom h6
  ·exact (zr hrun).elim
 unfold VE at hr
 obtain ⟨u1,r,v1,h1,h2,rfl⟩:=zmR hr
 cases x with
 |const c=>
  have e1:=(w7 (a:=a) hS h.wo (t:=t) (x:=.const c) h1 (fun _=>.imm)).1
  subst e1
  simp only[RS.puts,zm7] at h2 ⊢
  exact cst (x':=.const c) h1 rfl h2
 |global c=>
  have e1:=(w7 (a:=a) hS h.wo (t:=t) (x:=.global c) h1 (fun _=>.imm)).1
  subst e1
  simp only[RS.puts,zm7] at h2 ⊢
  exact cst (x':=.global c) h1 rfl h2
 |func c=>
  have e1:=(w7 (a:=a) hS h.wo (t:=t) (x:=.func c) h1 (fun _=>.imm)).1
  subst e1
  simp only[RS.puts,zm7] at h2 ⊢
  exact cst (x':=.func c) h1 rfl h2
 |tmp i=>
  simp only[rdv] at h1
  obtain ⟨u2,c,v2,h3,h4,rfl⟩:=zmR h1
  obtain ⟨rfl,rfl⟩:=yS h3
  simp only[RS.puts,zm7] at h4 h2 ⊢
  cases hq:(s.sl i).r with
  |none=>
   simp only[hq] at h4
   obtain ⟨rfl,rfl⟩:=run_pure h4
   simp only[RS.puts,zm7] at h2 ⊢
   split at h2
   ·rename_i e' sz' xs ha
    obtain ⟨u3,_,v3,h5,h6,rfl⟩:=zmR h2
    obtain ⟨rfl,hn⟩:=z5 h5
    simp only[zm8,decide_eq_true_eq] at hn
    obtain ⟨⟨rfl,rfl⟩,hroom⟩:=hn
    simp only[RS.puts,zm7] at h6 ⊢
    obtain ⟨u4,c4,v4,h7,h8,rfl⟩:=zmR h6
    obtain ⟨rfl,rfl⟩:=yS h7
    simp only[RS.puts,zm7,hq] at h8 ⊢
    obtain ⟨u5,_,v5,h9,h10,rfl⟩:=zmR h8
    have hw:=yO h9
    subst hw
    simp only[List.cons_append,zm7,RS.puts] at h10 ⊢
    have hv:=h.sl i
    rw[ha] at hv
    obtain ⟨G1,f1,p1,wo1,hU⟩:=hold h (k:=.s i 0) ⟨by simp,by simp⟩ hv
    have r1:=h.slot f1 wo1 (fun l b hb=>p1▸hb) i (fun k hk=>.inl ⟨0,hk⟩) (x:=.dead) (r:=none) (m:=true) (v:=tmp a i) rfl (fun _ _=>rfl) trivial (fun q hq=>by cases hq) (.inl rfl)
    exact fin (f1.weaken (fun k hk=>by subst hk;exact ⟨by simp,by simp⟩) X0_old) p1 r1 hU hroom h10
   ·exact (zr h2).elim
  |some q=>
   cases q with
   |elem v sz i o=>simp only[hq] at h4;exact (zr h4).elim
   |whole v=>
    simp only[hq] at h4
    obtain ⟨rfl,hm,hval⟩:=vV h h4
    simp only[RS.puts,zm7] at h2 ⊢
    have hconc:=h.rf i _ hq hm
    have hv:=hval _ hconc
    split at h2
    ·rename_i e' sz' xs
     obtain ⟨u3,_,v3,h5,h6,rfl⟩:=zmR h2
     obtain ⟨rfl,hn⟩:=z5 h5
     simp only[zm8,decide_eq_true_eq] at hn
     obtain ⟨⟨rfl,rfl⟩,hroom⟩:=hn
     simp only[RS.puts,zm7] at h6 ⊢
     obtain ⟨u4,c4,v4,h7,h8,rfl⟩:=zmR h6
     obtain ⟨rfl,rfl⟩:=yS h7
     simp only[RS.puts,zm7,hq] at h8 ⊢
     obtain ⟨u5,_,v5,h9,h10,rfl⟩:=zmR h8
     cases v with
     |s t' =>
      have hw:=yO h9
      subst hw
      simp only[List.cons_append,zm7,RS.puts] at h10 ⊢
      have hUU:URel G w (.s t' 0) e' sz' xs (tmp a i):=hv
      obtain ⟨G1,f1,p1,wo1,hU⟩:=hold h (k:=.s t' 0) ⟨by simp,by simp⟩ hUU
      have r1:=h.slot f1 wo1 (fun l b hb=>p1▸hb) t' (fun k hk=>.inl ⟨0,hk⟩) (x:=.dead) (r:=none) (m:=true) (v:=tmp a t') rfl (fun _ _=>rfl) trivial (fun q hq=>by cases hq) (.inl rfl)
      exact fin (f1.weaken (fun k hk=>by subst hk;exact ⟨by simp,by simp⟩) X0_old) p1 r1 hU hroom h10
     |c l o' =>
      have hw:=yO h9
      subst hw
      simp only[List.cons_append,zm7,RS.puts] at h10 ⊢
      have hUU:URel G w (.c l o') e' sz' xs (tmp a i):=hv
      obtain ⟨b0,hb0,hkb0,hcell0⟩:=hconc
      obtain ⟨G1,f1,p1,wo1,hU⟩:=hold h (k:=.c l o') ⟨by simp,by simp⟩ hUU
      have r1:=h.cellg f1 wo1 (fun l b hb=>p1▸hb) l o' (fun k hk=>.inl hk) .dead true (fun b1 y1 hb1 hy1=>by
       rw[hb0] at hb1
       cases hb1
       rw[hcell0] at hy1
       cases hy1
       exact BRel.one (w:=w) (h:=.c l o') (a:=.slu e' sz' xs) hUU)
      exact fin (f1.weaken (fun k hk=>by subst hk;exact ⟨by simp,by simp⟩) X0_old) p1 r1 hU hroom h10
    ·exact (zr h2).elim
theorem zeD (hS:SysOk P E) (h:Rel P E G s a w) {pre:Option Nat} {o:Oper} {t u:Nat} {x y:Operand} {c:Call} (ho:o.op=.call c) (hc:c.callee=.builtin .append) (ha:c.args=#[x,y]) (hat:c.argTypes=#[t,u]) (hd:∀ d',o.dst=some d'->d'<a.tmps.size) {ws:List W} {pn:Pn}
  (hr:(vL E o.dst .append [(x,t),(y,u)]).run s=some (ws,pn)):OpOk P E G s a w pre o (s.puts ws) pn:=by
 obtain ⟨consts,hx⟩:=K8 (P:=P) (a:=a) (w:=w) ho hc (args:=[x,y]) (ats:=[t,u]) ha hat
 have hx':∀ {v':Value} {w':World},(Builtin.append_ #[t,u] o.type #[a.eval x,a.eval y]).run P w=.ok v' w'->(execOp a.eval o).run P w=.ok (.value v') w':=by
  intro v' w' hrun
  rw[hx]
  simp only[builtin,List.map_cons,List.map_nil,Sem.run_bind]
  rw[show ([t,u]:List Nat).toArray=#[t,u] from rfl,show ([a.eval x,a.eval y]:List Value).toArray=#[a.eval x,a.eval y] from rfl,hrun]
  rfl
 simp only[vL] at hr
 obtain ⟨u1,i,v1,h1,h2,rfl⟩:=zmR hr
 obtain ⟨rfl,hi⟩:=yX h1
 simp only[RS.puts,zm7] at h2 ⊢
 obtain ⟨u2,el,v2,h3,h4,rfl⟩:=zmR h2
 obtain ⟨rfl,hel⟩:=zE h3
 obtain ⟨hu,ke,z0,he,hks,hkb,hkz,hz0,h0⟩:=(hS.ty t i hi).el el hel
 simp only[RS.puts,zm7] at h4 ⊢
 have hby:(P.info? el.1).map (·.bytes)=some el.2.2:=by rw[he];simp[hkb]
 split at h4
 ·rename_i htu
  subst htu
  obtain ⟨u3,l,v3,h5,h6,rfl⟩:=zmR h4
  obtain ⟨rfl,hl⟩:=JQ hS h h5
  simp only[RS.puts,zm7] at h6 ⊢
  obtain ⟨u4,_,v4,h7,h8,rfl⟩:=zmR h6
  obtain ⟨rfl,hn⟩:=z5 h7
  have hsz:l.1=el.2.1:=of_decide_eq_true hn
  rw[hsz] at hl
  simp only[RS.puts,zm7] at h8 ⊢
  obtain ⟨p,cap,news,hy,hlen,hrow,hnone,hcell⟩:=qz h.wo hl
  refine gM hS h hd hby h0 (fun n us hown hle hb=>?_) h8
  obtain ⟨bytes,hb1,hb2⟩:=hb
  rw[hby] at hb2
  cases hb2
  cases p with
  |none=>
   have hl0:l.2=[]:=hnone rfl
   have hrun:=zkK (P:=P) (ty:=o.type) hu he hown (c:=cap)
   rw[hl0] at hy
   have hnn:news=[]:=List.eq_nil_of_length_eq_zero (by rw[hlen,hl0];simp)
   refine ⟨a.eval x,w,[],hx' (by rw[hy];exact hrun),by rw[hl0];simpa using hown,by rw[hl0];exact ⟨fun x hx=>by simp at hx,fun i x j q u hx=>by simp at hx⟩,⟨rfl,rfl,rfl,Nat.le_refl _,fun _ _ _=>rfl⟩,fun b hb=>.inl hb⟩
  |some ad=>
   obtain ⟨v',w',hrun,q1,q2,q3⟩:=zkL (P:=P) (ty:=o.type) hu he hkz hks hkb hz0 h0 hown ad l.2.length cap news hlen (hcell ad rfl) (hrow.one h0 hlen) (by unfold maxLen;omega) hb1
   exact ⟨v',w',news,hx' (by rw[hy];exact hrun),q1,hrow,q2,q3⟩
 ·obtain ⟨u3,j,v3,h5,h6,rfl⟩:=zmR h4
  obtain ⟨rfl,hj⟩:=yX h5
  simp only[RS.puts,zm7] at h6 ⊢
  obtain ⟨u4,_,v4,h7,h8,rfl⟩:=zmR h6
  obtain ⟨rfl,hsome⟩:=z5 h7
  obtain ⟨kn,hkn⟩:=Option.isSome_iff_exists.1 hsome
  have htn:=(hS.ty u j hj).int kn hkn
  simp only[RS.puts,zm7] at h8 ⊢
  obtain ⟨u5,n,v5,h9,h10,rfl⟩:=zmR h8
  obtain ⟨rfl,hy⟩:=Zz hS h h9
  simp only[RS.puts,zm7] at h10 ⊢
  obtain ⟨u6,_,v6,h11,h12,rfl⟩:=zmR h10
  obtain ⟨rfl,hn⟩:=z5 h11
  simp only[zm8,decide_eq_true_eq] at hn
  simp only[RS.puts,zm7] at h12 ⊢
  obtain ⟨u7,z,v7,h13,h14,rfl⟩:=zmR h12
  obtain ⟨rfl,⟨k,z',hk,hz,hzs,hcell⟩⟩:=zdc hS h13
  rw[he] at hk;cases hk
  rw[hkz] at hz;cases hz
  simp only[RS.puts,zm7] at h14 ⊢
  obtain ⟨u8,_,v8,h15,h16,rfl⟩:=zmR h14
  obtain ⟨rfl,hzl⟩:=z5 h15
  have hzl':z.cells.length=el.2.1:=of_decide_eq_true hzl
  simp only[RS.puts,zm7] at h16 ⊢
  have e1:((n.2.toNat:Nat):Int)=n.2:=Int.toNat_of_nonneg hn.1
  refine gM hS h hd hby h0 (fun m us hown hle hb=>?_) h16
  obtain ⟨bytes,hb1,hb2⟩:=hb
  rw[hby] at hb2
  cases hb2
  simp only[List.length_replicate] at hle hb1 ⊢
  have hone:∀ c∈z0.cells,c.oneCell' = true:=by
   intro c hc
   obtain ⟨jj,hjj,rfl⟩:=Array.getElem_of_mem hc
   have hjl:jj<z.cells.length:=by rw[←hzs];exact hjj
   obtain ⟨c1,c2⟩:=hcell (fun _=>none) jj z.cells[jj] z0.cells[jj] (zmS hjl) (Array.getElem?_eq_getElem hjj)
   exact c2.one c1
  obtain ⟨v',w',hrun,q1,q2,q3⟩:=zkM (P:=P) (ty:=o.type) (kq:=n.1) hu htn he hkz hks hkb hz0 h0 hone hown n.2.toNat (by unfold maxLen;omega) hb1
  refine ⟨v',w',_,hx' (by rw[hy,←e1];exact hrun),q1,?_,q2,q3⟩
  refine zde (e:=0) hzl' hzs (hcell G.g) (fun k' u' hu' => ?_)
  have hsz0:0<z0.cells.size:=by rw[hz0];exact h0
  have hu2:(madeCells z0.cells (n.2.toNat*z0.cells.size)).toList[k']? = some u':=hu'
  have:=zaQ hu2 hsz0
  rwa [hz0] at this
end
section
variable {P:Program} {E:Env} {G G':Gh} {w w':World} {X:Hd->Prop} {s s':RS} {a a':Act}
variable {cf:Nat->List AV->za->Option (Out×za)}
theorem RowRep.take1 {g:Nat->Option (Array Value)} {xs:List PV} {us:List Value} (h:RowRep g 1 xs us) (n:Nat):RowRep g 1 (xs.take n) (us.take n):=by
 refine ⟨fun x hx=>h.1 x (List.mem_of_mem_take hx),fun i x j q u hx hq hu=>?_⟩
 rw[List.getElem?_take] at hx hu
 split at hx
 ·split at hu
  ·exact h.2 i x j q u hx hq hu
  ·cases hu
 ·cases hx
theorem RowRep.drop1 {g:Nat->Option (Array Value)} {xs:List PV} {us:List Value} (h:RowRep g 1 xs us) (n:Nat):RowRep g 1 (xs.drop n) (us.drop n):=by
 refine ⟨fun x hx=>h.1 x (List.mem_of_mem_drop hx),fun i x j q u hx hq hu=>?_⟩
 rw[List.getElem?_drop] at hx hu
 exact h.2 (n+i) x j q u hx hq (by rw[←hu];congr 1;omega)
theorem zeN (hS:SysOk P E) (h:Rel P E G s a w) {pre:Option Nat} {o:Oper} {t u i:Nat} {y:Operand} {c:Call} (ho:o.op=.call c) (hc:c.callee=.builtin .copy) (ha:c.args=#[.tmp i,y]) (hat:c.argTypes=#[t,u]) (hd:∀ d',o.dst=some d'->d'<a.tmps.size) {ws:List W} {pn:Pn}
  (hr:(vL E o.dst .copy [(.tmp i,t),(y,u)]).run s=some (ws,pn)):OpOk P E G s a w pre o (s.puts ws) pn:=by
 obtain ⟨consts,hx⟩:=K8 (P:=P) (a:=a) (w:=w) ho hc (args:=[.tmp i,y]) (ats:=[t,u]) ha hat
 have hx':∀ {v':Value} {w':World},(Builtin.copy_ #[t,u] o.type #[a.eval (.tmp i),a.eval y]).run P w=.ok v' w'->(execOp a.eval o).run P w=.ok (.value v') w':=by
  intro v' w' hrun
  rw[hx]
  simp only[builtin,List.map_cons,List.map_nil,Sem.run_bind]
  rw[show ([t,u]:List Nat).toArray=#[t,u] from rfl,show ([a.eval (.tmp i),a.eval y]:List Value).toArray=#[a.eval (.tmp i),a.eval y] from rfl,hrun]
  rfl
 simp only[vL] at hr
 obtain ⟨u1,l,v1,h1,h2,rfl⟩:=zmR hr
 obtain ⟨rfl,hl⟩:=JQ hS h h1
 simp only[RS.puts,zm7] at h2 ⊢
 obtain ⟨u2,c2,v2,h3,h4,rfl⟩:=zmR h2
 obtain ⟨rfl,rfl⟩:=yS h3
 simp only[RS.puts,zm7] at h4 ⊢
 split at h4
 ·rename_i v hq
  obtain ⟨u3,A,v3,h5,h6,rfl⟩:=zmR h4
  obtain ⟨rfl,hm,hval⟩:=vV h h5
  simp only[RS.puts,zm7] at h6 ⊢
  have hconc:=h.rf i _ hq hm
  have hv:=hval _ hconc
  split at h6
  ·rename_i e sz xs
   obtain ⟨u4,it,v4,h7,h8,rfl⟩:=zmR h6
   obtain ⟨rfl,hit⟩:=yX h7
   simp only[RS.puts,zm7] at h8 ⊢
   obtain ⟨u5,el,v5,h9,h10,rfl⟩:=zmR h8
   obtain ⟨rfl,hel⟩:=zE h9
   obtain ⟨hu,ke,z0,he,hks,hkb,hkz,hz0,h0⟩:=(hS.ty t it hit).el el hel
   simp only[RS.puts,zm7] at h10 ⊢
   obtain ⟨u6,_,v6,h11,h12,rfl⟩:=zmR h10
   obtain ⟨rfl,hn⟩:=z5 h11
   simp only[zm8,decide_eq_true_eq] at hn
   obtain ⟨⟨⟨n1,rfl⟩,rfl⟩,n4⟩:=hn
   simp only[RS.puts,zm7] at h12 ⊢
   obtain ⟨u7,_,v7,h13,h14,rfl⟩:=zmR h12
   rw[RS.puts_append]
   rw[n1] at hl
   obtain ⟨p,cap,news,hy,hlen,hrow,hnone,hcell⟩:=qz h.wo hl
   rw[Nat.mul_one] at hlen
   obtain ⟨k,hk,hkl,hU⟩:∃ k,(k≠.imm/\k≠.frn)/\(match v with|.s t' => k = .s t' 0|.c l o=>k=.c l o)/\URel G w k el.1 1 xs (a.eval (.tmp i)):=by
    cases v with
    |s t' => exact ⟨.s t' 0,⟨by simp,by simp⟩,rfl,hv⟩
    |c l o=>exact ⟨.c l o,⟨by simp,by simp⟩,rfl,hv⟩
   have hi1:ke.size=1:=hks.trans n4
   let n:=min l.2.length xs.length
   have hcs:(Builtin.firstCells 1 n (a.eval y)).run P w=.ok (news.take n).toArray w:=by
    rw[hy]
    cases p with
    |none=>
     have hl0:l.2=[]:=hnone rfl
     have:news=[]:=List.eq_nil_of_length_eq_zero (by rw[hlen,hl0];rfl)
     rw[this]
     simp[Builtin.firstCells]
    |some ad=>exact run_firstCells_some (P:=P) w 1 n ad _ cap (news.take n) (by simp;omega) (fun j u hu=>by
      rw[List.getElem?_take] at hu
      split at hu
      ·exact hcell ad rfl j u hu
      ·cases hu)
   have key:∃ w',(Builtin.copy_ #[t,u] o.type #[a.eval (.tmp i),a.eval y]).run P w=.ok (goInt n) w'/\∃ G2,Fr G w G2 w' (fun k' => k' = k)/\G2.ph=G.ph/\WOk P E G2 w'/\URel G2 w' k el.1 1 (l.2.take xs.length++xs.drop l.2.length) (a.eval (.tmp i)):=by
    obtain ⟨_,us,⟨hul,hw⟩,h2',h3'⟩:=hU
    rcases hw with ⟨hnil,hz⟩|⟨g,dcap,cur,hdst,_,hg,hnc,hcm,hcsz,htk⟩
    ·have hx0:xs=[]:=List.eq_nil_of_length_eq_zero hz
     have hn0:n=0:=by simp[n,hx0]
     refine ⟨w,?_,G,⟨fun _ _ h=>h,fun _ _ h=>h,fun b k' hb _=>⟨hb,rfl⟩,⟨fun e=>hk.1 e.symm,fun e=>hk.2 e.symm⟩,rfl,rfl,rfl,Nat.le_refl _⟩,rfl,h.wo,?_⟩
     ·rw[hn0] at hcs
      rw[hnil]
      simp[Builtin.copy_,run_underlying hu,hy,Builtin.lenOf,sizeOf,typeInfo,he,hi1]
      rw[←hy,hcs]
      simp[hn0]
     ·rw[hnil,hx0]
      simp
      exact URel.nil (by omega)
    ·have hfit:0+0+(news.take n).length<=cur.size:=by
      have:(news.take n).length<=n:=by simp;omega
      have:n<=xs.length:=Nat.min_le_right _ _
      omega
     have hnew1:∀ u∈news.take n,u.oneCell' = true:=fun u hu=>(hrow.one (by omega) (by rw[hlen];simp)) u (List.mem_of_mem_take hu)
     have hst:=run_storeCells_at P g 0 el.1 (news.take n) 0 cur w hg hfit hnew1
     simp only[Nat.add_zero,List.take_zero,zm7,Nat.zero_add] at hst
     generalize hrw:(news.take n++cur.toList.drop (news.take n).length).toArray=row at hst
     have hother:∀ b' k',G.ka b' = some k'->k'≠k->(w.setRow g row).heap[b']? = w.heap[b']?:=fun b' k' hb' hne=>setRow_other w g b' _ (fun e=>by
      subst e;rw[h3' b' (by rw[hdst];rfl)] at hb';exact hne (Option.some.inj hb').symm)
     have f2:Fr G w G (w.setRow g row) (fun k' => k' = k):=⟨fun _ _ h=>h,fun _ _ h=>h,fun b' k' hb' hne=>⟨hb',hother b' k' hb' hne⟩,⟨fun e=>hk.1 e.symm,fun e=>hk.2 e.symm⟩,rfl,rfl,rfl,by simp[World.setRow]⟩
     have hnn:(news.take n).length=n:=by simp;omega
     refine ⟨w.setRow g row,?_,G,f2,rfl,h.wo.fr f2 (fun b' c hc' => by
      obtain ⟨k1,T',fr,k2⟩:=h.wo.imm b' c hc'
      exact ⟨k1,T',fr,(hother b' _ k1 (fun e=>hk.1 e.symm)).trans k2⟩) (fun b' k' hb' => by simpa[World.setRow] using h.wo.dom b' k' hb'),?_⟩
     ·rw[hdst]
      have hmin:Nat.min l.2.length xs.length=n:=rfl
      simp[Builtin.copy_,run_underlying hu,hy,Builtin.lenOf,sizeOf,typeInfo,he,hi1,hmin]
      rw[←hy,hcs]
      simp[hst]
     ·have hlenX:(l.2.take xs.length++xs.drop l.2.length).length=xs.length:=by simp;omega
      refine ⟨by omega,news.take n++us.drop n,⟨by rw[hlenX];simp[hul];omega,.inr ⟨g,dcap,row,by rw[hdst,hlenX],Nat.zero_le _,setRow_heap w g cur _ _ (0,0) hg,by rw[hlenX];exact hnc,hcm,?_,?_⟩⟩,?_,h3'⟩
      ·rw[←hrw];simp[hnn];omega
      ·rw[hlenX,←hrw,List.toList_toArray,hnn]
       have hle:n<=xs.length:=Nat.min_le_right _ _
       rw[List.take_append,hnn,←htk,List.drop_take,List.take_of_length_le (by rw[hnn];omega)]
      ·have r1:RowRep G.g 1 (l.2.take n) (news.take n):=hrow.take1 n
       have r2:RowRep G.g 1 (xs.drop n) (us.drop n):=h2'.drop1 n
       have e1:l.2.take xs.length=l.2.take n:=by
        rcases Nat.le_total l.2.length xs.length with hle|hle
        ·rw[show n=l.2.length from Nat.min_eq_left hle,List.take_of_length_le hle,List.take_length]
        ·rw[show n=xs.length from Nat.min_eq_right hle]
       have e2:xs.drop l.2.length=xs.drop n:=by
        rcases Nat.le_total l.2.length xs.length with hle|hle
        ·rw[show n=l.2.length from Nat.min_eq_left hle]
        ·rw[show n=xs.length from Nat.min_eq_right hle,List.drop_of_length_le hle,List.drop_length]
       rw[e1,e2]
       exact r1.append r2 (by simp[hlen])
   obtain ⟨w',hrun,G2,f2,p2,wo2,hU2⟩:=key
   have hR:Rel P E G2 (s.puts u7) a w':=by
    cases v with
    |s t' =>
     have hw:=yO h13
     subst hw
     have hkl':k=.s t' 0:=hkl
     subst hkl'
     have htt:a.eval (.tmp i)=tmp a t':=hconc
     refine h.slot f2 wo2 (fun l b hb=>p2▸hb) t' (fun k' hk' => .inl ⟨0,hk'⟩) (v:=tmp a t') rfl (fun _ _=>rfl) ?_ (fun q hq=>by cases hq) (.inr rfl)
     rw[←htt]
     exact hU2
    |c l' o' =>
     have hw:=yO h13
     subst hw
     have hkl':k=.c l' o':=hkl
     subst hkl'
     obtain ⟨b0,hb0,hkb0,hcell0⟩:=hconc
     refine h.cellg f2 wo2 (fun l b hb=>p2▸hb) l' o' (fun k' hk' => .inl hk') _ false (fun b1 y1 hb1 hy1=>?_)
     rw[hb0] at hb1
     cases hb1
     rw[hcell0] at hy1
     cases hy1
     exact hU2
   exact xO h (f2.weaken (fun k' hk' => by subst hk';exact hk) X0_old) (xV p2) hR hd h14 (x:=goInt n) vi (hx' hrun) pre
  ·exact (zr h6).elim
 ·exact (zr h4).elim
end
section
variable {P:Program} {E:Env} {G G':Gh} {w w':World} {X:Hd->Prop} {s s':RS} {a a':Act}
variable {cf:Nat->List AV->za->Option (Out×za)}
theorem Rel.boxes (h:Rel P E G s a w) (f:Fr G w G' w' X) (wo:WOk P E G' w') (hp:G'.ph=G.ph) (L:Nat->Prop) (hX:∀ k,X k->(∃ l,L l/\k=.box l)∨(∃ l o,L l/\k=.c l o)∨xl k)
  {s':RS} (h1:s'.sl=s.sl) (h2:∀ l',¬L l'->s'.H[l']? = s.H[l']?/\s'.mb l' = s.mb l') (h3:∀ l,L l->∀ cs b,s'.H[l]? = some cs->G'.ph l=some b->BoxOk G' w' l cs b)
  (h4:∀ l,L l->s'.mb l=true) (h5:s'.H.length=s.H.length):Rel P E G' s' a w':=by
 have nb:∀ l',¬L l'->¬X (.box l'):=fun l' hl hx=>by rcases hX _ hx with ⟨l,hL,hj⟩|⟨l,o,hL,hj⟩|hj<;>first|(cases hj;exact hl hL)|cases hj|exact hj
 have nc:∀ l' o,¬L l'->¬X (.c l' o):=fun l' o hl hx=>by rcases hX _ hx with ⟨l,hL,hj⟩|⟨l,o,hL,hj⟩|hj<;>first|(cases hj;exact hl hL)|cases hj|exact hj
 have ns:∀ u j,¬X (.s u j):=fun u j hx=>by rcases hX _ hx with ⟨l,hL,hj⟩|⟨l,o,hL,hj⟩|hj<;>first|cases hj|exact hj
 have hmd:∀ v',s'.md v' = false->s.md v' = false:=by
  intro v' hv'
  cases v' with
  |s u=>simp only[RS.md,h1] at hv' ⊢;exact hv'
  |c l' o=>
   simp only[RS.md] at hv' ⊢
   have:¬L l':=fun hL=>by rw[h4 l' hL] at hv';cases hv'
   rw[←(h2 l' this).2];exact hv'
 have hxb:∀ v',s'.md v' = false->∀ l' o,v' = .c l' o->¬X (.box l'):=by
  intro v' hv' l' o hvo
  subst hvo
  simp only[RS.md] at hv'
  exact nb l' (fun hL=>by rw[h4 l' hL] at hv';cases hv')
 refine ⟨wo,fun l' cs hl b hb=>?_,fun u=>?_,fun u q hq=>?_,fun l' b hb=>by rw[h5];exact h.dm l' b (hp▸hb)⟩
 ·by_cases hll:L l'
  ·exact h3 l' hll cs b hl hb
  ·exact (h.bx l' cs ((h2 l' hll).1▸hl) b (hp▸hb)).fr f (nb l' hll) (fun o=>nc l' o hll)
 ·rw[h1];exact (h.sl u).fr f (fun j=>ns u j)
 ·rw[h1] at hq
  exact (h.rf u q hq).fr f hmd hxb (fun _ _ _ _=>rfl)
structure PreC (P:Program) (E:Env) (G:Gh) (w:World) (args:List AV) (vs:Array Value) (H:za):Prop where
 wo:WOk P E G w
 bx:∀ l cs,H[l]? = some cs->∀ b,G.ph l=some b->BoxOk G w l cs b
 dm:∀ l b,G.ph l=some b->l<H.length
 sz:vs.size=args.length
 ar:∀ (j:Nat) (q:AV) (x:Value),args[j]? = some q->vs[j]? = some x->(shd q=true/\∀ hh,VRel P E G w hh q x)∨(xr q=true/\VRel P E G w (fun i=>.s j i) q x)
def ORel (G:Gh) (w:World):AV->Value->Prop
 |.tup k a ps,v=>∃ vs,v=.tuple vs/\vs.size=ps.length/\k<vs.size/\(∀ (j:Nat) (q:PV) (u:Value),j≠k->ps[j]? = some q->vs[j]? = some u->PRep G.g q u)/\∀ u,vs[k]? = some u->TRel G w (fun j=>.hand j) a u
 |.dead,_=>False
 |a,v=>TRel G w (fun j=>.hand j) a v
theorem ORel.v:∀ {a:AV} {v:Value},ORel G w a v->VRel P E G w (fun j=>.hand j) a v
 |.tup k a ps,v,u=>u
 |.dead,_,u=>u.elim
 |.pv p,v,u=>u
 |.slu e sz xs,v,u=>u
 |.agg cs,v,u=>TRel.v rfl (show TRel G w (fun j=>.hand j) (.agg cs) v from u)
 |.ptr ..,_,u=>u.elim
 |.clo ..,_,u=>u.elim
 |.elp ..,_,u=>u.elim
 |.gm ..,_,u=>u.elim
 |.mp ..,_,u=>u.elim
 |.und,_,u=>u.elim
theorem ORel.move (hg:∀ b c,G.g b=some c->G'.g b=some c) (hk:∀ b j,G.ka b=some (.hand j)->G'.ka b=some (.hand j)):∀ {a:AV} {v:Value},ORel G w a v->ORel G' w a v
 |.tup k a ps,v,u=>by
  obtain ⟨vs,hv,h1,h0,h2,h3⟩:=u
  exact ⟨vs,hv,h1,h0,fun j q x hj hq hx=>(h2 j q x hj hq hx).mono hg,fun x hx=>(h3 x hx).move hg (fun j b hb=>⟨hk b j hb,rfl⟩)⟩
 |.dead,_,u=>u.elim
 |.pv p,v,u=>PRep.mono hg u
 |.slu e sz xs,v,u=>TRel.move (G:=G) (G':=G') (w:=w) (w':=w) (a:=.slu e sz xs) hg (fun j b hb=>⟨hk b j hb,rfl⟩) u
 |.agg cs,v,u=>TRel.move (G:=G) (G':=G') (w:=w) (w':=w) (a:=.agg cs) hg (fun j b hb=>⟨hk b j hb,rfl⟩) u
 |.ptr ..,_,u=>u.elim
 |.clo ..,_,u=>u.elim
 |.elp ..,_,u=>u.elim
 |.gm ..,_,u=>u.elim
 |.mp ..,_,u=>u.elim
 |.und,_,u=>u.elim
def xv (P:Program) (E:Env) (G:Gh) (w:World):Out->Ending->Prop
 |.ret a,.returned v=>ORel G w a v
 |.pan p,.panicked chain=>∃ v,chain=[{ v,recovered:=false }]/\PRep G.g p v
 |_,_=>False
def xR (P:Program) (E:Env) (cf:Nat->List AV->za->Option (Out×za)):Prop :=
 ∀ f args H out H',cf f args H=some (out,H')->∀ (G:Gh) (w:World) (vs:Array Value),PreC P E G w args vs H->
  Calls P f vs w fun e w' => ∃ G',Fr G w G' w' X0/\G'.ph=G.ph/\WOk P E G' w'/\(∀ l cs,H'[l]? = some cs->∀ b,G.ph l=some b->BoxOk G' w' l cs b)/\xv P E G' w' out e
def xH (P:Program) (f:Nat):Prop:=∃ fn,P.funcs[f]? = some fn/\fn.body.isSome=true/\(fn.name == "runtime.NumGoroutine")=false
theorem qr {f:Nat} (hf:xH P f) (vs:Array Value):(callFunc f vs).run P w=.ok (.enter f vs) w:=by
 obtain ⟨fn,h1,h2,h3⟩:=hf
 have hn:¬(fn.name = "runtime.NumGoroutine"):=by simpa using h3
 have hb':¬(fn.body=none):=by intro e;rw[e] at h2;cases h2
 simp[callFunc,h1,hn,hb']
theorem YZ {o:Oper} {f:Nat} {vs:Array Value} {out:Out} {pre:Option Nat} (hx:(execOp a.eval o).run P w=.ok (.enter f vs) w) (hd:∀ d',o.dst=some d'->d'<a.tmps.size) {s2:RS} {ws:List W} {pn:Pn}
  (hr:(JZ o.dst out).run s2=some (ws,pn))
  (hc:Calls P f vs w fun e w' => ∃ G2,Fr G w G2 w' X0/\(∀ l b,l<s.H.length->G2.ph l=some b->G.ph l=some b)/\Rel P E G2 s2 a w'/\xv P E G2 w' out e):OpOk P E G s a w pre o (s2.puts ws) pn:=by
 cases out with
 |pan p=>
  obtain ⟨rfl,rfl⟩:=run_pure hr
  intro K Q hK
  unfold Oper.wp
  rw[hx]
  refine hc.mono fun e w' he=>?_
  obtain ⟨G2,f2,p2,r2,ho⟩:=he
  cases e with
  |returned v=>exact ho.elim
  |outgrown=>exact ho.elim
  |panicked chain=>
   obtain ⟨v,rfl,hp⟩:=ho
   exact hK G2 w' v f2 (fun l b hl _ hb=>p2 l b hl hb) r2 hp
 |ret r=>
  have hv:∀ {G2:Gh} {w':World} {e:Ending},xv P E G2 w' (.ret r) e->∃ v,e=.returned v/\VRel P E G2 w' (fun j=>.hand j) r v:=by
   intro G2 w' e ho
   cases e with
   |returned v=>exact ⟨v,rfl,ORel.v ho⟩
   |outgrown=>exact ho.elim
   |panicked chain=>exact ho.elim
  have hpn:pn=none:=by
   cases hdst:o.dst with
   |none=>simp only[JZ,done,hdst] at hr;exact (run_pure hr).2
   |some d=>
    simp only[JZ,done,hdst] at hr
    obtain ⟨u1,_,v1,h1,h2,rfl⟩:=zmR hr
    exact (run_pure h2).2
  subst hpn
  intro K Q hK
  unfold Oper.wp
  rw[hx]
  refine hc.mono fun e w' he=>?_
  obtain ⟨G2,f2,p2,r2,ho⟩:=he
  obtain ⟨v,rfl,hvr⟩:=hv ho
  obtain ⟨_,G3,f3,p3,r3⟩:=Wz r2 hd (show (done o.dst r).run s2=some (ws,none) from hr) hvr
  exact hK G3 _ w' (f2.trans f3) (fun l b hl _ hb=>p2 l b hl (p3▸hb)) r3 (Yg _ _) (Ye _ _)
def seen (r:Hd->Option Hd) (G:Gh):Nat->Option Hd:=fun b=>match G.ka b with
 |none=>none
 |some k=>match r k with
  |some k' => some k'
  |none=>some .frn
def back (r:Hd->Option Hd) (q:Hd->Option Hd) (G G':Gh):Nat->Option Hd:=fun b=>
 if (match G.ka b with|none=>false|some k=>(r k).isNone) then G.ka b else match G'.ka b with
  |none=>none
  |some k' => q k'
structure Ren (r q:Hd->Option Hd):Prop where
 imm:r .imm=some .imm
 frn:r .frn=none
 s:∀ t j,r (.s t j)=none
 nofrn:∀ k,r k≠some .frn
 qimm:q .imm=some .imm
 qhand:∀ j,q (.hand j)=some (.hand j)
theorem Q5 {r q:Hd->Option Hd} (R:Ren r q) {b:Nat} (h:G.ka b=some .imm):seen r G b=some .imm:=by simp[seen,h,R.imm]
theorem zb2 {r q:Hd->Option Hd} (R:Ren r q) {b:Nat} {k:Hd} (h:G.ka b=some k) (hk:r k=none):seen r G b=some .frn:=by simp[seen,h,hk]
theorem qw {r:Hd->Option Hd} {b:Nat} {k k':Hd} (h:G.ka b=some k) (hk:r k=some k'):seen r G b=some k':=by simp[seen,h,hk]
theorem K4 {r q:Hd->Option Hd} (R:Ren r q) (ph0:Nat->Option Nat) (hp0:∀ l b,G.ph l=some b->ph0 l=some b∨True) (wo:WOk P E G w) :
  WOk P E ⟨G.g,ph0,seen r G⟩ w/\∀ (G':Gh) (w':World),Fr ⟨G.g,ph0,seen r G⟩ w G' w' X0->WOk P E G' w'->
   Fr G w ⟨G'.g,G.ph,back r q G G'⟩ w' (fun k=>k≠.imm/\(r k).isSome=true)/\WOk P E ⟨G'.g,G.ph,back r q G G'⟩ w'/\
   ∀ b k',k'≠.frn->G'.ka b=some k'->back r q G G' b=q k':=by
 refine ⟨⟨fun b c hb=>?_,fun b k hb=>?_,fun g l hl=>?_,fun g p hp=>?_,fun g hg=>?_,fun g1 g2 c1 c2 h1 h2 hne e1 e2=>wo.dst g1 g2 c1 c2 h1 h2 hne e1 e2,fun g v hv=>wo.fix g v hv⟩,fun G' w' f wo' => ?_⟩
 ·obtain ⟨k1,k2⟩:=wo.imm b c hb
  exact ⟨Q5 R k1,k2⟩
 ·have:∃ k0,G.ka b=some k0:=by
   cases hg:G.ka b with
   |none=>simp[seen,hg] at hb
   |some k0=>exact ⟨k0,rfl⟩
  obtain ⟨k0,hk0⟩:=this
  exact wo.dom b k0 hk0
 ·obtain ⟨v,c0,hv,h00,bm,es,clock,e1,e2,e3,e4⟩:=wo.maps g l hl
  exact ⟨v,c0,hv,h00,bm,es,clock,e1,Q5 R e2,e3,e4⟩
 ·exact wo.glob g p hp
 ·obtain ⟨c,a,ca,ta,h1,h2,h3,h4⟩:=wo.sen g hg
  exact ⟨c,a,ca,ta,h1,h2,Q5 R h3,h4⟩
 ·have lab:∀ b k',k'≠.frn->G'.ka b=some k'->back r q G G' b=q k':=by
   intro b k' hk' hb
   unfold back
   cases hg:G.ka b with
   |none=>simp[hb]
   |some k=>
    cases hr:r k with
    |some k2=>simp[hr,hb]
    |none=>
     have h1:=(f.ka b .frn (zb2 R hg hr) X0_old.2).1
     rw[hb] at h1
     exact absurd (Option.some.inj h1) hk'
  have fG:Fr G w ⟨G'.g,G.ph,back r q G G'⟩ w' (fun k=>k≠.imm/\(r k).isSome=true):=by
   refine ⟨f.g,fun _ _ h=>h,fun b k hb hk=>?_,⟨fun h=>h.1 rfl,fun h=>by rw[R.frn] at h;cases h.2⟩,f.os,f.tape,f.output,f.size⟩
   by_cases hki:k=.imm
   ·subst hki
    obtain ⟨h1,h2⟩:=f.ka b .imm (Q5 R hb) X0_old.1
    exact ⟨(lab b .imm (by simp) h1).trans R.qimm,h2⟩
   ·have hr:r k=none:=by
     cases hr:r k with
     |none=>rfl
     |some k' => exact absurd ⟨hki,by rw[hr];rfl⟩ hk
    obtain ⟨h1,h2⟩:=f.ka b .frn (zb2 R hb hr) X0_old.2
    exact ⟨by show back r q G G' b=some k;simp[back,hb,hr],h2⟩
  refine ⟨fG,wo.fr fG (fun b c hc=>?_) (fun b k hb=>?_),lab⟩
  ·obtain ⟨k1,k2⟩:=wo'.imm b c hc
   exact ⟨(lab b .imm (by simp) k1).trans R.qimm,k2⟩
  ·cases hg:G.ka b with
   |some k0=>exact Nat.lt_of_lt_of_le (wo.dom b k0 hg) f.size
   |none=>
    have hb':back r q G G' b=some k:=hb
    simp only[back,hg] at hb'
    cases hg':G'.ka b with
    |none=>simp[hg'] at hb'
    |some k' => exact wo'.dom b k' hg'
theorem QI {G2:Gh} (hg:∀ b c,G'.g b=some c->G2.g b=some c) (hh:∀ b j,G'.ka b=some (.hand j)->G2.ka b=some (.hand j)) {out:Out} {e:Ending} (h:xv P E G' w' out e):xv P E G2 w' out e:=by
 cases out with
 |pan p=>
  cases e with
  |panicked chain=>obtain ⟨v,hv,hp⟩:=h;exact ⟨v,hv,hp.mono hg⟩
  |returned v=>exact h.elim
  |outgrown=>exact h.elim
 |ret r=>
  cases e with
  |returned v=>exact ORel.move (G:=G') hg hh h
  |panicked chain=>exact h.elim
  |outgrown=>exact h.elim
theorem zaw {x:AV} (h:xq x=true):∃ p,x=.pv p:=by cases x<;>first|exact ⟨_,rfl⟩|simp[xq] at h
theorem rz (hC:xR P E cf) (h:Rel P E G s a w) {f:Nat} {args:List AV} {vs:Array Value} {out:Out} {H':za} (hcf:cf f args []=some (out,H')) (hpv:args.all xq=true) (hsz:vs.size=args.length)
  (har:∀ (j:Nat) (q:AV) (x:Value),args[j]? = some q->vs[j]? = some x->∀ hh,VRel P E G w hh q x) :
  Calls P f vs w fun e w' => ∃ G2,Fr G w G2 w' X0/\G2.ph=G.ph/\Rel P E G2 s a w'/\xv P E G2 w' out e:=by
 let r:Hd->Option Hd:=fun k=>match k with|.imm=>some .imm|_=>none
 let q:Hd->Option Hd:=fun k=>match k with|.imm=>some .imm|.hand j=>some (.hand j)|_=>none
 have R:Ren r q:=⟨rfl,rfl,fun _ _=>rfl,fun k=>by cases k<;>simp[r],rfl,fun _=>rfl⟩
 obtain ⟨wo0,hback⟩:=K4 (q:=q) R (fun _=>none) (fun _ _ _=>.inr trivial) h.wo
 refine (hC f args [] out H' hcf ⟨G.g,fun _=>none,seen r G⟩ w vs ⟨wo0,fun l cs hl=>(by simp at hl),fun l b hb=>(by cases hb),hsz,fun j z x hz hx=>?_⟩).mono fun e w' he=>?_
 ·obtain ⟨p,rfl⟩:=zaw (List.all_eq_true.1 hpv z (List.mem_of_getElem? hz))
  exact .inl ⟨rfl,fun hh=>(har j _ x hz hx hh:PRep G.g p x)⟩
 ·obtain ⟨G',f',p',wo',_,ho⟩:=he
  obtain ⟨fG,woG,lab⟩:=hback G' w' f' wo'
  refine ⟨_,fG.weaken (fun k hk=>⟨hk.1,fun e=>by subst e;cases hk.2⟩) X0_old,rfl,?_,QI (G':=G') (G2:=⟨G'.g,G.ph,back r q G G'⟩) (fun _ _ h=>h) (fun b j hb=>lab b (.hand j) (by simp) hb) ho⟩
  exact h.fr fG woG (fun _ _ h=>h) (fun k hk=>by cases k<;>first|exact absurd rfl hk.1|cases hk.2)
theorem zfP (hC:xR P E cf) (wo:WOk P E G w) {f:Nat} {args:List AV} {vs:Array Value} {out:Out} {H':za} (hcf:cf f args []=some (out,H')) (hpv:args.all xq=true) (hsz:vs.size=args.length)
  (har:∀ (j:Nat) (p:PV) (x:Value),args[j]? = some (.pv p)->vs[j]? = some x->PRep G.g p x) :
  Calls P f vs w fun e w' => ∃ G2,Fr G w G2 w' (fun _=>False)/\G2.ph=G.ph/\WOk P E G2 w'/\xv P E G2 w' out e:=by
 let r:Hd->Option Hd:=fun k=>match k with|.imm=>some .imm|_=>none
 let q:Hd->Option Hd:=fun k=>match k with|.imm=>some .imm|.hand j=>some (.hand j)|_=>none
 have R:Ren r q:=⟨rfl,rfl,fun _ _=>rfl,fun k=>by cases k<;>simp[r],rfl,fun _=>rfl⟩
 obtain ⟨wo0,hback⟩:=K4 (q:=q) R (fun _=>none) (fun _ _ _=>.inr trivial) wo
 refine (hC f args [] out H' hcf ⟨G.g,fun _=>none,seen r G⟩ w vs ⟨wo0,fun l cs hl=>(by simp at hl),fun l b hb=>(by cases hb),hsz,fun j z x hz hx=>?_⟩).mono fun e w' he=>?_
 ·obtain ⟨p,rfl⟩:=zaw (List.all_eq_true.1 hpv z (List.mem_of_getElem? hz))
  exact .inl ⟨rfl,fun hh=>(har j p x hz hx:PRep G.g p x)⟩
 ·obtain ⟨G',f',p',wo',_,ho⟩:=he
  obtain ⟨fG,woG,lab⟩:=hback G' w' f' wo'
  exact ⟨_,fG.weaken (fun k hk=>by cases k<;>first|exact hk.1 rfl|cases hk.2) ⟨id,id⟩,rfl,woG,QI (G':=G') (G2:=⟨G'.g,G.ph,back r q G G'⟩) (fun _ _ h=>h) (fun b j hb=>lab b (.hand j) (by simp) hb) ho⟩
theorem KY:∀ (ls:List Nat) {s:RS} {ws:List W} {bs:List (List AV)},(Wk ls).run s=some (ws,bs)->ws=[]/\bs.length=ls.length/\∀ (i l:Nat),ls[i]? = some l->s.H[l]? = bs[i]?
 |[],s,ws,bs,hr=>by obtain ⟨rfl,rfl⟩:=run_pure hr;exact ⟨rfl,rfl,fun i l h=>by simp at h⟩
 |l::r,s,ws,bs,hr=>by
  simp only[Wk] at hr
  obtain ⟨u1,c,v1,h1,h2,rfl⟩:=zmR hr
  obtain ⟨rfl,rfl⟩:=vD h1
  simp only[RS.puts,zm7] at h2 ⊢
  obtain ⟨u2,cs,v2,h3,h4,rfl⟩:=zmR h2
  obtain ⟨rfl,hl⟩:=zE h3
  simp only[RS.puts,zm7] at h4 ⊢
  obtain ⟨u3,cr,v3,h5,h6,rfl⟩:=zmR h4
  obtain ⟨rfl,q1,q2⟩:=KY r h5
  obtain ⟨rfl,rfl⟩:=run_pure h6
  refine ⟨rfl,by simp[q1],fun i l' hi=>?_⟩
  cases i with
  |zero=>simp at hi;subst hi;simpa using hl
  |succ i=>simp at hi;simpa using q2 i l' hi
theorem za0:∀ {l:List Nat},nodupB l=true->l.Nodup
 |[],_=>List.nodup_nil
 |x::r,h=>by
  simp only[nodupB,zm8,Bool.not_eq_true',List.contains_eq_mem,decide_eq_false_iff_not] at h
  exact List.nodup_cons.2 ⟨h.1,za0 h.2⟩
structure Ren2 (ls:List Nat) (G G0:Gh):Prop where
 g:∀ b c,G.g b=some c->G0.g b=some c
 ph:∀ l∈ls,∀ b,G.ph l=some b->G0.ph (ls.idxOf l)=some b
theorem SRel.ren {ls:List Nat} {G0:Gh} (R:Ren2 ls G G0) {a:AV} {v:Value} (ha:okD ls.contains a=true) (h:SRel G a v):SRel G0 (QY ls a) v:=by
 cases a with
 |pv p=>exact PRep.mono R.g h
 |ptr l o=>
  obtain ⟨b,hb,hx⟩:∃ b,G.ph l=some b/\v=.pointer (some ⟨b,o,none⟩):=h
  exact ⟨b,R.ph l (by simpa[okD] using ha) b hb,hx⟩
 |_=>exact h.elim
theorem LRel.ren {ls:List Nat} {G0:Gh} (R:Ren2 ls G G0) {as0:List AV} {vs:Array Value} (ha:as0.all (okD ls.contains)=true) (h:LRel G as0 vs):LRel G0 (as0.map (QY ls)) vs:=by
 refine ⟨by simpa using h.1,fun j a x hj hx=>?_⟩
 rw[zmT] at hj
 cases hj':as0[j]? with
 |none=>simp[hj'] at hj
 |some q=>
  simp only[hj',Option.map_some,zm9] at hj
  subst hj
  exact SRel.ren R (List.all_eq_true.1 ha q (List.mem_of_getElem? hj')) (h.2 j q x hj' hx)
theorem BRel.ren {ls:List Nat} {G0:Gh} (R:Ren2 ls G G0) {h h':Hd} (hk:∀ b,G.ka b=some h->G0.ka b=some h'/\w'.heap[b]? = w.heap[b]?) {a:AV} {v:Value} (ha:vP ls.contains a=true) (u:BRel G w h a v):BRel G0 w' h' (ZH ls a) v:=by
 cases a with
 |pv p=>exact ⟨u.1,u.2.mono R.g⟩
 |slu e sz xs=>exact URel.move R.g hk u
 |dead=>exact u
 |ptr l o=>exact SRel.ren (a:=.ptr l o) R (by simpa[vP,okD] using ha) u
 |clo f x y=>
  obtain ⟨fs,cs,hv,h1,h2⟩:=(show ∃ fs cs,v=.func f fs cs/\LRel G x fs/\LRel G y cs from u)
  simp only[vP,zm8] at ha
  exact ⟨fs,cs,hv,h1.ren R ha.1,h2.ren R ha.2⟩
 |_=>simp[vP] at ha
theorem VRel.ren {ls:List Nat} {G0:Gh} (R:Ren2 ls G G0) {hh:Nat->Hd} {a:AV} {v:Value} (hs:shd a=true) (ha:Xx ls.contains a=true) (u:VRel P E G w hh a v):shd (ZH ls a)=true/\∀ hh',VRel P E G0 w' hh' (ZH ls a) v:=by
 cases a with
 |pv p=>exact ⟨rfl,fun _=>PRep.mono R.g u⟩
 |ptr l o=>exact ⟨rfl,fun _=>SRel.ren (a:=.ptr l o) R (by simpa[Xx,okD] using ha) u⟩
 |clo f x y=>
  obtain ⟨fs,cs,hv,h1,h2⟩:=(show ∃ fs cs,v=.func f fs cs/\LRel G x fs/\LRel G y cs from u)
  simp only[Xx,zm8] at ha
  exact ⟨rfl,fun _=>⟨fs,cs,hv,h1.ren R ha.1,h2.ren R ha.2⟩⟩
 |slu e sz xs=>simp[shd] at hs
 |_=>simp[Xx] at ha
structure Ren3 (ls:List Nat) (G G0:Gh):Prop where
 g:∀ b c,G.g b=some c->G0.g b=some c
 ph:∀ i b,G.ph i=some b->∃ l,ls[i]? = some l/\G0.ph l=some b
theorem SRel.unr {ls:List Nat} {G0:Gh} (R:Ren3 ls G G0) {a:AV} {v:Value} (h:SRel G a v):SRel G0 (Kq ls a) v:=by
 cases a with
 |pv p=>exact PRep.mono R.g h
 |ptr l o=>
  obtain ⟨b,hb,hx⟩:∃ b,G.ph l=some b/\v=.pointer (some ⟨b,o,none⟩):=h
  obtain ⟨l',h1,h2⟩:=R.ph l b hb
  exact ⟨b,by rw[h1];exact h2,hx⟩
 |_=>exact h.elim
theorem LRel.unr {ls:List Nat} {G0:Gh} (R:Ren3 ls G G0) {as0:List AV} {vs:Array Value} (h:LRel G as0 vs):LRel G0 (as0.map (Kq ls)) vs:=by
 refine ⟨by simpa using h.1,fun j a x hj hx=>?_⟩
 rw[zmT] at hj
 cases hj':as0[j]? with
 |none=>simp[hj'] at hj
 |some q=>
  simp only[hj',Option.map_some,zm9] at hj
  subst hj
  exact SRel.unr R (h.2 j q x hj' hx)
theorem BRel.unr {ls:List Nat} {G0:Gh} (R:Ren3 ls G G0) {h h':Hd} (hk:∀ b,G.ka b=some h->G0.ka b=some h'/\w'.heap[b]? = w.heap[b]?) {m:Nat->Bool} {a:AV} {v:Value} (ha:vP m a=true) (u:BRel G w h a v):BRel G0 w' h' (Vf ls a) v:=by
 cases a with
 |pv p=>exact ⟨u.1,u.2.mono R.g⟩
 |slu e sz xs=>exact URel.move R.g hk u
 |dead=>exact u
 |ptr l o=>exact SRel.unr (a:=.ptr l o) R u
 |clo f x y=>
  obtain ⟨fs,cs,hv,h1,h2⟩:=(show ∃ fs cs,v=.func f fs cs/\LRel G x fs/\LRel G y cs from u)
  exact ⟨fs,cs,hv,h1.unr R,h2.unr R⟩
 |_=>simp[vP] at ha
theorem zc6:∀ (ls:List Nat) (h:za) {s:RS} {ws:List W} {u:Unit},(XU ls h).run s=some (ws,u)->ls.Nodup->h.length=ls.length->(∀ l∈ls,l<s.H.length)->
  (s.puts ws).sl=s.sl/\(∀ l,l ∉ ls->(s.puts ws).H[l]? = s.H[l]?/\(s.puts ws).mb l=s.mb l)/\(∀ (i l:Nat),ls[i]? = some l->(s.puts ws).H[l]? = h[i]?)/\(∀ l∈ls,(s.puts ws).mb l=true)/\(s.puts ws).H.length=s.H.length
 |[],h,s,ws,u,hr,_,hl,_=>by
  obtain ⟨rfl,_⟩:=run_pure hr
  exact ⟨rfl,fun _ _=>⟨rfl,rfl⟩,fun i l hi=>by simp at hi,fun l hl=>by simp at hl,rfl⟩
 |l::r,[],s,ws,u,hr,_,hl,_=>by simp at hl
 |l::r,cs::h,s,ws,u,hr,hn,hl,hlt=>by
  simp only[XU] at hr
  obtain ⟨u1,_,v1,h1,h2,rfl⟩:=zmR hr
  have hw:=yO h1
  subst hw
  simp only[List.cons_append,zm7,RS.puts] at h2 ⊢
  obtain ⟨hn1,hn2⟩:=List.nodup_cons.1 hn
  have hlen:(s.put (.b l cs)).H.length=s.H.length:=by simp[RS.put]
  obtain ⟨g1,g2,g3,g4,g5⟩:=zc6 r h h2 hn2 (by simpa using hl) (fun l' hl' => by rw[hlen];exact hlt l' (zmV _ hl'))
  have hset:∀ l',l'≠l->(s.put (.b l cs)).H[l']? = s.H[l']?:=fun l' hne=>by simp only[RS.put];rw[List.getElem?_set_ne (Ne.symm hne)]
  refine ⟨g1,fun l' hl' => ?_,fun i l' hi=>?_,fun l' hl' => ?_,g5.trans hlen⟩
  ·obtain ⟨n1,n2⟩:l'≠l/\l' ∉ r:=by simpa using hl'
   obtain ⟨k1,k2⟩:=g2 l' n2
   exact ⟨k1.trans (hset l' n1),k2.trans (by simp[RS.put,n1])⟩
  ·cases i with
   |zero=>
    simp at hi
    subst hi
    rw[(g2 l hn1).1]
    simp only[RS.put,List.getElem?_cons_zero]
    rw[List.getElem?_set_self (hlt l zmW)]
   |succ i=>simp at hi;simpa using g3 i l' hi
  ·by_cases hl2:l'∈r
   ·exact g4 l' hl2
   ·rw[(g2 l' hl2).2]
    rcases List.mem_cons.1 hl' with rfl|hl'
    ·simp[RS.put]
    ·exact absurd hl' hl2
theorem rA (hC:xR P E cf) (h:Rel P E G s a w) {ow:Option Nat} {f:Nat} {args:List AV} {vs:Array Value} {out:Out} {ls:List Nat} {bs H':za} {us ws:List W} {u:Unit} (hndb:nodupB ls=true) (hbs:(Wk ls).run s=some (us,bs)) (hcf:cf f (args.map (ZH ls)) (bs.map fun cs=>cs.map (ZH ls))=some (out,H'))
  (hpv:args.all (Xx ls.contains)=true) (hpb:(bs.all fun cs=>cs.all (vP ls.contains))=true) (hpb':(H'.all fun cs=>cs.all (vP fun i=>decide (i<ls.length)))=true) (hlen':H'.length=bs.length) (hsz:vs.size=args.length)
  (har:∀ (j:Nat) (q:AV) (x:Value),args[j]? = some q->vs[j]? = some x->ArgR P E G w ow j q x) (hwb:(XU ls (H'.map fun cs=>cs.map (Vf ls))).run s=some (ws,u)) :
  Calls P f vs w fun e w' => ∃ G2,Fr G w G2 w' X0/\G2.ph=G.ph/\Rel P E G2 (s.puts ws) a w'/\xv P E G2 w' out e:=by
 obtain ⟨_,hbl,hbg⟩:=KY _ hbs
 have hnd:=za0 hndb
 have hlt:∀ l∈ls,l<s.H.length:=fun l hl=>by
  obtain ⟨i,hi,rfl⟩:=List.getElem_of_mem hl
  have:=hbg i ls[i] (zmS hi)
  rw[zmS (show i<bs.length by omega)] at this
  exact (List.getElem?_eq_some_iff.1 this).1
 have hidx:∀ (i l:Nat),ls[i]? = some l->ls.idxOf l=i:=fun i l hi=>by
  obtain ⟨h1,h2⟩:=List.getElem?_eq_some_iff.1 hi
  rw[←h2]
  exact hnd.idxOf_getElem i h1
 have hidx2:∀ l∈ls,ls[ls.idxOf l]? = some l:=fun l hl=>by
  rw[zmS (List.idxOf_lt_length_of_mem hl)]
  simp
 let r:Hd->Option Hd:=fun k=>match k with
  |.imm=>some .imm
  |.box l=>if l∈ls then some (.box (ls.idxOf l)) else none
  |.c l o=>if l∈ls then some (.c (ls.idxOf l) o) else none
  |.hand i=>ow.map fun j=>.s j i
  |_=>none
 let q:Hd->Option Hd:=fun k=>match k with
  |.imm=>some .imm
  |.hand j=>some (.hand j)
  |.box i=>(ls[i]?).map .box
  |.c i o=>(ls[i]?).map (.c · o)
  |_=>none
 have R:Ren r q:=⟨rfl,rfl,fun _ _=>rfl,fun k=>by
   cases k with
   |box l=>simp only[r];split<;>simp
   |c l o=>simp only[r];split<;>simp
   |hand i=>cases ow<;>simp[r]
   |_=>simp[r],rfl,fun _=>rfl⟩
 let ph0:Nat->Option Nat:=fun i=>(ls[i]?).bind G.ph
 obtain ⟨wo0,hback⟩:=K4 (q:=q) R ph0 (fun _ _ _=>.inr trivial) h.wo
 have R2:Ren2 ls G ⟨G.g,ph0,seen r G⟩:=⟨fun _ _ h=>h,fun l hl b hb=>by
  show (ls[ls.idxOf l]?).bind G.ph=some b
  rw[hidx2 l hl,zm4]
  exact hb⟩
 refine (hC f _ _ out H' hcf ⟨G.g,ph0,seen r G⟩ w vs ⟨wo0,fun i cs hi b hb=>?_,fun i b hb=>?_,by simpa using hsz,fun j z x hz hx=>?_⟩).mono fun e w' he=>?_
 ·have hb':(ls[i]?).bind G.ph=some b:=hb
  rw[zmT] at hi
  cases hi0:bs[i]? with
  |none=>simp[hi0] at hi
  |some cs0=>
   simp only[hi0,Option.map_some,zm9] at hi
   subst hi
   cases hl:ls[i]? with
   |none=>simp[hl] at hb'
   |some l=>
    simp only[hl,zm4] at hb'
    have hlm:l∈ls:=List.mem_of_getElem? hl
    have hH:s.H[l]? = some cs0:=(hbg i l hl).trans hi0
    obtain ⟨k1,T,c,k2,k3,k4⟩:=h.bx l cs0 hH b hb'
    have hil:=hidx i l hl
    refine ⟨(qw k1 (show r (.box l)=some (.box (ls.idxOf l)) from if_pos hlm)).trans (by rw[hil]),T,c,k2,by simpa using k3,fun o x y hx hy=>?_⟩
    rw[zmT] at hx
    cases hx0:cs0[o]? with
    |none=>simp[hx0] at hx
    |some x0=>
     simp only[hx0,Option.map_some,zm9] at hx
     subst hx
     refine BRel.ren R2 (fun b' hb' => ⟨(qw hb' (show r (.c l o)=some (.c (ls.idxOf l) o) from if_pos hlm)).trans (by rw[hil]),rfl⟩) ?_ (k4 o x0 y hx0 hy)
     exact List.all_eq_true.1 (List.all_eq_true.1 hpb cs0 (List.mem_of_getElem? hi0)) x0 (List.mem_of_getElem? hx0)
 ·have hb':(ls[i]?).bind G.ph=some b:=hb
  cases hl:ls[i]? with
  |none=>simp[hl] at hb'
  |some l=>rw[List.length_map,hbl];exact (List.getElem?_eq_some_iff.1 hl).1
 ·rw[zmT] at hz
  cases hj:args[j]? with
  |none=>simp[hj] at hz
  |some z0=>
   simp only[hj,Option.map_some,zm9] at hz
   subst hz
   rcases har j z0 x hj hx with ⟨k1,k2⟩|⟨k1,k2,k3⟩
   ·exact .inl (VRel.ren (w':=w) R2 k1 (List.all_eq_true.1 hpv z0 (List.mem_of_getElem? hj)) (k2 (fun _=>.imm)))
   ·refine .inr ?_
    cases z0 with
    |slu e sz xs=>exact ⟨rfl,URel.move (G:=G) (G':=(⟨G.g,ph0,seen r G⟩:Gh)) (w:=w) (w':=w) (h:=.hand 0) (h':=.s j 0) (fun _ _ h=>h) (fun b' hb' => ⟨qw hb' (show r (.hand 0)=some (.s j 0) by simp[r,k1]),rfl⟩) (show URel G w (.hand 0) e sz xs x from k3)⟩
    |_=>simp[xr] at k2
 ·obtain ⟨G',f',p',wo',bx',ho⟩:=he
  obtain ⟨fG,woG,lab⟩:=hback G' w' f' wo'
  obtain ⟨g1,g2,g3,g4,g5⟩:=zc6 ls _ hwb hnd (by rw[List.length_map];exact hlen'.trans hbl) hlt
  have R3:Ren3 ls G' ⟨G'.g,G.ph,back r q G G'⟩:=⟨fun _ _ h=>h,fun i b hb=>by
   have hb':ph0 i=some b:=by rw[p'] at hb;exact hb
   have hb':(ls[i]?).bind G.ph=some b:=hb'
   cases hl:ls[i]? with
   |none=>simp[hl] at hb'
   |some l=>simp only[hl,zm4] at hb';exact ⟨l,rfl,hb'⟩⟩
  refine ⟨_,fG.weaken (fun k hk=>⟨hk.1,fun e=>by subst e;cases hk.2⟩) X0_old,rfl,?_,QI (G':=G') (G2:=⟨G'.g,G.ph,back r q G G'⟩) (fun _ _ h=>h) (fun b j hb=>lab b (.hand j) (by simp) hb) ho⟩
  refine h.boxes fG woG rfl (fun l=>l∈ls) (fun k hk=>?_) g1 g2 (fun l hl cs b hcs hb=>?_) g4 g5
  ·obtain ⟨hk1,hk2⟩:=hk
   cases k with
   |imm=>exact absurd rfl hk1
   |box l=>
    simp only[r] at hk2
    split at hk2
    ·rename_i hl;exact .inl ⟨l,hl,rfl⟩
    ·cases hk2
   |c l o=>
    simp only[r] at hk2
    split at hk2
    ·rename_i hl;exact .inr (.inl ⟨l,o,hl,rfl⟩)
    ·cases hk2
   |hand i=>exact .inr (.inr trivial)
   |_=>simp[r] at hk2
  ·have hil:=hidx2 l hl
   have hH:(H'.map fun cs=>cs.map (Vf ls))[ls.idxOf l]? = some cs:=(g3 _ l hil).symm.trans hcs
   rw[zmT] at hH
   cases hH0:H'[ls.idxOf l]? with
   |none=>simp[hH0] at hH
   |some cs0=>
    simp only[hH0,Option.map_some,zm9] at hH
    subst hH
    have hb0:ph0 (ls.idxOf l)=some b:=by
     show (ls[ls.idxOf l]?).bind G.ph=some b
     rw[hil,zm4]
     exact hb
    obtain ⟨k1,T,c,k2,k3,k4⟩:=bx' _ cs0 hH0 b hb0
    refine ⟨(lab b _ (by simp) k1).trans (by show (ls[ls.idxOf l]?).map Hd.box=_;rw[hil];rfl),T,c,k2,by simpa using k3,fun o x y hx hy=>?_⟩
    rw[zmT] at hx
    cases hx0:cs0[o]? with
    |none=>simp[hx0] at hx
    |some x0=>
     simp only[hx0,Option.map_some,zm9] at hx
     subst hx
     refine BRel.unr (m:=fun i=>decide (i<ls.length)) R3 (fun b' hb' => ⟨(lab b' (.c (ls.idxOf l) o) (by simp) hb').trans (by show (ls[ls.idxOf l]?).map (Hd.c · o)=_;rw[hil];rfl),rfl⟩) ?_ (k4 o x0 y hx0 hy)
     exact List.all_eq_true.1 (List.all_eq_true.1 hpb' cs0 (List.mem_of_getElem? hH0)) x0 (List.mem_of_getElem? hx0)
end
section
variable {P:Program} {E:Env} {G G':Gh} {w w':World} {X:Hd->Prop} {s s':RS} {a a':Act}
variable {cf:Nat->List AV->za->Option (Out×za)}
theorem qj:∀ (n:Nat) (l ls:List Nat) {s:RS} {ws:List W} {r:List Nat},(WY n l ls).run s=some (ws,r)->ws=[]
 |0,l,ls,s,ws,r,h=>(run_pure h).1
 |n+1,[],ls,s,ws,r,h=>(run_pure h).1
 |n+1,x::l,ls,s,ws,r,h=>by
  simp only[WY] at h
  split at h
  ·exact qj n l ls h
  ·obtain ⟨u1,c,v1,h1,h2,rfl⟩:=zmR h
   obtain ⟨rfl,rfl⟩:=vD h1
   simp only[RS.puts,zm7] at h2 ⊢
   obtain ⟨u2,cs,v2,h3,h4,rfl⟩:=zmR h2
   obtain ⟨rfl,_⟩:=zE h3
   exact qj n _ _ h4
theorem ArgR.pv {ow:Option Nat} {j:Nat} {q:AV} {x:Value} (hp:xq q=true) (h:ArgR P E G w ow j q x) (hh:Nat->Hd):VRel P E G w hh q x:=by
 rcases h with h|h
 ·exact h.2 hh
 ·cases q<;>simp[xq,xr] at hp h
theorem K6 (hC:xR P E cf) {ow:Option Nat} (f1:Fr G w G' w X0) (p1:G'.ph=G.ph) (h:Rel P E G' s' a w) {o:Oper} {n:Nat} {args:List AV} {vs:Array Value} {pre:Option Nat} (hx:(execOp a.eval o).run P w=.ok (.enter n vs) w) (hd:∀ d',o.dst=some d'->d'<a.tmps.size)
  (hsz:vs.size=args.length) (har:∀ (j:Nat) (q:AV) (x:Value),args[j]? = some q->vs[j]? = some x->ArgR P E G' w ow j q x) {ws:List W} {pn:Pn} (hr:(wZ E cf o.dst n args).run s' = some (ws,pn)):OpOk P E G s a w pre o (s'.puts ws) pn:=by
 have fin:∀ {s2:RS} {e:Ending} {w':World} {out:Out},(∃ G2,Fr G' w G2 w' X0/\G2.ph=G'.ph/\Rel P E G2 s2 a w'/\xv P E G2 w' out e)->∃ G2,Fr G w G2 w' X0/\(∀ l b,l<s.H.length->G2.ph l=some b->G.ph l=some b)/\Rel P E G2 s2 a w'/\xv P E G2 w' out e :=
  fun ⟨G2,f2,p2,r2,o2⟩=>⟨G2,f1.trans f2,fun l b _ hb=>by rw[p2,p1] at hb;exact hb,r2,o2⟩
 unfold wZ at hr
 split at hr
 ·rename_i hpv
  rcases W5 hr with ⟨q,h',hcf,hr⟩|⟨p,h',hcf,hr⟩
  ·exact YZ (out:=.ret q) hx hd (zbI hr) ((rz hC h hcf hpv hsz (fun j q x hq hy=>(har j q x hq hy).pv (List.all_eq_true.1 hpv q (List.mem_of_getElem? hq)))).mono fun e w' he=>fin he)
  ·exact YZ (out:=.pan p) hx hd hr ((rz hC h hcf hpv hsz (fun j q x hq hy=>(har j q x hq hy).pv (List.all_eq_true.1 hpv q (List.mem_of_getElem? hq)))).mono fun e w' he=>fin he)
 ·obtain ⟨u0,ls,v0,h0,h01,rfl⟩:=zmR hr
  have:=qj _ _ _ h0
  subst this
  simp only[RS.puts,zm7] at h01 ⊢
  obtain ⟨u1,bs,v1,h1,h2,rfl⟩:=zmR h01
  obtain ⟨rfl,-,-⟩:=KY _ h1
  simp only[RS.puts,zm7] at h2 ⊢
  split at h2
  ·rename_i hpb
   simp only[zm8] at hpb
   rcases W5 h2 with ⟨q,h',hcf,h2⟩|⟨p,h',hcf,h2⟩
   ·obtain ⟨u2,hh,v2,h3,h4,rfl⟩:=zmR h2
    obtain ⟨rfl,rfl,hl⟩:=Jg _ _ _ h3
    simp only[RS.puts,zm7] at h4 ⊢
    obtain ⟨u3,_,v3,h5,h6,rfl⟩:=zmR h4
    obtain ⟨rfl,hH⟩:=z5 h5
    simp only[RS.puts,zm7] at h6 ⊢
    obtain ⟨u4,_,v4,h7,h8,rfl⟩:=zmR h6
    rw[RS.puts_append]
    exact YZ (out:=.ret q) hx hd (zbI h8) ((rA hC h hpb.2 h1 hcf hpb.1.1 hpb.1.2 hH (by simpa using hl) hsz har h7).mono fun e w' he=>fin he)
   ·obtain ⟨u2,hh,v2,h3,h4,rfl⟩:=zmR h2
    obtain ⟨rfl,rfl,hl⟩:=Jg _ _ _ h3
    simp only[RS.puts,zm7] at h4 ⊢
    obtain ⟨u3,_,v3,h5,h6,rfl⟩:=zmR h4
    obtain ⟨rfl,hH⟩:=z5 h5
    simp only[RS.puts,zm7] at h6 ⊢
    obtain ⟨u4,_,v4,h7,h8,rfl⟩:=zmR h6
    rw[RS.puts_append]
    exact YZ (out:=.pan p) hx hd h8 ((rA hC h hpb.2 h1 hcf hpb.1.1 hpb.1.2 hH (by simpa using hl) hsz har h7).mono fun e w' he=>fin he)
  ·exact (zr h2).elim
theorem SRel.shd {q:AV} {x:Value} (h:SRel G q x):shd q=true:=by cases q<;>first|rfl|exact h.elim
theorem SRel.v {q:AV} {x:Value} (h:SRel G q x) (hh:Nat->Hd):VRel P E G w hh q x:=by cases q<;>first|exact h|exact h.elim
theorem zki {x:Value} {y:Value} {g:Nat->Option (Array Value)} (h:PRep g (.v x) y):okV x=true:=by cases h;assumption
theorem zdd {xs:List Operand} {ts:List Nat} {x:Operand} {t:Nat} (hl:xs.length=ts.length) (h:xs.zip ts=[(x,t)]):xs=[x]/\ts=[t]:=by
 match xs,ts,hl,h with
 |[x'],[t'],_,h=>simpa using h
 |x1::x2::xs,t1::t2::ts,_,h=>simp at h
theorem Kz {xs:List Operand} {ts:List Nat} {x y:Operand} {t u:Nat} (hl:xs.length=ts.length) (h:xs.zip ts=[(x,t),(y,u)]):xs=[x,y]/\ts=[t,u]:=by
 match xs,ts,hl,h with
 |[x'],[t'],_,h=>simp at h
 |[x',y'],[t',u'],_,h=>simp at h;obtain ⟨⟨rfl,rfl⟩,rfl,rfl⟩:=h;exact ⟨rfl,rfl⟩
 |x1::x2::x3::xs,t1::t2::t3::ts,_,h=>simp at h
theorem qR {xs:List Operand} {ts:List Nat} {z:List (Operand×Nat)} (h:XV xs ts=some z):xs.length=ts.length/\z=xs.zip ts:=by
 unfold XV at h
 split at h
 ·rename_i hl;exact ⟨hl,(Option.some.inj h).symm⟩
 ·cases h
theorem zeL (hS:SysOk P E) (hC:xR P E cf) (hF:∀ f args H r,cf f args H=some r->xH P f) (h:Rel P E G s a w) {pre:Option Nat} {o:Oper} {c:Call} {f:Operand} (ho:o.op=.call c) (hcc:c.callee=.value f) {args:List (Operand×Nat)} (hz:XV c.args.toList c.argTypes.toList=some args) (hd:∀ d',o.dst=some d'->d'<a.tmps.size) {ws:List W} {pn:Pn}
  (hr:(do
   let as0 ←Kr E f args
   match ←rdv E 0 f with
   |.pv (.v (.func (.func n) _ _))=>wZ E cf o.dst n as0
   |.clo (.func n) first captured=>wZ E cf o.dst n (first++as0++captured)
   |_=>.fail:RM Pn).run s=some (ws,pn)):OpOk P E G s a w pre o (s.puts ws) pn:=by
 obtain ⟨hl,rfl⟩:=qR hz
 obtain ⟨u1,as0,v1,h1,h2,rfl⟩:=zmR hr
 obtain ⟨G1,f1,p1,r1,l1,e1⟩:=zl4 hS _ _ h h1
 rw[RS.puts_append]
 obtain ⟨u2,fv,v2,h3,h4,rfl⟩:=zmR h2
 obtain ⟨rfl,hh,hv⟩:=xG hS r1 h3
 simp only[RS.puts,zm7] at h4 ⊢
 have hlen:as0.length=c.args.size:=by rw[l1,List.length_zip,←hl];simp
 have hargs:∀ (j:Nat) (q:AV) (x:Value),as0[j]? = some q->(c.args.map a.eval)[j]? = some x->ArgR P E G1 w (WU E f) j q x:=by
  intro j q x hq hx
  rw[Array.getElem?_map] at hx
  cases hj:c.args[j]? with
  |none=>simp[hj] at hx
  |some y=>
   simp only[hj,Option.map_some,zm9] at hx
   have hjl:j<c.args.size:=(Array.getElem?_eq_some_iff.1 hj).1
   have hjt:j<c.argTypes.toList.length:=by rw[←hl];simpa using hjl
   have k1:=e1 j q (y,c.argTypes.toList[j]) hq (by rw[List.getElem?_zip_eq_some];exact ⟨by simpa using hj,zmS hjt⟩)
   subst hx
   exact k1
 have hres:∀ {n:Nat} {fs cs:Array Value},a.eval f=.func (.func n) fs cs->xH P n->(execOp a.eval o).run P w=.ok (.enter n (fs++c.args.map a.eval++cs)) w:=by
  intro n fs cs hf hn
  have:=qr (w:=w) hn (fs++c.args.map a.eval++cs)
  simp[execOp,ho,resolve,hcc,hf,Deferred.ofValue,invoke,this,-Array.append_assoc]
 have we:∀ {n:Nat} {as0:List AV} {z:List W×Pn},(wZ E cf o.dst n as0).run (s.puts u1)=some z->xH P n:=by
  intro n as0 ⟨zw,zp⟩ hz
  unfold wZ at hz
  have of:∀ {o:Option (Out×za)} {kr:AV->za->RM Pn} {kp:PV->za->RM Pn} {s:RS} {z:List W×Pn},(RM.out o kr kp).run s=some z->∃ r,o=some r:=by
   intro o kr kp s ⟨z1,z2⟩ hz
   rcases W5 hz with ⟨_,_,h,_⟩|⟨_,_,h,_⟩<;>exact ⟨_,h⟩
  split at hz
  ·obtain ⟨r,hr⟩:=of hz;exact hF _ _ _ _ hr
  ·obtain ⟨u0,ls,v0,h0,h01,rfl⟩:=zmR hz
   obtain ⟨u1,bs,v1,h1,h2,rfl⟩:=zmR h01
   split at h2
   ·obtain ⟨r,hr⟩:=of h2;exact hF _ _ _ _ hr
   ·exact (zr h2).elim
 split at h4
 ·rename_i n x1 x2
  have hf:a.eval f=.func (.func n) x1 x2:=yZ hv
  have he:x1=#[]/\x2=#[]:=by
   simpa[okV] using zki (show PRep G1.g (.v (.func (.func n) x1 x2)) (a.eval f) from hv)
  obtain ⟨rfl,rfl⟩:=he
  refine K6 hC (ow:=WU E f) (f1.weaken xn X0_old) p1 r1 (hres hf (we h4)) hd (by simp[hlen]) (fun j q x hq hx=>hargs j q x hq (by simpa using hx)) h4
 ·rename_i n first captured
  obtain ⟨fs,cs,hf,⟨q1,q2⟩,⟨q3,q4⟩⟩:=(show ∃ fs cs,a.eval f=.func (.func n) fs cs/\LRel G1 first fs/\LRel G1 captured cs from hv)
  have how:WU E f=none:=by
   cases f with
   |func n' => have:=(run_pure h3).2;cases this
   |_=>rfl
  refine K6 hC (ow:=none) (f1.weaken xn X0_old) p1 r1 (hres hf (we h4)) hd (by simp[hlen,q1,q3]) (fun j q x hq hx=>?_) h4
  rw[←Array.getElem?_toList] at hx
  simp only[Array.toList_append] at hx
  by_cases hj1:j<first.length
  ·rw[List.append_assoc,List.getElem?_append_left hj1] at hq
   rw[List.append_assoc,List.getElem?_append_left (by simpa[q1] using hj1)] at hx
   have:=q2 j q x hq (by simpa using hx)
   exact .inl ⟨this.shd,fun hh=>this.v hh⟩
  ·by_cases hj2:j<first.length+as0.length
   ·rw[List.getElem?_append_left (by simpa using hj2),List.getElem?_append_right (by omega)] at hq
    rw[List.getElem?_append_left (by simp[q1];omega),List.getElem?_append_right (by simp[q1];omega)] at hx
    exact (hargs _ q x hq (by simpa[q1] using hx)).imp id (fun k=>by rw[how] at k;cases k.1)
   ·rw[List.getElem?_append_right (by simp;omega)] at hq
    rw[List.getElem?_append_right (by simp[q1];omega)] at hx
    have:=q4 _ q x hq (by simpa[q1,hlen] using hx)
    exact .inl ⟨this.shd,fun hh=>this.v hh⟩
 ·exact (zr h4).elim
theorem qH {α:Type} {xs:Array α} {l:List α} (h:xs.toList=l):xs=l.toArray:=by rw[←h]
theorem PV.bare0_ok {q:PV} {u:Value} {g g':Nat->Option (Array Value)} (hb:q.bare0=true) (h:PRep g q u):PRep g' q u:=by
 cases h with
 |v h=>exact .v h
 |_=>cases hb
theorem PV.bareC_ok {cs:List PV} {u:Value} {g g':Nat->Option (Array Value)} (hb:cs.all PV.bare0=true) (h:PRep g (.agg cs) u):PRep g' (.agg cs) u:=by
 cases h with
 |agg h1 h2 h3=>exact .agg h1 h2 fun j q u hq hu=>PV.bare0_ok (List.all_eq_true.1 hb q (List.mem_of_getElem? hq)) (h3 j q u hq hu)
theorem PV.bare_ok {q:PV} {u:Value} {g g':Nat->Option (Array Value)} (hb:q.bare=true) (h:PRep g q u):PRep g' q u:=by
 cases h with
 |v h=>exact .v h
 |agg h1 h2 h3=>exact PV.bareC_ok (g:=g) hb (.agg h1 h2 h3)
 |ifc h=>
  refine .ifc ?_
  cases h with
  |v h=>exact .v h
  |agg h1 h2 h3=>exact PV.bareC_ok (g:=g) hb (.agg h1 h2 h3)
  |_=>cases hb
 |_=>cases hb
theorem zfx {d:Option Nat} {q:AV} {s:RS} {ws:List W} {pn:Pn} (h:(rk d q).run s=some (ws,pn)):∃ ps,q=.pv (.tup ps)/\Wj ps=true/\(done d (.tup 0 .dead ps)).run s=some (ws,pn):=by
 obtain ⟨u1,ps,v1,h1,h2,rfl⟩:=zmR h
 obtain ⟨rfl,hp⟩:=zE h1
 simp only[RS.puts,zm7] at h2 ⊢
 obtain ⟨u2,_,v2,h3,h4,rfl⟩:=zmR h2
 obtain ⟨rfl,hb⟩:=z5 h3
 exact ⟨ps,zbe hp,hb,h4⟩
theorem zfw {q:PV} {s:RS} {ws:List W} {pn:Pn} (h:(rj q).run s=some (ws,pn)):q.bare=true/\(pure (some q):RM Pn).run s=some (ws,pn):=by
 obtain ⟨u2,_,v2,h3,h4,rfl⟩:=zmR h
 obtain ⟨rfl,hb⟩:=z5 h3
 exact ⟨hb,h4⟩
theorem zfz {ps:List PV} {e:Ending} {G2 G3:Gh} (hb:Wj ps=true) (h:xv P E G2 w' (.ret (.pv (.tup ps))) e):xv P E G3 w' (.ret (.tup 0 .dead ps)) e:=by
 cases e with
 |returned v=>
  have h:PRep G2.g (.tup ps) v:=h
  cases h with
  |tup h1 h2=>
   rename_i vs
   refine (show ∃ vs',Value.tuple vs=.tuple vs'/\_ from ⟨vs,rfl,h1,?_,fun j q u hj hq hu=>?_,fun u hu=>trivial⟩)
   ·cases ps with
    |nil=>cases hb
    |cons x r=>simp[h1]
   ·cases ps with
    |nil=>cases hb
    |cons x r=>
     cases j with
     |zero=>exact absurd rfl hj
     |succ j=>exact PV.bare_ok (List.all_eq_true.1 hb q (List.mem_of_getElem? (by simpa using hq))) (h2 _ q u hq hu)
 |panicked chain=>exact h.elim
 |outgrown=>exact h.elim
theorem zfy {p:PV} {e:Ending} {G2 G3:Gh} (hb:p.bare=true) (h:xv P E G2 w' (.pan p) e):xv P E G3 w' (.pan p) e:=by
 cases e with
 |panicked chain=>obtain ⟨v,hv,hp⟩:=h;exact ⟨v,hv,PV.bare_ok hb hp⟩
 |returned v=>exact h.elim
 |outgrown=>exact h.elim
theorem rB (hC:xR P E cf) (h:Rel P E G s a w) {f t e sz:Nat} {xs:List PV} {x:Value} {out:Out} {H':za} (hcf:cf f [.pv (.sl sz xs)] []=some (out,H')) (u:URel G w (.s t 0) e sz xs x) :
  Calls P f #[x] w fun e w' => ∃ G2 G3,Fr G w G3 w' X0/\G3.ph=G.ph/\Rel P E G3 s a w'/\xv P E G2 w' out e:=by
 obtain ⟨G1,f1,wo1,hp,p1,hk⟩:=URel.freezeK (P:=P) (E:=E) h.wo (by simp) (by simp) u
 refine (zfP hC wo1 hcf rfl rfl (fun j p y hj hy=>?_)).mono fun e w' he=>?_
 ·cases j with
  |zero=>simp at hj hy;subst hj;subst hy;exact hp
  |succ j=>simp at hj
 ·obtain ⟨G2,f2,p2,wo2,ho⟩:=he
  let k:Hd:=.s t 0
  let G3:Gh:=⟨fun b=>if G.ka b=some k then none else G2.g b,G2.ph,fun b=>if G.ka b=some k then some k else G2.ka b⟩
  have f3:Fr G w G3 w' (fun _=>False):=by
   refine ⟨fun b c hb=>?_,fun l b hb=>?_,fun b q hq _=>?_,⟨id,id⟩,f2.os,f2.tape,f2.output,f2.size⟩
   ·have h1:=(h.wo.imm b c hb).1
    show (if G.ka b=some k then none else G2.g b)=some c
    rw[if_neg (by rw[h1];simp[k])]
    exact f2.g b c (f1.g b c hb)
   ·show G2.ph l=some b
    rw[p2,p1];exact hb
   ·by_cases hqk:q=k
    ·subst hqk
     refine ⟨if_pos hq,?_⟩
     rcases hk b hq with h1|h1
     ·exact (f2.ka b _ h1 id).2
     ·exact (f2.ka b _ h1 id).2
    ·obtain ⟨h1,_⟩:=f1.ka b q hq hqk
     obtain ⟨h3,h4⟩:=f2.ka b q h1 id
     refine ⟨?_,h4⟩
     show (if G.ka b=some k then some k else G2.ka b)=some q
     rw[if_neg (by rw[hq];exact fun e=>hqk (Option.some.inj e))]
     exact h3
  have wo3:WOk P E G3 w':=by
   refine h.wo.fr f3 (fun b c hb=>?_) (fun b q hb=>?_)
   ·by_cases hg:G.ka b=some k
    ·have hb':(if G.ka b=some k then none else G2.g b)=some c:=hb
     rw[if_pos hg] at hb';cases hb'
    ·have hb':(if G.ka b=some k then none else G2.g b)=some c:=hb
     rw[if_neg hg] at hb'
     obtain ⟨h1,h2⟩:=wo2.imm b c hb'
     exact ⟨(if_neg hg).trans h1,h2⟩
   ·by_cases hg:G.ka b=some k
    ·exact Nat.lt_of_lt_of_le (h.wo.dom b k hg) f2.size
    ·have hb':(if G.ka b=some k then some k else G2.ka b)=some q:=hb
     rw[if_neg hg] at hb'
     exact wo2.dom b q hb'
  refine ⟨G2,G3,f3.weaken (fun _ h=>h.elim) X0_old,p2.trans p1,?_,ho⟩
  exact h.fr f3 wo3 (fun l b hb=>by rw[←p1,←p2];exact hb) (fun k hk=>hk.elim)
theorem zeG (hS:SysOk P E) (hC:xR P E cf) (hF:∀ f args H r,cf f args H=some r->xH P f) (h:Rel P E G s a w) {pre:Option Nat} {o:Oper} {c:Call} {f:Operand} (ho:o.op=.call c) (hcc:c.callee=.value f) {args:List (Operand×Nat)} (hz:XV c.args.toList c.argTypes.toList=some args) (hd:∀ d',o.dst=some d'->d'<a.tmps.size) {q:Nat×Nat} (hb:KX E f args=some q) {ws:List W} {pn:Pn}
  (hr:(Y7 E cf o.dst q.1 q.2).run s=some (ws,pn)):OpOk P E G s a w pre o (s.puts ws) pn:=by
 obtain ⟨hl,rfl⟩:=qR hz
 have hb':∃ t,f=.func q.1/\c.args.toList.zip c.argTypes.toList=[(.tmp q.2,t)]:=by
  unfold KX at hb
  split at hb
  ·rename_i n i t he
   split at hb
   ·cases hb;exact ⟨_,rfl,he⟩
   ·cases hb
  ·cases hb
 obtain ⟨t,rfl,hz1⟩:=hb'
 obtain ⟨n,i⟩:=q
 have hA:c.args=#[.tmp i]:=by
  obtain ⟨h1,_⟩:=zdd hl hz1
  exact qH h1
 have hres:xH P n->(execOp a.eval o).run P w=.ok (.enter n #[tmp a i]) w:=by
  intro hn
  have:=qr (w:=w) hn #[tmp a i]
  simp[execOp,ho,resolve,hcc,Act.eval,Deferred.ofValue,invoke,hA,tmp,-Array.append_assoc] at this ⊢
  exact this
 have of:∀ {o:Option (Out×za)} {kr:AV->za->RM Pn} {kp:PV->za->RM Pn} {s:RS} {z:List W×Pn},(RM.out o kr kp).run s=some z->∃ r,o=some r:=by
  intro o kr kp s ⟨z1,z2⟩ hz
  rcases W5 hz with ⟨_,_,h,_⟩|⟨_,_,h,_⟩<;>exact ⟨_,h⟩
 have fin:∀ {e:Ending} {w':World} {out:Out},(∃ G2,Fr G w G2 w' X0/\G2.ph=G.ph/\Rel P E G2 s a w'/\xv P E G2 w' out e)->∃ G2,Fr G w G2 w' X0/\(∀ l b,l<s.H.length->G2.ph l=some b->G.ph l=some b)/\Rel P E G2 s a w'/\xv P E G2 w' out e :=
  fun ⟨G2,f2,p2,r2,o2⟩=>⟨G2,f2,fun l b _ hb=>by rw[p2] at hb;exact hb,r2,o2⟩
 have main:∀ {v:AV} {t:Nat} {ws:List W} {pn:Pn},VRel P E G w (fun j=>.s t j) v (tmp a i)->(Yq E cf o.dst n v).run s=some (ws,pn)->OpOk P E G s a w pre o (s.puts ws) pn:=by
  intro v t ws pn hsl h2
  unfold Yq at h2
  split at h2
  ·rename_i e sz xs
   obtain ⟨r,hcf⟩:=of h2
   have hn:=hF _ _ _ _ hcf
   rcases W5 h2 with ⟨q,h',hcf,h2⟩|⟨p,h',hcf,h2⟩
   ·obtain ⟨ps,rfl,hb,h3⟩:=zfx h2
    exact YZ (out:=.ret (.tup 0 .dead ps)) (hres hn) hd h3 ((rB hC h hcf hsl).mono fun e w' ⟨G2,G3,k1,k2,k3,k4⟩=>fin ⟨G3,k1,k2,k3,zfz hb k4⟩)
   ·obtain ⟨hb,h3⟩:=zfw h2
    exact YZ (out:=.pan p) (hres hn) hd h3 ((rB hC h hcf hsl).mono fun e w' ⟨G2,G3,k1,k2,k3,k4⟩=>fin ⟨G3,k1,k2,k3,zfy hb k4⟩)
  ·rename_i p
   have hn:xH P n:=by
    have h2':=h2
    simp only[wZ,List.all_cons,List.all_nil,xq,Bool.and_self,if_true] at h2'
    obtain ⟨r,hr⟩:=of h2'
    exact hF _ _ _ _ hr
   have hv:PRep G.g p (tmp a i):=hsl
   refine K6 hC (ow:=none) (Fr.refl.weaken (fun _ h=>h.elim) X0_old) rfl h (hres hn) hd rfl (fun j q x hq hx=>?_) h2
   cases j with
   |zero=>simp at hq hx;subst hq;subst hx;exact .inl ⟨rfl,fun hh=>hv⟩
   |succ j=>simp at hq
  ·exact (zr h2).elim
 unfold Y7 at hr
 obtain ⟨u1,c1,v1,h1,h2,rfl⟩:=zmR hr
 obtain ⟨rfl,rfl⟩:=yS h1
 simp only[RS.puts,zm7] at h2 ⊢
 split at h2
 ·exact main (h.sl i) h2
 ·rename_i t hrf
  obtain ⟨u2,c2,v2,h3,h4,rfl⟩:=zmR h2
  obtain ⟨rfl,rfl⟩:=yS h3
  simp only[RS.puts,zm7] at h4 ⊢
  split at h4
  ·exact (zr h4).elim
  ·rename_i hm
   have hc:tmp a i=tmp a t:=h.rf i _ hrf (by simpa[RS.md] using hm)
   exact main (t:=t) (by rw[hc];exact h.sl t) h4
 ·exact (zr h2).elim
theorem zeK (hS:SysOk P E) (h:Rel P E G s a w) {pre:Option Nat} {o:Oper} {c:Call} {b:Builtin} (ho:o.op=.call c) (hcc:c.callee=.builtin b) {args:List (Operand×Nat)} (hz:XV c.args.toList c.argTypes.toList=some args) (hd:∀ d',o.dst=some d'->d'<a.tmps.size) {ws:List W} {pn:Pn}
  (hr:(vL E o.dst b args).run s=some (ws,pn)):OpOk P E G s a w pre o (s.puts ws) pn:=by
 obtain ⟨hl,rfl⟩:=qR hz
 generalize hxs:c.args.toList=xs at *
 generalize hts:c.argTypes.toList=ts at *
 have hA:=qH hxs
 have hT:=qH hts
 generalize hzz:xs.zip ts=z at *
 have hr0:=hr
 unfold vL at hr
 split at hr
 ·obtain ⟨rfl,rfl⟩:=zdd hl hzz;exact zeS hS h ho hcc hA hT hd hr0
 ·obtain ⟨rfl,rfl⟩:=Kz hl hzz;exact zeD hS h ho hcc hA hT hd hr0
 ·obtain ⟨rfl,rfl⟩:=Kz hl hzz;exact gG hS h (.inl rfl) ho hcc hA hT hd hr0
 ·obtain ⟨rfl,rfl⟩:=Kz hl hzz;exact gG hS h (.inr rfl) ho hcc hA hT hd hr0
 ·obtain ⟨rfl,rfl⟩:=Kz hl hzz;exact zeN hS h ho hcc hA hT hd hr0
 ·exact (zr hr).elim
theorem gH (hS:SysOk P E) (hC:xR P E cf) (hF:∀ f args H r,cf f args H=some r->xH P f) (h:Rel P E G s a w) {pre:Option Nat} {o:Oper} (hd:∀ d',o.dst=some d'->d'<a.tmps.size) (hpr:XX E G s o pre) {ws:List W} {pn:Pn} (hr:(act E cf pre o).run s=some (ws,pn)):OpOk P E G s a w pre o (s.puts ws) pn:=by
 cases ho:o.op with
 |move x=>exact zeY hS h ho hd hr
 |assign x=>exact zeE hS h ho hd hr
 |pick c x y=>exact ze1 hS h ho hd hr
 |alloc t=>exact zeC hS h ho hd hpr hr
 |box t x=>exact zeH hS h ho hd hpr hr
 |build t ps=>exact zeI hS h ho hd hr
 |buildSlice t n ps=>exact zeJ hS h ho hd hr
 |load t x=>exact zeT hS h ho hd hr
 |store t x y=>exact ze3 hS h ho hr
 |nilCheck x=>exact zeZ hS h ho hd hr
 |fieldAddr t x f=>exact zeQ hS h ho hd hr
 |field t x f=>exact zeP hS h ho hd hr
 |indexAddr t x y=>exact zeR hS h ho hd hr
 |binOp op t x y u=>exact zeF hS h ho hd hr
 |unOp op t x=>exact ze5 hS h ho hd hr
 |convert t u x=>exact zeM hS h ho hd hr
 |extract x i=>exact zeO hS h ho hd hr
 |makeFunc fn x y=>exact zeV hS h ho hd hr
 |makeSlice t x y=>exact zeX hS h ho hd hr
 |slice t x lo hi m=>
  cases m with
  |none=>exact ze2 hS h ho hd hr
  |some m=>simp only[act,ho] at hr;exact (zr hr).elim
 |lookup t x y c=>
  cases c with
  |false=>exact zeU hS h ho hd hr
  |true=>simp only[act,ho] at hr;exact (zr hr).elim
 |makeInterface t x=>exact zeW hS h ho hd hr
 |panic x=>exact ze0 hS h ho hr
 |typeAssert x t u c=>
  cases c with
  |true=>exact ze4 hS h ho hd hr
  |false=>simp only[act,ho] at hr;exact (zr hr).elim
 |call c=>
  simp only[act,ho] at hr
  obtain ⟨u1,args,v1,h1,h2,rfl⟩:=zmR hr
  obtain ⟨rfl,hz⟩:=zE h1
  simp only[RS.puts,zm7] at h2 ⊢
  cases hcc:c.callee with
  |builtin b=>simp only[hcc] at h2;exact zeK hS h ho hcc hz hd h2
  |value f=>
   simp only[hcc] at h2
   split at h2
   ·rename_i q hb;exact zeG hS hC hF h ho hcc hz hd hb h2
   ·exact zeL hS hC hF h ho hcc hz hd h2
  |invoke r n=>simp only[hcc] at h2;exact (zr h2).elim
 |_=>simp only[act,ho] at hr;exact (zr hr).elim
end
section
variable {P:Program} {E:Env} {G G':Gh} {w w':World} {X:Hd->Prop} {s s':RS} {a a':Act}
variable {cf:Nat->List AV->za->Option (Out×za)} {ops:Array Oper} {n:Nat} {D:Nat->Prop}
def uK (P:Program) (E:Env) (ops:Array Oper) (i:Nat) (G:Gh) (s:RS) (a:Act) (w:World) (pre:Option Nat) (s':RS):Pn->Prop
 |none=>∀ (K:Act->World->Prop) (Q:Exit->Act->World->Prop),
   (∀ G' a' w',Fr G w G' w' X0->(∀ l b,l<s.H.length->pre≠some l->G'.ph l=some b->G.ph l=some b)->Rel P E G' s' a' w'->a'.tmps.size=a.tmps.size->Same (fun t=>∃ o,ops[i]? = some o/\o.dst=some t) a a'->K a' w')->wpOp P ops Q i K a w
 |some p=>∀ (K:Act->World->Prop) (Q:Exit->Act->World->Prop),
   (∀ G' w' v,Fr G w G' w' X0->(∀ l b,l<s.H.length->pre≠some l->G'.ph l=some b->G.ph l=some b)->Rel P E G' s' a w'->PRep G'.g p v->Q (.panic [{ v,recovered:=false }]) a w')->wpOp P ops Q i K a w
theorem OpOk.step {i:Nat} {o:Oper} (hi:ops[i]? = some o) (hw:Region.wanted o (yielded ops a.tmps)=true) {pre:Option Nat} {pn:Pn} (h:OpOk P E G s a w pre o s' pn):uK P E ops i G s a w pre s' pn:=by
 cases pn with
 |none=>exact fun K Q hK=>by unfold wpOp;simp only[hi,hw,if_true];exact .inl (h K Q fun G' a' w' f p r s d=>hK G' a' w' f p r s (d.mono fun t ht=>⟨o,hi,ht⟩))
 |some p=>exact fun K Q hK=>by unfold wpOp;simp only[hi,hw,if_true];exact .inl (h K Q hK)
theorem gE (hS:SysOk P E) (hC:xR P E cf) (hF:∀ f args H r,cf f args H=some r->xH P f) (h:Rel P E G s a w) {pre:Option Nat} {i:Nat} {o:Oper} (hi:ops[i]? = some o) (hn:n<=a.tmps.size) (hpr:XX E G s o pre) {ws:List W} {pn:Pn}
  (hr:(yK E cf n ops pre o).run s=some (ws,pn)):uK P E ops i G s a w pre (s.puts ws) pn:=by
 unfold yK at hr
 split at hr
 ·rename_i hdn
  have hd:∀ d',o.dst=some d'->d'<a.tmps.size:=fun d' hd' => by
   exact Nat.lt_of_lt_of_le (by simpa[jz,hd'] using hdn) hn
  cases hg:o.guard with
  |none=>
   simp only[hg] at hr
   exact (gH hS hC hF h hd hpr hr).step hi (by simp[Region.wanted,hg])
  |some jw=>
   obtain ⟨j,want⟩:=jw
   simp only[hg] at hr
   cases hj:(ops[j]?).bind (·.dst) with
   |none=>simp only[hj] at hr;exact (zr hr).elim
   |some t=>
    simp only[hj] at hr
    obtain ⟨u1,c,v1,h1,h2,rfl⟩:=zmR hr
    obtain ⟨rfl,rfl⟩:=yS h1
    simp only[RS.puts,zm7] at h2 ⊢
    have hv:=h.sl t
    obtain ⟨u2,_,v2,h3,h4,rfl⟩:=zmR h2
    obtain ⟨rfl,-⟩:=z5 h3
    simp only[RS.puts,zm7] at h4 ⊢
    by_cases hu:Z2 (s.sl t).a=true
    ·rw[if_pos hu] at h4
     have hun:(s.sl t).a=.und:=by cases hq:(s.sl t).a<;>simp[hq,Z2] at hu;rfl
     rw[hun] at hv
     have hb':tmp a t=undef:=hv
     have hy:yielded ops a.tmps j=none:=by
      unfold tmp at hb'
      unfold yielded
      rw[hj]
      simp only[zm4]
      cases hq:a.tmps[t]? with
      |none=>rfl
      |some z=>simp[Array.getD_eq_getD_getElem?,hq,undef] at hb';simp[hb']
     obtain ⟨rfl,G2,f2,p2,r2⟩:=Wz h hd h4 (x:=undef) rfl
     intro K Q hK
     unfold wpOp
     have hw:Region.wanted o (yielded ops a.tmps)=false:=by simp[Region.wanted,hg,hy]
     simp only[hi,hw,Bool.false_eq_true,if_false]
     exact hK G2 _ w f2 (fun l b _ _ hb=>p2▸hb) r2 (Yg _ _) ((Ye _ _).mono fun t ht=>⟨o,hi,ht⟩)
    rw[if_neg hu] at h4
    obtain ⟨u3,b,v3,h5,h6,rfl⟩:=zmR h4
    obtain ⟨rfl,hb⟩:=zE h5
    have ha:=Zj hb
    simp only[RS.puts,zm7] at h6 ⊢
    rw[ha] at hv
    have hb':tmp a t=.bool b:=yZ hv
    have hy:yielded ops a.tmps j=some b:=by
     unfold tmp at hb'
     unfold yielded
     rw[hj]
     simp only[zm4]
     cases hq:a.tmps[t]? with
     |none=>simp[Array.getD_eq_getD_getElem?,hq,undef] at hb'
     |some z=>simp[Array.getD_eq_getD_getElem?,hq] at hb';simp[hb']
    rcases Q2 h6 with ⟨hbw,h7⟩|⟨hbw,h7⟩
    ·have hbw:b=want:=by cases b<;>cases want<;>simp_all
     subst hbw
     exact (gH hS hC hF h hd hpr h7).step hi (by simp[Region.wanted,hg,hy])
    ·have hbw:¬b=want:=by cases b<;>cases want<;>simp_all
     obtain ⟨rfl,G2,f2,p2,r2⟩:=Wz h hd h7 (x:=undef) rfl
     intro K Q hK
     unfold wpOp
     have hw:Region.wanted o (yielded ops a.tmps)=false:=by simp[Region.wanted,hg,hy,hbw]
     simp only[hi,hw,Bool.false_eq_true,if_false]
     exact hK G2 _ w f2 (fun l b _ _ hb=>p2▸hb) r2 (Yg _ _) ((Ye _ _).mono fun t ht=>⟨o,hi,ht⟩)
 ·exact (zr hr).elim
structure RegQ (P:Program) (E:Env) (D:Nat->Prop) (N:Nat) (G:Gh) (a:Act) (w:World) (Q:Exit->Act->World->Prop) (z:RS) (pn:Pn):Prop where
 normal:pn=none->∀ G' a' w',Fr G w G' w' X0->(∀ l b,l<N->G'.ph l=some b->G.ph l=some b)->Rel P E G' z a' w'->a'.tmps.size=a.tmps.size->Same D a a'->Q .normal a' w'
 panic:∀ p,pn=some p->∀ G' a' w' v s2,Fr G w G' w' X0->(∀ l b,l<N->G'.ph l=some b->G.ph l=some b)->Rel P E G' s2 a' w'->s2.H=z.H->a'.tmps.size=a.tmps.size->Same D a a'->PRep G'.g p v->Q (.panic [{ v,recovered:=false }]) a' w'
theorem RegQ.next {N:Nat} {Q:Exit->Act->World->Prop} {z:RS} {pn:Pn} (q:RegQ P E D N G a w Q z pn) (f:Fr G w G' w' X0) (p:∀ l b,l<N->G'.ph l=some b->G.ph l=some b) (hs:a'.tmps.size=a.tmps.size) (hd:Same D a a'):RegQ P E D N G' a' w' Q z pn :=
 ⟨fun hp G2 a2 w2 f2 p2 r2 s2 d2=>q.normal hp G2 a2 w2 (f.trans f2) (fun l b hl hb=>p l b hl (p2 l b hl hb)) r2 (s2.trans hs) (hd.trans d2),
  fun pp hp G2 a2 w2 v u f2 p2 r2 h2 s2 d2=>q.panic pp hp G2 a2 w2 v u (f.trans f2) (fun l b hl hb=>p l b hl (p2 l b hl hb)) r2 h2 (s2.trans hs) (hd.trans d2)⟩
theorem zbO {N:Nat} {z:RS} {pn:Pn}:∀ (L:List Nat) {s:RS},N<=s.H.length->xf E cf n ops L s=some (z,pn)->N<=z.H.length
 |[],s,hN,hr=>by
  simp only[xf,zm9,Prod.mk.injEq] at hr
  exact hr.1▸hN
 |i::L,s,hN,hr=>by
  simp only[xf] at hr
  split at hr
  ·cases hr
  ·split at hr
   ·cases hr
   ·split at hr
    ·rename_i hl;exact zbO L (Nat.le_trans hN hl) hr
    ·cases hr
   ·split at hr
    ·rename_i hl
     simp only[zm9,Prod.mk.injEq] at hr
     exact hr.1▸Nat.le_trans hN hl
    ·cases hr
theorem zbQ (hS:SysOk P E) (hC:xR P E cf) (hF:∀ f args H r,cf f args H=some r->xH P f) (hD:∀ (i:Nat) (o:Oper) (d:Nat),ops[i]? = some o->o.dst=some d->D d) {N:Nat} {Q:Exit->Act->World->Prop} {z:RS} {pn:Pn}:∀ (L:List Nat) {G:Gh} {s:RS} {a:Act} {w:World},Rel P E G s a w->n<=a.tmps.size->N<=s.H.length->
  xf E cf n ops L s=some (z,pn)->RegQ P E D N G a w Q z pn->wpOps P ops Q L a w
 |[],G,s,a,w,h,hn,hN,hr,q=>by
  simp only[xf,zm9,Prod.mk.injEq] at hr
  obtain ⟨rfl,rfl⟩:=hr
  exact q.normal rfl G a w (Fr.refl.weaken (fun _ h=>h.elim) X0_old) (fun _ _ _ h=>h) h rfl Same.refl
 |i::L,G,s,a,w,h,hn,hN,hr,q=>by
  simp only[xf] at hr
  cases hi:ops[i]? with
  |none=>simp[hi] at hr
  |some o=>
   simp only[hi] at hr
   cases hx:(yK E cf n ops none o).run s with
   |none=>simp[hx] at hr
   |some y=>
    obtain ⟨ws,pn'⟩:=y
    have st:=gE hS hC hF h hi hn (pre:=none) trivial hx
    rw[wpOps_cons]
    cases pn' with
    |none=>
     simp only[hx] at hr
     split at hr
     ·rename_i hlen
      exact st _ Q fun G' a' w' f p r hs hd=>zbQ hS hC hF hD L r (hs▸hn) (Nat.le_trans hN hlen) hr (q.next f (fun l b hl hb=>p l b (Nat.lt_of_lt_of_le hl hN) (by simp) hb) hs (hd.mono fun t ht=>hD i _ t ht.choose_spec.1 ht.choose_spec.2))
     ·cases hr
    |some p=>
     simp only[hx] at hr
     split at hr
     ·rename_i hlen
      simp only[zm9,Prod.mk.injEq] at hr
      obtain ⟨rfl,rfl⟩:=hr
      exact st _ Q fun G' w' v f p' r hv=>q.panic p rfl G' a w' v _ f (fun l b hl hb=>p' l b (Nat.lt_of_lt_of_le hl hN) (by simp) hb) r rfl rfl Same.refl hv
     ·cases hr
end
def Loc.same (s s':RS):Loc->Prop
 |.s t=>s.sl t=s'.sl t
 |.b l=>s.H[l]? = s'.H[l]?/\s.mb l=s'.mb l
 |.h=>s.H=s'.H
theorem Loc.same.symm {s s':RS} {x:Loc} (h:x.same s s'):x.same s' s:=by
 cases x with
 |s t=>exact Eq.symm h
 |b l=>exact ⟨h.1.symm,h.2.symm⟩
 |h=>exact Eq.symm h
theorem zkc {s s':RS} (hl:s.H.length=s'.H.length) (w:W):(s.put w).H.length=(s'.put w).H.length:=by
 cases w<;>simp[RS.put,hl]
theorem zkf {s s':RS} (hl:s.H.length=s'.H.length) (w:W) {x:Loc} (h:x.same s s'):x.same (s.put w) (s'.put w):=by
 cases w with
 |s t a r m=>
  cases x with
  |s u=>
   have h':s.sl u=s'.sl u:=h
   show (if u=t then _ else _)=(if u=t then _ else _)
   by_cases hu:u=t
   ·subst hu;simp[h']
   ·simp[hu,h']
  |b l=>exact h
  |h=>exact h
 |c l o a m=>
  cases x with
  |s u=>exact h
  |b l' =>
   obtain ⟨h1,h2⟩:=h
   refine ⟨?_,?_⟩
   ·simp only[RS.put,List.getElem?_modify,h1]
   ·simp only[RS.put]
    by_cases hu:l' = l
    ·subst hu;simp[h2]
    ·simp[hu,h2]
  |h=>exact congrArg (fun z:za=>z.modify l fun cs=>cs.set o a) h
 |b l cs=>
  cases x with
  |s u=>exact h
  |b l' =>
   obtain ⟨h1,h2⟩:=h
   refine ⟨?_,?_⟩
   ·simp only[RS.put,List.getElem?_set,h1,hl]
   ·simp only[RS.put,h2]
  |h=>exact congrArg (fun z:za=>z.set l cs) h
 |new cs=>
  cases x with
  |s u=>exact h
  |b l' =>
   obtain ⟨h1,h2⟩:=h
   exact ⟨by simp only[RS.put,List.getElem?_append,hl,h1],h2⟩
  |h=>exact congrArg (fun z:za=>z++[cs]) h
 |all g=>
  cases x with
  |s u=>exact h
  |b l' => exact ⟨rfl,rfl⟩
  |h=>rfl
theorem vF {α:Type}:∀ (m:RM α) {s s':RS},s.H.length=s'.H.length->(∀ x∈m.log s,x.same s s')->m.run s' = m.run s/\m.log s' = m.log s
 |.ret a,s,s',hl,h=>⟨rfl,rfl⟩
 |.fail,s,s',hl,h=>⟨rfl,rfl⟩
 |.rs t k,s,s',hl,h=>by
  have h1:s.sl t=s'.sl t:=h (.s t) zmW
  have ih:=vF (k (s.sl t)) hl (fun x hx=>h x (zmV _ hx))
  simp only[RM.run,RM.log]
  rw[←h1]
  exact ⟨ih.1,by rw[ih.2]⟩
 |.rb l k,s,s',hl,h=>by
  obtain ⟨h1,h2⟩:s.H[l]? = s'.H[l]?/\s.mb l=s'.mb l:=h (.b l) zmW
  have ih:=vF (k (s.H[l]?,s.mb l)) hl (fun x hx=>h x (zmV _ hx))
  simp only[RM.run,RM.log]
  rw[←h1,←h2]
  exact ⟨ih.1,by rw[ih.2]⟩
 |.rh k,s,s',hl,h=>by
  have h1:s.H=s'.H:=h .h zmW
  have ih:=vF (k s.H) hl (fun x hx=>h x (zmV _ hx))
  simp only[RM.run,RM.log]
  rw[←h1]
  exact ⟨ih.1,by rw[ih.2]⟩
 |.wr w k,s,s',hl,h=>by
  have ih:=vF k (zkc hl w) (fun x hx=>zkf hl w (h x hx))
  simp only[RM.run,RM.log]
  rw[ih.1]
  exact ⟨rfl,ih.2⟩
 |.dyn o k,s,s',hl,h=>by
  cases o with
  |none=>exact ⟨rfl,rfl⟩
  |some x=>exact vF (k x) hl h
 |.need b k,s,s',hl,h=>by
  have ih:=vF k hl h
  simp only[RM.run,RM.log]
  rw[ih.1]
  exact ⟨rfl,ih.2⟩
 |.alt b x y,s,s',hl,h=>by
  cases b with
  |true=>exact vF x hl h
  |false=>exact vF y hl h
 |.out o kr kp,s,s',hl,h=>by
  cases o with
  |none=>exact ⟨rfl,rfl⟩
  |some z=>
   obtain ⟨o,g⟩:=z
   cases o with
   |ret a=>exact vF (kr a g) hl h
   |pan p=>exact vF (kp p g) hl h
theorem zke {s:RS} {w:W} {x:Loc} (hw:yM w=true) (h:w.loc.hits x=false):x.same s (s.put w):=by
 cases w with
 |s t a r m=>
  cases x with
  |s u=>
   have hu:u≠t:=fun e=>by subst e;simp[W.loc,Loc.hits] at h
   show s.sl u=if u=t then _ else _
   simp[hu]
  |b l=>exact ⟨rfl,rfl⟩
  |h=>rfl
 |c l o a m=>
  cases x with
  |s u=>rfl
  |b l' =>
   have hu:l≠l':=fun e=>by subst e;simp[W.loc,Loc.hits] at h
   exact ⟨by simp[RS.put,List.getElem?_modify,hu],by simp[RS.put,Ne.symm hu]⟩
  |h=>simp[W.loc,Loc.hits] at h
 |b l cs=>
  cases x with
  |s u=>rfl
  |b l' =>
   have hu:l≠l':=fun e=>by subst e;simp[W.loc,Loc.hits] at h
   exact ⟨by simp[RS.put,List.getElem?_set,hu],by simp[RS.put,Ne.symm hu]⟩
  |h=>simp[W.loc,Loc.hits] at h
 |new cs=>simp[yM] at hw
 |all g=>simp[yM] at hw
theorem Loc.same.trans {s s' s'':RS} {x:Loc} (h:x.same s s') (k:x.same s' s''):x.same s s'':=by
 cases x with
 |s t=>exact Eq.trans h k
 |b l=>exact ⟨h.1.trans k.1,h.2.trans k.2⟩
 |h=>exact Eq.trans h k
theorem qh {x:Loc}:∀ {ws:List W} {s:RS},ws.all yM=true->(∀ w∈ws,w.loc.hits x=false)->x.same s (s.puts ws)
 |[],s,_,_=>by cases x<;>first|rfl|exact ⟨rfl,rfl⟩
 |w::ws,s,h1,h2=>by
  simp only[List.all_cons,zm8] at h1
  exact (zke h1.1 (h2 w zmW)).trans (qh h1.2 (fun u hu=>h2 u (zmV _ hu)))
theorem XG:∀ {ws:List W} {s:RS},ws.all yM=true->(s.puts ws).H.length=s.H.length
 |[],s,_=>rfl
 |w::ws,s,h1=>by
  simp only[List.all_cons,zm8] at h1
  refine (XG (s:=s.put w) h1.2).trans ?_
  cases w<;>simp_all [RS.put,yM]
theorem zbB:∀ {ws:List W} {s:RS},ws.all yM=true->XN (ws.map W.loc)=true->(s.puts ws).H=s.H
 |[],s,_,_=>rfl
 |w::ws,s,h1,h2=>by
  simp only[List.all_cons,zm8] at h1
  simp only[XN,List.map_cons,List.all_cons,zm8] at h2
  refine (zbB (s:=s.put w) h1.2 h2.2).trans ?_
  cases w<;>simp_all [RS.put,yM,W.loc]
theorem RS.ext {s s':RS} (h1:∀ t,s.sl t=s'.sl t) (h2:s.H=s'.H) (h3:∀ l,s.mb l=s'.mb l):s=s':=by
 cases s;cases s'
 simp only[RS.mk.injEq]
 exact ⟨funext h1,h2,funext h3⟩
theorem put_comm {s:RS} {u w:W} (hu:yM u=true) (hw:yM w=true) (h:u.loc.hits w.loc=false):(s.put u).put w=(s.put w).put u:=by
 cases u with
 |new cs=>simp[yM] at hu
 |all g=>simp[yM] at hu
 |s t a r m=>
  cases w with
  |new cs=>simp[yM] at hw
  |all g=>simp[yM] at hw
  |s t' a' r' m' =>
   have hne:t≠t':=fun e=>by subst e;simp[W.loc,Loc.hits] at h
   refine RS.ext (fun x=>?_) rfl (fun _=>rfl)
   simp only[RS.put]
   by_cases h1:x=t
   ·subst h1;simp[hne]
   ·by_cases h2:x=t'
    ·subst h2;simp[Ne.symm hne]
    ·simp[h1,h2]
  |c l o b q=>rfl
  |b l cs=>rfl
 |c l o b q=>
  cases w with
  |new cs=>simp[yM] at hw
  |all g=>simp[yM] at hw
  |s t a r m=>rfl
  |c l' o' b' q' =>
   have hne:l≠l':=fun e=>by subst e;simp[W.loc,Loc.hits] at h
   refine RS.ext (fun _=>rfl) ?_ (fun x=>?_)
   ·refine List.ext_getElem? fun j=>?_
    simp only[RS.put,List.getElem?_modify]
    by_cases h1:l=j
    ·subst h1;simp[Ne.symm hne]
    ·by_cases h2:l' = j
     ·subst h2;simp[hne]
     ·simp[h1,h2]
   ·simp only[RS.put]
    by_cases h1:x=l
    ·subst h1;simp[hne]
    ·by_cases h2:x=l'
     ·subst h2;simp[Ne.symm hne]
     ·simp[h1,h2]
  |b l' cs=>
   have hne:l≠l':=fun e=>by subst e;simp[W.loc,Loc.hits] at h
   refine RS.ext (fun _=>rfl) ?_ (fun x=>?_)
   ·refine List.ext_getElem? fun j=>?_
    simp only[RS.put,List.getElem?_modify,List.getElem?_set,List.length_modify]
    by_cases h1:l=j
    ·subst h1;simp[Ne.symm hne]
    ·by_cases h2:l' = j
     ·subst h2;simp[hne]
     ·simp[h1,h2]
   ·simp only[RS.put]
    by_cases h1:x=l
    ·subst h1;simp[hne]
    ·by_cases h2:x=l'
     ·subst h2;simp[Ne.symm hne]
     ·simp[h1,h2]
 |b l cs=>
  cases w with
  |new cs=>simp[yM] at hw
  |all g=>simp[yM] at hw
  |s t a r m=>rfl
  |c l' o' b' q' =>
   have hne:l≠l':=fun e=>by subst e;simp[W.loc,Loc.hits] at h
   refine RS.ext (fun _=>rfl) ?_ (fun x=>?_)
   ·refine List.ext_getElem? fun j=>?_
    simp only[RS.put,List.getElem?_modify,List.getElem?_set,List.length_modify]
    by_cases h1:l=j
    ·subst h1;simp[Ne.symm hne]
    ·by_cases h2:l' = j
     ·subst h2;simp[hne]
     ·simp[h1,h2]
   ·simp only[RS.put]
    by_cases h1:x=l
    ·subst h1;simp[hne]
    ·by_cases h2:x=l'
     ·subst h2;simp[Ne.symm hne]
     ·simp[h1,h2]
  |b l' cs' =>
   have hne:l≠l':=fun e=>by subst e;simp[W.loc,Loc.hits] at h
   refine RS.ext (fun _=>rfl) ?_ (fun x=>?_)
   ·refine List.ext_getElem? fun j=>?_
    simp only[RS.put,List.getElem?_set,List.length_set]
    by_cases h1:l=j
    ·subst h1;simp[Ne.symm hne]
    ·by_cases h2:l' = j
     ·subst h2;simp[hne]
     ·simp[h1,h2]
   ·simp only[RS.put]
    by_cases h1:x=l
    ·subst h1;simp
    ·by_cases h2:x=l'
     ·subst h2;simp
     ·simp[h1,h2]
theorem zbz {u:W} (hu:yM u=true):∀ {ws:List W} {s:RS},ws.all yM=true->(∀ w∈ws,u.loc.hits w.loc=false)->(s.put u).puts ws=(s.puts ws).put u
 |[],s,_,_=>rfl
 |w::ws,s,h1,h2=>by
  simp only[List.all_cons,zm8] at h1
  simp only[RS.puts]
  rw[put_comm hu h1.1 (h2 w zmW)]
  exact zbz hu h1.2 (fun x hx=>h2 x (zmV _ hx))
theorem zbA:∀ {us ws:List W} {s:RS},us.all yM=true->ws.all yM=true->apart (us.map W.loc) (ws.map W.loc)=true->(s.puts us).puts ws=(s.puts ws).puts us
 |[],ws,s,_,_,_=>rfl
 |u::us,ws,s,h1,h2,h3=>by
  simp only[List.all_cons,zm8] at h1
  simp only[apart,List.map_cons,List.all_cons,zm8] at h3
  simp only[RS.puts]
  rw[zbA h1.2 h2 h3.2,zbz h1.1 h2 (fun w hw=>by
   have:=List.all_eq_true.1 h3.1 w.loc (List.mem_map_of_mem hw)
   simpa using this)]
theorem apart_spec {a b:List Loc} (h:apart a b=true) {x y:Loc} (hx:x∈a) (hy:y∈b):x.hits y=false:=by
 have:=List.all_eq_true.1 (List.all_eq_true.1 h x hx) y hy
 simpa using this
theorem zib (x y:Loc):x.hits y=y.hits x:=by
 cases x<;>cases y<;>simp[Loc.hits,Bool.beq_comm]
section
variable {E:Env} {cf:Nat->List AV->za->Option (Out×za)} {ops:Array Oper} {n:Nat} {plan:List (Nat×Nat)}
theorem zcB:∀ {L:List Nat} {s z:RS} {tr:List Tr} {pn:Pn},yA E cf n ops plan L s=some (tr,z,pn)->∀ t∈tr,t.i∈L
 |[],s,z,tr,pn,h,t,ht=>by
  simp only[yA,zm9,Prod.mk.injEq] at h
  rw[←h.1] at ht
  simp at ht
 |i::L,s,z,tr,pn,h,t,ht=>by
  simp only[yA] at h
  split at h
  ·cases h
  ·split at h
   ·cases h
   ·split at h
    ·split at h
     ·rename_i tr' z' hrec
      simp only[zm9,Prod.mk.injEq] at h
      obtain ⟨rfl,hz⟩:=h
      rcases List.mem_cons.1 ht with rfl|ht
      ·exact zmW
      ·exact zmV _ (zcB (z:=z) (pn:=pn) (by rw[hrec,hz]) t ht)
     ·cases h
    ·cases h
   ·split at h
    ·simp only[zm9,Prod.mk.injEq] at h
     obtain ⟨rfl,_⟩:=h
     simp at ht
     subst ht
     exact zmW
    ·cases h
theorem Kj:∀ {L:List Nat} {s z:RS} {tr:List Tr} {pn:Pn},yA E cf n ops plan L s=some (tr,z,pn)->pn≠none->tr≠[]
 |[],s,z,tr,pn,h,hp=>by
  simp only[yA,zm9,Prod.mk.injEq] at h
  exact absurd h.2.2.symm hp
 |i::L,s,z,tr,pn,h,hp=>by
  simp only[yA] at h
  split at h
  ·cases h
  ·split at h
   ·cases h
   ·split at h
    ·split at h
     ·simp only[zm9,Prod.mk.injEq] at h
      rw[←h.1];simp
     ·cases h
    ·cases h
   ·split at h
    ·simp only[zm9,Prod.mk.injEq] at h
     rw[←h.1];simp
    ·cases h
theorem zh0 {α:Type} {x:α}:∀ {l l':List α},l≠[]->l'≠[]->l.getLast? = l'.getLast?->(x::l).getLast? = (x::l').getLast?:=by
 intro l l' h h' e
 simp[List.getLast?_cons,e]
theorem zal {α:Type} {x:α} {l:List α} (h:l≠[]):(x::l).getLast? = l.getLast?:=by
 cases l with
 |nil=>exact absurd rfl h
 |cons y l=>simp[List.getLast?_cons]
theorem r8 {bef:List Nat} {t:Tr} {tr:List Tr} (h:w5 bef (t::tr)=true):w5 bef tr=true:=by
 simp only[w5,zm8] at h
 exact h.2
theorem zgz {bef:List Nat}:∀ {tr tr':List Tr},tr'.Sublist tr->w5 bef tr=true->w5 bef tr' = true:=by
 intro tr tr' hs
 induction hs with
 |slnil=>exact id
 |cons x h ih=>exact fun hc=>ih (r8 hc)
 |cons_cons x h ih=>
  intro hc
  simp only[w5,zm8] at hc ⊢
  exact ⟨List.all_eq_true.2 fun y hy=>List.all_eq_true.1 hc.1 y (h.subset hy),ih hc.2⟩
theorem zaf {bef:List Nat} {i:Nat} {L2:List Nat} {pn:Pn} {z:RS}:∀ (L1:List Nat) {s:RS} {tr:List Tr},yA E cf n ops plan (L1++i::L2) s=some (tr,z,pn)->w5 bef tr=true->(∀ a∈L1,(bef.getD i 0).testBit a=false)->(pn=none∨∃ t∈tr,t.i=i)->i ∉ L1->
  ∃ o ws pi,ops[i]? = some o/\(yK E cf n ops (find plan i) o).run s=some (ws,pi)/\ws.all yM=true/\(⟨i,(yK E cf n ops (find plan i) o).log s,ws.map W.loc⟩:Tr)∈tr/\
   (pi=none->∃ tr',yA E cf n ops plan (L1++L2) (s.puts ws)=some (tr',z,pn)/\tr'.Sublist tr/\(∀ t∈tr,t.i≠i->t∈tr')/\(pn≠none->tr'.getLast? = tr.getLast?))/\
   (∀ p,pi=some p->pn=some p/\(∃ t,tr.getLast? = some t/\t.i=i)/\((∀ t∈tr,t.i∈L1->XN t.wr=true)->z.H=(s.puts ws).H))
 |[],s,tr,h,hc,hb,hre,hni=>by
  simp only[zm7,yA] at h
  cases ho:ops[i]? with
  |none=>simp[ho] at h
  |some o=>
   simp only[ho] at h
   cases hx:(yK E cf n ops (find plan i) o).run s with
   |none=>simp[hx] at h
   |some y=>
    obtain ⟨ws,pi⟩:=y
    cases pi with
    |none=>
     simp only[hx] at h
     split at h
     ·rename_i hsw
      cases hrec:yA E cf n ops plan L2 (s.puts ws) with
      |none=>simp[hrec] at h
      |some q=>
       obtain ⟨tr0,z0⟩:=q
       simp only[hrec,zm9,Prod.mk.injEq] at h
       obtain ⟨rfl,rfl⟩:=h
       refine ⟨o,ws,none,rfl,hx,hsw,zmW,fun _=>⟨tr0,hrec,List.sublist_cons_self _ _,fun t ht hne=>?_,fun hp=>?_⟩,fun p hp=>by cases hp⟩
       ·rcases List.mem_cons.1 ht with rfl|ht
        ·exact absurd rfl hne
        ·exact ht
       ·exact (zal (Kj hrec hp)).symm
     ·cases h
    |some p=>
     simp only[hx] at h
     split at h
     ·rename_i hsw
      simp only[zm9,Prod.mk.injEq] at h
      obtain ⟨rfl,rfl,rfl⟩:=h
      exact ⟨o,ws,some p,rfl,hx,hsw,zmW,fun h=>(by cases h),fun p' hp=>⟨hp,⟨_,rfl,rfl⟩,fun _=>rfl⟩⟩
     ·cases h
 |a::L1,s,tr,h,hc,hb,hre,hni=>by
  simp only[List.cons_append,yA] at h
  obtain ⟨hne,hni'⟩:i≠a/\i ∉ L1:=by simpa using hni
  cases hoa:ops[a]? with
  |none=>simp[hoa] at h
  |some oa=>
   simp only[hoa] at h
   cases hxa:(yK E cf n ops (find plan a) oa).run s with
   |none=>simp[hxa] at h
   |some y=>
    obtain ⟨wa,pa⟩:=y
    cases pa with
    |some p=>
     simp only[hxa] at h
     split at h
     ·simp only[zm9,Prod.mk.injEq] at h
      obtain ⟨rfl,rfl,rfl⟩:=h
      rcases hre with hre|⟨t,ht,hti⟩
      ·cases hre
      ·simp at ht
       subst ht
       exact absurd hti.symm hne
     ·cases h
    |none=>
     simp only[hxa] at h
     split at h
     ·rename_i hswa
      cases hrec:yA E cf n ops plan (L1++i::L2) (s.puts wa) with
      |none=>simp[hrec] at h
      |some q=>
       obtain ⟨tr0,z0⟩:=q
       simp only[hrec,zm9,Prod.mk.injEq] at h
       obtain ⟨rfl,rfl⟩:=h
       obtain ⟨o,ws,pi,q1,q2,q3,q4,q5,q6⟩:=zaf L1 hrec (r8 hc) (fun x hx=>hb x (zmV _ hx)) (hre.imp id fun ⟨t,ht,hti⟩=>by
        rcases List.mem_cons.1 ht with rfl|ht
        ·exact absurd hti.symm hne
        ·exact ⟨t,ht,hti⟩) hni'
       have hfree:(⟨a,(yK E cf n ops (find plan a) oa).log s,wa.map W.loc⟩:Tr).free ⟨i,(yK E cf n ops (find plan i) o).log (s.puts wa),ws.map W.loc⟩=true:=by
        simp only[w5,zm8] at hc
        have:=List.all_eq_true.1 hc.1 _ q4
        rw[hb a zmW,Bool.false_or] at this
        exact this
       simp only[Tr.free,zm8] at hfree
       obtain ⟨⟨f1,f2⟩,f3⟩:=hfree
       obtain ⟨e1,e2⟩:=vF (yK E cf n ops (find plan i) o) (s:=s.puts wa) (s':=s) (XG hswa) (fun x hx=>(qh hswa (fun u hu=>apart_spec f2 (List.mem_map_of_mem hu) hx)).symm)
       obtain ⟨e3,e4⟩:=vF (yK E cf n ops (find plan a) oa) (s:=s) (s':=s.puts ws) (XG q3).symm (fun x hx=>qh q3 (fun u hu=>by rw[zib];exact apart_spec f3 hx (List.mem_map_of_mem hu)))
       have hcm:=zbA (s:=s) hswa q3 f1
       refine ⟨o,ws,pi,q1,e1.trans q2,q3,zmV _ (by rw[e2];exact q4),fun hpi=>?_,fun p hpi=>?_⟩
       ·obtain ⟨tr',t1,t2,t3,t4⟩:=q5 hpi
        refine ⟨⟨a,(yK E cf n ops (find plan a) oa).log s,wa.map W.loc⟩::tr',?_,t2.cons_cons _,fun t ht hti=>?_,fun hp=>?_⟩
        ·simp only[List.cons_append,yA,hoa,e3,hxa,hswa,if_true]
         rw[←hcm,t1,e4]
        ·rcases List.mem_cons.1 ht with rfl|ht
         ·exact zmW
         ·exact zmV _ (t3 t ht hti)
        ·exact zh0 (Kj t1 hp) (Kj hrec hp) (t4 hp)
       ·obtain ⟨r1,⟨t,r2,r2'⟩,r3⟩:=q6 p hpi
        refine ⟨r1,⟨t,?_,r2'⟩,fun hso=>?_⟩
        ·rw[zal (Kj hrec (by rw[r1];simp))];exact r2
        ·rw[r3 (fun t ht hti=>hso t (zmV _ ht) (zmV _ hti)),hcm]
         exact zbB hswa (hso _ zmW zmW)
     ·cases h
end
section
variable {ops:Array Oper}
theorem gR {S:Nat->Prop}:∀ (l:List Oper) (acc:List Nat) (done:List Oper),acc.length=done.length->
  (∀ j o,(done++l)[j]? = some o->S j->∀ e∈o.after,Region.binds .any e=true->S e.on)->
  (∀ (k:Nat) (o:Oper),done[k]? = some o->(∀ e∈o.after,Region.binds .any e=true->S e.on)->∀ a,(acc.getD k 0).testBit a=true->S a)->
  ∀ (k:Nat) (o:Oper),(done++l)[k]? = some o->(∀ e∈o.after,Region.binds .any e=true->S e.on)->∀ a,((l.foldl (fun acc o=>acc++[o.after.toList.foldl (fun s e=>if Region.binds .any e then s ||| 2^e.on ||| acc.getD e.on 0 else s) 0]) acc).getD k 0).testBit a=true->S a
 |[],acc,done,hl,hcl,hacc,k,o,ho,he,a,ha=>hacc k o (by simpa using ho) he a ha
 |q::l,acc,done,hl,hcl,hacc,k,o,ho,he,a,ha=>by
  simp only[List.foldl_cons] at ha
  have hcl':∀ j o,((done++[q])++l)[j]? = some o->S j->∀ e∈o.after,Region.binds .any e=true->S e.on:=fun j o hj=>hcl j o (by simpa using hj)
  refine gR l (acc++[_]) (done++[q]) (by simp[hl]) hcl' (fun k o hk hek a ha=>?_) k o (by simpa using ho) he a ha
  by_cases hkl:k<acc.length
  ·rw[List.getElem?_append_left (by omega)] at hk
   refine hacc k o hk hek a ?_
   rwa [List.getD_eq_getElem?_getD,List.getElem?_append_left hkl,←List.getD_eq_getElem?_getD] at ha
  ·have hk2:k=acc.length:=by
    have:=(List.getElem?_eq_some_iff.1 hk).1
    simp at this
    omega
   subst hk2
   have hqo:q=o:=by
    rw[hl,List.getElem?_append_right (by omega)] at hk
    simpa using hk
   subst hqo
   rw[List.getD_eq_getElem?_getD,List.getElem?_append_right (by omega)] at ha
   simp only[Nat.sub_self,List.getElem?_cons_zero,Option.getD_some] at ha
   have fold:∀ (es:List Edge) (s0:Nat),(∀ e∈es,e∈q.after)->(∀ a,s0.testBit a=true->S a)->∀ a,(es.foldl (fun s e=>if Region.binds .any e then s ||| 2^e.on ||| acc.getD e.on 0 else s) s0).testBit a=true->S a:=by
    intro es
    induction es with
    |nil=>exact fun s0 _ h0 a ha=>h0 a ha
    |cons e es ih=>
     intro s0 hes h0 a ha
     simp only[List.foldl_cons] at ha
     refine ih _ (fun x hx=>hes x (zmV _ hx)) (fun b hb=>?_) a ha
     split at hb
     ·rename_i hbi
      rw[Nat.testBit_or,Nat.testBit_or,Bool.or_eq_true,Bool.or_eq_true] at hb
      have hS:S e.on:=hek e (hes e zmW) hbi
      rcases hb with (hb|hb)|hb
      ·exact h0 b hb
      ·rw[Nat.testBit_two_pow] at hb
       have:e.on=b:=by simpa using hb
       exact this▸hS
      ·by_cases hel:e.on<acc.length
       ·have hd:done[e.on]? = some done[e.on]:=zmS (by omega)
        exact hacc e.on _ hd (hcl e.on _ (by rw[List.getElem?_append_left (by omega)];exact hd) hS) b hb
       ·rw[List.getD_eq_getElem?_getD,List.getElem?_eq_none (by omega)] at hb
        simp at hb
     ·exact h0 b hb
   exact fold q.after.toList 0 (fun e he=>by simpa using he) (fun a ha=>by simp at ha) a ha
theorem qc:∀ (l:List Oper) (base k:Nat),(∀ i x,find (xt base l k) i=some x->base<=x/\x<base+(xt base l k).length/\k<=i)/\
  (∀ i j x,find (xt base l k) i=some x->find (xt base l k) j=some x->i=j)
 |[],base,k=>⟨fun i x h=>by simp[xt,find] at h,fun i j x h=>by simp[xt,find] at h⟩
 |o::l,base,k=>by
  simp only[xt]
  split
  ·obtain ⟨h1,h2⟩:=qc l (base+1) (k+1)
   refine ⟨fun i x h=>?_,fun i j x h h' => ?_⟩
   ·simp only[find] at h
    split at h
    ·rename_i hk
     simp at h
     subst h;subst hk
     simp
    ·obtain ⟨a,b,c⟩:=h1 i x h
     simp only[List.length_cons]
     omega
   ·simp only[find] at h h'
    split at h
    ·rename_i hk
     simp at h
     subst h
     split at h'
     ·rename_i hk';rw[←hk,←hk']
     ·have:=(h1 j _ h').1;omega
    ·split at h'
     ·simp at h'
      subst h'
      have:=(h1 i _ h).1;omega
     ·exact h2 i j x h h'
  ·obtain ⟨h1,h2⟩:=qc l base (k+1)
   exact ⟨fun i x h=>by obtain ⟨a,b,c⟩:=h1 i x h;exact ⟨a,b,by omega⟩,h2⟩
end
section
variable {P:Program} {E:Env} {G G':Gh} {w w':World} {X:Hd->Prop} {s s':RS} {a a':Act}
variable {cf:Nat->List AV->za->Option (Out×za)} {ops:Array Oper} {n:Nat} {plan:List (Nat×Nat)} {D:Nat->Prop}
theorem zaj {l:Array Bool} {j:Nat} (h:j<l.size) (d d':Bool):l.getD j d=l.getD j d':=by simp[h]
theorem any_ok (hS:SysOk P E) (hC:xR P E cf) (hF:∀ f args H r,cf f args H=some r->xH P f) (hD:∀ (i:Nat) (o:Oper) (d:Nat),ops[i]? = some o->o.dst=some d->D d) (hb:VH ops=true) {N M:Nat} (hpl:∀ i x,find plan i=some x->N<=x/\x<M) (hpi:∀ i j x,find plan i=some x->find plan j=some x->i=j)
  {Q:Exit->Act->World->Prop} {z:RS} {pn:Pn}:∀ (k:Nat) (L:List Nat),L.length=k->∀ {G:Gh} {s:RS} {a:Act} {w:World} {tr:List Tr} {listed:Array Bool},Rel P E G s a w->n<=a.tmps.size->s.H.length=M->N<=M->L.Pairwise (·<·)->listed.size=ops.size->
  (∀ i,i∈L↔i<ops.size/\listed.getD i true=false)->(∀ (j:Nat) (o:Oper),ops[j]? = some o->listed.getD j false=true->∀ e∈o.after,Region.binds .any e=true->listed.getD e.on false=true)->(∀ i∈L,∀ l,find plan i=some l->G.ph l=none)->
  yA E cf n ops plan L s=some (tr,z,pn)->w5 (wY ops.toList) tr=true->
  (pn≠none->∃ x,tr.getLast?.map (·.i)=some x/\(∀ t∈tr,t.i=x∨((wY ops.toList).getD x 0).testBit t.i=true∨XN t.wr=true)/\∀ i∈L,(∃ t∈tr,t.i=i)∨((wY ops.toList).getD i 0).testBit x=true)->
  RegQ P E D N G a w Q z pn->wpAny P .any ops Q k listed a w:=by
 intro k
 induction k with
 |zero=>
  intro L hk G s a w tr listed h hn hM hNM hsort hls hmem hcl hph htr hck hpan q
  have hL:L=[]:=List.length_eq_zero_iff.1 hk
  subst hL
  simp only[yA,zm9,Prod.mk.injEq] at htr
  obtain ⟨_,rfl,rfl⟩:=htr
  refine ⟨?_,q.normal rfl G a w (Fr.refl.weaken (fun _ h=>h.elim) X0_old) (fun _ _ _ h=>h) h rfl Same.refl⟩
  refine List.eq_nil_iff_forall_not_mem.2 fun j hj=>?_
  obtain ⟨h1,o,h2,_⟩:=mem_ready.1 hj
  exact absurd ((hmem j).2 ⟨(Array.getElem?_eq_some_iff.1 h2).1,h1⟩) (by simp)
 |succ k ih=>
  intro L hk G s a w tr listed h hn hM hNM hsort hls hmem hcl hph htr hck hpan q
  refine ⟨fun hnil=>?_,fun i hi=>?_⟩
  ·exfalso
   cases L with
   |nil=>simp at hk
   |cons i0 L0=>
    obtain ⟨m1,m2⟩:=(hmem i0).1 zmW
    have:i0∈Region.ready .any ops listed:=mem_ready.2 ⟨m2,ops[i0],Array.getElem?_eq_getElem m1,fun e he hbi=>by
     have hlt:e.on<i0:=by
      have:=List.all_eq_true.1 hb i0 (List.mem_range.2 m1)
      simp only[Array.getElem?_eq_getElem m1] at this
      have:=List.all_eq_true.1 this e (by simpa using he)
      simpa[hbi] using this
     have hnot:¬(e.on∈i0::L0):=fun hm=>by
      rcases List.mem_cons.1 hm with hm|hm
      ·omega
      ·have:=(List.pairwise_cons.1 hsort).1 e.on hm;omega
     have hsz:e.on<ops.size:=by omega
     cases hg:listed.getD e.on false with
     |true=>rfl
     |false=>exact absurd ((hmem e.on).2 ⟨hsz,by rw[zaj (by omega) true false];exact hg⟩) hnot⟩
    rw[hnil] at this
    cases this
  ·obtain ⟨hun,o,ho,hall⟩:=mem_ready.1 hi
   have hisz:i<ops.size:=(Array.getElem?_eq_some_iff.1 ho).1
   have hiL:i∈L:=(hmem i).2 ⟨hisz,hun⟩
   obtain ⟨L1,L2,rfl⟩:=List.append_of_mem hiL
   have hnd:(L1++i::L2).Nodup:=hsort.imp (fun h=>Nat.ne_of_lt h)
   have hni1:i ∉ L1:=fun hm=>by
    have:=(List.nodup_append.1 hnd).2.2 i hm i zmW
    exact this rfl
   have hni2:i ∉ L2:=(List.nodup_cons.1 (List.nodup_append.1 hnd).2.1).1
   have hbef:∀ b,((wY ops.toList).getD i 0).testBit b=true->listed.getD b false=true:=fun b hbb=>
    gR (S:=fun j=>listed.getD j false=true) ops.toList [] [] rfl (fun j o hj hS e he hbi=>hcl j o (by simpa using hj) hS e he hbi) (fun k o hk=>by simp at hk) i o (by simpa using ho) hall b hbb
   have hunl:∀ b∈L1++i::L2,listed.getD b false=false:=fun b hbm=>by
    obtain ⟨h1,h2⟩:=(hmem b).1 hbm
    rw[zaj (by omega) false true];exact h2
   have hnb:∀ b∈L1++i::L2,((wY ops.toList).getD i 0).testBit b=false:=fun b hbm=>by
    cases hx:((wY ops.toList).getD i 0).testBit b with
    |false=>rfl
    |true=>have:=hbef b hx;rw[hunl b hbm] at this;cases this
   have hre:pn=none∨∃ t∈tr,t.i=i:=by
    cases hp:pn with
    |none=>exact .inl rfl
    |some p=>
     right
     obtain ⟨x,x1,x2,x3⟩:=hpan (by rw[hp];simp)
     rcases x3 i hiL with h'|h'
     ·exact h'
     ·have hxL:x∈L1++i::L2:=by
       cases hl:tr.getLast? with
       |none=>simp[hl] at x1
       |some t=>simp[hl] at x1;subst x1;exact zcB htr t (List.mem_of_getLast? hl)
      rw[hnb x hxL] at h';cases h'
   obtain ⟨o',ws,pi,q1,q2,q3,q4,q5,q6⟩:=zaf L1 htr hck (fun b hbm=>hnb b (List.mem_append_left _ hbm)) hre hni1
   rw[ho] at q1;cases q1
   have hpr:XX E G s o (find plan i):=by
    cases hf:find plan i with
    |none=>trivial
    |some l=>exact ⟨hph i hiL l hf,by rw[hM];exact (hpl i l hf).2⟩
   have st:=gE hS hC hF h ho hn hpr q2
   have hbd:∀ {G':Gh},(∀ l b,l<s.H.length->find plan i≠some l->G'.ph l=some b->G.ph l=some b)->∀ l b,l<N->G'.ph l=some b->G.ph l=some b:=fun hp l b hl hbb=>
    hp l b (by omega) (fun e=>by have:=(hpl i l e).1;omega) hbb
   cases pi with
   |some p=>
    obtain ⟨rfl,⟨t,t1,t2⟩,t3⟩:=q6 p rfl
    refine st _ Q fun G' w' v f hp r hv=>?_
    obtain ⟨x,x1,x2,x3⟩:=hpan (by simp)
    rw[t1] at x1
    have hxi:t.i=x:=by simpa using x1
    refine q.panic p rfl G' a w' v _ f (hbd hp) r ?_ rfl Same.refl hv
    refine (t3 fun u hu hui=>?_).symm
    rcases x2 u hu with h'|h'|h'
    ·rw[h',←hxi,t2] at hui;exact absurd hui hni1
    ·rw[←hxi,t2,hnb u.i (List.mem_append_left _ hui)] at h';cases h'
    ·exact h'
   |none=>
    obtain ⟨tr',t1,t2,t3,t4⟩:=q5 rfl
    refine st _ Q fun G' a' w' f hp r hs hd=>?_
    have hmem':∀ j,j∈L1++L2↔j<ops.size/\(listed.setIfInBounds i true).getD j true=false:=by
     intro j
     by_cases hji:j=i
     ·subst hji
      constructor
      ·intro hm
       rcases List.mem_append.1 hm with hm|hm
       ·exact absurd hm hni1
       ·exact absurd hm hni2
      ·rintro ⟨_,hm⟩
       simp[hls,hisz] at hm
     ·rw[getD_set_ne true (Ne.symm hji),←hmem j]
      simp[hji]
    refine ih (L1++L2) (by simp at hk ⊢;omega) r (hs▸hn) ((XG q3).trans hM) hNM (hsort.sublist (by simp)) (by simpa using hls) hmem' (fun j oj hj hl e he hbi=>?_) (fun j hj l hfj=>?_) t1 (zgz t2 hck) (fun hp' => ?_) (q.next f (hbd hp) hs (hd.mono fun t ht=>hD i _ t ht.choose_spec.1 ht.choose_spec.2))
    ·by_cases hji:j=i
     ·subst hji
      rw[ho] at hj;cases hj
      exact getD_set_true (hall e he hbi)
     ·rw[getD_set_ne false (Ne.symm hji)] at hl
      exact getD_set_true (hcl j oj hj hl e he hbi)
    ·have hjL:j∈L1++i::L2:=by
      rcases List.mem_append.1 hj with hm|hm
      ·exact List.mem_append_left _ hm
      ·exact List.mem_append_right _ (zmV _ hm)
     have hji:j≠i:=fun e=>by
      subst e
      rcases List.mem_append.1 hj with hm|hm
      ·exact hni1 hm
      ·exact hni2 hm
     cases hg:G'.ph l with
     |none=>rfl
     |some b=>
      have:=hp l b (by rw[hM];exact (hpl j l hfj).2) (fun e=>hji (hpi j i l hfj e)) hg
      rw[hph j hjL l hfj] at this
      cases this
    ·obtain ⟨x,x1,x2,x3⟩:=hpan hp'
     refine ⟨x,by rw[t4 hp'];exact x1,fun t ht=>x2 t (t2.subset ht),fun j hj=>?_⟩
     have hjL:j∈L1++i::L2:=by
      rcases List.mem_append.1 hj with hm|hm
      ·exact List.mem_append_left _ hm
      ·exact List.mem_append_right _ (zmV _ hm)
     have hji:j≠i:=fun e=>by
      subst e
      rcases List.mem_append.1 hj with hm|hm
      ·exact hni1 hm
      ·exact hni2 hm
     rcases x3 j hjL with ⟨t,ht,hti⟩|h'
     ·exact .inl ⟨t,t3 t ht (by rw[hti];exact hji),hti⟩
     ·exact .inr h'
theorem zcA:∀ {L:List Nat} {s z:RS} {tr:List Tr} {pn:Pn},yA E cf n ops plan L s=some (tr,z,pn)->∀ (k:Nat) (t:Tr),tr[k]? = some t->L[k]? = some t.i
 |[],s,z,tr,pn,h,k,t,ht=>by
  simp only[yA,zm9,Prod.mk.injEq] at h
  rw[←h.1] at ht
  simp at ht
 |i::L,s,z,tr,pn,h,k,t,ht=>by
  simp only[yA] at h
  split at h
  ·cases h
  ·split at h
   ·cases h
   ·split at h
    ·split at h
     ·rename_i tr' z' hrec
      simp only[zm9,Prod.mk.injEq] at h
      obtain ⟨rfl,hz⟩:=h
      cases k with
      |zero=>simp at ht;subst ht;rfl
      |succ k=>simp at ht ⊢;exact zcA (z:=z) (pn:=pn) (by rw[hrec,hz]) k t ht
     ·cases h
    ·cases h
   ·split at h
    ·simp only[zm9,Prod.mk.injEq] at h
     obtain ⟨rfl,_⟩:=h
     cases k with
     |zero=>simp at ht;subst ht;rfl
     |succ k=>simp at ht
    ·cases h
theorem Rel.drawn (h:Rel P E G s a w) (d:Nat):Fr G w G { w with drawn:=d } X0/\Rel P E G s a { w with drawn:=d }:=by
 have f:Fr G w G { w with drawn:=d } (fun _=>False):=⟨fun _ _ h=>h,fun _ _ h=>h,fun _ _ h _=>⟨h,rfl⟩,⟨id,id⟩,rfl,rfl,rfl,Nat.le_refl _⟩
 exact ⟨f.weaken (fun _ h=>h.elim) X0_old,h.fr f (h.wo.fr f h.wo.imm h.wo.dom) (fun _ _ h=>h) (fun k hk=>hk.elim)⟩
theorem zkH (hm:P.follows .mixedOrders=true) (hS:SysOk P E) (hC:xR P E cf) (hF:∀ f args H r,cf f args H=some r->xH P f) (hD:∀ (i:Nat) (o:Oper) (d:Nat),ops[i]? = some o->o.dst=some d->D d) {st:St} (h:Rel P E G st.start a w) (hn:n<=a.tmps.size) {id:Nat} {Q:Exit->Act->World->Prop} {z:RS} {pn:Pn}
  (hr:xX E cf n ops st=some (z,pn)) (q:RegQ P E D st.H.length G a w Q z pn):(Code.region id ops true).wp P Q a w:=by
 obtain ⟨f1,h1⟩:=h.drawn (w.drawn+1)
 refine wp_region_any hm ?_
 unfold xX Yz at hr
 generalize hplan:xt st.H.length ops.toList 0=plan at *
 cases htr:yA E cf n ops plan (List.range ops.size) { st.start with H:=st.H++List.replicate plan.length [] } with
 |none=>simp[htr] at hr
 |some y=>
  obtain ⟨tr,z',pn'⟩:=y
  simp only[htr] at hr
  have h2:Rel P E G { st.start with H:=st.H++List.replicate plan.length [] } a { w with drawn:=w.drawn+1 }:=by
   refine ⟨h1.wo,fun l cs hl b hb=>?_,h1.sl,fun t r hr=>(by cases hr),fun l b hb=>?_⟩
   ·have:=h1.dm l b hb
    refine h1.bx l cs ?_ b hb
    rw[←hl]
    exact (List.getElem?_append_left this).symm
   ·have:l<st.H.length:=h1.dm l b hb
    simp
    omega
  obtain ⟨pl1,pl2⟩:=qc ops.toList st.H.length 0
  rw[hplan] at pl1 pl2
  have hph:∀ i∈List.range ops.size,∀ l,find plan i=some l->G.ph l=none:=fun i _ l hf=>by
   cases hg:G.ph l with
   |none=>rfl
   |some b=>have:=h1.dm l b hg;have:=(pl1 i l hf).1;simp[St.start] at *;omega
  have go:VH ops=true->w5 (wY ops.toList) tr=true->(pn'≠none->∃ x,tr.getLast?.map (·.i)=some x/\(∀ t∈tr,t.i=x∨((wY ops.toList).getD x 0).testBit t.i=true∨XN t.wr=true)/\∀ i∈List.range ops.size,(∃ t∈tr,t.i=i)∨((wY ops.toList).getD i 0).testBit x=true)->z' = z -> pn' = pn->
    wpAny P .any ops Q ops.size (Array.replicate ops.size false) a { w with drawn:=w.drawn+1 }:=by
   intro hbk hck hpan hz hp
   subst hz;subst hp
   refine any_ok hS hC hF hD hbk (N:=st.H.length) (M:=st.H.length+plan.length) (fun i x hf=>⟨(pl1 i x hf).1,(pl1 i x hf).2.1⟩) pl2 ops.size (List.range ops.size) (by simp) h2 hn (by simp) (by omega) List.pairwise_lt_range (by simp) (fun i=>?_) (fun j o hj hl=>?_) hph htr hck hpan (q.next f1 (fun _ _ _ h=>h) rfl Same.refl)
   ·constructor
    ·intro hi;have:=List.mem_range.1 hi;exact ⟨this,by simp[this]⟩
    ·intro hi;exact List.mem_range.2 hi.1
   ·exfalso
    have:=(Array.getElem?_eq_some_iff.1 hj).1
    simp[this] at hl
  cases hok:ZB ops plan tr pn' with
  |false=>simp[hok] at hr
  |true=>
  simp only[hok,cond_true,zm9,Prod.mk.injEq] at hr
  cases pn' with
  |none=>
   simp only[ZB,zm8] at hok
   exact go hok.2 hok.1 (fun h=>absurd rfl h) hr.1 hr.2
  |some p=>
   simp only[ZB,zm8] at hok
   obtain ⟨⟨⟨hc1,hc2⟩,_⟩,hc3⟩:=hok
   cases hl:tr.getLast? with
   |none=>simp[hl] at hc3
   |some x=>
    simp only[hl,zm8] at hc3
    refine go hc2 hc1 (fun _=>⟨x.i,by simp[hl],fun t ht=>?_,fun i hi=>?_⟩) hr.1 hr.2
    ·have hd:tr=tr.dropLast++[x]:=by
      have hne:tr≠[]:=by intro e;simp[e] at hl
      rw[List.getLast?_eq_some_getLast hne] at hl
      simp at hl
      rw[←hl,List.dropLast_concat_getLast]
     rw[hd] at ht
     rcases List.mem_append.1 ht with ht|ht
     ·have:=List.all_eq_true.1 hc3.1 t ht
      simp only[Bool.or_eq_true] at this
      exact .inr this
     ·simp at ht;exact .inl (by rw[ht])
    ·by_cases hlt:i<tr.length
     ·refine .inl ⟨tr[i],List.getElem_mem _,?_⟩
      have:=zcA htr i tr[i] (zmS hlt)
      have hi':=List.mem_range.1 hi
      simpa[hi'] using this.symm
     ·right
      have hi':=List.mem_range.1 hi
      refine List.all_eq_true.1 hc3.2 i ?_
      rw[List.mem_iff_getElem?]
      exact ⟨i-tr.length,by rw[List.getElem?_drop];rw[List.getElem?_range (by omega)];congr 1;omega⟩
end
section
variable {P:Program} {E:Env} {G G':Gh} {w w':World} {X:Hd->Prop} {s s':RS} {a a':Act}
variable {cf:Nat->List AV->za->Option (Out×za)} {ops:Array Oper} {n:Nat} {D:Nat->Prop}
def xN:Ex->Option Exit
 |.normal=>some .normal
 |.exit id=>some (.exit id)
 |.ret=>some .ret
 |.pan _=>none
def writes:Code->Nat->Prop
 |.region _ ops _,t=>∃ o∈ops,o.dst=some t
 |.seq x y,t=>writes x t∨writes y t
 |.cond _ x y,t=>writes x t∨writes y t
 |.block _ x,t=>writes x t
 |.scope x,t=>writes x t
 |.loop x,t=>writes x t
 |_,_=>False
structure CodeQ (P:Program) (E:Env) (D:Nat->Prop) (N:Nat) (G:Gh) (a:Act) (w:World) (Q:Exit->Act->World->Prop) (r:Ex×St):Prop where
 fine:∀ e,xN r.1=some e->∀ G' a' w',Fr G w G' w' X0->(∀ l b,l<N->G'.ph l=some b->G.ph l=some b)->Rel P E G' r.2.start a' w'->a'.tmps.size=a.tmps.size->Same D a a'->Q e a' w'
 panic:∀ p,r.1=.pan p->∀ G' a' w' v s2,Fr G w G' w' X0->(∀ l b,l<N->G'.ph l=some b->G.ph l=some b)->Rel P E G' s2 a' w'->s2.H=r.2.H->a'.tmps.size=a.tmps.size->Same D a a'->PRep G'.g p v->Q (.panic [{ v,recovered:=false }]) a' w'
theorem CodeQ.next {N:Nat} {Q:Exit->Act->World->Prop} {r:Ex×St} (q:CodeQ P E D N G a w Q r) (f:Fr G w G' w' X0) (p:∀ l b,l<N->G'.ph l=some b->G.ph l=some b) (hs:a'.tmps.size=a.tmps.size) (hd:Same D a a'):CodeQ P E D N G' a' w' Q r :=
 ⟨fun e he G2 a2 w2 f2 p2 r2 s2 d2=>q.fine e he G2 a2 w2 (f.trans f2) (fun l b hl hb=>p l b hl (p2 l b hl hb)) r2 (s2.trans hs) (hd.trans d2),
  fun pp hp G2 a2 w2 v u f2 p2 r2 h2 s2 d2=>q.panic pp hp G2 a2 w2 v u (f.trans f2) (fun l b hl hb=>p l b hl (p2 l b hl hb)) r2 h2 (s2.trans hs) (hd.trans d2)⟩
theorem Rel.stop (h:Rel P E G s a w):Rel P E G s.stop.start a w:=⟨h.wo,h.bx,h.sl,fun t r hr=>(by cases hr),h.dm⟩
theorem Rel.less {st st':St} (h:Rel P E G st.start a w) (hH:st'.H=st.H) (hs:∀ t,st'.sl t=st.sl t∨st'.sl t=.dead):Rel P E G st'.start a w:=by
 refine ⟨h.wo,fun l cs hl=>h.bx l cs (by rw[←hl];simp[St.start,hH]),fun t=>?_,fun t r hr=>(by cases hr),fun l b hb=>by have:=h.dm l b hb;simpa[St.start,hH] using this⟩
 show VRel P E G w (fun j=>.s t j) (st'.sl t) (tmp a t)
 rcases hs t with e|e
 ·rw[e];exact h.sl t
 ·rw[e];trivial
theorem SRel.cut {q:AV} {x:Value} {m:Nat} (hb:Z9 m q=true) (h:SRel G q x):SRel ⟨G.g,fun l=>if l<m then G.ph l else none,G.ka⟩ q x:=by
 cases q with
 |pv p=>exact h
 |ptr l o=>
  obtain ⟨b,hb',hx⟩:=(show ∃ b,G.ph l=some b/\x=.pointer (some ⟨b,o,none⟩) from h)
  exact ⟨b,(if_pos (by simpa[Z9] using hb)).trans hb',hx⟩
 |_=>exact h.elim
theorem BRel.cut {q:AV} {x:Value} {m:Nat} {hh:Hd} (hb:below m q=true) (h:BRel G w hh q x):BRel ⟨G.g,fun l=>if l<m then G.ph l else none,G.ka⟩ w hh q x:=by
 cases q with
 |pv p=>exact h
 |slu e sz xs=>exact h
 |dead=>exact h
 |ptr l o=>exact SRel.cut (q:=.ptr l o) (m:=m) (by simpa[Z9,below] using hb) h
 |clo fn x y=>
  obtain ⟨fs,cs,hv,h1,h2⟩:=(show ∃ fs cs,_=Value.func fn fs cs/\LRel G x fs/\LRel G y cs from h)
  simp only[below,zm8] at hb
  exact ⟨fs,cs,hv,⟨h1.1,fun j a z ha hz=>SRel.cut (List.all_eq_true.1 hb.1 a (List.mem_of_getElem? ha)) (h1.2 j a z ha hz)⟩,⟨h2.1,fun j a z ha hz=>SRel.cut (List.all_eq_true.1 hb.2 a (List.mem_of_getElem? ha)) (h2.2 j a z ha hz)⟩⟩
 |_=>exact h.elim
theorem VRel.cut {q:AV} {x:Value} {m:Nat} {hh:Nat->Hd} (hb:KW m q=true) (h:VRel P E G w hh q x):VRel P E ⟨G.g,fun l=>if l<m then G.ph l else none,G.ka⟩ w hh q x:=by
 cases q with
 |pv p=>exact h
 |slu e sz xs=>exact h
 |dead=>trivial
 |und=>exact h
 |elp x o=>exact h
 |gm g=>exact h
 |mp g=>exact h
 |ptr l o=>exact BRel.cut (q:=.ptr l o) (hh:=.imm) (w:=w) hb h
 |clo fn x y=>exact BRel.cut (q:=.clo fn x y) (hh:=.imm) (w:=w) hb h
 |tup k b ps=>
  obtain ⟨vs,hv,h1,h0,h2,h3⟩:=h
  exact ⟨vs,hv,h1,h0,h2,fun u hu=>TRel.move (G:=G) (G':=⟨G.g,fun l=>if l<m then G.ph l else none,G.ka⟩) (w:=w) (w':=w) (h:=hh) (fun _ _ h=>h) (fun _ _ h=>⟨h,rfl⟩) (h3 u hu)⟩
 |agg cs=>
  obtain ⟨vs,hv,h1,h2⟩:=h
  exact ⟨vs,hv,h1,fun j q y hq hy=>BRel.cut (List.all_eq_true.1 hb q (List.mem_of_getElem? hq)) (h2 j q y hq hy)⟩
theorem za4 (ks:List Nat) (sl:Nat->AV) (t:Nat):(zR (ks.map fun t=>(t,sl t)) t=sl t/\t∈ks)∨zR (ks.map fun t=>(t,sl t)) t=.dead:=by
 unfold zR
 have:∀ (l:List Nat) (x:AV),find (l.map fun t=>(t,sl t)) t=some x->x=sl t/\t∈l:=by
  intro l
  induction l with
  |nil=>intro x hx;simp[find] at hx
  |cons y l ih=>
   intro x hx
   simp only[List.map_cons,find] at hx
   split at hx
   ·rename_i hy;subst hy;simp at hx;exact ⟨hx.symm,zmW⟩
   ·obtain ⟨h1,h2⟩:=ih x hx;exact ⟨h1,zmV _ h2⟩
 cases hf:find (ks.map fun t=>(t,sl t)) t with
 |none=>exact .inr rfl
 |some x=>exact .inl (this ks x hf)
theorem zaB {f b m N:Nat} {st:St} (h1:N<=m) (h2:N<=st.H.length):N<=(zJ E f b m st).H.length:=by
 unfold zJ
 split
 ·simp only
  generalize (_&&_:Bool)=c
  cases c with
  |true=>simp only[cond_true,List.length_take];omega
  |false=>exact h2
 ·exact h2
theorem zis {f b m N:Nat} {st:St} {G1:Gh} {a1:Act} {w1:World} (hdm:∀ l b,G.ph l=some b->l<m) (f1:Fr G w G1 w1 X0) (p1:∀ l b,l<N->G1.ph l=some b->G.ph l=some b) (r1:Rel P E G1 st.start a1 w1) :
  ∃ G2,Fr G w G2 w1 X0/\(∀ l b,l<N->G2.ph l=some b->G.ph l=some b)/\Rel P E G2 (zJ E f b m st).start a1 w1:=by
 unfold zJ
 split
 ·rename_i ks _
  have hsl:=za4 ks st.sl
  cases hc:(ks.all fun t=>KW m (st.sl t))&&(st.H.take m).all (fun cs=>cs.all (below m)) with
  |false=>exact ⟨G1,f1,p1,r1.less rfl (fun t=>(hsl t).imp And.left id)⟩
  |true=>
   simp only[zm8] at hc
   obtain ⟨c1,c2⟩:=hc
   refine ⟨⟨G1.g,fun l=>if l<m then G1.ph l else none,G1.ka⟩,⟨f1.g,fun l b hb=>(if_pos (hdm l b hb)).trans (f1.ph l b hb),f1.ka,f1.old,f1.os,f1.tape,f1.output,f1.size⟩,fun l b hl hb=>?_,⟨⟨r1.wo.imm,r1.wo.dom,fun g l hg=>r1.wo.maps g l hg,fun g p hg=>r1.wo.glob g p hg,fun g hg=>r1.wo.sen g hg,fun g1 g2 c1 c2 h1 h2 hne e1 e2=>r1.wo.dst g1 g2 c1 c2 h1 h2 hne e1 e2,fun g v hv=>r1.wo.fix g v hv⟩,fun l cs hl b hb=>?_,fun t=>?_,fun t r hr=>(by cases hr),fun l b hb=>?_⟩⟩
   ·have hb':(if l<m then G1.ph l else none)=some b:=hb
    split at hb'
    ·exact p1 l b hl hb'
    ·cases hb'
   ·have hb':(if l<m then G1.ph l else none)=some b:=hb
    split at hb'
    ·rename_i hlm
     have hl':(st.H.take m)[l]? = some cs:=hl
     have hl2:st.H[l]? = some cs:=by rwa [List.getElem?_take,if_pos hlm] at hl'
     obtain ⟨k1,T,c,k2,k3,k4⟩:=r1.bx l cs hl2 b hb'
     exact ⟨k1,T,c,k2,k3,fun o x y hx hy=>BRel.cut (List.all_eq_true.1 (List.all_eq_true.1 c2 cs (List.mem_of_getElem? hl')) x (List.mem_of_getElem? hx)) (k4 o x y hx hy)⟩
    ·cases hb'
   ·show VRel P E _ w1 (fun j=>.s t j) (zR (ks.map fun t=>(t,st.sl t)) t) (tmp a1 t)
    rcases hsl t with ⟨e,he⟩|e
    ·rw[e];exact VRel.cut (List.all_eq_true.1 c1 t he) (r1.sl t)
    ·rw[e];trivial
   ·have hb':(if l<m then G1.ph l else none)=some b:=hb
    split at hb'
    ·rename_i hlm
     have:=r1.dm l b hb'
     show l<(st.H.take m).length
     rw[List.length_take]
     have h2:l<st.H.length:=this
     omega
    ·cases hb'
 ·exact ⟨G1,f1,p1,r1⟩
theorem rc {st:St} (h:Rel P E G st.start a w) {c:Operand} {t:Bool} (hb:vK st c=some t):a.eval c=.bool t:=by
 unfold vK at hb
 split at hb
 ·rename_i x
  have hv:=h.sl x
  have hx':(st.start.sl x).a=.pv (.v (.bool t)):=Zj hb
  rw[hx'] at hv
  exact yZ hv
 ·simp only[zm9] at hb
  subst hb
  rfl
 ·cases hb
theorem zkF {st:St} {z:RS} {pn:Pn} (hr:xX E cf n ops st=some (z,pn)):st.H.length<=z.H.length:=by
 have tl:∀ (plan:List (Nat×Nat)) (L:List Nat) (s z:RS) (tr:List Tr) (pn:Pn),yA E cf n ops plan L s=some (tr,z,pn)->z.H.length=s.H.length:=by
  intro plan L
  induction L with
  |nil=>
   intro s z tr pn h
   simp only[yA,zm9,Prod.mk.injEq] at h
   rw[h.2.1]
  |cons i L ih=>
   intro s z tr pn h
   simp only[yA] at h
   split at h
   ·cases h
   ·split at h
    ·cases h
    ·split at h
     ·rename_i hsw
      split at h
      ·rename_i hrec
       simp only[zm9,Prod.mk.injEq] at h
       rw[h.2] at hrec
       exact (ih _ _ _ _ hrec).trans (XG hsw)
      ·cases h
     ·cases h
    ·split at h
     ·rename_i hsw
      simp only[zm9,Prod.mk.injEq] at h
      rw[←h.2.1]
      exact XG hsw
     ·cases h
 unfold xX at hr
 split at hr
 ·cases hr
 ·rename_i tr z' pn' htr
  cases hok:ZB ops (xt st.H.length ops.toList 0) tr pn' with
  |false=>simp[hok] at hr
  |true=>
   simp only[hok,cond_true,zm9,Prod.mk.injEq] at hr
   have:=tl _ _ _ _ _ _ htr
   rw[←hr.1,this]
   simp[Yz]
theorem Qi {f k N:Nat}:∀ (c:Code) (b:Nat) {st:St} {r:Ex×St},N<=st.H.length->zP E cf n f k b c st=some r->N<=r.2.H.length:=by
 intro c
 induction c with
 |skip=>intro b st r hN h;simp only[zP,zm9] at h;rw[←h];exact hN
 |label l=>intro b st r hN h;simp only[zP,zm9] at h;rw[←h];exact hN
 |exit id=>intro b st r hN h;simp only[zP,zm9] at h;rw[←h];exact hN
 |ret=>intro b st r hN h;simp only[zP,zm9] at h;rw[←h];exact hN
 |region id ops draw=>
  intro b st r hN h
  simp only[zP] at h
  cases hx:(if draw=true then xX E cf n ops st else xf E cf n ops (List.range ops.size) st.start) with
  |none=>simp[hx] at h
  |some y=>
   obtain ⟨z,pn⟩:=y
   have hz:N<=z.H.length:=by
    split at hx
    ·exact Nat.le_trans hN (zkF hx)
    ·exact zbO _ (s:=st.start) hN hx
   cases pn with
   |none=>simp only[hx,zm9] at h;rw[←h];exact hz
   |some p=>simp only[hx,zm9] at h;rw[←h];exact hz
 |seq x y ihx ihy=>
  intro b st r hN h
  simp only[zP] at h
  cases hx:zP E cf n f k b x st with
  |none=>simp[hx] at h
  |some q=>
   obtain ⟨ex,st1⟩:=q
   have h1:=ihx b hN hx
   cases ex with
   |normal=>simp only[hx] at h;exact ihy b h1 h
   |exit id=>simp only[hx,zm9] at h;rw[←h];exact h1
   |ret=>simp only[hx,zm9] at h;rw[←h];exact h1
   |pan p=>simp only[hx,zm9] at h;rw[←h];exact h1
 |cond c x y ihx ihy=>
  intro b st r hN h
  simp only[zP] at h
  split at h
  ·exact ihx b hN h
  ·exact ihy b hN h
  ·cases h
 |scope x ihx=>
  intro b st r hN h
  simp only[zP] at h
  exact ihx b hN h
 |block id x ihx=>
  intro b st r hN h
  simp only[zP] at h
  split at h
  ·rename_i j s' hx
   have h1:=ihx id hN hx
   split at h
   ·simp only[zm9] at h;rw[←h];exact h1
   ·simp only[zm9] at h;rw[←h];exact h1
  ·exact ihx id hN h
 |loop x ihx=>
  intro b st r hN h
  simp only[zP] at h
  have it:∀ (m:Nat),N<=m->∀ (j:Nat) (st:St),N<=st.H.length->iter (fun s=>zP E cf n f k b x (zJ E f b m s)) j st=some r->N<=r.2.H.length:=by
   intro m hm j
   induction j with
   |zero=>intro st _ h;simp[iter] at h
   |succ j ih=>
    intro st hN h
    simp only[iter] at h
    have hN':N<=(zJ E f b m st).H.length:=zaB hm hN
    split at h
    ·rename_i s' hx
     exact ih s' (ihx b hN' hx) h
    ·exact ihx b hN' h
  exact it _ hN k st hN h
 |_=>intro b st r hN h;simp[zP] at h
theorem least (p:Nat->Prop) (h:∃ n,p n):∃ n,p n/\∀ m,p m->n<=m:=by
 obtain ⟨n,hn⟩:=h
 induction n using Nat.strongRecOn with
 |_ n ih=>
  by_cases hx:∃ m,m<n/\p m
  ·obtain ⟨m,h1,h2⟩:=hx
   exact ih m h1 h2
  ·exact ⟨n,hn,fun m hm=>Nat.le_of_not_lt fun hlt=>hx ⟨m,hlt,hm⟩⟩
theorem zmw {c:Code} {Q:Exit->Act->World->Prop} (I:Nat->Act->World->Prop) {j:Nat} (h0:I j a w)
  (round:∀ j a w,I j a w->∃ j',j=j'+1/\c.wp P (Exit.then (I j') Q) a w):(Code.loop c).wp P Q a w:=by
 classical
 refine wp_loop (fun a w=>∃ j,I j a w) (fun a w=>if h:∃ j,I j a w then Classical.choose (least _ h) else 0) ⟨j,h0⟩ (fun a w h=>?_)
 obtain ⟨s1,s2⟩:=Classical.choose_spec (least _ h)
 obtain ⟨j',hj,hw⟩:=round _ a w s1
 refine wp_mono hw fun e a' w' he=>?_
 cases e with
 |normal=>
  have hI:I j' a' w':=he
  refine ⟨⟨j',hI⟩,?_⟩
  have h':∃ j,I j a' w':=⟨j',hI⟩
  simp only[h',h,dif_pos]
  obtain ⟨t1,t2⟩:=Classical.choose_spec (least _ h')
  have:=t2 j' hI
  omega
 |_=>exact he
theorem Xn (hm:P.follows .mixedOrders=true) (hS:SysOk P E) (hC:xR P E cf) (hF:∀ f args H r,cf f args H=some r->xH P f) {f k N:Nat}:∀ (c:Code) (b:Nat) {st:St} {r:Ex×St} {G:Gh} {a:Act} {w:World} {Q:Exit->Act->World->Prop},(∀ t,writes c t->D t)->
  zP E cf n f k b c st=some r->Rel P E G st.start a w->n<=a.tmps.size->N<=st.H.length->CodeQ P E D N G a w Q r->c.wp P Q a w:=by
 intro c
 induction c with
 |skip=>
  intro b st r G a w Q hD h hr hn hN q
  simp only[zP,zm9] at h
  subst h
  exact wp_skip (q.fine .normal rfl G a w (Fr.refl.weaken (fun _ h=>h.elim) X0_old) (fun _ _ _ h=>h) hr rfl Same.refl)
 |label l=>
  intro b st r G a w Q hD h hr hn hN q
  simp only[zP,zm9] at h
  subst h
  exact wp_label (q.fine .normal rfl G a w (Fr.refl.weaken (fun _ h=>h.elim) X0_old) (fun _ _ _ h=>h) hr rfl Same.refl)
 |scope x ihx=>
  intro b st r G a w Q hD h hr hn hN q
  simp only[zP] at h
  refine wp_scope_straight (ihx b hD h hr hn hN ⟨fun e he G1 a1 w1 f1 p1 r1 s1 d1=>?_,fun p hp G1 a1 w1 v s2 f1 p1 r1 hH s1 d1 hv=>q.panic p hp G1 a1 w1 v s2 f1 p1 r1 hH s1 d1 hv⟩)
  have:=q.fine e he G1 a1 w1 f1 p1 r1 s1 d1
  cases e with
  |goto l=>
   obtain ⟨rx,rs⟩:=r
   cases rx<;>cases he
  |_=>exact this
 |exit id=>
  intro b st r G a w Q hD h hr hn hN q
  simp only[zP,zm9] at h
  subst h
  exact wp_exit (q.fine (.exit id) rfl G a w (Fr.refl.weaken (fun _ h=>h.elim) X0_old) (fun _ _ _ h=>h) hr rfl Same.refl)
 |ret=>
  intro b st r G a w Q hD h hr hn hN q
  simp only[zP,zm9] at h
  subst h
  exact wp_ret (q.fine .ret rfl G a w (Fr.refl.weaken (fun _ h=>h.elim) X0_old) (fun _ _ _ h=>h) hr rfl Same.refl)
 |region id ops draw=>
  intro b st r G a w Q hD h hr hn hN q
  simp only[zP] at h
  cases hx:(if draw=true then xX E cf n ops st else xf E cf n ops (List.range ops.size) st.start) with
  |none=>simp[hx] at h
  |some y=>
   obtain ⟨z,pn⟩:=y
   have hq:RegQ P E D N G a w Q z pn:=by
    cases pn with
    |none=>
     simp only[hx,zm9] at h
     subst h
     exact ⟨fun _ G' a' w' f p r hs hd=>q.fine .normal rfl G' a' w' f p r.stop hs hd,fun p hp=>by cases hp⟩
    |some p=>
     simp only[hx,zm9] at h
     subst h
     exact ⟨fun hp=>(by cases hp),fun p' hp G' a' w' v s2 f pb r hH hs hd hv=>(by cases hp;exact q.panic p rfl G' a' w' v s2 f pb r hH hs hd hv)⟩
   have hD':∀ (i:Nat) (o:Oper) (d:Nat),ops[i]? = some o->o.dst=some d->D d:=fun i o d h1 h2=>hD d ⟨o,Array.mem_of_getElem? h1,h2⟩
   cases draw with
   |true=>
    simp only[if_true] at hx
    have hq':RegQ P E D st.H.length G a w Q z pn:=⟨fun e G' a' w' f p=>hq.normal e G' a' w' f (fun l b hl=>p l b (Nat.lt_of_lt_of_le hl hN)),fun p' e G' a' w' v s2 f p=>hq.panic p' e G' a' w' v s2 f (fun l b hl=>p l b (Nat.lt_of_lt_of_le hl hN))⟩
    exact zkH hm hS hC hF hD' hr hn hx hq'
   |false=>
    simp only[Bool.false_eq_true,if_false] at hx
    exact wp_region (zbQ hS hC hF hD' _ hr hn hN hx hq)
 |seq x y ihx ihy=>
  intro b st r G a w Q hD h hr hn hN q
  simp only[zP] at h
  cases hx:zP E cf n f k b x st with
  |none=>simp[hx] at h
  |some y' =>
   obtain ⟨ex,st1⟩:=y'
   have hN1:=Qi x b hN hx
   refine wp_seq (ihx b (fun t h=>hD t (.inl h)) hx hr hn hN ⟨fun e he G' a' w' fr p r' hs hd=>?_,fun p hp G' a' w' v s2 fr pb r' hH hs hd hv=>?_⟩)
   ·cases ex with
    |normal=>
     simp only[xN,zm9] at he
     subst he
     simp only[hx] at h
     exact ihy b (fun t h=>hD t (.inr h)) h r' (hs▸hn) hN1 (q.next fr p hs hd)
    |exit id=>
     simp only[xN,zm9] at he
     subst he
     simp only[hx,zm9] at h
     subst h
     exact q.fine _ rfl G' a' w' fr p r' hs hd
    |ret=>
     simp only[xN,zm9] at he
     subst he
     simp only[hx,zm9] at h
     subst h
     exact q.fine _ rfl G' a' w' fr p r' hs hd
    |pan p=>simp[xN] at he
   ·simp only at hp
    subst hp
    simp only[hx,zm9] at h
    subst h
    exact q.panic p rfl G' a' w' v s2 fr pb r' hH hs hd hv
 |cond c x y ihx ihy=>
  intro b st r G a w Q hD h hr hn hN q
  simp only[zP] at h
  split at h
  ·rename_i hb;exact wp_cond_true (rc hr hb) (ihx b (fun t h=>hD t (.inl h)) h hr hn hN q)
  ·rename_i hb;exact wp_cond_false (rc hr hb) (ihy b (fun t h=>hD t (.inr h)) h hr hn hN q)
  ·cases h
 |block id x ihx=>
  intro b st r G a w Q hD h hr hn hN q
  simp only[zP] at h
  refine wp_block ?_
  cases hx:zP E cf n f k id x st with
  |none=>simp[hx] at h
  |some y' =>
   obtain ⟨ex,st1⟩:=y'
   refine ihx id hD hx hr hn hN ⟨fun e he G' a' w' fr p r' hs hd=>?_,fun p hp G' a' w' v s2 fr pb r' hH hs hd hv=>?_⟩
   ·cases ex with
    |normal=>
     simp only[xN,zm9] at he
     subst he
     simp only[hx,zm9] at h
     subst h
     exact q.fine .normal rfl G' a' w' fr p r' hs hd
    |exit j=>
     simp only[xN,zm9] at he
     subst he
     simp only[hx] at h
     show (if j=id then Q .normal a' w' else Q (.exit j) a' w')
     split at h
     ·rename_i hj
      simp only[zm9] at h
      subst h
      rw[if_pos hj]
      exact q.fine .normal rfl G' a' w' fr p r' hs hd
     ·rename_i hj
      simp only[zm9] at h
      subst h
      rw[if_neg hj]
      exact q.fine (.exit j) rfl G' a' w' fr p r' hs hd
    |ret=>
     simp only[xN,zm9] at he
     subst he
     simp only[hx,zm9] at h
     subst h
     exact q.fine _ rfl G' a' w' fr p r' hs hd
    |pan p=>simp[xN] at he
   ·simp only at hp
    subst hp
    simp only[hx,zm9] at h
    subst h
    exact q.panic p rfl G' a' w' v s2 fr pb r' hH hs hd hv
 |loop x ihx=>
  intro b st r G a w Q hD h hr hn hN q
  simp only[zP] at h
  refine zmw (fun j a1 w1=>∃ G1 st1,iter (fun s=>zP E cf n f k b x (zJ E f b st.H.length s)) j st1=some r/\Fr G w G1 w1 X0/\(∀ l b,l<N->G1.ph l=some b->G.ph l=some b)/\Rel P E G1 st1.start a1 w1/\a1.tmps.size=a.tmps.size/\Same D a a1/\N<=st1.H.length)
   (j:=k) ⟨G,st,h,Fr.refl.weaken (fun _ h=>h.elim) X0_old,fun _ _ _ h=>h,hr,rfl,Same.refl,hN⟩ (fun j a1 w1 hI=>?_)
  obtain ⟨G1,st1,hit,f1,p1,r1,s1,d1,N1⟩:=hI
  cases j with
  |zero=>simp[iter] at hit
  |succ j=>
   refine ⟨j,rfl,?_⟩
   obtain ⟨G2,f2,p2,r2⟩:=zis (f:=f) (b:=b) (m:=st.H.length) (fun l b hb=>hr.dm l b hb) f1 p1 r1
   have N2:N<=(zJ E f b st.H.length st1).H.length:=zaB hN N1
   simp only[iter] at hit
   have q1:=q.next f2 p2 s1 d1
   cases hx:zP E cf n f k b x (zJ E f b st.H.length st1) with
   |none=>simp[hx] at hit
   |some y' =>
    obtain ⟨ex,st2⟩:=y'
    have N3:=Qi x b N2 hx
    refine ihx b hD hx r2 (s1▸hn) N2 ⟨fun e he G' a' w' fr p r' hs hd=>?_,fun p hp G' a' w' v s2 fr pb r' hH hs hd hv=>?_⟩
    ·cases ex with
     |normal=>
      simp only[xN,zm9] at he
      subst he
      simp only[hx] at hit
      exact ⟨G',st2,hit,f2.trans fr,fun l b hl hb=>p2 l b hl (p l b hl hb),r',hs.trans s1,d1.trans hd,N3⟩
     |exit id=>
      simp only[xN,zm9] at he
      subst he
      simp only[hx,zm9] at hit
      subst hit
      exact q1.fine _ rfl G' a' w' fr p r' hs hd
     |ret=>
      simp only[xN,zm9] at he
      subst he
      simp only[hx,zm9] at hit
      subst hit
      exact q1.fine _ rfl G' a' w' fr p r' hs hd
     |pan p=>simp[xN] at he
    ·simp only at hp
     subst hp
     simp only[hx,zm9] at hit
     subst hit
     exact q1.panic p rfl G' a' w' v s2 fr pb r' hH hs hd hv
 |_=>intro b st r G a w Q hD h;simp[zP] at h
end
section
variable {P:Program} {E:Env} {G G':Gh} {w w':World} {X:Hd->Prop} {s s':RS} {a a':Act}
variable {cf:Nat->List AV->za->Option (Out×za)} {ops:Array Oper} {n:Nat}
def vd (tmps:Array Value):ResultVar->Sem Value
 |.tmp t=>pure (tmps.getD t undef)
 |.cell a t=>do loadVar t (←asAddr (tmps.getD a undef))
theorem zky (fn:Func) (tmps:Array Value):results fn tmps=(do let vs ←fn.results.toList.mapM (vd tmps);pure (if h:vs.toArray.size=1 then vs.toArray[0] else .tuple vs.toArray)):=by
 have e:results fn tmps=(do let vs ←fn.results.mapM (vd tmps);pure (if h:vs.size=1 then vs[0] else .tuple vs)):=by
  unfold results
  congr 1
 rw[e,Array.mapM_eq_mapM_toList]
 simp
theorem zji {v:AV} {p:PV} (h:zb v=some p):v=.pv p:=by
 cases v<;>simp[zb] at h
 rw[h]
theorem zgx (hS:SysOk P E) (h:Rel P E G s a w) {t x:Nat} {ws:List W} {p:PV} (hr:(Ji E t x).run s=some (ws,p)) :
  ∃ G' v,Fr G w G' w X1/\G'.ph=G.ph/\Rel P E G' (s.puts ws) a w/\(vd a.tmps (.cell x t)).run P w=.ok v w/\PRep G'.g p v:=by
 unfold Ji at hr
 obtain ⟨u1,i,v1,h1,h2,rfl⟩:=zmR hr
 obtain ⟨rfl,hi⟩:=yX h1
 have hT:=hS.ty t i hi
 simp only[RS.puts,zm7] at h2 ⊢
 obtain ⟨u2,c,v2,h3,h4,rfl⟩:=zmR h2
 obtain ⟨rfl,rfl⟩:=yS h3
 simp only[RS.puts,zm7] at h4 ⊢
 have hv:=h.sl x
 split at h4
 ·rename_i l off hcr hca
  rw[hca] at hv
  obtain ⟨b,hb,hx⟩:∃ b,G.ph l=some b/\tmp a x=.pointer (some ⟨b,off,none⟩):=hv
  obtain ⟨u3,_,v3,h5,h6,rfl⟩:=zmR h4
  obtain ⟨G1,f1,p1,r1⟩:=qy _ _ h h5
  rw[RS.puts_append]
  obtain ⟨u4,c,v4,h7,h8,rfl⟩:=zmR h6
  obtain ⟨rfl,rfl⟩:=vD h7
  simp only[RS.puts,zm7] at h8 ⊢
  obtain ⟨u5,cs,v5,h9,h10,rfl⟩:=zmR h8
  obtain ⟨rfl,hl⟩:=zE h9
  simp only[RS.puts,zm7] at h10 ⊢
  obtain ⟨u6,_,v6,h11,h12,rfl⟩:=zmR h10
  obtain ⟨rfl,hn⟩:=z5 h11
  have hle:off+i.size<=cs.length:=of_decide_eq_true hn
  simp only[RS.puts,zm7] at h12 ⊢
  obtain ⟨u7,ps,v7,h13,h14,rfl⟩:=zmR h12
  obtain ⟨rfl,hps⟩:=zE h13
  simp only[RS.puts,zm7] at h14 ⊢
  obtain ⟨_,T,c,hb2,hsz,hcell⟩:=r1.bx l cs hl b (p1▸hb)
  have hone:i.agg=false->i.size=1:=hT.one
  have hrunL:=Yc (w:=w) hT hb2 (off:=off) (fun _=>by omega) (fun e=>by have:=hone e;omega)
  have hcs:=QV hps
  have hlen:ps.length=i.size:=by
   have:=congrArg List.length hcs
   simp at this
   omega
  have hget:∀ (j:Nat) (q:PV),ps[j]? = some q->∃ y,c[off+j]? = some y/\q.isCell=true/\PRep G1.g q y:=by
   intro j q hq
   have hj:j<i.size:=by rw[←hlen];exact (List.getElem?_eq_some_iff.1 hq).1
   have hcj:cs[off+j]? = some (.pv q):=by
    have:((cs.drop off).take i.size)[j]? = some (.pv q):=by rw[hcs];simp[hq]
    rw[List.getElem?_take,if_pos hj,List.getElem?_drop] at this
    exact this
   have hjc:off+j<c.size:=by rw[hsz];exact (List.getElem?_eq_some_iff.1 hcj).1
   exact ⟨c[off+j],Array.getElem?_eq_getElem hjc,hcell (off+j) _ _ hcj (Array.getElem?_eq_getElem hjc)⟩
  have hread:(vd a.tmps (.cell x t)).run P w=.ok (xm i c.toList off) w:=by
   have hx':a.tmps.getD x undef=.pointer (some ⟨b,off,none⟩):=hx
   have:(Instr.loadAt t (.pointer (some ⟨b,off,none⟩))).run P w=(loadVar t ⟨b,off,none⟩).run P w:=by simp[Instr.loadAt,Instr.sureAddr]
   rw[this] at hrunL
   simp[vd,hx',asAddr,hrunL]
  split at h14
  ·rename_i hag
   obtain ⟨rfl,rfl⟩:=run_pure h14
   refine ⟨G1,_,f1,p1,r1,hread,?_⟩
   rw[xm,if_pos hag]
   refine .agg (by simp[hlen];omega) (fun q hq=>?_) (fun j q u hq hu=>?_)
   ·obtain ⟨j,hj⟩:=List.mem_iff_getElem?.1 hq
    obtain ⟨y,_,hc,_⟩:=hget j q hj
    exact hc
   ·obtain ⟨y,hy,_,hp⟩:=hget j q hq
    have hj:j<i.size:=by rw[←hlen];exact (List.getElem?_eq_some_iff.1 hq).1
    have:((c.toList.drop off).take i.size)[j]? = some u:=by simpa using hu
    rw[List.getElem?_take,if_pos hj,List.getElem?_drop] at this
    have hyu:c[off+j]? = some u:=by simpa using this
    rw[hy] at hyu
    cases hyu
    exact hp
  ·rename_i hag
   split at h14
   ·rename_i q
    obtain ⟨rfl,rfl⟩:=run_pure h14
    obtain ⟨y,hy,_,hp⟩:=hget 0 _ rfl
    refine ⟨G1,_,f1,p1,r1,hread,?_⟩
    rw[xm,if_neg hag]
    have:c.toList[off]? = some y:=by simpa using hy
    rw[this]
    exact hp
   ·exact (zr h14).elim
 ·exact (zr h4).elim
theorem qm (hS:SysOk P E) (h:Rel P E G s a w) {r:ResultVar} {ws:List W} {p:PV} (hr:(XH E r).run s=some (ws,p)) :
  ∃ G' v,Fr G w G' w X1/\G'.ph=G.ph/\Rel P E G' (s.puts ws) a w/\(vd a.tmps r).run P w=.ok v w/\PRep G'.g p v:=by
 cases r with
 |cell x t=>exact zgx hS h hr
 |tmp t=>
  simp only[XH] at hr
  obtain ⟨u1,v,v1,h1,h2,rfl⟩:=zmR hr
  obtain ⟨G1,f1,p1,r1,_,_,hv⟩:=YP hS h h1
  obtain ⟨rfl,hp⟩:=zE h2
  have:=zji hp
  subst this
  refine ⟨G1,tmp a t,f1,p1,by rw[List.append_nil];exact r1,by simp[vd,tmp],hv (fun j=>.hand j)⟩
theorem ql (hS:SysOk P E):∀ (l:List ResultVar) {G:Gh} {s:RS} {ws:List W} {ps:List PV},Rel P E G s a w->(WZ E l).run s=some (ws,ps)->
  ∃ G' vs,Fr G w G' w X1/\G'.ph=G.ph/\Rel P E G' (s.puts ws) a w/\(l.mapM (vd a.tmps)).run P w=.ok vs w/\vs.length=ps.length/\vs.length=l.length/\∀ (j:Nat) (q:PV) (u:Value),ps[j]? = some q->vs[j]? = some u->PRep G'.g q u
 |[],G,s,ws,ps,h,hr=>by
  obtain ⟨rfl,rfl⟩:=run_pure hr
  exact ⟨G,[],Fr.refl.weaken (fun _ h=>h.elim) X1_old,rfl,h,by simp,rfl,rfl,fun j q u hq=>by simp at hq⟩
 |r::l,G,s,ws,ps,h,hr=>by
  simp only[WZ] at hr
  obtain ⟨u1,p,v1,h1,h2,rfl⟩:=zmR hr
  obtain ⟨G1,v,f1,p1,r1,e1,hv⟩:=qm hS h h1
  obtain ⟨u2,qs,v2,h3,h4,rfl⟩:=zmR h2
  obtain ⟨G2,vs,f2,p2,r2,e2,l2,l3,hvs⟩:=ql hS l r1 h3
  obtain ⟨rfl,rfl⟩:=run_pure h4
  refine ⟨G2,v::vs,f1.trans f2,p2.trans p1,by rw[List.append_nil,RS.puts_append];exact r2,by simp[List.mapM_cons,e1,e2],by simp[l2],by simp[l3],fun j q u hq hu=>?_⟩
  cases j with
  |zero=>simp at hq hu;subst hq;subst hu;exact hv.mono f2.g
  |succ j=>simp at hq hu;exact hvs j q u hq hu
theorem za5 {v:AV} {x:Value} (ho:okO v=true) (hv:VRel P E G w (fun j=>.hand j) v x):TRel G w (fun j=>.hand j) v x/\wD v=false:=by
 cases v with
 |pv p=>exact ⟨hv,rfl⟩
 |slu e sz xs=>exact ⟨hv,rfl⟩
 |agg cs=>
  obtain ⟨vs,he,h1,h2⟩:=hv
  exact ⟨⟨vs,he,h1,fun j c y hc hy=>⟨List.all_eq_true.1 ho c (List.mem_of_getElem? hc),h2 j c y hc hy⟩⟩,rfl⟩
 |_=>simp[okO] at ho
theorem TRel.o {v:AV} {x:Value} (hd:wD v=false) (h:TRel G w (fun j=>.hand j) v x):ORel G w v x:=by
 cases v with
 |pv p=>exact h
 |slu e sz xs=>exact h
 |agg cs=>exact h
 |dead=>cases hd
 |_=>exact h.elim
theorem zbG (hS:SysOk P E) (h:Rel P E G s a w) {r:ResultVar} {ws:List W} {v:AV} (hr:(W1 E r).run s=some (ws,v)) :
  ∃ G' x,Fr G w G' w X1/\G'.ph=G.ph/\Rel P E G' (s.puts ws) a w/\(vd a.tmps r).run P w=.ok x w/\VRel P E G' w (fun j=>.hand j) v x:=by
 cases r with
 |tmp t=>
  simp only[W1] at hr
  obtain ⟨G1,f1,p1,r1,hv⟩:=ZK hS h hr
  exact ⟨G1,tmp a t,f1,p1,r1,by simp[vd,tmp],hv⟩
 |cell x t=>
  simp only[W1] at hr
  obtain ⟨u1,i,v1,h1,h2,rfl⟩:=zmR hr
  obtain ⟨rfl,hi⟩:=yX h1
  have hT:=hS.ty t i hi
  simp only[RS.puts,zm7] at h2 ⊢
  obtain ⟨u2,c,v2,h3,h4,rfl⟩:=zmR h2
  obtain ⟨rfl,rfl⟩:=yS h3
  simp only[RS.puts,zm7] at h4 ⊢
  have hv:=h.sl x
  split at h4
  ·rename_i l off hcr hca
   rw[hca] at hv
   obtain ⟨b,hb,hx⟩:∃ b,G.ph l=some b/\tmp a x=.pointer (some ⟨b,off,none⟩):=hv
   obtain ⟨u4,c,v4,h7,h8,rfl⟩:=zmR h4
   obtain ⟨rfl,rfl⟩:=vD h7
   simp only[RS.puts,zm7] at h8 ⊢
   obtain ⟨u5,cs,v5,h9,h10,rfl⟩:=zmR h8
   obtain ⟨rfl,hl⟩:=zE h9
   simp only[RS.puts,zm7] at h10 ⊢
   obtain ⟨u6,_,v6,h11,h12,rfl⟩:=zmR h10
   obtain ⟨rfl,hn⟩:=z5 h11
   simp only[zm8,decide_eq_true_eq] at hn
   obtain ⟨hag,hle⟩:=hn
   simp only[RS.puts,zm7] at h12 ⊢
   obtain ⟨u7,_,v7,h13,h14,rfl⟩:=zmR h12
   have hw:=yO h13
   subst hw
   obtain ⟨rfl,rfl⟩:=run_pure h14
   obtain ⟨G',T,c,f,hph,r1,hb2,hsz,hB⟩:=zaK h hb hl hle
   have hrunL:=Yc (w:=w) hT hb2 (off:=off) (fun _=>by omega) (fun e=>by rw[hag] at e;cases e)
   have hread:(vd a.tmps (.cell x t)).run P w=.ok (xm i c.toList off) w:=by
    have hx':a.tmps.getD x undef=.pointer (some ⟨b,off,none⟩):=hx
    have:(Instr.loadAt t (.pointer (some ⟨b,off,none⟩))).run P w=(loadVar t ⟨b,off,none⟩).run P w:=by simp[Instr.loadAt,Instr.sureAddr]
    rw[this] at hrunL
    simp[vd,hx',asAddr,hrunL]
   exact ⟨G',_,f,hph,r1,hread,zaL hag hsz hle hB⟩
  ·exact (zr h4).elim
theorem zbH (hS:SysOk P E):∀ (l:List ResultVar) (k:Nat) {G:Gh} {s:RS} {ws:List W} {q:AV×List PV},Rel P E G s a w->(YH E l k).run s=some (ws,q)->
  ∃ G' vs,Fr G w G' w X1/\G'.ph=G.ph/\Rel P E G' (s.puts ws) a w/\(l.mapM (vd a.tmps)).run P w=.ok vs w/\vs.length=q.2.length/\vs.length=l.length/\k<vs.length/\
   (∀ (j:Nat) (p:PV) (u:Value),j≠k->q.2[j]? = some p->vs[j]? = some u->PRep G'.g p u)/\∀ u,vs[k]? = some u->TRel G' w (fun j=>.hand j) q.1 u
 |[],k,G,s,ws,q,h,hr=>by simp only[YH] at hr;exact (zr hr).elim
 |r::l,0,G,s,ws,q,h,hr=>by
  simp only[YH] at hr
  obtain ⟨u1,p,v1,h1,h2,rfl⟩:=zmR hr
  obtain ⟨G1,x,f1,p1,r1,e1,hv⟩:=zbG hS h h1
  obtain ⟨u2,_,v2,h3,h4,rfl⟩:=zmR h2
  obtain ⟨rfl,ho⟩:=z5 h3
  simp only[RS.puts,zm7] at h4 ⊢
  obtain ⟨u3,ps,v3,h5,h6,rfl⟩:=zmR h4
  obtain ⟨G2,vs,f2,p2,r2,e2,l2,l3,hvs⟩:=ql hS l r1 h5
  obtain ⟨rfl,rfl⟩:=run_pure h6
  refine ⟨G2,x::vs,f1.trans f2,p2.trans p1,by rw[List.append_nil,RS.puts_append];exact r2,by simp[List.mapM_cons,e1,e2],by simp[l2],by simp[l3],by simp,fun j q u hj hq hu=>?_,fun u hu=>?_⟩
  ·cases j with
   |zero=>exact absurd rfl hj
   |succ j=>simp at hq hu;exact hvs j q u hq hu
  ·simp only[List.getElem?_cons_zero,zm9] at hu
   subst hu
   refine (za5 ho hv).1.move f2.g (fun j b hb=>?_)
   obtain ⟨k1,k2⟩:=f2.ka b (.hand j) hb (by simp[X1,xl])
   exact ⟨k1,k2⟩
 |r::l,k+1,G,s,ws,q,h,hr=>by
  have hr':(do let p ←XH E r;let q ←YH E l k;pure (q.1,p::q.2):RM (AV×List PV)).run s=some (ws,q):=by
   cases r<;>simpa only[YH] using hr
  obtain ⟨u1,p,v1,h1,h2,rfl⟩:=zmR hr'
  obtain ⟨G1,v,f1,p1,r1,e1,hv⟩:=qm hS h h1
  obtain ⟨u2,qs,v2,h3,h4,rfl⟩:=zmR h2
  obtain ⟨G2,vs,f2,p2,r2,e2,l2,l3,lk,hvs,hk⟩:=zbH hS l k r1 h3
  obtain ⟨rfl,rfl⟩:=run_pure h4
  refine ⟨G2,v::vs,f1.trans f2,p2.trans p1,by rw[List.append_nil,RS.puts_append];exact r2,by simp[List.mapM_cons,e1,e2],by simp[l2],by simp[l3],by simpa using lk,fun j q u hj hq hu=>?_,fun u hu=>hk u (by simpa using hu)⟩
  cases j with
  |zero=>simp at hq hu;subst hq;subst hu;exact hv.mono f2.g
  |succ j=>simp at hq hu;exact hvs j q u (by omega) hq hu
theorem qk (hS:SysOk P E) (h:Rel P E G s a w) {f:Nat} {fn:Func} {ws:List W} {v:AV} (hr:(wk E f fn.results.toList).run s=some (ws,v)) :
  ∃ G' x,Fr G w G' w X1/\G'.ph=G.ph/\Rel P E G' (s.puts ws) a w/\(results fn a.tmps).run P w=.ok x w/\xv P E G' w (.ret v) (.returned x):=by
 rw[zky]
 unfold wk at hr
 have notone:∀ {vs:List Value},vs.length=fn.results.toList.length->(∀ r,fn.results.toList≠[r])->¬vs.toArray.size=1:=by
  intro vs l2 hne e
  have e':fn.results.toList.length=1:=by rw[←l2];simpa using e
  obtain ⟨r,hrr⟩:=List.length_eq_one_iff.1 e'
  exact hne r hrr
 split at hr
 ·rename_i r _ hl
  obtain ⟨u1,q,v1,h1,h2,rfl⟩:=zmR hr
  obtain ⟨G1,x,f1,p1,r1,e1,hv⟩:=zbG hS h h1
  obtain ⟨u2,_,v2,h3,h4,rfl⟩:=zmR h2
  obtain ⟨rfl,ho⟩:=z5 h3
  obtain ⟨rfl,rfl⟩:=run_pure h4
  obtain ⟨k1,k2⟩:=za5 ho hv
  exact ⟨G1,x,f1,p1,by simpa using r1,by rw[hl];simp[List.mapM_cons,e1],TRel.o k2 k1⟩
 ·rename_i k n _ r r' rs _ hl
  obtain ⟨u1,q,v1,h1,h2,rfl⟩:=zmR hr
  obtain ⟨G1,vs,f1,p1,r1,e1,l1,l2,lk,hvs,hk⟩:=zbH hS _ _ h h1
  obtain ⟨rfl,rfl⟩:=run_pure h2
  refine ⟨G1,.tuple vs.toArray,f1,p1,by rw[List.append_nil];exact r1,?_,?_⟩
  ·rw[hl,Sem.run_bind,e1]
   simp only[Result.andThen_ok,Sem.run_pure]
   rw[dif_neg (notone (by rw[hl];exact l2) (fun x hx=>by rw[hl] at hx;cases hx))]
  ·exact ⟨vs.toArray,rfl,by simp[l1],by simpa using lk,fun j q u hj hq hu=>hvs j q u hj hq (by simpa using hu),fun u hu=>hk u (by simpa using hu)⟩
 ·rename_i r hl _
  obtain ⟨u1,p,v1,h1,h2,rfl⟩:=zmR hr
  obtain ⟨G1,x,f1,p1,r1,e1,hv⟩:=qm hS h h1
  obtain ⟨rfl,rfl⟩:=run_pure h2
  refine ⟨G1,x,f1,p1,by rw[List.append_nil];exact r1,?_,hv⟩
  rw[hl]
  simp[List.mapM_cons,e1]
 ·rename_i rs hne _ hx
  obtain ⟨u1,ps,v1,h1,h2,rfl⟩:=zmR hr
  obtain ⟨G1,vs,f1,p1,r1,e1,l1,l2,hvs⟩:=ql hS _ h h1
  obtain ⟨rfl,rfl⟩:=run_pure h2
  refine ⟨G1,.tuple vs.toArray,f1,p1,by rw[List.append_nil];exact r1,?_,?_⟩
  ·rw[Sem.run_bind,e1]
   simp only[Result.andThen_ok,Sem.run_pure]
   rw[dif_neg (notone l2 (fun r hr=>hne r hr))]
  ·exact PRep.tup (by simp[l1]) (fun j q u hq hu=>hvs j q u hq (by simpa using hu))
theorem SRel.back {q:AV} {x:Value} {N:Nat} (hb:Z9 N q=true) (p:∀ l b,l<N->G'.ph l=some b->G.ph l=some b) (h:SRel G' q x):SRel ⟨G'.g,G.ph,G'.ka⟩ q x:=by
 cases q with
 |pv p=>exact h
 |ptr l o=>
  obtain ⟨b,hb',hx⟩:=(show ∃ b,G'.ph l=some b/\x=.pointer (some ⟨b,o,none⟩) from h)
  exact ⟨b,p l b (by simpa[Z9] using hb) hb',hx⟩
 |_=>exact h.elim
theorem BRel.back {q:AV} {x:Value} {N:Nat} {hh:Hd} (hb:below N q=true) (p:∀ l b,l<N->G'.ph l=some b->G.ph l=some b) (h:BRel G' w hh q x):BRel ⟨G'.g,G.ph,G'.ka⟩ w hh q x:=by
 cases q with
 |pv p=>exact h
 |slu e sz xs=>exact h
 |dead=>exact h
 |ptr l o=>exact SRel.back (q:=.ptr l o) (N:=N) (by simpa[Z9,below] using hb) p h
 |clo fn x y=>
  obtain ⟨fs,cs,hv,h1,h2⟩:=(show ∃ fs cs,_=Value.func fn fs cs/\LRel G' x fs/\LRel G' y cs from h)
  simp only[below,zm8] at hb
  exact ⟨fs,cs,hv,⟨h1.1,fun j a z ha hz=>SRel.back (List.all_eq_true.1 hb.1 a (List.mem_of_getElem? ha)) p (h1.2 j a z ha hz)⟩,⟨h2.1,fun j a z ha hz=>SRel.back (List.all_eq_true.1 hb.2 a (List.mem_of_getElem? ha)) p (h2.2 j a z ha hz)⟩⟩
 |_=>exact h.elim
theorem Qz {H:za} (hdm:∀ l b,G.ph l=some b->l<H.length) {G1:Gh} {s1:RS} {a1:Act} {w1:World} (f1:Fr G w G1 w1 X0) (p1:∀ l b,l<H.length->G1.ph l=some b->G.ph l=some b) (r1:Rel P E G1 s1 a1 w1) {o out:Out} {H':za} (hl:wi H.length o s1.H=some (out,H')) {e:Ending} (ho:xv P E G1 w1 o e) :
  ∃ G',Fr G w G' w1 X0/\G'.ph=G.ph/\WOk P E G' w1/\(∀ l cs,H'[l]? = some cs->∀ b,G.ph l=some b->BoxOk G' w1 l cs b)/\xv P E G' w1 out e:=by
 unfold wi at hl
 split at hl
 ·rename_i hb
  simp only[zm9,Prod.mk.injEq] at hl
  obtain ⟨rfl,rfl⟩:=hl
  refine ⟨⟨G1.g,G.ph,G1.ka⟩,⟨f1.g,fun _ _ h=>h,f1.ka,f1.old,f1.os,f1.tape,f1.output,f1.size⟩,rfl,⟨r1.wo.imm,r1.wo.dom,fun g l hg=>r1.wo.maps g l hg,fun g p hg=>r1.wo.glob g p hg,fun g hg=>r1.wo.sen g hg,fun g1 g2 c1 c2 h1 h2 hne e1 e2=>r1.wo.dst g1 g2 c1 c2 h1 h2 hne e1 e2,fun g v hv=>r1.wo.fix g v hv⟩,fun l cs hcs b hbb=>?_,?_⟩
  ·have hl2:=hdm l b hbb
   have hb1:=f1.ph l b hbb
   rw[List.getElem?_take,if_pos hl2] at hcs
   obtain ⟨k1,T,c,k2,k3,k4⟩:=r1.bx l cs hcs b hb1
   refine ⟨k1,T,c,k2,k3,fun o x y hx hy=>BRel.back (N:=H.length) ?_ p1 (k4 o x y hx hy)⟩
   have:=List.all_eq_true.1 hb cs (List.mem_of_getElem? (i:=l) (by rw[List.getElem?_take,if_pos hl2];exact hcs))
   exact List.all_eq_true.1 this x (List.mem_of_getElem? hx)
  ·exact QI (G':=G1) (G2:=⟨G1.g,G.ph,G1.ka⟩) (fun _ _ h=>h) (fun b j hb=>hb) ho
 ·cases hl
theorem zcx:∀ {l:List Operand} {r:List Nat},ZM l=some r->l=r.map .tmp
 |[],r,h=>by cases h;rfl
 |x::l,r,h=>by
  cases x with
  |tmp i=>
   simp only[ZM] at h
   cases hl:ZM l with
   |none=>simp[hl] at h
   |some q=>simp only[hl,Option.map_some,zm9] at h;subst h;rw[zcx hl];rfl
  |const c=>simp[ZM] at h
  |global c=>simp[ZM] at h
  |func c=>simp[ZM] at h
theorem zha {g t:Nat} {ops:Array Oper} {l:List Nat} (h:Wy g ops=some (t,l)):∃ m d cs c,ops.toList=[m,d]/\m.dst=some t/\m.op=.makeFunc (.func g) #[] cs/\m.guard=none/\d.dst=none/\d.op=.defer c/\d.guard=none/\c.callee=.value (.tmp t)/\c.args=#[]/\cs.toList=l.map .tmp:=by
 unfold Wy at h
 split at h
 ·rename_i m d hl
  split at h
  ·rename_i t0 g' fs cs c h1 h2 h3 h4 h5 h6
   split at h
   ·rename_i t' hc
    split at h
    ·rename_i hcond
     obtain ⟨rfl,rfl,rfl,e4⟩:=hcond
     cases ht:ZM cs.toList with
     |none=>simp[ht] at h
     |some q=>
      simp only[ht,Option.map_some,zm9,Prod.mk.injEq] at h
      obtain ⟨rfl,rfl⟩:=h
      exact ⟨m,d,cs,c,hl,h1,h2,h3,h4,h5,h6,hc,e4,zcx ht⟩
    ·cases h
   ·cases h
  ·cases h
 ·cases h
theorem zkn {t u:Nat} {ops:Array Oper} (h:YG ops=some (t,u)):∃ c m q,ops.toList=[c,m]/\c.dst=some t/\c.op=.call q/\c.guard=none/\m.dst=some u/\m.op=.assign (.tmp t)/\m.guard=none/\q.callee=.builtin .recover/\q.args=#[]:=by
 unfold YG at h
 split at h
 ·rename_i c m hl
  split at h
  ·rename_i t0 q u0 t' h1 h2 h3 h4 h5 h6
   split at h
   ·rename_i hc
    split at h
    ·rename_i hcond
     obtain ⟨rfl,e4⟩:=hcond
     simp only[zm9,Prod.mk.injEq] at h
     obtain ⟨rfl,rfl⟩:=h
     exact ⟨c,m,q,hl,h1,h2,h3,h4,h5,h6,hc,e4⟩
    ·cases h
   ·cases h
  ·cases h
 ·cases h
theorem zhb {g:Nat} {fn gn:Func} {d:DP} (h:ZZ g fn gn=some d):∃ id1 ops1 id2 ops2 t6,fn.body=some (.seq d.r0 (.seq (.region id1 ops1 false) d.rest))/\gn.body=some (.seq (.region id2 ops2 false) d.grest)/\Wy g ops1=some (d.t8,d.caps)/\YG ops2=some (t6,d.u)/\gn.results=#[]/\t6<gn.ntmps/\d.u<gn.ntmps/\d.caps.length<=t6/\d.t8<fn.ntmps:=by
 unfold ZZ at h
 split at h
 ·rename_i r0 id1 ops1 rest id2 ops2 grest h1 h2
  cases hx:Wy g ops1 with
  |none=>simp[hx] at h
  |some x=>
   cases hy:YG ops2 with
   |none=>simp[hx,hy] at h
   |some y=>
    simp only[hx,hy,zm4] at h
    split at h
    ·rename_i hc
     simp only[zm9] at h
     subst h
     exact ⟨id1,ops1,id2,ops2,y.1,h1,h2,hx,hy,hc.1,hc.2.1,hc.2.2.1,hc.2.2.2.1,hc.2.2.2.2⟩
    ·cases h
 ·cases h
theorem zmx {t:Nat}:∀ (c:Code),writes c t->wU c t=true:=by
 intro c
 induction c with
 |region id ops draw=>
  rintro ⟨o,ho,hd⟩
  simp only[wU,List.any_eq_true,decide_eq_true_eq]
  exact ⟨o,by simpa using ho,hd⟩
 |seq x y ihx ihy=>
  intro h
  simp only[wU,Bool.or_eq_true]
  exact h.imp ihx ihy
 |cond c x y ihx ihy=>
  intro h
  simp only[wU,Bool.or_eq_true]
  exact h.imp ihx ihy
 |block id x ihx=>exact fun h=>ihx h
 |scope x ihx=>exact fun h=>ihx h
 |loop x ihx=>exact fun h=>ihx h
 |_=>exact fun h=>h.elim
theorem Jw {args:List AV} {vs:Array Value} {H:za} (pre:PreC P E G w args vs H) (n:Nat):Rel P E G (St.start ⟨fun t=>(args[t]?).getD .dead,H⟩) { tmps:=vs++Array.replicate (n-vs.size) undef,defers:=[] } w:=by
 refine ⟨pre.wo,pre.bx,fun t=>?_,fun t r hr=>(by cases hr),pre.dm⟩
 show VRel P E G w (fun j=>.s t j) ((args[t]?).getD .dead) _
 cases hq:args[t]? with
 |none=>trivial
 |some q=>
  have ht:t<vs.size:=by rw[pre.sz];exact (List.getElem?_eq_some_iff.1 hq).1
  have hv:VRel P E G w (fun j=>.s t j) q vs[t]:=by
   rcases pre.ar t q vs[t] hq (Array.getElem?_eq_getElem ht) with h|h
   ·exact h.2 _
   ·exact h.2
  have:tmp { tmps:=vs++Array.replicate (n-vs.size) undef,defers:=[] } t=vs[t]:=by
   simp[tmp,ht,Array.getElem?_append_left]
  rw[this]
  exact hv
def wV (P:Program) (E:Env) (G:Gh) (w:World) (H':za) (out:Out) (e:Ending) (w':World):Prop :=
 ∃ G',Fr G w G' w' X0/\G'.ph=G.ph/\WOk P E G' w'/\(∀ l cs,H'[l]? = some cs->∀ b,G.ph l=some b->BoxOk G' w' l cs b)/\xv P E G' w' out e
theorem zbE {ops:Array Oper} {m d:Oper} (h:ops.toList=[m,d]):List.range ops.size=[0,1]/\ops[0]? = some m/\ops[1]? = some d:=by
 have e:ops=#[m,d]:=by apply Array.ext';simpa using h
 subst e
 exact ⟨rfl,rfl,rfl⟩
theorem zko {ops:Array Oper} {t6 u:Nat} (hrec:YG ops=some (t6,u)) {Q:Exit->Act->List Frame->World->Prop} {a:Act} {c0:Frame} {cs cs':List Frame} {v':Value} (hD:(recoverD (c0::cs)=none/\v' = .nilIface/\cs' = c0::cs)∨recoverD (c0::cs)=some (v',cs')) (ht:t6<a.tmps.size)
  (h:Q .normal ((a.put (some t6) v').put (some u) v') cs' w):wpOpsS P ops Q (List.range ops.size) a (c0::cs) w:=by
 obtain ⟨oc,om,q,hl,e1,e2,e3,e4,e5,e6,e7,e8⟩:=zkn hrec
 obtain ⟨hr,h0,h1⟩:=zbE hl
 have hx:(execOp a.eval oc).run P w=.ok .recover w:=by
  simp only[execOp,e2,resolve,e7,e8]
  rfl
 have hw:Region.wanted oc (yielded ops a.tmps)=true:=by simp[Region.wanted,e3]
 have hw2:∀ y,Region.wanted om y=true:=fun y=>by simp[Region.wanted,e6]
 have hput:tmp (a.put (some t6) v') t6=v':=by
  simp only[tmp,Act.put]
  rw[Array.getD_eq_getD_getElem?,Array.getElem?_setIfInBounds]
  simp[ht]
 have hxm:(execOp (a.put (some t6) v').eval om).run P w=.ok (.value v') w:=by
  simp only[execOp,e5]
  show (pure (Next.value ((a.put (some t6) v').eval (.tmp t6))):Sem Next).run P w=_
  rw[show (a.put (some t6) v').eval (.tmp t6)=v' from hput]
  rfl
 have key:wpOpsS P ops Q [1] (a.put (some t6) v') cs' w:=by
  simp only[wpOpsS,h1,hw2,if_true,hxm]
  show Q .normal ((a.put (some t6) v').put om.dst v') cs' w
  rw[e4]
  exact h
 rw[hr,wpOpsS]
 simp only[h0,hw,if_true,hx,e1]
 rcases hD with ⟨k1,k2,k3⟩|k1
 ·rw[k1]
  subst k2;subst k3
  exact key
 ·rw[k1]
  exact key
theorem jo (hm:P.follows .mixedOrders=true) (hS:SysOk P E) (hC:xR P E cf) (hF:∀ f args H r,cf f args H=some r->xH P f) {f g k:Nat} {fn gn:Func} {d:DP} {id2:Nat} {ops2:Array Oper} {t6:Nat}
  (hg:P.funcs[g]? = some gn) (hgb:gn.body=some (.seq (.region id2 ops2 false) d.grest)) (hrec:YG ops2=some (t6,d.u)) (hres:gn.results=#[]) (ht6:t6<gn.ntmps) (hu:d.u<gn.ntmps) (hcl:d.caps.length<=t6) (hname:(gn.name == "runtime.NumGoroutine")=false)
  {H:za} (hdm:∀ l b,G.ph l=some b->l<H.length)
  {s0 s1:St} {p:PV} {G3:Gh} {a3:Act} {w3:World} {s2:RS} (f3:Fr G w G3 w3 X0) (p3:∀ l b,l<H.length->G3.ph l=some b->G.ph l=some b) (r3:Rel P E G3 s2 a3 w3) (hH:s2.H=s1.H) (hHl:H.length<=s1.H.length)
  {cvs:Array Value} (hcs:cvs.size=d.caps.length) (hcap:∀ (j:Nat) (c:Nat) (x:Value),d.caps[j]? = some c->cvs[j]? = some x->w6 (s0.sl c)=true/\SRel G3 (s0.sl c) x) (hkeep:∀ t,w6 (stays d s0 t)=true->SRel G3 (stays d s0 t) (tmp a3 t))
  {u:FrameMode} (hmode:(u=.returning/\p=.v .nilIface)∨∃ v,u=.panicking [{ v,recovered:=false }]/\PRep G3.g p v)
  {z:Ex×St} (hz:zP E cf gn.ntmps g k 0 d.grest (Wt d (d.caps.map s0.sl) s1 p)=some z) (hend:WC z.1=true) {ws:List W} {rv:AV} (hra:(wk E f fn.results.toList).run (St.start ⟨zR (Zm d fn.results.toList s0),z.2.H⟩)=some (ws,rv)) {out:Out} {H':za} (hlv:wi H.length (.ret rv) ((St.start ⟨zR (Zm d fn.results.toList s0),z.2.H⟩).puts ws).H=some (out,H')) :
  Leaves P fn a3.tmps (wV P E G w H' out) [{ target:=.fn (.func g) cvs,args:=#[] }] u w3:=by
 have we:xH P g:=⟨gn,hg,by rw[hgb];rfl,hname⟩
 have hun:u≠.run:=by rcases hmode with ⟨rfl,_⟩|⟨v,rfl,_⟩<;>simp
 refine leaves_cons (f:=g) (args:=cvs) hun (by
  have:=qr (w:=w3) we cvs
  simpa[invoke] using this) ?_
 refine callsD_of_wpS hg hgb fun c0 cs hc0=>?_
 obtain ⟨v',u',hv',hs',hrecD⟩:∃ v' u',PRep G3.g p v'/\settle u' = .returning/\((recoverD (c0::cs)=none/\v' = .nilIface/\{ c0 with mode:=u' }::cs=c0::cs)∨recoverD (c0::cs)=some (v',{ c0 with mode:=u' }::cs)):=by
  rcases hmode with ⟨rfl,rfl⟩|⟨v,rfl,hP⟩
  ·exact ⟨.nilIface,.returning,.v rfl,rfl,.inl ⟨by simp[recoverD,hc0],rfl,by cases c0;simp only at hc0;subst hc0;rfl⟩⟩
  ·exact ⟨v,.panicking [{ v,recovered:=true }],hP,rfl,.inr (by simp[recoverD,hc0])⟩
 let ac:Act:={ tmps:=cvs++Array.replicate (gn.ntmps-cvs.size) undef,defers:=[] }
 refine wpS_seq (wpS_region (zko hrec (cs':={ c0 with mode:=u' }::cs) hrecD (by simp;omega) ?_))
 show Code.wpS P d.grest _ ((ac.put (some t6) v').put (some d.u) v') _ w3
 generalize hac2:(ac.put (some t6) v').put (some d.u) v' = a2
 have hsz:a2.tmps.size=cvs.size+(gn.ntmps-cvs.size):=by subst hac2;simp[Act.put,ac]
 have hdf:a2.defers=[]:=by subst hac2;rfl
 have hu2:tmp a2 d.u=v':=by
  subst hac2
  simp only[tmp,Act.put,ac]
  rw[Array.getD_eq_getD_getElem?,Array.getElem?_setIfInBounds]
  simp only[if_true]
  rw[if_pos (by simp;omega)]
  rfl
 have hcv:∀ j x,cvs[j]? = some x->j≠t6->j≠d.u->tmp a2 j=x:=fun j x hx h6 hj=>by
  have hjl:j<cvs.size:=(Array.getElem?_eq_some_iff.1 hx).1
  subst hac2
  simp only[tmp,Act.put,ac]
  rw[Array.getD_eq_getD_getElem?,Array.getElem?_setIfInBounds,if_neg (Ne.symm hj),Array.getElem?_setIfInBounds,if_neg (Ne.symm h6),Array.getElem?_append_left hjl,hx]
  rfl
 have hrel:Rel P E G3 (Wt d (d.caps.map s0.sl) s1 p).start a2 w3:=by
  refine ⟨r3.wo,fun l cs hl b hb=>r3.bx l cs (by rw[hH];exact hl) b hb,fun t=>?_,fun t r hr=>(by cases hr),fun l b hb=>by have:=r3.dm l b hb;rw[hH] at this;exact this⟩
  show VRel P E G3 w3 _ (cond (decide (t=d.u)) (.pv p) (((d.caps.map s0.sl)[t]?).getD .dead)) (tmp a2 t)
  by_cases ht:t=d.u
  ·subst ht
   rw[hu2]
   simp only[decide_true,cond_true]
   exact hv'
  ·simp only[ht,decide_false,cond_false]
   rw[zmT]
   cases hc:d.caps[t]? with
   |none=>trivial
   |some c=>
    have htl:t<cvs.size:=by rw[hcs];exact (List.getElem?_eq_some_iff.1 hc).1
    obtain ⟨k1,k2⟩:=hcap t c cvs[t] hc (Array.getElem?_eq_getElem htl)
    simp only[Option.map_some,Option.getD_some]
    by_cases h6:t=t6
    ·omega
    ·rw[hcv t cvs[t] (Array.getElem?_eq_getElem htl) h6 ht]
     cases hs:s0.sl c with
     |ptr l o=>rw[hs] at k2;exact k2
     |_=>rw[hs] at k1;cases k1
 have hfin:∀ {G4:Gh} {a4:Act} {w4:World},Fr G3 w3 G4 w4 X0->(∀ l b,l<H.length->G4.ph l=some b->G3.ph l=some b)->Rel P E G4 z.2.start a4 w4->a4.defers=a2.defers->
   a4.defers=[]/\∃ u'',({ c0 with mode:=u' }::cs:List Frame)={ c0 with mode:=u'' }::cs/\∃ v,(results gn a4.tmps).run P w4=.ok v w4/\Leaves P fn a3.tmps (wV P E G w H' out) [] (settle u'') w4:=by
  intro G4 a4 w4 f4 p4 r4 d4
  refine ⟨d4.trans hdf,u',rfl,.tuple #[],by simp[results,hres],?_⟩
  rw[hs']
  have r5:Rel P E G4 (St.start ⟨zR (Zm d fn.results.toList s0),z.2.H⟩) a3 w4:=by
   refine ⟨r4.wo,r4.bx,fun t=>?_,fun t r hr=>(by cases hr),r4.dm⟩
   show VRel P E G4 w4 _ (zR (Zm d fn.results.toList s0) t) (tmp a3 t)
   have hor:zR (Zm d fn.results.toList s0) t=stays d s0 t∨zR (Zm d fn.results.toList s0) t=.dead:=by
    have:=za4 (fn.results.toList.map qn) (stays d s0) t
    rw[List.map_map] at this
    exact this.imp And.left id
   rcases hor with hor|hor
   case inr=>rw[hor];trivial
   rw[hor]
   cases hst:stays d s0 t with
   |ptr l o=>
    have:=hkeep t (by rw[hst];rfl)
    rw[hst] at this
    exact (this.fr f4)
   |dead=>trivial
   |_=>
    exfalso
    unfold stays at hst
    cases hc:(w6 (s0.sl t)&&!wU d.rest t&&decide (t≠d.t8)) with
    |false=>rw[hc] at hst;cases hst
    |true=>
     rw[hc] at hst
     simp only[cond_true] at hst
     simp only[zm8] at hc
     rw[hst] at hc
     cases hc.1.1
  obtain ⟨G5,x,f5,p5,r6,e5',o5⟩:=qk hS r5 hra
  refine ⟨x,e5',?_⟩
  exact Qz hdm ((f3.trans f4).trans (f5.weaken xn X0_old)) (fun l b hl hb=>p3 l b hl (p4 l b hl (p5▸hb))) r6 hlv o5
 refine wpS_of_wp (Xn hm hS hC hF (D:=fun _=>True) d.grest 0 (N:=H.length) (fun _ _=>trivial) hz hrel (by omega) hHl ⟨fun e he G4 a4 w4 f4 p4 r4 s4 d4=>?_,fun p' hp' => ?_⟩)
 ·have:=hfin f4 p4 r4 d4.defers
  obtain ⟨k1,u'',k2,v,k3,k4⟩:=this
  cases hz1:z.1 with
  |normal=>rw[hz1] at he;cases he;exact ⟨k1,u'',k2,v,k3,k4⟩
  |ret=>rw[hz1] at he;cases he;exact ⟨k1,u'',k2,v,k3,k4⟩
  |exit id=>rw[hz1] at hend;cases hend
  |pan p=>rw[hz1] at hend;cases hend
 ·rw[hp'] at hend;cases hend
def KC (P:Program) (E:Env):Prop :=
 ∀ f q,find E.cln f=some q->xH P f/\∀ args H out H',clone E q args H=some (out,H')->∀ (G:Gh) (w:World) (vs:Array Value),PreC P E G w args vs H->Calls P f vs w fun e w' => wV P E G w H' out e w'
theorem zhd (hm:P.follows .mixedOrders=true) (hS:SysOk P E) (hC:xR P E cf) (hF:∀ f args H r,cf f args H=some r->xH P f) {f g k:Nat} {fn gn:Func} {d:DP} (hf:P.funcs[f]? = some fn) (hg:P.funcs[g]? = some gn) (hname:(gn.name == "runtime.NumGoroutine")=false) (hd:ZZ g fn gn=some d)
  {args:List AV} {H:za} {out:Out} {H':za} (h:ZY E f g fn gn d args H (fun n f c s=>zP E cf n f k 0 c s)=some (out,H')) {vs:Array Value} (pre:PreC P E G w args vs H):Calls P f vs w fun e w' => wV P E G w H' out e w':=by
 obtain ⟨id1,ops1,id2,ops2,t6,hb,hgb,hdo,hrec,hres,ht6,hu,hcl,ht8⟩:=zhb hd
 obtain ⟨om,od,cs,c,hl,e1,e2,e3,e4,e5,e6,e7,e8,e9⟩:=zha hdo
 obtain ⟨hr,h0,h1⟩:=zbE hl
 unfold ZY at h
 cases hx:zP E cf fn.ntmps f k 0 d.r0 ⟨fun t=>(args[t]?).getD .dead,H⟩ with
 |none=>simp[hx] at h
 |some x=>
  obtain ⟨ex,s0⟩:=x
  simp only[hx,zm4] at h
  cases ex with
  |exit id=>simp at h
  |ret=>simp at h
  |pan p=>simp at h
  |normal=>
   simp only at h
   cases hcp:(d.caps.all fun c=>w6 (s0.sl c)) with
   |false=>simp[hcp] at h
   |true=>
    simp only[hcp,cond_true] at h
    cases hy:zP E cf fn.ntmps f k 0 d.rest ⟨fun t=>cond (decide (t=d.t8)) .dead (s0.sl t),s0.H⟩ with
    |none=>simp[hy] at h
    |some y=>
     obtain ⟨ey,s1⟩:=y
     simp only[hy,zm4] at h
     cases hp:XB ey with
     |none=>simp[hp] at h
     |some p=>
      simp only[hp,zm4] at h
      cases hz:zP E cf gn.ntmps g k 0 d.grest (Wt d (d.caps.map s0.sl) s1 p) with
      |none=>simp[hz] at h
      |some z=>
       simp only[hz,zm4] at h
       cases hend:WC z.1 with
       |false=>simp[hend] at h
       |true=>
        simp only[hend,cond_true] at h
        cases hra:(wk E f fn.results.toList).run (St.start ⟨zR (Zm d fn.results.toList s0),z.2.H⟩) with
        |none=>simp[hra] at h
        |some u=>
         obtain ⟨ws,rv⟩:=u
         simp only[hra,zm4] at h
         have r0:=Jw pre fn.ntmps
         have hl0:=Qi d.r0 0 (Nat.le_refl H.length) hx
         have hl1:=Qi d.rest 0 (st:=⟨fun t=>cond (decide (t=d.t8)) .dead (s0.sl t),s0.H⟩) hl0 hy
         refine calls_of_wp_defers hf hb (wp_seq (Xn hm hS hC hF (D:=fun _=>True) d.r0 0 (N:=H.length) (fun _ _=>trivial) hx r0 (by simp;omega) (Nat.le_refl _) ⟨fun e he G0 a0 w0 f0 p0 r0' z0 d0=>?_,fun p' hp' => by cases hp'⟩))
         cases he
         refine wp_seq (wp_region ?_)
         rw[hr,wpOps_cons]
         let cvs:Array Value:=cs.map a0.eval
         have hw1:∀ y,Region.wanted om y=true:=fun y=>by simp[Region.wanted,e3]
         have hw2:∀ y,Region.wanted od y=true:=fun y=>by simp[Region.wanted,e6]
         unfold wpOp
         simp only[h0,hw1,if_true]
         refine .inl ?_
         have hx1:(execOp a0.eval om).run P w0=.ok (.value (.func (.func g) #[] cvs)) w0:=by simp[execOp,e2,Instr.makeFunc,cvs]
         unfold Oper.wp
         rw[hx1]
         show wpOps P ops1 _ [1] (a0.put om.dst _) w0
         rw[e1]
         rw[wpOps_cons]
         unfold wpOp
         simp only[h1,hw2,if_true]
         refine .inl ?_
         let a1:Act:=a0.put (some d.t8) (.func (.func g) #[] cvs)
         have hn0:fn.ntmps<=a0.tmps.size:=by rw[z0];simp;omega
         have hcsz:cs.size=d.caps.length:=by have:=congrArg List.length e9;simpa using this
         have hev:a1.eval (.tmp d.t8)=.func (.func g) #[] cvs:=by
          show tmp a1 d.t8=_
          simp only[tmp,Act.put,a1]
          rw[Array.getD_eq_getD_getElem?,Array.getElem?_setIfInBounds]
          simp only[if_true]
          rw[if_pos (by omega)]
          rfl
         have hx2:(execOp a1.eval od).run P w0=.ok (.defer { target:=.fn (.func g) cvs,args:=#[] }) w0:=by
          simp[execOp,e5,resolve,e7,e8,hev,Deferred.ofValue]
         unfold Oper.wp
         rw[hx2]
         have hd0:a0.defers=[]:=d0.defers
         let a2:Act:={ a1 with defers:={ target:=.fn (.func g) cvs,args:=#[] }::a1.defers }
         have he2:({ a1 with defers:={ target:=.fn (.func g) cvs,args:=#[] }::a1.defers }:Act).put od.dst undef=a2:=by rw[e4];rfl
         rw[show a0.put (some d.t8) (.func (.func g) #[] cvs)=a1 from rfl,Oper.upon_defer,he2]
         show d.rest.wp P _ a2 w0
         have htm:∀ t,t≠d.t8->tmp a2 t=tmp a0 t:=fun t ht=>by
          show tmp a1 t=tmp a0 t
          exact (Ye (a:=a0) (some d.t8) _).tmps t (fun e=>ht (by cases e;rfl))
         have hdf2:a2.defers=[{ target:=.fn (.func g) cvs,args:=#[] }]:=by show _::a0.defers=_;rw[hd0]
         have hr2:Rel P E G0 (St.start ⟨fun t=>cond (decide (t=d.t8)) .dead (s0.sl t),s0.H⟩) a2 w0:=by
          refine ⟨r0'.wo,r0'.bx,fun t=>?_,fun t r hr=>(by cases hr),r0'.dm⟩
          show VRel P E G0 w0 _ (cond (decide (t=d.t8)) .dead (s0.sl t)) (tmp a2 t)
          by_cases ht:t=d.t8
          ·simp only[ht,decide_true,cond_true];trivial
          ·simp only[ht,decide_false,cond_false]
           rw[htm t ht]
           exact r0'.sl t
         have hptr:∀ {G3:Gh} {w3:World},Fr G0 w0 G3 w3 X0->∀ t,w6 (s0.sl t)=true->SRel G3 (s0.sl t) (tmp a0 t):=fun {G3 w3} f3 t ht=>by
          have:=r0'.sl t
          change VRel P E G0 w0 _ (s0.sl t) (tmp a0 t) at this
          cases hs:s0.sl t with
          |ptr l o=>rw[hs] at this;exact SRel.fr (a:=.ptr l o) f3 this
          |_=>rw[hs] at ht;cases ht
         have hcap:∀ {G3:Gh} {w3:World},Fr G0 w0 G3 w3 X0->∀ (j:Nat) (c:Nat) (x:Value),d.caps[j]? = some c->cvs[j]? = some x->w6 (s0.sl c)=true/\SRel G3 (s0.sl c) x:=fun {G3 w3} f3 j c x hj hxj=>by
          have hp1:w6 (s0.sl c)=true:=List.all_eq_true.1 hcp c (List.mem_of_getElem? hj)
          refine ⟨hp1,?_⟩
          have hcj:cs[j]? = some (.tmp c):=by
           have:cs.toList[j]? = some (.tmp c):=by rw[e9,zmT,hj];rfl
           simpa using this
          have:x=tmp a0 c:=by
           simp only[cvs,Array.getElem?_map,hcj,Option.map_some,zm9] at hxj
           exact hxj.symm
          rw[this]
          exact hptr f3 c hp1
         have hkeep:∀ {G3:Gh} {a3:Act} {w3:World},Fr G0 w0 G3 w3 X0->Same (writes d.rest) a2 a3->∀ t,w6 (stays d s0 t)=true->SRel G3 (stays d s0 t) (tmp a3 t):=fun {G3 a3 w3} f3 d3 t ht=>by
          unfold stays at ht ⊢
          cases hc:(w6 (s0.sl t)&&!wU d.rest t&&decide (t≠d.t8)) with
          |false=>rw[hc] at ht;cases ht
          |true=>
           simp only[cond_true]
           simp only[zm8,Bool.not_eq_true',decide_eq_true_eq] at hc
           rw[d3.tmps t (fun hwr=>by have:=zmx d.rest hwr;rw[hc.1.2] at this;cases this),htm t hc.2]
           exact hptr f3 t hc.1.1
         refine Xn hm hS hC hF (D:=writes d.rest) d.rest 0 (N:=H.length) (fun _ h=>h) hy hr2 (by show fn.ntmps<=a2.tmps.size;simp[a2,a1,Act.put];exact hn0) hl0 ⟨fun e he G3 a3 w3 f3 p3 r3 z3 d3=>?_,fun p' hp' G3 a3 w3 v s2 f3 p3 r3 hH z3 d3 hv=>?_⟩
         ·have hL:=jo (fn:=fn) hm hS hC hF hg hgb hrec hres ht6 hu hcl hname pre.dm (f0.trans f3) (fun l b hl hb=>p0 l b hl (p3 l b hl hb)) r3 rfl hl1 (by simp[cvs,hcsz]) (hcap f3) (hkeep f3 d3) (u:=.returning) (p:=p) (.inl ⟨rfl,by cases ey<;>simp[XB,xN] at hp he<;>exact hp.symm⟩) hz hend hra h
          have hdd:a3.defers=[{ target:=.fn (.func g) cvs,args:=#[] }]:=d3.defers.trans hdf2
          cases ey with
          |normal=>cases he;show Leaves P fn a3.tmps _ a3.defers .returning w3;rw[hdd];exact hL
          |ret=>cases he;show Leaves P fn a3.tmps _ a3.defers .returning w3;rw[hdd];exact hL
          |exit id=>simp[XB] at hp
          |pan p=>simp[xN] at he
         ·simp only at hp'
          subst hp'
          simp only[XB,zm9] at hp
          subst hp
          have hL:=jo (fn:=fn) hm hS hC hF hg hgb hrec hres ht6 hu hcl hname pre.dm (f0.trans f3) (fun l b hl hb=>p0 l b hl (p3 l b hl hb)) r3 hH hl1 (by simp[cvs,hcsz]) (hcap f3) (hkeep f3 d3) (u:=.panicking [{ v,recovered:=false }]) (p:=p') (.inr ⟨v,rfl,hv⟩) hz hend hra h
          have hdd:a3.defers=[{ target:=.fn (.func g) cvs,args:=#[] }]:=d3.defers.trans hdf2
          show Leaves P fn a3.tmps _ a3.defers (.panicking [{ v,recovered:=false }]) w3
          rw[hdd]
          exact hL
theorem zhC (hm:P.follows .mixedOrders=true) (hS:SysOk P E) {yb:List (Nat×Func)} (we:∀ f fn,find yb f=some fn->P.funcs[f]? = some fn/\fn.body.isSome=true/\(fn.name == "runtime.NumGoroutine")=false) (Xq:KC P E) :
  ∀ k,xR P E (xz E yb k)/\∀ f args H r,xz E yb k f args H=some r->xH P f:=by
 intro k
 induction k with
 |zero=>exact ⟨fun f args H out H' h=>by simp[xz] at h,fun f args H r h=>by simp[xz] at h⟩
 |succ k ih=>
  obtain ⟨hC,hF⟩:=ih
  refine ⟨fun f args H out H' h G w vs pre=>?_,fun f args H r h=>?_⟩
  ·simp only[xz] at h
   cases hcl:find E.cln f with
   |some q=>simp only[hcl] at h;exact (Xq f q hcl).2 args H out H' h G w vs pre
   |none=>
   simp only[hcl] at h
   cases hff:find yb f with
   |none=>simp[hff] at h
   |some fn=>
    obtain ⟨g1,g2,g3⟩:=we f fn hff
    simp only[hff] at h
    cases hdf:find E.dfr f with
    |some g=>
     simp only[hdf] at h
     cases hgg:find yb g with
     |none=>simp[hgg] at h
     |some gn=>
      simp only[hgg,zm4] at h
      cases hdp:ZZ g fn gn with
      |none=>simp[hdp] at h
      |some d=>
       simp only[hdp,zm4] at h
       obtain ⟨k1,_,k3⟩:=we g gn hgg
       exact zhd hm hS hC hF g1 k1 k3 hdp h pre
    |none=>
    simp only[hdf] at h
    cases hb:fn.body with
    |none=>rw[hb] at g2;cases g2
    |some c=>
     simp only[hb] at h
     cases hx:zP E (xz E yb k) fn.ntmps f k 0 c ⟨fun t=>(args[t]?).getD .dead,H⟩ with
     |none=>simp[hx] at h
     |some y=>
      obtain ⟨ex,st1⟩:=y
      refine calls_of_wp g1 hb ?_
      have r0:=Jw pre fn.ntmps
      refine Xn hm hS hC hF (D:=fun _=>True) c 0 (N:=H.length) (fun _ _=>trivial) hx r0 (by simp;omega) (Nat.le_refl _) ⟨fun e he G1 a1 w1 f1 p1 r1 s1 d1=>?_,fun p hp G1 a1 w1 v s2 f1 p1 r1 hH s1 d1 hv=>?_⟩
      ·have fin:∀ {wsv:Option (List W×AV)},(wk E f fn.results.toList).run st1.start=wsv->(match wsv with|some (ws,a)=>wi H.length (.ret a) (st1.start.puts ws).H|none=>none)=some (out,H')->
         a1.defers=[]/\∃ v,(results fn a1.tmps).run P w1=.ok v w1/\wV P E G w H' out (.returned v) w1:=by
        intro wsv hres hlv
        cases wsv with
        |none=>cases hlv
        |some z=>
         obtain ⟨ws,v⟩:=z
         obtain ⟨G2,x,f2,p2,r2,e2,o2⟩:=qk hS r1 hres
         refine ⟨d1.defers,x,e2,?_⟩
         exact Qz pre.dm (f1.trans (f2.weaken xn X0_old)) (fun l b hl hb=>p1 l b hl (p2▸hb)) r2 hlv o2
       cases ex with
       |normal=>
        simp only[xN,zm9] at he
        subst he
        simp only[hx] at h
        exact fin rfl h
       |ret=>
        simp only[xN,zm9] at he
        subst he
        simp only[hx] at h
        exact fin rfl h
       |exit id=>simp[hx] at h
       |pan p=>simp[xN] at he
      ·simp only at hp
       subst hp
       simp only[hx] at h
       exact ⟨d1.defers,Qz pre.dm f1 p1 r1 (by rw[hH];exact h) (o:=.pan p) (e:=.panicked [{ v,recovered:=false }]) ⟨v,rfl,hv⟩⟩
  ·simp only[xz] at h
   cases hcl:find E.cln f with
   |some q=>exact (Xq f q hcl).1
   |none=>
   simp only[hcl] at h
   cases hff:find yb f with
   |none=>simp[hff] at h
   |some fn=>
    obtain ⟨g1,g2,g3⟩:=we f fn hff
    exact ⟨fn,g1,g2,g3⟩
end
section
variable {R:Type}
def RM.runK {α:Type}:RM α->(List Loc->List W->α->RS->Option R)->List Loc->List W->RS->Option R
 |.ret a,κ,lg,wa,s=>κ lg wa a s
 |.fail,_,_,_,_=>none
 |.rs t k,κ,lg,wa,s=>(k (s.sl t)).runK κ (.s t::lg) wa s
 |.rb l k,κ,lg,wa,s=>(k (s.H[l]?,s.mb l)).runK κ (.b l::lg) wa s
 |.rh k,κ,lg,wa,s=>(k s.H).runK κ (.h::lg) wa s
 |.wr w k,κ,lg,wa,s=>k.runK κ lg (w::wa) (s.put w)
 |.dyn o k,κ,lg,wa,s=>o.bind fun x=>(k x).runK κ lg wa s
 |.need b k,κ,lg,wa,s=>cond b (k.runK κ lg wa s) none
 |.alt b x y,κ,lg,wa,s=>cond b (x.runK κ lg wa s) (y.runK κ lg wa s)
 |.out o kr kp,κ,lg,wa,s=>zh o (fun a h=>(kr a h).runK κ lg wa s) (fun p h=>(kp p h).runK κ lg wa s)
theorem wl {α:Type}:∀ (m:RM α) (κ:List Loc->List W->α->RS->Option R) (lg:List Loc) (wa:List W) (s:RS),
  m.runK κ lg wa s=(m.run s).bind fun x=>κ ((m.log s).reverse++lg) (x.1.reverse++wa) x.2 (s.puts x.1)
 |.ret a,κ,lg,wa,s=>rfl
 |.fail,κ,lg,wa,s=>rfl
 |.rs t k,κ,lg,wa,s=>by simp only[RM.runK,RM.run,RM.log];rw[wl (k (s.sl t))];simp
 |.rb l k,κ,lg,wa,s=>by simp only[RM.runK,RM.run,RM.log];rw[wl (k (s.H[l]?,s.mb l))];simp
 |.rh k,κ,lg,wa,s=>by simp only[RM.runK,RM.run,RM.log];rw[wl (k s.H)];simp
 |.wr w k,κ,lg,wa,s=>by
  simp only[RM.runK,RM.run,RM.log]
  rw[wl k]
  cases k.run (s.put w) with
  |none=>rfl
  |some x=>obtain ⟨ws,a⟩:=x;simp[RS.puts]
 |.dyn o k,κ,lg,wa,s=>by
  cases o with
  |none=>rfl
  |some x=>exact wl (k x) κ lg wa s
 |.need b k,κ,lg,wa,s=>by
  cases b with
  |false=>rfl
  |true=>exact wl k κ lg wa s
 |.alt b x y,κ,lg,wa,s=>by
  cases b with
  |false=>exact wl y κ lg wa s
  |true=>exact wl x κ lg wa s
 |.out o kr kp,κ,lg,wa,s=>by
  cases o with
  |none=>rfl
  |some z=>
   obtain ⟨o,h⟩:=z
   cases o with
   |ret a=>exact wl (kr a h) κ lg wa s
   |pan p=>exact wl (kp p h) κ lg wa s
variable (E:Env) (cf:Nat->List AV->za->Option (Out×za))
def Kb (s:RS) (t:Nat) (b:Bool):RS:={ s with sl:=fun u=>if u=t then ⟨.pv (.v (.bool b)),(s.sl t).r,(s.sl t).m⟩ else s.sl u }
theorem zkZ {s:RS} {t:Nat} {b:Bool} (h:zY (s.sl t).a=some b):Kb s t b=s:=by
 refine RS.ext (fun u=>?_) rfl (fun _=>rfl)
 simp only[Kb]
 split
 ·rename_i hu;subst hu;rw[←Zj h]
 ·rfl
def Qp (ops:Array Oper) (o:Oper) (F:RS->Option R) (s:RS):Option R :=
 match o.guard with
 |none=>F s
 |some (j,_)=>match (ops[j]?).bind (·.dst) with
  |some t=>cond (Z2 (s.sl t).a) (F s) ((zY (s.sl t).a).bind fun b=>cond b (F (Kb s t true)) (F (Kb s t false)))
  |none=>none
theorem zan {E:Env} {cf:Nat->List AV->za->Option (Out×za)} {n:Nat} {ops:Array Oper} {pre:Option Nat} {o:Oper} {κ:List Loc->List W->Pn->RS->Option R} {s:RS} :
  Qp ops o (fun s=>(yK E cf n ops pre o).runK κ [] [] s) s=(yK E cf n ops pre o).runK κ [] [] s:=by
 unfold Qp
 split
 ·rfl
 ·rename_i j want hg
  split
  ·rename_i t hj
   cases hu:Z2 (s.sl t).a with
   |true=>rfl
   |false=>
   simp only[cond_false]
   cases hb:zY (s.sl t).a with
   |some b=>cases b<;>simp only[zm4,cond_true,cond_false]<;>rw[zkZ hb]
   |none=>
    simp only[Option.bind_none]
    unfold yK
    split
    ·simp only[hg,hj]
     rw[wl]
     cases hr:(do
      let c ←xb t
      need c.r.isNone
      if Z2 c.a then done o.dst .und
      else do
       let b ←zv (zY c.a)
       .alt (cond want b (!b)) (act E cf pre o) (done o.dst .und):RM Pn).run s with
     |none=>rfl
     |some x=>
      obtain ⟨x1,x2⟩:=x
      obtain ⟨u1,c,v1,h1,h2,rfl⟩:=zmR hr
      obtain ⟨rfl,rfl⟩:=yS h1
      obtain ⟨u2,_,v2,h3,h4,rfl⟩:=zmR h2
      rw[if_neg (by simp[hu])] at h4
      obtain ⟨u3,b,v3,h5,h6,rfl⟩:=zmR h4
      obtain ⟨_,hb'⟩:=zE h5
      rw[hb] at hb'
      cases hb'
    ·rfl
  ·rename_i hj
   unfold yK
   split
   ·simp only[hg,hj];rfl
   ·rfl
def WT (n:Nat) (ops:Array Oper) (κ:RS->Pn->Option R):List Nat->RS->Option R
 |[],s=>κ s none
 |i::r,s=>match ops[i]? with
  |none=>none
  |some o=>Qp ops o (fun q=>(yK E cf n ops none o).runK (fun _ _ pn z=>cond (decide (s.H.length<=z.H.length)) (match pn with
   |none=>WT n ops κ r z
   |some p=>κ z (some p)) none) [] [] q) s
theorem JX (n:Nat) (ops:Array Oper) (κ:RS->Pn->Option R):∀ (L:List Nat) (s:RS),WT E cf n ops κ L s=(xf E cf n ops L s).bind fun x=>κ x.1 x.2
 |[],s=>rfl
 |i::r,s=>by
  simp only[WT,xf]
  cases ops[i]? with
  |none=>rfl
  |some o=>
   simp only
   rw[zan,wl]
   cases (yK E cf n ops none o).run s with
   |none=>rfl
   |some x=>
    obtain ⟨ws,pn⟩:=x
    simp only[zm4]
    by_cases hl:s.H.length<=(s.puts ws).H.length
    ·cases pn with
     |none=>simp only[hl,decide_true,cond_true,if_true];exact JX n ops κ r _
     |some p=>simp only[hl,decide_true,cond_true,if_true];rfl
    ·cases pn<;>simp[hl]
def Vd (n:Nat) (ops:Array Oper) (plan:List (Nat×Nat)) (κ:List Tr->RS->Pn->Option R):List Tr->List Nat->RS->Option R
 |tr,[],s=>κ tr.reverse s none
 |tr,i::r,s=>match ops[i]? with
  |none=>none
  |some o=>Qp ops o (fun q=>(yK E cf n ops (find plan i) o).runK (fun lg wa pn z=>cond (wa.all yM) (match pn with
   |none=>Vd n ops plan κ (⟨i,lg.reverse,(wa.reverse).map W.loc⟩::tr) r z
   |some p=>κ ((⟨i,lg.reverse,(wa.reverse).map W.loc⟩:Tr)::tr).reverse z (some p)) none) [] [] q) s
theorem zcy (n:Nat) (ops:Array Oper) (plan:List (Nat×Nat)) (κ:List Tr->RS->Pn->Option R):∀ (L:List Nat) (tr:List Tr) (s:RS),Vd E cf n ops plan κ tr L s=(yA E cf n ops plan L s).bind fun x=>κ (tr.reverse++x.1) x.2.1 x.2.2
 |[],tr,s=>by simp[Vd,yA]
 |i::r,tr,s=>by
  simp only[Vd,yA]
  cases ops[i]? with
  |none=>rfl
  |some o=>
   simp only
   rw[zan,wl]
   cases (yK E cf n ops (find plan i) o).run s with
   |none=>rfl
   |some x=>
    obtain ⟨ws,pn⟩:=x
    simp only[zm4,List.append_nil,List.all_reverse,List.reverse_reverse]
    cases pn with
    |none=>
     simp only
     by_cases hs:ws.all yM=true
     ·simp only[hs,cond_true,if_true]
      rw[zcy n ops plan κ r]
      cases yA E cf n ops plan r (s.puts ws) with
      |none=>rfl
      |some y=>obtain ⟨tr',z⟩:=y;simp
     ·have hs':ws.all yM=false:=by simpa using hs
      simp[hs']
    |some p=>
     simp only
     by_cases hs:ws.all yM=true
     ·simp[hs]
     ·have hs':ws.all yM=false:=by simpa using hs
      simp[hs']
def Qd (n:Nat) (ops:Array Oper) (κ:RS->Pn->Option R) (s:St):Option R :=
 Vd E cf n ops (xt s.H.length ops.toList 0) (fun tr z pn=>cond (ZB ops (xt s.H.length ops.toList 0) tr pn) (κ z pn) none) [] (List.range ops.size) (Yz ops s)
theorem jx (n:Nat) (ops:Array Oper) (κ:RS->Pn->Option R) (s:St):Qd E cf n ops κ s=(xX E cf n ops s).bind fun x=>κ x.1 x.2:=by
 unfold Qd xX
 rw[zcy]
 cases yA E cf n ops (xt s.H.length ops.toList 0) (List.range ops.size) (Yz ops s) with
 |none=>rfl
 |some x=>
  obtain ⟨tr,z,pn⟩:=x
  simp only[zm4,List.reverse_nil,zm7]
  cases ZB ops (xt s.H.length ops.toList 0) tr pn<;>rfl
def XK (s:St) (c:Operand) (b:Bool):St:=match c with
 |.tmp t=>{ s with sl:=fun u=>if u=t then .pv (.v (.bool b)) else s.sl u }
 |_=>s
theorem Kc {s:St} {c:Operand} {b:Bool} (h:vK s c=some b):XK s c b=s:=by
 unfold XK
 split
 ·rename_i t
  have hs:s.sl t=.pv (.v (.bool b)):=Zj h
  cases s with
  |mk sl H=>
   simp only[St.mk.injEq,and_true]
   funext u
   split
   ·rename_i hu;subst hu;exact hs.symm
   ·rfl
 ·rfl
def Qu (F:(Ex×St->Option R)->St->Option R) (kp:St->St) (κ:Ex×St->Option R):Nat->St->Option R
 |0,_=>none
 |j+1,s=>F (fun r=>match r with
  |(.normal,s')=>Qu F kp κ j (kp s')
  |r=>κ r) s
def sub:Code->List Nat->Code
 |c,[]=>c
 |.seq x y,0::l=>sub x l
 |.seq x y,_::l=>sub y l
 |.cond _ x y,0::l=>sub x l
 |.cond _ x y,_::l=>sub y l
 |.block _ x,_::l=>sub x l
 |.scope x,_::l=>sub x l
 |.loop x,_::l=>sub x l
 |c,_=>c
def yf (F:(Ex×St->Option R)->St->Option R) (κ:Ex×St->Option R) (r:Ex×St):Option R :=
 match r with
 |(.normal,s')=>F κ s'
 |r=>κ r
def zQ (id:Nat) (κ:Ex×St->Option R) (r:Ex×St):Option R :=
 match r with
 |(.exit j,s')=>if j=id then κ (.normal,s') else κ (.exit j,s')
 |r=>κ r
def wB (n f k:Nat):Nat->Code->(Ex×St->Option R)->St->Option R
 |_,.skip,κ,s=>κ (.normal,s)
 |_,.label _,κ,s=>κ (.normal,s)
 |b,.scope x,κ,s=>wB n f k b x κ s
 |_,.region _ ops draw,κ,s=>match draw with
  |true=>Qd E cf n ops (fun z pn=>match pn with
   |none=>κ (.normal,z.stop)
   |some p=>κ (.pan p,z.stop)) s
  |false=>WT E cf n ops (fun z pn=>match pn with
   |none=>κ (.normal,z.stop)
   |some p=>κ (.pan p,z.stop)) (List.range ops.size) s.start
 |b,.seq x y,κ,s=>wB n f k b x (yf (wB n f k b y) κ) s
 |b,.cond c x y,κ,s=>(vK s c).bind fun t=>cond t (wB n f k b x κ (XK s c true)) (wB n f k b y κ (XK s c false))
 |_,.block id x,κ,s=>wB n f k id x (zQ id κ) s
 |b,.loop x,κ,s=>Qu (wB n f k b x) (zJ E f b s.H.length) κ k (zJ E f b s.H.length s)
 |_,.exit id,κ,s=>κ (.exit id,s)
 |_,.ret,κ,s=>κ (.ret,s)
 |_,_,_,_=>none
theorem zaz {F:(Ex×St->Option R)->St->Option R} {f:St->Option (Ex×St)} (hF:∀ κ s,F κ s=(f s).bind κ) (kp:St->St) (κ:Ex×St->Option R):∀ (j:Nat) (s:St),Qu F kp κ j (kp s)=(iter (fun s=>f (kp s)) j s).bind κ
 |0,s=>rfl
 |j+1,s=>by
  simp only[Qu,iter]
  rw[hF]
  cases f (kp s) with
  |none=>rfl
  |some r=>
   obtain ⟨ex,s'⟩:=r
   cases ex with
   |normal=>simp only[zm4];exact zaz hF kp κ j s'
   |_=>rfl
theorem jQ (n f k:Nat):∀ (c:Code) (b:Nat) (κ:Ex×St->Option R) (s:St),wB E cf n f k b c κ s=(zP E cf n f k b c s).bind κ:=by
 intro c
 induction c with
 |skip=>intro b κ s;rfl
 |label l=>intro b κ s;rfl
 |scope x ihx=>intro b κ s;exact ihx b κ s
 |exit id=>intro b κ s;rfl
 |ret=>intro b κ s;rfl
 |region id ops draw=>
  intro b κ s
  simp only[wB,zP]
  cases draw with
  |true=>
   simp only[if_true]
   rw[jx]
   cases xX E cf n ops s with
   |none=>rfl
   |some x=>obtain ⟨z,pn⟩:=x;cases pn<;>rfl
  |false=>
   simp only[Bool.false_eq_true,if_false]
   rw[JX]
   cases xf E cf n ops (List.range ops.size) s.start with
   |none=>rfl
   |some x=>obtain ⟨z,pn⟩:=x;cases pn<;>rfl
 |seq x y ihx ihy=>
  intro b κ s
  simp only[wB,zP]
  rw[ihx]
  cases zP E cf n f k b x s with
  |none=>rfl
  |some r=>
   obtain ⟨ex,s'⟩:=r
   cases ex with
   |normal=>exact ihy b κ s'
   |_=>rfl
 |cond c x y ihx ihy=>
  intro b κ s
  simp only[wB,zP]
  cases hb:vK s c with
  |none=>rfl
  |some t=>
   cases t with
   |true=>simp only[zm4,cond_true];rw[Kc hb];exact ihx b κ s
   |false=>simp only[zm4,cond_false];rw[Kc hb];exact ihy b κ s
 |block id x ihx=>
  intro b κ s
  simp only[wB,zP]
  rw[ihx]
  cases zP E cf n f k id x s with
  |none=>rfl
  |some r=>
   obtain ⟨ex,s'⟩:=r
   cases ex with
   |exit j=>
    simp only[zm4,zQ]
    split<;>rfl
   |_=>rfl
 |loop x ihx=>
  intro b κ s
  simp only[wB,zP]
  exact zaz (f:=zP E cf n f k b x) (fun κ s=>ihx b κ s) (zJ E f b s.H.length) κ k s
 |_=>intro b κ s;rfl
def z8 (f:Nat) (rs:List ResultVar) (m:Nat) (r:Ex×St):Option (Out×za) :=
 match r with
 |(.ret,s)=>(wk E f rs).runK (fun _ _ a z=>wi m (.ret a) z.H) [] [] s.start
 |(.normal,s)=>(wk E f rs).runK (fun _ _ a z=>wi m (.ret a) z.H) [] [] s.start
 |(.pan p,s)=>wi m (.pan p) s.H
 |_=>none
end
end Go.Proofs.YtjbjeeoifhegfaaGreatDoor.E
