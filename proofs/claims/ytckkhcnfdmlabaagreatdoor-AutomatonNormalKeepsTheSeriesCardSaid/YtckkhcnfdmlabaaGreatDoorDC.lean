import Derived.Test.YtckkhcnfdmlabaaGreatDoorDB
set_option linter.unusedVariables false
set_option linter.unusedSimpArgs false
noncomputable section
noncomputable section
namespace Fi.S
open Go Fi
set_option maxHeartbeats 8000000
set_option maxRecDepth 10000
theorem Mc (aw:Ca E1 1011 [] (.d (.v (.bool true)),none))(k cut:Int)(em:Bool)(st:Int)(li lf la word x:List Int)(kk:Int)(ps:List Int)(n:Int)(aZ fin es:List D)(N:D)(hN:∃ a b c d f g h,N=u7 a b c d f g h)(c:Nat)(hc:c<=es.length)(he:es.length<=1000)(q:W)
  (h1:Ca E1 15 [.d (.v (.int .i64 k))] (.d (bz kk ps),none)) (h2:Ca E1 1028 [.d (moD st li lf la),.d (bz kk ps),.d (.v (.int .i64 3)),.d (.v (.int .i64 4))] (.d (u7 kk ps 3 n aZ fin es),none))
  (h3:Ca E1 46 [.d (.v (.int .i64 cut)),.d (.v (.int .i64 ((es.length:Int)+1)))] (.d (.v (.int .i64 c)),none))
  (h4:Ca E1 1024 [.d (u7 kk ps 3 n aZ fin es)] (.d (.t [N,.v (.int .i64 0)]),none)) (h5:Ca E1 1024 [.d (u7 kk ps 3 n aZ fin (es.drop c++es.take c))] (.d (.t [N,.v (.int .i64 0)]),none)) (h6:Ca E1 1024 [.d N] (.d (.t [N,.v (.int .i64 0)]),none))
  (h7:Ca E1 1020 [.d N] (.d (.v (.bool true)),none)) (h8:Ca E1 1026 [.d N] (.d (.v (.bool true)),none)) (h9:Ca E1 1027 [.d N,.d N] (.d (.v (.bool true)),none))
  (h10:Ca E1 1018 [.d (.s 1 (LK .i64 word)),.d (.v (.int .i64 3)),.d (.v (.int .i64 4))] (.d (.s 1 (LK .i64 x)),none)) (h11:Ca E1 1022 [.d (u7 kk ps 3 n aZ fin es),.d (.s 1 (LK .i64 x))] (.d q.d,none)) (h12:Ca E1 1022 [.d N,.d (.s 1 (LK .i64 x))] (.d q.d,none))
  (h13:Ca E1 12 [.d q.d,.d q.d] (.d (.v (.bool true)),none)) :
  Ca E1 1006 [.d (.v (.int .i64 k)),.d (.a [.v (.int .i64 st),.s 1 (LK .i64 li),.s 1 (LK .i64 lf),.s 1 (LK .i64 la),.v (.bool em)]),.d (.s 1 (LK .i64 word)),.d (.v (.int .i64 cut))] (.d (.v (.bool true)),none):=by
 obtain⟨K,hK,t0,t1,t2,t3,t4,t5,t6,t7,t8,t9,t10,t11,t12,t13⟩:=(aw.j (h1.j (h2.j (h3.j (h4.j (h5.j (h6.j (h7.j (h8.j (h9.j (h10.j (h11.j (h12.j h13.any))))))))))))).at 0;refine Ca.bO (n:=K+400) ?_;rw[ak rfl (k1006:E1.fn _=_) rfl];obtain⟨qa,qb',qc',qd,qf,qg,qh,rfl⟩:=hN;obtain⟨qs',ql1,ql2,qc,qb,qu,qp,qq,eq⟩:=q.aM;simp only[eq]at*;clear h1 h2 h3 h4 h5 h6 h7 h8 h9 h10 h11 h12 h13 eq aw hK;unfold u7 moD bz wD at*;generalize LK .i64 word=l1,LK .i64 x=l2,LK .i64 li=l3,LK .i64 lf=l4,LK .i64 la=l5,LK .i64 qb'=l8,LK .i64 ps=l9 at*;have wl:ah .i64 ((es.length:Int)+1)=(es.length:Int)+1:=wrap_i64 (by omega);have hc0:(0:Int)<=(c:Int):=by omega
 have hcn:(c:Int)<=(es.length:Int):=by omega
 have tkd:List.take (es.length-c) (es.drop c)=es.drop c:=List.take_of_length_le (by simp);have tc:((c:Int)).toNat=c:=by omega
 have nl:es.length*152<=1099511627776:=by omega
 have dl:(es.drop c).length=es.length-c:=List.length_drop;have tl:(es.take c).length=c:=by rw[List.length_take];omega
 have dm:(es.length-c)*152<=1099511627776:=by omega
 have tm:c*152<=1099511627776:=by omega
 cases hd:es.drop c with
 | nil =>
  rw[hd]at tkd dl t5;have b0:es.length-c=0:=by simp at dl;omega
  cases ht:es.take c with
  | nil =>
   rw[ht]at t5;simp only[List.cons_append,List.nil_append,List.append_nil]at t5;simp (maxSteps:=2000000) -implicitDefEqProofs[f1006,t0,t1,t2,t3,t4,t5,t6,t7,t8,t9,t10,t11,t12,t13,tN,jo,Du,wl,hc,hc0,hcn,tkd,hd,ht,tc,most,ae.view,b0]
  | cons y r =>
   rw[ht]at tl t5;simp only[List.cons_append,List.nil_append]at t5;have b5:(r.length+1)*152<=1099511627776:=by simp at tl;omega
   have b6:r.length<=1099511627775:=by simp at tl;omega
   simp (maxSteps:=2000000) -implicitDefEqProofs[f1006,t0,t1,t2,t3,t4,t5,t6,t7,t8,t9,t10,t11,t12,t13,tN,jo,Du,wl,hc,hc0,hcn,tkd,hd,ht,tc,most,ae.view,b0,b5,b6]
 | cons d dr =>
  rw[hd]at tkd dl t5;have b1:(dr.length+1)*152<=1099511627776:=by simp at dl;omega
  have b2:dr.length<=1099511627775:=by simp at dl;omega
  cases ht:es.take c with
  | nil =>
   rw[ht]at t5;simp only[List.cons_append,List.nil_append,List.append_nil]at t5;simp (maxSteps:=2000000) -implicitDefEqProofs[f1006,t0,t1,t2,t3,t4,t5,t6,t7,t8,t9,t10,t11,t12,t13,tN,jo,Du,wl,hc,hc0,hcn,tkd,hd,ht,tc,most,ae.view,b1,b2]
  | cons y r =>
   rw[ht]at tl t5;simp only[List.cons_append,List.nil_append]at t5;have v1:dr.length+1+(r.length+1)<=dr.length+(r.length+1)+1:=by omega
   have v2:List.take (dr.length+1+(r.length+1)) (d::(dr++y::r))=d::(dr++y::r):=List.take_of_length_le (by simp;omega);have b3:(dr.length+1+(r.length+1))*152<=1099511627776:=by simp at dl tl;omega
   have b4:dr.length+1+(r.length+1)<=1099511627776:=by simp at dl tl;omega
   have b5:(r.length+1)*152<=1099511627776:=by simp at tl;omega
   have b6:r.length<=1099511627775:=by simp at tl;omega
   simp (maxSteps:=2000000) -implicitDefEqProofs[f1006,t0,t1,t2,t3,t4,t5,t6,t7,t8,t9,t10,t11,t12,t13,tN,jo,Du,wl,hc,hc0,hcn,tkd,hd,ht,tc,most,ae.view,b1,b2,b3,b4,b5,b6,v1,v2]
section norm
variable {kk:Int} {ps:List Int} (hv:aI kk ps=true) {sy n:Nat} {aZ fin:List (List Sv)}
structure Made (kk:Int)(ps:List Int)(sy n:Nat)(aZ fin:List (List Sv)):Prop where
 s1:1<=sy/\sy<=32
 n1:n<=64
 li:aZ.length=n
 lf:fin.length=n
 wi:∀ x ∈ aZ,Wt kk ps x
 wf:∀ x ∈ fin,Wt kk ps x
abbrev Yw (kk:Int)(ps:List Int)(sy n:Nat)(l:List (Ar (List Sv))):Prop:=l.length<=10/\∀ a ∈ l,Wt kk ps a.x/\(0<=a.f/\a.f<n)/\(1<=a.l/\a.l<=sy)/\(0<=a.t/\a.t<n)
variable (M:Made kk ps sy n aZ fin) {l:List (Ar (List Sv))} (hl:Yw kk ps sy n l)
include hv M hl
theorem Js:(∀ w ∈ aZ.map (bR kk),w.OK)/\(∀ w ∈ fin.map (bR kk),w.OK)/\∀ a ∈ l,(bR kk a.x).OK :=
 ⟨fun w hw=>by obtain⟨x,hx,rfl⟩:=List.mem_map.1 hw;exact(Jr hv (M.wi x hx)).1,fun w hw=>by obtain⟨x,hx,rfl⟩:=List.mem_map.1 hw;exact(Jr hv (M.wf x hx)).1,fun a ha=>(Jr hv (hl.2 a ha).1).1⟩
theorem CK:Ca E1 1026 [.d (Cb kk ps sy n (aZ.map (bR kk)) (fin.map (bR kk)) (bR kk) l)] (.d (.v (.bool true)),none)/\Ca E1 1020 [.d (Cb kk ps sy n (aZ.map (bR kk)) (fin.map (bR kk)) (bR kk) l)] (.d (.v (.bool true)),none):=by
 obtain⟨o1,o2,o3⟩:=Js hv M hl;have h1:=M.n1;have h2:=M.li;have h3:=M.lf;have h4:=hl.1;have a1:=Uu (e:=bR kk) kk ps sy n (aZ.map (bR kk)) (fin.map (bR kk)) l (uH hv) (by simp;omega) (by simp;omega) (by omega) o1 o2 o3;have a2:=F_ (e:=bR kk) kk ps sy n (aZ.map (bR kk)) (fin.map (bR kk)) l (uH hv) (by simp;omega) (by simp;omega) (by omega) o1 o2 o3;rw[P9 hv M.s1 M.n1 M.li M.lf M.wi M.wf (by omega) hl.2]at a1 a2;exact⟨a1,a2⟩
theorem rD:Ca E1 1024 [.d (Cb kk ps sy n (aZ.map (bR kk)) (fin.map (bR kk)) (bR kk) l)] (.d (.t [Cb kk ps sy n (aZ.map (bR kk)) (fin.map (bR kk)) (bR kk) (gy (bL (dx kk ps)) (DK kk ps) l),.v (.int .i64 0)]),none):=by
 have h1:=M.n1;have h2:=M.li;have h3:=M.lf;have h4:=hl.1;exact F9 (aht hv) sy n aZ fin l (uH hv) (by omega) (by omega) (by omega) (by omega) (fun x hx=>(M.wi x hx).gf) (fun x hx=>(M.wf x hx).gf) (fun a ha=>(hl.2 a ha).1.gf) (CK hv M hl).1
theorem P_:Ca E1 1027 [.d (Cb kk ps sy n (aZ.map (bR kk)) (fin.map (bR kk)) (bR kk) l),.d (Cb kk ps sy n (aZ.map (bR kk)) (fin.map (bR kk)) (bR kk) l)] (.d (.v (.bool true)),none):=by
 obtain⟨o1,o2,o3⟩:=Js hv M hl;have h1:=M.n1;have h2:=M.li;have h3:=M.lf;have h4:=hl.1;have:=LX (e:=bR kk) kk ps sy n (aZ.map (bR kk)) (fin.map (bR kk)) l kk ps sy n (aZ.map (bR kk)) (fin.map (bR kk)) l (uH hv) (uH hv) (by simp;omega) (by simp;omega) (by omega) (by simp;omega) (by simp;omega) (by omega) o1 o2 o3 o1 o2 o3;rw[Gb]at this;exact this
end norm
theorem U6 (k:Int)(em:Bool)(st:Int)(li lf la word:List Int)(cut:Int)(hk:fu k)(hli:∀ x ∈ li,fu x)(hlf:∀ x ∈ lf,fu x)(hla:∀ x ∈ la,fu x)(hw:∀ x ∈ word,fu x)(hcut:fu cut)(aw:Ca E1 1011 [] (.d (.v (.bool true)),none)) :
  Ca E1 1006 [.d (.v (.int .i64 k)),.d (.a [.v (.int .i64 st),.s 1 (LK .i64 li),.s 1 (LK .i64 lf),.s 1 (LK .i64 la),.v (.bool em)]),.d (.s 1 (LK .i64 word)),.d (.v (.int .i64 cut))] (.d (.v (.bool true)),none):=by
 have hv:=Lv k;have c1:=Ca.fG (XC k hk);generalize qY k=kk,yT k=ps at*;obtain⟨hn0,hn4⟩:=U3 st;have c2:=Yv hv st li lf la 3 (by omega) hli hlf hla;have hm:=Ma hv 3 (by omega) (stM st) hn0 la;have hlen:=P8 kk ps 3 (stM st) la;have l1:=Jp kk ps li 0 (stM st);have l2:=Jp kk ps lf (stM st-1) (stM st);have w1:∀ x ∈ zF kk ps li 0 (stM st),Wt kk ps x:=fun x hx=>by
  obtain⟨i,_,rfl⟩:=List.mem_map.1 hx;exact U0 hv li i 0
 have w2:∀ x ∈ zF kk ps lf (stM st-1) (stM st),Wt kk ps x:=fun x hx=>by
  obtain⟨i,_,rfl⟩:=List.mem_map.1 hx;exact U0 hv lf i _
 rw[show((3:Nat):Int)=3 from rfl]at hm;generalize zF kk ps li 0 (stM st)=aZ,zF kk ps lf (stM st-1) (stM st)=fin,wM kk ps 3 (stM st) la=l at*;generalize stM st=n at*;have M:Made kk ps 3 n aZ fin:=⟨by omega,by omega,l1,l2,w1,w2⟩
 have A:Gf (u_ (dx kk ps)) (bL (dx kk ps)) bq (bg kk ps) (EE kk ps):=Jm (aN hv);have hP:PA (u_ (dx kk ps)) l:=fun a ha=>((hm a ha).wt hv).gd
 have hL:Yw kk ps 3 n l:=⟨hlen,fun a ha=>⟨(hm a ha).wt hv,(hm a ha).f,(hm a ha).l,(hm a ha).t⟩⟩
 have hN:Yw kk ps 3 n (gy (bL (dx kk ps)) (DK kk ps) l):=⟨PL l 10 hlen,U5 hv hm hlen⟩
 have c3:=Ca.fG (iN cut ((l.length:Int)+1) hcut (by omega) (by omega));have r1:=Int.emod_nonneg cut (show(l.length:Int)+1≠0 by omega);have r2:=Int.emod_lt_of_pos cut (show(0:Int)<(l.length:Int)+1 by omega);obtain⟨c,hc⟩:∃ c:Nat,(c:Int)=cut % ((l.length:Int)+1):=⟨(cut % ((l.length:Int)+1)).toNat,by omega⟩
 rw[<-hc]at c3;have hcl:c<=l.length:=by omega
 have hp:(l.drop c++l.take c).Perm l:=by
  have:=List.perm_append_comm (l₁:=l.drop c) (l₂:=l.take c)
  rwa [List.take_append_drop]at this
 have hD:Yw kk ps 3 n (l.drop c++l.take c):=⟨by rw[hp.length_eq];exact hlen,fun a ha=>hL.2 a (hp.mem_iff.1 ha)⟩
 have n1:=rD hv M hL;have n2:=rD hv M hD;rw[L6 A (DK kk ps) hp (fun a ha=>hP a (hp.mem_iff.1 ha))]at n2;have n3:=rD hv M hN;rw[LZ]at n3;have hz:∀ x,u_ (dx kk ps) x->DK kk ps x=true->x=bg kk ps:=fun x hx h=>U4 hv hx h
 have q1:=EI hv 3 w1 w2 (fun a ha=>(hL.2 a ha).1) hlen (by omega) (by omega) (fun a ha=>by have:=(hL.2 a ha).2.2.2;omega) (nX 3 word) (EJ 3 word);have q2:=EI hv 3 w1 w2 (fun a ha=>(hN.2 a ha).1) hN.1 (by omega) (by omega) (fun a ha=>by have:=(hN.2 a ha).2.2.2;omega) (nX 3 word) (EJ 3 word);rw[Gj A hz (fun x hx=>(w2 x hx).gd) hP]at q2;obtain⟨q1,qo⟩:=q1;have q2:=q2.1;have vN:=CK hv M hN;have sN:=P_ hv M hN;generalize gy (bL (dx kk ps)) (DK kk ps) l=lN,yg (bL (dx kk ps)) bq (bg kk ps) aZ fin l (nX 3 word)=q at*;rw[l1]at q1 q2;have e1:(l.drop c++l.take c).map (Ar.d (bR kk))=(l.map (Ar.d (bR kk))).drop c++(l.map (Ar.d (bR kk))).take c:=by rw[List.map_append,List.map_drop,List.map_take]
 have el:(l.map (Ar.d (bR kk))).length=l.length:=by simp
 unfold Cb at c2 n1 n2 n3 q1 q2 vN sN;rw[e1]at n2;rw[<-el]at c3 hcl;exact Mc aw k cut em st li lf la word (nX 3 word) kk ps n _ _ _ _ ⟨_,_,_,_,_,_,_,rfl⟩ c hcl (by rw[el];omega) (bR kk q) c1 c2 c3 n1 n2 n3 vN.2 vN.1 sN (UY 3 (by omega) word hw) q1 q2 (XM hv (by omega) qo)
end Fi.S
