import Derived.Test.YtmchcjaomcdbmaaGreatAbsA
/- The machine's code and calls, sound for the model's runs; rules for proofs over it; how arguments come in. -/
set_option linter.all false
set_option linter.deprecated false
namespace Go.Proofs.YtmchcjaomcdbmaaGreat.Abs
open Go Go.RowKit
variable {P:Program} {B:Nat} {w:World} {μ:Mu} {g:G} {n:Nat} {K:Cont}
theorem VRs.mapEv {t:Env} {a:Act} {N:Nat} (he:EnvR μ N t a): ∀(xs:List Operand),(∀x∈xs,Zc4 x=true)→VRs μ (xs.map (ev t)) (xs.map a.eval)
 | [],_=> .nil
 | x::xs,h=> .cons (he.ev (h x (by simp))) (VRs.mapEv he xs fun y hy=>h y (by simp [hy]))
theorem Qew {t:Env} {a:Act} {N:Nat} (hs:Sim μ g n w B) (he:EnvR μ N t a) {c:Call} {f:Operand} {ty:TypeId} (hc:c.callee= .value f) (hok: ∀x∈c.operands.toList,Zc4 x=true)
  (h:Zbl (ZaU P) (ev t f) (c.args.toList.map (ev t)) g n K):Upon P B w μ K ((do let d ←resolve a.eval c ty;invoke d.target d.args:Sem Next).run P w):=by
 have hf:VR μ (ev t f) (a.eval f):=he.ev (hok f (by simp [Call.operands,hc]))
 unfold Zbl at h
 split at h
 ·rename_i fid xs ys hev
  rw [hev] at hf
  generalize hfv:a.eval f=fv at hf
  cases hf with
  | @func _ _ _ us vs h1 h2 h3 h4=>
   have hargs:VRs μ (c.args.toList.map (ev t)) (c.args.toList.map a.eval):=VRs.mapEv he _ fun x hx=>hok x (by simp only [Call.operands,Array.toList_append,List.mem_append];exact .inr hx)
   have hxs:VRs μ xs.toList us.toList:=VRs.of_get (by simpa using h1) fun i x y hx hy=>h3 i x y (by simpa using hx) (by simpa using hy)
   have hys:VRs μ ys.toList vs.toList:=VRs.of_get (by simpa using h2) fun i x y hx hy=>h4 i x y (by simpa using hx) (by simpa using hy)
   have:=h μ w B (us++c.args.map a.eval++vs) hs (by simpa using (hxs.append hargs).append hys)
   have e:((do let d ←resolve a.eval c ty;invoke d.target d.args:Sem Next).run P w)=(callFunc fid (us++c.args.map a.eval++vs)).run P w:=by
    simp [resolve,hc,hfv,Deferred.ofValue,invoke]
   rw [e];exact this
 ·exact h.elim
theorem upon_value {s:Sem Value} {v:Value} {w':World} (h:s.run P w= .ok v w') (hf:Fin B w μ K v w'):Upon P B w μ K ((do pure (.value (←s)):Sem Next).run P w):=by
 simp only [Sem.run_bind,h,Result.andThen_ok,Sem.run_pure];exact hf
theorem JbT {s:Sem Unit} {w':World} (h:s.run P w= .ok () w') (hf:Fin B w μ K undef w'):Upon P B w μ K ((do s;pure .skip:Sem Next).run P w):=by
 simp only [Sem.run_bind,h,Result.andThen_ok,Sem.run_pure];exact hf
theorem XgG {o:Oper} (h:o.op.operands.toList.all Zc4=true): ∀x∈o.op.operands.toList,Zc4 x=true:=List.all_eq_true.1 h
theorem Xcw {t:Env} {a:Act} {N:Nat} {o:Oper} (hs:Sim μ g n w B) (he:EnvR μ N t a) (h:aop P (ZaU P) o t g n K):Upon P B w μ K ((execOp a.eval o).run P w):=by
 unfold aop at h
 split at h
 ·exact h.elim
 rename_i hok
 have hok:=XgG hok
 obtain ⟨dst,op,ty,pos,after,guard⟩:=o
 simp only at h hok
 cases op with
 | move x=>exact Zi hs (he.ev (hok x (by simp [Op.operands]))) h
 | assign x=>exact Zi hs (he.ev (hok x (by simp [Op.operands]))) h
 | pick c x y=>
  obtain ⟨b,hb,h⟩:=Jdq h
  have hc:=he.ev (hok c (by simp [Op.operands]))
  rw [hb] at hc
  have hcv:a.eval c= .bool b:=by cases hcc:a.eval c<;>rw [hcc] at hc<;>cases hc;rfl
  have hx:=he.ev (hok x (by simp [Op.operands]))
  have hy:=he.ev (hok y (by simp [Op.operands]))
  simp only [execOp,hcv,asBool,Sem.run_bind,Sem.run_pure,Result.andThen_ok]
  cases b
  ·exact Zi hs hy h
  ·exact Zi hs hx h
 | alloc e=>
  obtain ⟨v,w',h1,h2⟩:=ZdS hs h
  exact upon_value h1 h2
 | box e x=>
  obtain ⟨v,w',h1,h2⟩:=XeS hs (he.ev (hok x (by simp [Op.operands]))) h
  exact upon_value h1 h2
 | build ty parts=>
  obtain ⟨v,h1,h2⟩:=ZdX (P:=P) hs he (by intro x hx;exact hok x.2 (by simp only [Op.operands];simp;exact ⟨x.1,by simpa using hx⟩)) h
  exact upon_value h1 h2
 | buildSlice ty len parts=>
  simp only at h
  split at h
  ·rename_i e hu
   obtain ⟨v,w',h1,h2⟩:=Xcg (P:=P) hs he (by intro x hx;exact hok x.2 (by simp only [Op.operands];simp;exact ⟨x.1,by simpa using hx⟩)) hu h
   exact upon_value h1 h2
  ·exact h.elim
 | load ty x=>
  obtain ⟨v,h1,h2⟩:=Jer (P:=P) hs (he.ev (hok x (by simp [Op.operands]))) h
  exact upon_value h1 h2
 | store ty x y=>
  obtain ⟨w',h1,h2⟩:=Jd2 (P:=P) hs (he.ev (hok x (by simp [Op.operands]))) (he.ev (hok y (by simp [Op.operands]))) h
  exact JbT h1 h2
 | nilCheck x=>
  have hx:=he.ev (hok x (by simp [Op.operands]))
  simp only [Qo] at h
  split at h
  all_goals first|exact h.elim|skip
  all_goals
   rename_i hv
   rw [hv] at hx
   cases hxx:a.eval x<;>rw [hxx] at hx<;>first|(cases hx;done)|skip
   simp only [execOp,hxx]
  ·cases hx with
   | ptr o hm=>exact Zi hs (.ptr o hm) h
  ·cases hx with
   | func _ h1 h2 h3 h4=>exact Zi hs (.func _ h1 h2 h3 h4) h
  ·exact Zi hs hx h
  ·exact Zi hs hx h
  ·exact Zi hs hx h
 | binOp op xt x y yt=>
  obtain ⟨v,h1,h2,h3⟩:=Xfo (P:=P) (w:=w) (X:=x) (Y:=y) (he.ev (hok x (by simp [Op.operands]))) (he.ev (hok y (by simp [Op.operands]))) h
  exact upon_value h1 (Zi hs h2 h3)
 | unOp op xt x=>
  obtain ⟨v,h1,h2,h3⟩:=ZfA (P:=P) (w:=w) (he.ev (hok x (by simp [Op.operands]))) h
  exact upon_value h1 (Zi hs h2 h3)
 | convert src dst x=>
  simp only at h
  split at h
  ·rename_i d k hu1 hu2
   obtain ⟨v,h1,h2,h3⟩:=Xep (P:=P) (w:=w) hu1 hu2 (he.ev (hok x (by simp [Op.operands]))) h
   exact upon_value h1 (Zi hs h2 h3)
  ·exact h.elim
 | makeFunc fn first captured=>
  refine Zi hs ?_ h
  refine .func fn (by simp) (by simp) ?_ ?_
  ·intro i x y hx hy
   rw [Array.getElem?_map] at hx hy
   cases hf:first[i]? with
   | none=>simp [hf] at hx
   | some q=>
    simp [hf] at hx hy
    subst hx;subst hy
    exact he.ev (hok q (by simp only [Op.operands,Array.toList_append,List.mem_append];exact .inl (by simpa using Array.mem_of_getElem? hf)))
  ·intro i x y hx hy
   rw [Array.getElem?_map] at hx hy
   cases hf:captured[i]? with
   | none=>simp [hf] at hx
   | some q=>
    simp [hf] at hx hy
    subst hx;subst hy
    exact he.ev (hok q (by simp only [Op.operands,Array.toList_append,List.mem_append];exact .inr (by simpa using Array.mem_of_getElem? hf)))
 | makeSlice ty l c=>
  simp only at h
  split at h
  ·rename_i e hu
   obtain ⟨i,z,hi,hz,hp,_,hzs,h⟩:=Zak h
   obtain ⟨v,w',h1,h2⟩:=Qeu (P:=P) hu hi hz hp hzs hs (he.ev (hok l (by simp [Op.operands]))) (he.ev (hok c (by simp [Op.operands]))) h
   exact upon_value h1 h2
  ·exact h.elim
 | slice ty x lo hi mx=>
  simp only at h
  split at h
  ·rename_i e hu hform
   obtain ⟨i,hi',h⟩:=Xau h
   obtain ⟨v,v',h1,h2,h3⟩:=ZdN (P:=P) (w:=w) hu hi' (he.ev (hok x (by simp [Op.operands])))
    (XeV he lo (fun o ho=>hok o (by subst ho;simp [Op.operands]))) (XeV he hi (fun o ho=>hok o (by subst ho;simp [Op.operands]))) (XeV he mx (fun o ho=>hok o (by subst ho;simp [Op.operands])))
    (by intro h1 h2;cases hi<;>cases mx<;>simp_all) h
   exact upon_value h1 (Zi hs h2 h3)
  ·exact h.elim
 | fieldAddr s x f=>
  simp only at h
  split at h
  ·rename_i fs hu
   split at h
   ·rename_i fd hf
    obtain ⟨i,hi,h⟩:=Xau h
    split at h
    ·exact h.elim
    ·rename_i hz
     obtain ⟨v,v',h1,h2,h3⟩:=Qcz (P:=P) (w:=w) hu hf hi (by simpa using hz) (he.ev (hok x (by simp [Op.operands]))) h
     exact upon_value h1 (Zi hs h2 h3)
   ·exact h.elim
  ·exact h.elim
 | field xt x f=>
  simp only at h
  split at h
  ·rename_i fs hu
   split at h
   ·rename_i fd hf
    obtain ⟨v,v',h1,h2,h3⟩:=XdL (P:=P) (w:=w) hu hf (he.ev (hok x (by simp [Op.operands]))) h
    exact upon_value h1 (Zi hs h2 h3)
   ·exact h.elim
  ·exact h.elim
 | indexAddr ty x i=>
  simp only at h
  split at h
  ·rename_i e hu
   obtain ⟨inf,hi,h⟩:=Xau h
   obtain ⟨v,v',h1,h2,h3⟩:=JcL (P:=P) (w:=w) hu hi (he.ev (hok x (by simp [Op.operands]))) (he.ev (hok i (by simp [Op.operands]))) h
   exact upon_value h1 (Zi hs h2 h3)
  ·rename_i len e hu
   obtain ⟨inf,hi,h⟩:=Xau h
   obtain ⟨v,v',h1,h2,h3⟩:=QcO (P:=P) (w:=w) hu hi (he.ev (hok x (by simp [Op.operands]))) (he.ev (hok i (by simp [Op.operands]))) h
   exact upon_value h1 (Zi hs h2 h3)
  ·exact h.elim
 | index xt x i=>
  simp only at h
  split at h
  ·rename_i len e hu
   obtain ⟨inf,hi,h⟩:=Xau h
   obtain ⟨v,v',h1,h2,h3⟩:=JdX (P:=P) (w:=w) hu hi (he.ev (hok x (by simp [Op.operands]))) (he.ev (hok i (by simp [Op.operands]))) h
   exact upon_value h1 (Zi hs h2 h3)
  ·rename_i hu
   obtain ⟨v,v',h1,h2,h3⟩:=Qdp (P:=P) (w:=w) hu (he.ev (hok x (by simp [Op.operands]))) (he.ev (hok i (by simp [Op.operands]))) h
   exact upon_value h1 (Zi hs h2 h3)
  ·exact h.elim
 | extract x i=>
  obtain ⟨v,v',h1,h2,h3⟩:=Zdl (P:=P) (w:=w) (he.ev (hok x (by simp [Op.operands]))) h
  exact upon_value h1 (Zi hs h2 h3)
 | call c=>
  simp only at h
  split at h
  ·rename_i f hc
   exact Qew hs he hc (fun x hx=>hok x (by simpa [Op.operands] using hx)) h
  ·exact h.elim
  ·rename_i b hc
   have hargs: ∀x∈c.args.toList,Zc4 x=true:=fun x hx=>hok x (by simp only [Op.operands,Call.operands,Array.toList_append,List.mem_append];exact .inr hx)
   have get: ∀(i:Nat) (x:Operand),c.args.toList[i]? =some x→(c.args.map a.eval)[i]? =some (a.eval x):=by
    intro i x hx
    rw [Array.getElem?_map]
    have:c.args[i]? =some x:=by simpa using hx
    simp [this]
   have gty: ∀(i:Nat) (x:TypeId),c.argTypes.toList[i]? =some x→c.argTypes[i]? =some x:=fun i x hx=>by simpa using hx
   have run: ∀(s:Array TypeId→TypeId→Array Value→Sem Value),(∀consts args,builtin b c.argTypes ty consts args=(do pure (.value (←s c.argTypes ty args))))→ ∀v w',(s c.argTypes ty (c.args.map a.eval)).run P w= .ok v w'→Fin B w μ K v w'→
     Upon P B w μ K ((execOp a.eval { dst:=dst,op:= .call c,type:=ty,pos:=pos,after:=after,guard:=guard }).run P w):=by
    intro s hs2 v w' h1 h2
    have e:(execOp a.eval { dst:=dst,op:= .call c,type:=ty,pos:=pos,after:=after,guard:=guard })=(do pure (.value (←s c.argTypes ty (c.args.map a.eval))):Sem Next):=by
     simp [execOp,resolve,hc,invoke,hs2]
    rw [e]
    exact upon_value h1 h2
   split at h
   ·rename_i x r1 ty1 r2 ha ht
    split at h
    ·rename_i e hu
     obtain ⟨v,h1,h2,h3⟩:=Xff (P:=P) (w:=w) (ty:=ty) (gty 0 ty1 (by rw [ht];rfl)) hu _ (he.ev (hargs x (by rw [ha];simp))) (get 0 x (by rw [ha];rfl)) h
     exact run _ (fun _ _=>rfl) v w h1 (Zi hs h2 h3)
    ·rename_i len e hu
     refine run Builtin.len_ (fun _ _=>rfl) (.int .i64 len) w ?_ (Zi hs (.int _ _) h)
     have h0:=gty 0 ty1 (by rw [ht];rfl)
     have h1:=get 0 x (by rw [ha];rfl)
     simp [Builtin.len_,h0,goInt]
     rw [Array.getElem?_map] at h1
     cases hc0:c.args[0]? with
     | none=>simp [hc0] at h1
     | some q=>simp [run_underlying hu]
    ·rename_i hu
     obtain ⟨v,h1,h2,h3⟩:=ZeG (P:=P) (w:=w) (ty:=ty) (gty 0 ty1 (by rw [ht];rfl)) hu _ (he.ev (hargs x (by rw [ha];simp))) (get 0 x (by rw [ha];rfl)) h
     exact run _ (fun _ _=>rfl) v w h1 (Zi hs h2 h3)
    ·exact h.elim
   ·rename_i s x r1 ty1 ty2 r2 ha ht
    split at h
    ·rename_i e e' hu hux
     obtain ⟨i,z,hi,hz,hp,_,hzs,h⟩:=Zak h
     rw [Array.length_toList,hzs] at h
     obtain ⟨v,w',h1,h2⟩:=Jdt (P:=P) (ty:=ty) (gty 0 ty1 (by rw [ht];rfl)) (gty 1 ty2 (by rw [ht];rfl)) hu hux hi hz hzs hs (he.ev (hargs s (by rw [ha];simp))) (he.ev (hargs x (by rw [ha];simp))) _ (get 0 s (by rw [ha];rfl)) (get 1 x (by rw [ha];rfl)) h
     exact run _ (fun _ _=>rfl) v w' h1 h2
    ·rename_i e kX hu hux
     obtain ⟨i,z,hi,hz,hp,_,hzs,h⟩:=Zak h
     obtain ⟨v,w',h1,h2⟩:=Qde (P:=P) (ty:=ty) (gty 0 ty1 (by rw [ht];rfl)) (gty 1 ty2 (by rw [ht];rfl)) hu hux hi hz hp hzs hs (he.ev (hargs s (by rw [ha];simp))) (he.ev (hargs x (by rw [ha];simp))) _ (get 0 s (by rw [ha];rfl)) (get 1 x (by rw [ha];rfl)) h
     exact run _ (fun _ _=>rfl) v w' h1 h2
    ·exact h.elim
   ·rename_i d s r1 ty1 r2 ha ht
    split at h
    ·rename_i e hu
     obtain ⟨i,hi,h⟩:=Xau h
     obtain ⟨v,w',h1,h2⟩:=QeI (P:=P) (ty:=ty) (gty 0 ty1 (by rw [ht];rfl)) hu hi hs (he.ev (hargs d (by rw [ha];simp))) (he.ev (hargs s (by rw [ha];simp))) _ (get 0 d (by rw [ha];rfl)) (get 1 s (by rw [ha];rfl)) h
     exact run _ (fun _ _=>rfl) v w' h1 h2
    ·exact h.elim
   ·rename_i x r1 ty1 r2 ha ht
    split at h
    ·rename_i e hu
     obtain ⟨i,z,hi,hz,hp,_,hzs,h⟩:=Zak h
     obtain ⟨v,w',h1,h2⟩:=QdO (P:=P) (ty:=ty) (gty 0 ty1 (by rw [ht];rfl)) hu hi hz hp hs (he.ev (hargs x (by rw [ha];simp))) _ (get 0 x (by rw [ha];rfl)) h
     exact run _ (fun _ _=>rfl) v w' h1 h2
    ·exact h.elim
   ·obtain ⟨s,hs2,v,v',h1,h2,h3⟩:=Jew (P:=P) (w:=w) (ty:=ty) (cvs:=c.args.map a.eval) (by simpa using VRs.mapEv he _ hargs) h
    exact run s hs2 v' w h1 (Zi hs h2 h3)
 | makeMap mt r=>
  cases r with
  | none=>
   refine upon_value (v:= .map (some w.heap.size)) (w':=w.alloc (.map #[] 0)) ?_ (Zce hs h)
   simp [Instr.makeMap]
  | some x=>
   simp only at h
   split at h
   ·rename_i kt e hu
    obtain ⟨k,j,hv,h⟩:=Xa2 h
    have hx:=he.ev (hok x (by simp [Op.operands]))
    rw [hv] at hx
    have hxx:a.eval x= .int k j:=by cases hxx:a.eval x<;>rw [hxx] at hx<;>cases hx;rfl
    refine upon_value (v:= .map (some w.heap.size)) (w':=w.alloc (.map #[] 0)) ?_ (Zce hs h)
    simp [Instr.makeMap,run_underlying hu,hxx,asInt,asIntOf]
   ·exact h.elim
 | lookup xt x i ok=>
  obtain ⟨kt,kk,e,hu,hk,h⟩:=QbW h
  obtain ⟨inf,z,hi,hz,hp,h⟩:=QdA h
  obtain ⟨v,v',h1,h2,h3⟩:=JdA (P:=P) hu hk hi hz hp hs (he.ev (hok x (by simp [Op.operands]))) (he.ev (hok i (by simp [Op.operands]))) h
  exact upon_value h1 (Zi hs h2 h3)
 | mapUpdate mt x y z=>
  obtain ⟨kt,kk,e,hu,hk,h⟩:=QbW h
  obtain ⟨w',h1,h2⟩:=Jca (P:=P) hu hk hs (he.ev (hok x (by simp [Op.operands]))) (he.ev (hok y (by simp [Op.operands]))) (he.ev (hok z (by simp [Op.operands]))) h
  exact JbT h1 h2
 | insert mt x y z=>
  obtain ⟨kt,kk,e,hu,hk,h⟩:=QbW h
  obtain ⟨w',h1,h2⟩:=Jca (P:=P) hu hk hs (he.ev (hok x (by simp [Op.operands]))) (he.ev (hok y (by simp [Op.operands]))) (he.ev (hok z (by simp [Op.operands]))) h
  exact JbT h1 h2
 | mapEntry mt x y=>
  obtain ⟨kt,kk,e,hu,hk,h⟩:=QbW h
  obtain ⟨inf,z,hi,hz,hp,h⟩:=QdA h
  obtain ⟨v,w',h1,h2⟩:=JcM (P:=P) hu hk hi hz hp hs (he.ev (hok x (by simp [Op.operands]))) (he.ev (hok y (by simp [Op.operands]))) h
  exact upon_value h1 h2
 | entryStore mt x y z=>
  obtain ⟨w',h1,h2⟩:=Qci (P:=P) (ty:=mt) hs (he.ev (hok x (by simp [Op.operands]))) (he.ev (hok y (by simp [Op.operands]))) (he.ev (hok z (by simp [Op.operands]))) h
  exact JbT h1 h2
 | range xt x=>
  simp only at h
  split at h
  ·rename_i kt e hu
   obtain ⟨v,w',h1,h2⟩:=QdR (P:=P) hu hs (he.ev (hok x (by simp [Op.operands]))) h
   exact upon_value h1 h2
  ·exact h.elim
 | next x b=>
  cases b with
  | true=>exact h.elim
  | false=>
   obtain ⟨v,w',h1,h2⟩:=QeB (P:=P) (ty:=ty) hs (he.ev (hok x (by simp [Op.operands]))) h
   exact upon_value h1 h2
 | entry x=>
  obtain ⟨v,v',h1,h2,h3⟩:=QdP (P:=P) hs (he.ev (hok x (by simp [Op.operands]))) h
  exact upon_value h1 (Zi hs h2 h3)
 | _=>exact h.elim
end Go.Proofs.YtmchcjaomcdbmaaGreat.Abs
namespace Go.Proofs.YtmchcjaomcdbmaaGreat.Abs
open Go Go.RowKit
variable {D:List Deferred} {P:Program} {B:Nat} {w:World} {μ:Mu} {g:G} {n:Nat}
abbrev Qn:=Env→G→Nat→Prop
abbrev JaH:=Exit→Env→G→Nat→Prop
def Qa (v:Value) (A B:Prop):Prop:=match v with| .bool true=>A| .bool false=>B|_=>False
def Jcc (gd:Bool) (t:Env) (dst:Option Tmp) (v:Value) (K:Env→Prop):Prop:=
 match gd with
 | true=>Qa v (K (put t dst (.bool true))) (K (put t dst (.bool false)))
 | false=>K (put t dst v)
def guarded (ops:List Oper) (i:Nat):Bool:=ops.any fun o=>match o.guard with|some (j,_)=>j==i|none=>false
def Xx (ops:Array Oper) (o:Oper) (t:Env) (A B:Prop):Prop:=
 match o.guard with
 | none=>A
 | some (j,want)=>match (ops[j]?).bind (·.dst) with
  | some d=>match t d with
   | .bool b=>bif b==want then A else B
   | .tuple _=>B
   | _=>False
  | none=>False
def JcD (N:Nat) (d:Option Tmp):Bool:=match d with|some d=>decide (d<N)|none=>true
def Xd3 (P:Program) (C:CT) (N:Nat) (ops:Array Oper) (K:Qn):List Oper→Nat→Env→G→Nat→Prop
 | [],_,t,g,n=>K t g n
 | o::rest,i,t,g,n=>
  match JcD N o.dst with
  | false=>False
  | true=>
   Xx ops o t
    (aop P C o t g n fun v g n=>Jcc (guarded rest i) t o.dst v fun t=>Xd3 P C N ops K rest (i+1) t g n)
    (Xd3 P C N ops K rest (i+1) (put t o.dst undef) g n)
def LiftE (D:List Deferred) (B N:Nat) (w:World) (μ:Mu) (K:Qn) (a:Act) (w':World):Prop:=
 ∃t g n μ',K t g n∧Sim μ' g n w' B∧EnvR μ' N t a∧a.defers=D∧Ext μ μ'∧Below B w w'
def LiftQ (D:List Deferred) (B N:Nat) (w:World) (μ:Mu) (Q:JaH) (e:Exit) (a:Act) (w':World):Prop:=
 match e with
 | .outgrown=>False
 | .panic _=>False
 | e=>LiftE D B N w μ (Q e) a w'
theorem LiftE.mono {N:Nat} {w0:World} {μ0:Mu} {K K':Qn} {a:Act} {w':World} (h:LiftE D B N w μ K a w') (hk: ∀t g n,K t g n→K' t g n) (hx:Ext μ0 μ) (hb:Below B w0 w):LiftE D B N w0 μ0 K' a w':=by
 obtain ⟨t,g,n,μ',k,s,e,d,x,b⟩:=h
 exact ⟨t,g,n,μ',hk _ _ _ k,s,e,d,hx.trans x,hb.trans b⟩
theorem LiftQ.mono {N:Nat} {w0:World} {μ0:Mu} {Q Q':JaH} {e:Exit} {a:Act} {w':World} (h:LiftQ D B N w μ Q e a w') (hk: ∀e t g n,Q e t g n→Q' e t g n) (hx:Ext μ0 μ) (hb:Below B w0 w):LiftQ D B N w0 μ0 Q' e a w':=by
 cases e<;>simp only [LiftQ] at h ⊢ <;>exact LiftE.mono h (hk _) hx hb
theorem QcH {t:Env} {dst:Option Tmp} {v:Value} {gd:Bool} {K:Env→Prop} (h:Jcc gd t dst v K):K (put t dst v):=by
 cases gd with
 | false=>exact h
 | true=>
  simp only [Jcc,Qa] at h
  split at h
  ·exact h
  ·exact h
  ·exact h.elim
theorem QaA {N:Nat} {ops:Array Oper} {o:Oper} {t:Env} {a:Act} (he:EnvR μ N t a) {X Y:Prop} (h:Xx ops o t X Y)
  (hd: ∀(j:Nat) (o:Oper) (d:Nat),ops[j]? =some o→o.dst=some d→d<N):(Region.wanted o (yielded ops a.tmps)=true∧X)∨(Region.wanted o (yielded ops a.tmps)=false∧Y):=by
 unfold Xx at h
 split at h
 ·rename_i hg;exact .inl ⟨by simp [Region.wanted,hg],h⟩
 ·rename_i j want hg
  split at h
  ·rename_i d hj
   split at h
   ·rename_i b hb
    have hr:=he.rel d
    rw [hb] at hr
    obtain ⟨oj,hoj,hdst⟩:=Option.bind_eq_some_iff.1 hj
    have hlt:d<a.tmps.size:=by rw [he.size];exact hd j oj d hoj hdst
    have hv:a.tmps[d]? =some (.bool b):=by
     have e:a.tmps.getD d undef=a.tmps[d]:=by simp [Array.getD,hlt]
     rw [e] at hr
     rw [Array.getElem?_eq_getElem hlt]
     generalize a.tmps[d]=v at hr ⊢
     cases hr;rfl
    have hy:yielded ops a.tmps j=some b:=by simp [yielded,hj,hv]
    have hw:Region.wanted o (yielded ops a.tmps)=(b==want):=by simp [Region.wanted,hg,hy]
    cases hbw:(b==want) with
    | true=>rw [hbw] at h;exact .inl ⟨by rw [hw,hbw],h⟩
    | false=>rw [hbw] at h;exact .inr ⟨by rw [hw,hbw],h⟩
   ·rename_i xs hb
    have hr:=he.rel d
    rw [hb] at hr
    obtain ⟨oj,hoj,hdst⟩:=Option.bind_eq_some_iff.1 hj
    have hlt:d<a.tmps.size:=by rw [he.size];exact hd j oj d hoj hdst
    have hv: ∃ys,a.tmps[d]? =some (.tuple ys):=by
     have e:a.tmps.getD d undef=a.tmps[d]:=by simp [Array.getD,hlt]
     rw [e] at hr
     rw [Array.getElem?_eq_getElem hlt]
     generalize a.tmps[d]=v at hr ⊢
     cases hr;exact ⟨_,rfl⟩
    obtain ⟨ys,hv⟩:=hv
    have hy:yielded ops a.tmps j=none:=by simp [yielded,hj,hv]
    exact .inr ⟨by simp [Region.wanted,hg,hy],h⟩
   ·exact h.elim
  ·exact h.elim
theorem Jcx {N:Nat} {QQ:Exit→Act→World→Prop} {o:Oper} {t:Env} {a:Act} {K:Cont} (he:EnvR μ N t a) (hd:a.defers=D) (hdst: ∀i,o.dst=some i→i<N) (r:Result Next) (h:Upon P B w μ K r)
  (next:Act→World→Prop) (hnext: ∀(v v':Value) (g:G) (n:Nat) (μ':Mu) (w':World),K v g n→VR μ' v v'→Sim μ' g n w' B→Ext μ μ'→Below B w w'→next (a.put o.dst v') w'):
  o.upon P a next QQ r:=by
 cases r with
 | halt x w'=>exact h.elim
 | ok x w'=>
  cases x<;>simp only [Upon] at h<;>first|exact h.elim|skip
  ·obtain ⟨v,g,n,μ',k,r,s,x,b⟩:=h
   exact hnext v _ g n μ' w' k r s x b
  ·obtain ⟨v,g,n,μ',k,r,s,x,b⟩:=h
   exact hnext v _ g n μ' w' k r s x b
  ·simp only [Oper.upon]
   refine Calls.mono h fun e w'' he=> ?_
   cases e with
   | returned v'=>
    obtain ⟨v,g,n,μ',k,r,s,x,b⟩:=he
    exact hnext v _ g n μ' w'' k r s x b
   | panicked c=>exact he.elim
   | outgrown=>exact he.elim
  ·simp only [Oper.upon]
   refine Rows.mono h fun v' w'' he=> ?_
   obtain ⟨v,g,n,μ',k,r,s,x,b⟩:=he
   exact hnext v _ g n μ' w'' k r s x b
theorem Jev {Q Q':Exit→Act→World→Prop} (hq: ∀e a w,Q e a w→Q' e a w) {next next':Act→World→Prop} (hn: ∀a w,next a w→next' a w) {o:Oper} {a:Act} {r:Result Next} (h:o.upon P a next Q r):o.upon P a next' Q' r:=by
 cases r with
 | ok x w'=>
  cases x<;>simp only [Oper.upon] at h ⊢ <;>first
   | exact hn _ _ h
   | exact Calls.mono h (fun e w'' he=>by cases e<;>first|exact hn _ _ he|exact hq _ _ _ he|(obtain ⟨a,w,q⟩:=he;exact ⟨a,w,hq _ _ _ q⟩))
   | exact Rows.mono h (fun _ _ he=>hn _ _ he)
 | halt x w'=>cases x<;>simp only [Oper.upon] at h ⊢ <;>exact hq _ _ _ h
theorem Zbh {ops:Array Oper} {Q Q':Exit→Act→World→Prop} (hq: ∀e a w,Q e a w→Q' e a w): ∀(l:List Oper) (a:Act) (w:World),wpList P ops Q l a w→wpList P ops Q' l a w
 | [],a,w,h=>hq _ _ _ h
 | o::rest,a,w,h=>by
  unfold wpList at h ⊢
  split
  ·rename_i hw
   rw [if_pos hw] at h
   rcases h with h|⟨h,hl⟩
   ·exact .inl (Jev hq (fun a w=>Zbh hq rest a w) h)
   ·obtain ⟨a,w,q⟩:=hl;exact .inr ⟨h,a,w,hq _ _ _ q⟩
  ·rename_i hw
   rw [if_neg hw] at h
   exact Zbh hq rest _ _ h
theorem JcX {N:Nat} {ops:Array Oper} {K:Qn} {Q:JaH} (hQ: ∀t g n,K t g n→Q .normal t g n) (hall: ∀(j:Nat) (o:Oper) (d:Nat),ops[j]? =some o→o.dst=some d→d<N):
  ∀(l:List Oper) (i:Nat) (t:Env) (g:G) (n:Nat) (μ:Mu) (w:World) (a:Act),(∀o∈l,∀d,o.dst=some d→d<N)→Sim μ g n w B→EnvR μ N t a→a.defers=D→Xd3 P (ZaU P) N ops K l i t g n→
   wpList P ops (LiftQ D B N w μ Q) l a w
 | [],i,t,g,n,μ,w,a,_,hs,he,hd,h=>by
  show LiftQ D B N w μ Q .normal a w
  exact ⟨t,g,n,μ,hQ _ _ _ h,hs,he,hd,Ext.refl μ,Below.refl B w⟩
 | o::rest,i,t,g,n,μ,w,a,hl,hs,he,hd,h=>by
  have hdst: ∀d,o.dst=some d→d<N:=hl o (by simp)
  have hrest: ∀o∈rest,∀d,o.dst=some d→d<N:=fun o ho=>hl o (by simp [ho])
  simp only [Xd3] at h
  split at h
  ·exact h.elim
  have go: ∀(a':Act) (w':World) (t':Env) (g':G) (n':Nat) (μ':Mu),Xd3 P (ZaU P) N ops K rest (i+1) t' g' n'→Sim μ' g' n' w' B→EnvR μ' N t' a'→a'.defers=D→Ext μ μ'→Below B w w'→
    wpList P ops (LiftQ D B N w μ Q) rest a' w':=by
   intro a' w' t' g' n' μ' hk hs' he' hd' hx hb
   have:=JcX hQ hall rest (i+1) t' g' n' μ' w' a' hrest hs' he' hd' hk
   exact Zbh (fun e a w h=>LiftQ.mono h (fun _ _ _ _ h=>h) hx hb) rest a' w' this
  unfold wpList
  rcases QaA he h hall with ⟨hw,h⟩|⟨hw,h⟩
  ·rw [if_pos hw]
   refine .inl ?_
   unfold Oper.wp
   refine Jcx he hd hdst _ (Xcw hs he h) _ ?_
   intro v v' g' n' μ' w' hk hv hs' hx hb
   have he':=(he.ext hx).put hv o.dst hdst
   have hd':(a.put o.dst v').defers=D:=by cases hdd:o.dst<;>simp [Act.put,hd]
   exact go _ w' _ g' n' μ' (QcH (K:=fun t=>Xd3 P (ZaU P) N ops K rest (i+1) t g' n') hk) hs' he' hd' hx hb
  ·rw [if_neg (by rw [hw];simp)]
   exact go _ w _ g n μ h hs (he.put (X9 μ) o.dst hdst) (by cases hdd:o.dst<;>simp [Act.put,hd]) (Ext.refl μ) (Below.refl B w)
end Go.Proofs.YtmchcjaomcdbmaaGreat.Abs
namespace Go.Proofs.YtmchcjaomcdbmaaGreat.Abs
open Go Go.RowKit
variable {P:Program} {g:G} {n:Nat}
theorem ZeE {v:Value} {K K':Bool→Prop} (hk: ∀b,K b→K' b) (h:XcN v K):XcN v K':=by
 unfold XcN at *;split at h<;>first|exact hk _ h|exact h.elim
theorem ZaY {v:Value} {K K':Int→Prop} (hk: ∀b,K b→K' b) (h:Qd4 v K):Qd4 v K':=by
 unfold Qd4 at *;split at h<;>first|exact hk _ h|exact h.elim
theorem XbX {v:Value} {K K':Nat→Nat→Prop} (hk: ∀l o,K l o→K' l o) (h:Qe v K):Qe v K':=by
 unfold Qe at *;split at h<;>first|exact hk _ _ h|exact h.elim
theorem Xbe {v:Value} {K K':List Value→Prop} (hk: ∀l,K l→K' l) (h:Jl v K):Jl v K':=by
 unfold Jl at *;split at h<;>first|exact hk _ h|exact h.elim
theorem QaB {l:Nat} {K K':List Value→BK→Prop} (hk: ∀c k,K c k→K' c k) (h:Zam g l K):Zam g l K':=by
 unfold Zam at *;split at h<;>first|exact hk _ _ h|exact h.elim
theorem JcC {cs:List Value} {o:Nat} {K K':Value→Prop} (hk: ∀v,K v→K' v) (h:Zdd cs o K):Zdd cs o K':=by
 unfold Zdd at *;split at h<;>first|exact hk _ h|exact h.elim
theorem Zcm {l o:Nat} {K K':Value→Prop} (hk: ∀v,K v→K' v) (h:kLd g l o K):kLd g l o K':=QaB (fun _ _=>JcC hk) h
theorem Qcv {l o k:Nat} {K K':List Value→Prop} (hk: ∀v,K v→K' v) (h:Zn g l o k K):Zn g l o k K':=QaB (fun _ _ h=>⟨h.1,hk _ h.2⟩) h
theorem QaP {cs:List Value} {k:BK} {K K':Nat→G→Nat→Prop} (hk: ∀l g n,K l g n→K' l g n) (h:Zw cs k g n K):Zw cs k g n K':=fun e=>hk _ _ _ (h e)
theorem Qbq {l o:Nat} {v:Value} {K K':G→Prop} (hk: ∀g,K g→K' g) (h:kSt g l o v K):kSt g l o v K':=QaB (fun _ _ h=>⟨h.1,h.2.1,h.2.2.1,hk _ h.2.2.2⟩) h
theorem Zb0 {l o:Nat} {vs:List Value} {K K':G→Prop} (hk: ∀g,K g→K' g) (h:Xw g l o vs K):Xw g l o vs K':=QaB (fun _ _ h=>⟨h.1,h.2.1,h.2.2.1,hk _ h.2.2.2⟩) h
theorem Z8 {t:TypeId} {K K':Nat→Prop} (hk: ∀k,K k→K' k) (h:JbS P t K):JbS P t K':=by
 unfold JbS at *;split at h<;>first|exact hk _ h|exact h.elim
theorem Z9 {t:TypeId} {K K':Option Nat→Prop} (hk: ∀k,K k→K' k) (h:Xak P t K):Xak P t K':=by
 unfold Xak at*
 split at h
 ·exact Z8 (fun _=>hk _) h
 ·exact Z8 (fun _=>hk _) h
 ·refine Z8 (fun k h=> ?_) h
  split at h
  ·exact hk _ h
  ·exact h.elim
 ·exact h.elim
theorem JT {t:TypeId} {K K':List Value→Nat→Prop} (hk: ∀z b,K z b→K' z b) (h:zeroOf P t K):zeroOf P t K':=by
 unfold zeroOf at*
 split at h
 ·split at h
  ·split at h
   ·exact hk _ _ h
   ·exact h.elim
  ·exact h.elim
 ·exact h.elim
theorem ZaM {t:Env} {pl:Nat→Option (Nat×TypeId)}: ∀{parts:List (Nat×Operand)} {K K':List (Nat×Option Nat×Value)→Prop},(∀l,K l→K' l)→partsOf P t pl parts K→partsOf P t pl parts K'
 | [],K,K',hk,h=>hk _ h
 |(i,x)::r,K,K',hk,h=>by
  simp only [partsOf] at h ⊢
  split at h
  ·exact Z9 (fun a=>ZaM (fun l=>hk _)) h
  ·exact h.elim
theorem XaT: ∀{l:List (Nat×Option Nat×Value)} {cs:List Value} {K K':List Value→Prop},(∀l,K l→K' l)→Xk cs l K→Xk cs l K'
 | [],cs,K,K',hk,h=>hk _ h
 |(off,none,v)::r,cs,K,K',hk,h=>⟨h.1,h.2.1,XaT hk h.2.2⟩
 |(off,some k,v)::r,cs,K,K',hk,h=>Xbe (fun _ h=>⟨h.1,h.2.1,XaT hk h.2.2⟩) h
theorem Xfe {ty:TypeId} {v:Value} {K K':Nat→G→Nat→Prop} (hk: ∀l g n,K l g n→K' l g n) (h:Qgg P ty v g n K):Qgg P ty v g n K':=by
 refine Z9 (fun a h=> ?_) h
 cases a with
 | none=>exact ⟨h.1,QaP hk h.2⟩
 | some k=>exact Xbe (fun _=>QaP hk) h
theorem XdF {op:BinOp} {k:IntKind} {a b:Int} {K K':Value→Prop} (hk: ∀v,K v→K' v) (h:ZF op k a b K):ZF op k a b K':=by
 cases op<;>simp only [ZF] at h ⊢ <;>first|exact hk _ h|exact ⟨h.1,hk _ h.2⟩
theorem XaS {op:BinOp} {r:Bool} {K K':Value→Prop} (hk: ∀v,K v→K' v) (h:Jdl op r K):Jdl op r K':=by
 cases op<;>simp only [Jdl] at h ⊢ <;>exact hk _ h
theorem JeW {e:EK} {op:BinOp} {x y:Value} {K K':Value→Prop} (hk: ∀v,K v→K' v) (h:Xb e op x y K):Xb e op x y K':=by
 unfold Xb at*
 split at h
 ·split at h
  ·exact ⟨h.1,XdF hk h.2⟩
  ·exact h.elim
 ·split at h
  ·exact XaS hk h
  ·exact h.elim
 ·split at h
  ·exact XaS hk h
  ·exact XaS hk h
  ·exact h.elim
 ·split at h
  ·exact XaS hk h
  ·exact h.elim
 ·split at h
  ·split at h
   ·exact XaS hk h
   ·exact h.elim
  ·exact h.elim
 ·split at h
  ·exact XaS hk h
  ·exact h.elim
 ·exact h.elim
theorem JfA {op:UnOp} {x:Value} {K K':Value→Prop} (hk: ∀v,K v→K' v) (h:kUn op x K):kUn op x K':=by
 unfold kUn at *;split at h<;>first|exact hk _ h|exact h.elim
theorem ZeI {k:IntKind} {x:Value} {K K':Value→Prop} (hk: ∀v,K v→K' v) (h:Xch k x K):Xch k x K':=by
 unfold Xch at *;split at h<;>first|exact hk _ h|exact h.elim
theorem Je1 {x:Value} {K K':Value→Prop} (hk: ∀v,K v→K' v) (h:Qo x K):Qo x K':=by
 unfold Qo at *;split at h<;>first|exact hk _ h|exact h.elim
theorem QcF {x i:Value} {z:Nat} {K K':Value→Prop} (hk: ∀v,K v→K' v) (h:Jc x i z K):Jc x i z K':=by
 unfold Jc at *;split at h<;>first|exact ⟨h.1,h.2.1,hk _ h.2.2⟩|exact h.elim
theorem QcP {x i:Value} {len z:Nat} {K K':Value→Prop} (hk: ∀v,K v→K' v) (h:ZD x i len z K):ZD x i len z K':=by
 unfold ZD at *;split at h<;>first|exact ⟨h.1,h.2.1,hk _ h.2.2⟩|exact h.elim
theorem JcU {cs:List Value} {off:Nat} {a:Option Nat} {K K':Value→Prop} (hk: ∀v,K v→K' v) (h:XaH cs off a K):XaH cs off a K':=by
 cases a with
 | none=>exact JcC hk h
 | some k=>exact ⟨h.1,hk _ h.2⟩
theorem Ze7 {x i:Value} {len z:Nat} {a:Option Nat} {K K':Value→Prop} (hk: ∀v,K v→K' v) (h:Xdl x i len z a K):Xdl x i len z a K':=
 Xbe (fun _=>ZaY fun _ h=>⟨h.1,h.2.1,JcU hk h.2.2⟩) h
theorem Qdf {x:Value} {i:Nat} {K K':Value→Prop} (hk: ∀v,K v→K' v) (h:Xd x i K):Xd x i K':=by
 unfold Xd at *;split at h<;>first|exact JcC hk h|exact h.elim
theorem Qfb {x:Value} {K K':Value→Prop} (hk: ∀v,K v→K' v) (h:ZaH x K):ZaH x K':=by
 unfold ZaH at *;split at h<;>first|exact hk _ h|exact h.elim
theorem J7 {x:Option Value} {d m:Nat} {K K':Nat→Prop} (hk: ∀v,K v→K' v) (h:XJ x d m K):XJ x d m K':=by
 unfold XJ at*
 split at h
 ·exact hk _ h
 ·exact ZaY (fun _ h=>⟨h.1,h.2.1,hk _ h.2.2⟩) h
theorem JdT {x:Value} {lo hi mx:Option Value} {z:Nat} {K K':Value→Prop} (hk: ∀v,K v→K' v) (h:Xu x lo hi mx z K):Xu x lo hi mx z K':=by
 unfold Xu at*
 split at h
 ·split at h
  ·rename_i hc
   rw [if_pos hc]
   exact J7 (fun _=>J7 fun _=>J7 fun _=>hk _) h
  ·rename_i hc
   rw [if_neg hc]
   refine ⟨h.1,?_⟩
   have h2:=h.2
   split at h2
   ·exact J7 (fun _=>J7 fun _=>hk _) h2
   ·exact J7 (fun _ h=>⟨h.1,J7 (fun _=>J7 fun _=>hk _) h.2⟩) h2
 ·exact h.elim
theorem QbF {x:Value} {k z:Nat} {K K':List Value→Prop} (hk: ∀v,K v→K' v) (h:J6 g x k z K):J6 g x k z K':=by
 unfold J6 at*
 split at h
 ·exact ⟨h.1,hk _ h.2⟩
 ·split at h
  ·rename_i hc;rw [if_pos hc];exact hk _ h
  ·rename_i hc;rw [if_neg hc];exact Qcv hk h
 ·exact h.elim
theorem Qc5 {s x:Value} {z:List Value} {b:Nat} {K K':Cont} (hk: ∀v g n,K v g n→K' v g n) (h:QaI s x z b g n K):QaI s x z b g n K':=by
 unfold QaI at*
 split at h
 ·exact ⟨h.1,h.2.1,h.2.2.1,h.2.2.2.1,fun hn=>hk _ _ _ (h.2.2.2.2 hn)⟩
 ·exact h.elim
theorem Zdo {s x:Value} {z b:Nat} {K K':Cont} (hk: ∀v g n,K v g n→K' v g n) (h:Q5 s x z b g n K):Q5 s x z b g n K':=by
 unfold Q5 at*
 split at h
 ·obtain ⟨h1,h2,h3,h⟩:=h
  refine ⟨h1,h2,h3,QbF (fun new h=>⟨h.1,?_⟩) h⟩
  have h:=h.2
  split at h
  ·rename_i hc
   rw [if_pos hc]
   split at h
   ·rename_i hr
    rw [if_pos hr]
    split at h
    ·exact ⟨h.1,hk _ _ _ h.2⟩
    ·split at h
     ·rename_i hn;rw [if_pos hn];exact hk _ _ _ h
     ·rename_i hn;rw [if_neg hn];exact Zb0 (fun _=>hk _ _ _) h
    ·exact h.elim
   ·rename_i hr
    rw [if_neg hr]
    exact QbF (fun _=>QaP fun _ _ _=>hk _ _ _) h
  ·rename_i hc
   rw [if_neg hc]
   split at h
   ·exact ⟨h.1,QaB (fun _ _ h=>⟨h.1,h.2.1,fun e=>hk _ _ _ (h.2.2 e)⟩) h.2⟩
   ·exact h.elim
 ·exact h.elim
theorem ZeH {d s:Value} {z:Nat} {K K':Value→G→Prop} (hk: ∀v g,K v g→K' v g) (h:Zbk d s z g K):Zbk d s z g K':=by
 unfold Zbk at*
 split at h
 ·refine QbF (fun new h=>⟨h.1,?_⟩) h
  have h:=h.2
  split at h
  ·exact hk _ _ h
  ·split at h
   ·rename_i hn;rw [if_pos hn];exact hk _ _ h
   ·rename_i hn;rw [if_neg hn];exact Zb0 (fun _=>hk _ _) h
  ·exact h.elim
 ·exact h.elim
theorem Qd1 {x:Value} {z:List Value} {K K':Value→G→Prop} (hk: ∀v g,K v g→K' v g) (h:Jav x z g K):Jav x z g K':=by
 unfold Jav at*
 split at h
 ·exact hk _ _ h
 ·split at h
  ·rename_i hn;rw [if_pos hn];exact hk _ _ h
  ·rename_i hn;rw [if_neg hn];exact Zb0 (fun _=>hk _ _) h
 ·exact h.elim
theorem Xeu {l c:Value} {z:List Value} {b:Nat} {K K':Cont} (hk: ∀v g n,K v g n→K' v g n) (h:QbK l c z b g n K):QbK l c z b g n K':=
 ZaY (fun _=>ZaY fun _ h=>⟨h.1,h.2.1,h.2.2.1,h.2.2.2.1,QaP (fun _ _ _=>hk _ _ _) h.2.2.2.2⟩) h
theorem XaV {l:Nat} {K K':List (Value×Value)→Prop} (hk: ∀c,K c→K' c) (h:Qez g l K):Qez g l K':=by
 unfold Qez at *;split at h<;>first|exact hk _ h|exact h.elim
theorem XcI {kk:IntKind} {v:Value} {K K':Int→Prop} (hk: ∀c,K c→K' c) (h:Jfq kk v K):Jfq kk v K':=by
 unfold Jfq at *;split at h<;>first|exact ⟨h.1,hk _ h.2⟩|exact h.elim
theorem Xb1 {kk:IntKind} {a:Int} {es:List (Value×Value)} {K K':Option Nat→Prop} (hk: ∀c,K c→K' c) (h:XcO kk a es K):XcO kk a es K':=by
 unfold XcO at *;split at h<;>first|exact hk _ h|exact h.elim
theorem Jco {es:List (Value×Value)} {i:Nat} {K K':Value×Value→Prop} (hk: ∀c,K c→K' c) (h:kAt es i K):kAt es i K':=by
 unfold kAt at *;split at h<;>first|exact hk _ h|exact h.elim
theorem Jb1 {b:Blk} {K K':Nat→G→Nat→Prop} (hk: ∀l g n,K l g n→K' l g n) (h:ZdY b g n K):ZdY b g n K':=fun e=>hk _ _ _ (h e)
theorem Xc1 {t:TypeId} {K K':Value→Prop} (hk: ∀c,K c→K' c) (h:Zda P t K):Zda P t K':=by
 unfold Zda at*
 split at h
 ·split at h
  ·split at h
   ·exact hk _ h
   ·exact h.elim
  ·exact h.elim
 ·exact h.elim
theorem Qbr {t:TypeId} {K K':IntKind→TypeId→Prop} (hk: ∀k e,K k e→K' k e) (h:mapOf P t K):mapOf P t K':=by
 unfold mapOf at*
 split at h
 ·split at h
  ·exact hk _ _ h
  ·exact h.elim
 ·exact h.elim
theorem Zdq {kk:IntKind} {x i z:Value} {ok:Bool} {K K':Value→Prop} (hk: ∀c,K c→K' c) (h:JcI kk x i z ok g K):JcI kk x i z ok g K':=by
 refine XcI (fun a h=> ?_) h
 split at h
 ·exact hk _ h
 ·refine XaV (fun es=>Xb1 fun r h=> ?_) h
  split at h
  ·exact Jco (fun _=>hk _) h
  ·exact hk _ h
 ·exact h.elim
theorem Qcd {kk:IntKind} {x i z:Value} {K K':G→Prop} (hk: ∀c,K c→K' c) (h:Jcz kk x i z g K):Jcz kk x i z g K':=by
 refine XcI (fun a h=> ?_) h
 split at h
 ·refine XaV (fun es=>Xb1 fun r h=> ?_) h
  split at h<;>exact hk _ h
 ·exact h.elim
theorem ZcP {kk:IntKind} {x i z:Value} {K K':Value→G→Prop} (hk: ∀v c,K v c→K' v c) (h:Zbn kk x i z g K):Zbn kk x i z g K':=by
 refine XcI (fun a h=> ?_) h
 split at h
 ·refine XaV (fun es=>Xb1 fun r h=> ?_) h
  split at h
  ·exact Jco (fun _=>hk _ _) h
  ·exact hk _ _ h
 ·exact h.elim
theorem Jcf {x i z:Value} {K K':G→Prop} (hk: ∀c,K c→K' c) (h:JaD x i z g K):JaD x i z g K':=by
 refine ZaY (fun a h=> ?_) h
 split at h
 ·exact XaV (fun es h=>⟨h.1,Jco (fun _=>hk _) h.2⟩) h
 ·exact h.elim
theorem JdJ {x:Value} {K K':Nat→G→Nat→Prop} (hk: ∀l g n,K l g n→K' l g n) (h:Xca x g n K):Xca x g n K':=by
 unfold Xca at*
 split at h
 ·exact XaV (fun _=>Jb1 hk) h
 ·exact h.elim
theorem XcQ {x:Value} {K K':Nat→Nat→List (Value×Value)→List Nat→Prop} (hk: ∀p l e s,K p l e s→K' p l e s) (h:Xdb x g K):Xdb x g K':=by
 unfold Xdb at*
 split at h
 ·split at h
  ·exact XaV (fun _ h=>⟨h.1,hk _ _ _ _ h.2⟩) h
  ·exact h.elim
 ·exact h.elim
theorem Xes {x:Value} {K K':Value→G→Prop} (hk: ∀v g,K v g→K' v g) (h:ZeN x g K):ZeN x g K':=
 XcQ (fun _ _ _ _ h=>⟨fun e=>hk _ _ (h.1 e),fun i kv h1 h2=>hk _ _ (h.2 i kv h1 h2)⟩) h
theorem JdP {x:Value} {K K':Value→Prop} (hk: ∀v,K v→K' v) (h:ZdD x g K):ZdD x g K':=
 XcQ (fun _ _ _ _ h=>by
  split at h
  ·exact Jco (fun _=>hk _) h
  ·exact h.elim) h
theorem Xfh {x:Value} {K K':Value→Prop} (hk: ∀v,K v→K' v) (h:ZfP x K):ZfP x K':=by
 unfold ZfP at*
 split at h
 ·split at h
  ·rename_i hc;rw [if_pos hc];exact hk _ h
  ·exact h.elim
 ·exact h.elim
theorem Jex {x:Value} {K K':Value→Prop} (hk: ∀v,K v→K' v) (h:Jcu x K):Jcu x K':=by
 unfold Jcu at *;split at h<;>first|exact hk _ h|exact h.elim
theorem JeA {x i:Value} {K K':Value→Prop} (hk: ∀v,K v→K' v) (h:ZcO x i K):ZcO x i K':=by
 unfold ZcO at*
 split at h
 ·refine ⟨h.1,?_⟩
  have h:=h.2
  split at h
  ·exact hk _ h
  ·exact h.elim
 ·exact h.elim
theorem Xet {b:Builtin} {vs:List Value} {tys:List TypeId} {K K':Value→Prop} (hk: ∀v,K v→K' v) (h:Zdt P b vs tys K):Zdt P b vs tys K':=by
 unfold Zdt at*
 split at h
 ·split at h
  ·split at h
   ·exact Xfh hk h
   ·exact h.elim
  ·exact h.elim
 ·split at h
  ·split at h
   ·unfold Xgy at*
    split at h
    ·exact ⟨h.1,hk _ h.2⟩
    ·exact h.elim
   ·exact h.elim
  ·exact h.elim
 ·exact h.elim
def CLe (C C':CT):Prop:= ∀f args g n (K K':Cont),(∀v g n,K v g n→K' v g n)→C f args g n K→C' f args g n K'
theorem QeC {C C':CT} (hC:CLe C C') {f:Value} {args:List Value} {K K':Cont} (hk: ∀v g n,K v g n→K' v g n) (h:Zbl C f args g n K):Zbl C' f args g n K':=by
 unfold Zbl at *;split at h<;>first|exact hC _ _ _ _ _ _ hk h|exact h.elim
theorem Qd3 {C C':CT} (hC:CLe C C') {o:Oper} {t:Env} {K K':Cont} (hk: ∀v g n,K v g n→K' v g n) (h:aop P C o t g n K):aop P C' o t g n K':=by
 unfold aop at*
 split at h
 ·exact h.elim
 split at h
 ·exact hk _ _ _ h
 ·exact hk _ _ _ h
 ·exact ZeE (fun _=>hk _ _ _) h
 ·exact JT (fun _ _=>QaP fun _ _ _=>hk _ _ _) h
 ·exact Xfe (fun _ _ _=>hk _ _ _) h
 ·refine JT (fun _ _ h=> ?_) h
  split at h
  ·split at h
   ·exact h.elim
   ·exact ZaM (fun _=>XaT fun _=>hk _ _ _) h
  ·exact Z8 (fun _=>ZaM fun _=>XaT fun _=>hk _ _ _) h
  ·exact h.elim
 ·split at h
  ·refine JT (fun _ _ h=> ?_) h
   split at h
   ·exact ZaM (fun _=>XaT fun _=>QaP fun _ _ _=>hk _ _ _) h
   ·exact h.elim
  ·exact h.elim
 ·refine XbX (fun _ _=>Z9 fun a h=> ?_) h
  cases a with
  | none=>exact Zcm (fun _=>hk _ _ _) h
  | some k=>exact Qcv (fun _=>hk _ _ _) h
 ·refine XbX (fun _ _=>Z9 fun a h=> ?_) h
  cases a with
  | none=>exact Qbq (fun _=>hk _ _ _) h
  | some k=>exact Xbe (fun _ h=>⟨h.1,Zb0 (fun _=>hk _ _ _) h.2⟩) h
 ·exact Je1 (fun _=>hk _ _ _) h
 ·exact JeW (fun _=>hk _ _ _) h
 ·exact JfA (fun _=>hk _ _ _) h
 ·split at h
  ·exact ZeI (fun _=>hk _ _ _) h
  ·exact h.elim
 ·exact hk _ _ _ h
 ·split at h
  ·exact JT (fun _ _=>Xeu hk) h
  ·exact h.elim
 ·split at h
  ·exact Z8 (fun _=>JdT fun _=>hk _ _ _) h
  ·exact h.elim
 ·split at h
  ·split at h
   ·refine Z8 (fun _ h=> ?_) h
    split at h
    ·exact h.elim
    ·exact XbX (fun _ _=>hk _ _ _) h
   ·exact h.elim
  ·exact h.elim
 ·split at h
  ·split at h
   ·exact Z9 (fun _=>Xbe fun _=>JcU fun _=>hk _ _ _) h
   ·exact h.elim
  ·exact h.elim
 ·split at h
  ·exact Z8 (fun _=>QcF fun _=>hk _ _ _) h
  ·exact Z8 (fun _=>QcP fun _=>hk _ _ _) h
  ·exact h.elim
 ·split at h
  ·exact Z8 (fun _=>Z9 fun _=>Ze7 fun _=>hk _ _ _) h
  ·exact JeA (fun _=>hk _ _ _) h
  ·exact h.elim
 ·exact Qdf (fun _=>hk _ _ _) h
 ·split at h
  ·exact QeC hC hk h
  ·exact h.elim
  ·split at h
   ·split at h
    ·exact Qfb (fun _=>hk _ _ _) h
    ·exact hk _ _ _ h
    ·exact Jex (fun _=>hk _ _ _) h
    ·exact h.elim
   ·split at h
    ·exact JT (fun _ _=>Zdo hk) h
    ·exact JT (fun _ _=>Qc5 hk) h
    ·exact h.elim
   ·split at h
    ·exact Z8 (fun _=>ZeH fun _ _=>hk _ _ _) h
    ·exact h.elim
   ·split at h
    ·exact JT (fun _ _=>Qd1 fun _ _=>hk _ _ _) h
    ·exact h.elim
   ·exact Xet (fun _=>hk _ _ _) h
 ·split at h
  ·exact Jb1 (fun _ _ _=>hk _ _ _) h
  ·split at h
   ·exact ZaY (fun _=>Jb1 fun _ _ _=>hk _ _ _) h
   ·exact h.elim
 ·exact Qbr (fun _ _=>Xc1 fun _=>Zdq fun _=>hk _ _ _) h
 ·exact Qbr (fun _ _=>Qcd fun _=>hk _ _ _) h
 ·exact Qbr (fun _ _=>Qcd fun _=>hk _ _ _) h
 ·exact Qbr (fun _ _=>Xc1 fun _=>ZcP fun _ _=>hk _ _ _) h
 ·exact Jcf (fun _=>hk _ _ _) h
 ·split at h
  ·exact JdJ (fun _ _ _=>hk _ _ _) h
  ·exact h.elim
 ·exact Xes (fun _ _=>hk _ _ _) h
 ·exact JdP (fun _=>hk _ _ _) h
 ·exact h.elim
end Go.Proofs.YtmchcjaomcdbmaaGreat.Abs
namespace Go.Proofs.YtmchcjaomcdbmaaGreat.Abs
open Go Go.RowKit
variable {P:Program} {g:G} {n:Nat}
def Xaw (op:Op):Bool:=
 match op with
 | .move _| .assign _| .pick .. | .build .. | .load .. | .nilCheck _| .binOp .. | .unOp .. | .convert .. | .makeFunc .. | .slice .. | .fieldAddr .. | .field .. | .indexAddr .. | .index .. | .extract .. =>false
 | .call c=>match c.callee with
  | .builtin .len=>false
  | _=>true
 | _=>true
def Xap (e:Edge):Bool:=Region.binds .any e
def ZC (ops:List Oper):List Nat:=
 (ops.foldl (fun (acc:List Nat) (o:Oper)=>acc++[o.after.toList.foldl (fun s e=>if Xap e then s ||| 2^e.on ||| acc.getD e.on 0 else s) 0]) [])
def hasB (bef:List Nat) (i j:Nat):Bool:=(bef.getD i 0).testBit j
def Jal (ops:List Oper) (bef:List Nat) (ld:List Bool) (i:Nat):Bool:=
 (ops.zipIdx).all fun (o,j)=> !(hasB bef i j&&Xaw o.op)||ld.getD j false
def JeY (P:Program) (C:CT) (N:Nat) (ops:Array Oper) (o:Oper) (guards:Bool) (t:Env) (g:G) (n:Nat) (after:G→Prop→Prop) (K:Qn):Prop:=
 match JcD N o.dst with
 | false=>False
 | true=>
  Xx ops o t
   (aop P C o t g n fun v g n=>after g (Jcc guards t o.dst v fun t=>K t g n))
   (K (put t o.dst undef) g n)
def QeL (P:Program) (C:CT) (N:Nat) (ops:Array Oper) (bef:List Nat) (K:List Bool→Qn):List Nat→List Bool→Qn
 | [],ld,t,g,n=>K ld t g n
 | i::is,ld,t,g,n=>
  match ops.toList[i]? with
  | none=>False
  | some o=>match !ld.getD i true&& !Xaw o.op&&Jal ops.toList bef ld i with
   | false=>QeL P C N ops bef K is ld t g n
   | true=>JeY P C N ops o (guarded ops.toList i) t g n (fun _ p=>p) fun t g n=>QeL P C N ops bef K is (ld.set i true) t g n
def Xgh (ops:Array Oper) (t:Env) (g g':G) (o:Oper):Prop:=
 match o.op with
 | .load _ a=>Xx ops o t (Qe (ev t a) fun l _=>g' l=g l) True
 | _=>True
def Qes (ops:List Oper) (bef:List Nat) (ld:List Bool) (e:Nat):List Oper:=
 (ops.zipIdx).filterMap fun (o,j)=>if ld.getD j false&& !Xaw o.op&& !hasB bef e j&&(match o.op with| .load .. =>true|_=>false) then some o else none
def Jdy (ops:Array Oper) (t:Env) (g g':G):List Oper→Prop→Prop
 | [],p=>p
 | o::os,p=>Xgh ops t g g' o∧Jdy ops t g g' os p
def nexts (ops:List Oper) (bef:List Nat) (ld:List Bool):List Nat:=
 (ops.zipIdx).filterMap fun (o,j)=>if Xaw o.op&& !ld.getD j true&&Jal ops bef ld j then some j else none
def QdY (F:Nat→Prop):List Nat→Prop
 | []=>True
 | [e]=>F e
 | e::es=>F e∧QdY F es
def Xcf (P:Program) (C:CT) (N:Nat) (ops:Array Oper) (bef:List Nat) (K:Qn):Nat→List Bool→Qn
 | 0,_,_,_,_=>False
 | k+1,ld,t,g,n=>
  QeL P C N ops bef (fun ld t g n=>
   match nexts ops.toList bef ld with
   | []=>K t g n
   | es=>QdY (fun e=>match ops.toList[e]? with
    | none=>False
    | some o=>JeY P C N ops o (guarded ops.toList e) t g n (fun g'=>Jdy ops t g g' (Qes ops.toList bef ld e)) fun t g n=>Xcf P C N ops bef K k (ld.set e true) t g n) es)
   (List.range ops.size) ld t g n
def looks (ops:List Oper) (o:Oper):List Nat:=
 (o.op.operands.toList.filterMap fun x=>match x with| .tmp d=>some d|_=>none)++
 (match o.guard with|some (j,_)=>(match (ops[j]?).bind (·.dst) with|some d=>[d]|none=>[])|none=>[])
def Zfr (o:Oper):Bool:=match o.op,o.guard with
 | .move _,none=>true
 | _,_=>false
def Qdx (ops:List Oper) (bef:List Nat):Bool:=
 (ops.zipIdx).all fun (o,i)=>
  o.after.toList.all (fun e=> !Xap e||decide (e.on<i))&&
  (match o.guard with|some (j,_)=>(match (ops[j]?).bind (·.dst) with|some _=>true|none=>false)|none=>true)&&
  (ops.zipIdx).all fun (p,j)=>match p.dst with
   | none=>true
   | some d=>(!(looks ops o).contains d||(hasB bef i j||(Zfr o&&hasB bef j i)))&&(i==j||o.dst !=some d)
def XcW (N:Nat) (ops:Array Oper):Bool:=ops.toList.all fun o=>JcD N o.dst
def Jbm (P:Program) (C:CT) (N:Nat) (ops:Array Oper) (K:Qn) (t:Env) (g:G) (n:Nat):Prop:=
 match Qdx ops.toList (ZC ops.toList)&&XcW N ops with
 | false=>False
 | true=>Xcf P C N ops (ZC ops.toList) K (ops.size+1) (List.replicate ops.size false) t g n
def XcM (K:Qn) (Q:JaH):JaH
 | .normal,t,g,n=>K t g n
 | e,t,g,n=>Q e t g n
def Qcc (id:Nat) (Q:JaH):JaH
 | .exit i,t,g,n=>match i==id with|true=>Q .normal t g n|false=>Q (.exit i) t g n
 | e,t,g,n=>Q e t g n
def J9 (P:Program) (C:CT) (N:Nat):Code→JaH→Qn
 | .skip,Q=>Q .normal
 | .region _ ops false,Q=>fun t g n=>match XcW N ops with
  | false=>False
  | true=>Xd3 P C N ops (Q .normal) ops.toList 0 t g n
 | .region _ ops true,Q=>Jbm P C N ops (Q .normal)
 | .seq a b,Q=>J9 P C N a (XcM (J9 P C N b Q) Q)
 | .cond c a b,Q=>fun t g n=>match Zc4 c with
  | false=>False
  | true=>Qa (ev t c) (J9 P C N a Q t g n) (J9 P C N b Q t g n)
 | .block id c,Q=>J9 P C N c (Qcc id Q)
 | .loop c,Q=>fun t g n=> ∀I:Qn,(∀t g n,J9 P C N c (XcM I Q) t g n→I t g n)→I t g n
 | .exit id,Q=>Q (.exit id)
 | .ret,Q=>Q .ret
 | _,_=>fun _ _ _=>False
def ZeL (P:Program) (t:Env) (g:G):List ResultVar→(List Value→Prop)→Prop
 | [],K=>K []
 | .tmp i::r,K=>ZeL P t g r fun vs=>K (t i::vs)
 | .cell a ty::r,K=>Qe (t a) fun l o=>Xak P ty fun ag=>match ag with
  | some k=>Zn g l o k fun cs=>ZeL P t g r fun vs=>K (.agg cs.toArray::vs)
  | none=>kLd g l o fun v=>ZeL P t g r fun vs=>K (v::vs)
def tup:List Value→Value
 | [v]=>v
 | vs=> .tuple vs.toArray
def Qgf (P:Program) (rs:List ResultVar) (K:Cont):JaH
 | .normal,t,g,n| .ret,t,g,n=>ZeL P t g rs fun vs=> ∃g',Sub g' g∧K (tup vs) g' n
 | _,_,_,_=>False
def Qq (args:List Value):Env:=fun i=>args.getD i undef
def Zg (P:Program) (C:CT) (f:FuncId) (args:List Value) (g:G) (n:Nat) (K:Cont):Prop:=
 match P.funcs[f]? with
 | some fn=>match fn.body,fn.name== "runtime.NumGoroutine",decide (args.length≤fn.ntmps) with
  | some c,false,true=>J9 P C fn.ntmps c (Qgf P fn.results.toList K) (Qq args) g n
  | _,_,_=>False
 | none=>False
abbrev XT:=CT→CT
def Closed (P:Program) (X:XT) (C:CT):Prop:=(∀f args g n K,Zg P C f args g n K→C f args g n K)∧(∀f args g n K,X C f args g n K→C f args g n K)
def ACalls (P:Program) (X:XT):CT:=fun f args g n K=> ∀C:CT,Closed P X C→C f args g n K
end Go.Proofs.YtmchcjaomcdbmaaGreat.Abs
namespace Go.Proofs.YtmchcjaomcdbmaaGreat.Abs
open Go Go.RowKit
variable {P:Program} {g:G} {n:Nat}
theorem ZcL {v:Value} {A B A' B':Prop} (ha:A→A') (hb:B→B') (h:Qa v A B):Qa v A' B':=by
 unfold Qa at *;split at h<;>first|exact ha h|exact hb h|exact h.elim
theorem Qcb {ops:Array Oper} {o:Oper} {t:Env} {A B A' B':Prop} (ha:A→A') (hb:B→B') (h:Xx ops o t A B):Xx ops o t A' B':=by
 unfold Xx at*
 split at h
 ·exact ha h
 ·split at h
  ·split at h
   ·rename_i _ j want _ _ d _ _ b _
    generalize (b==want)=c at h ⊢
    cases c with
    | true=>exact ha h
    | false=>exact hb h
   ·exact hb h
   ·exact h.elim
  ·exact h.elim
theorem QcI {gd:Bool} {t:Env} {dst:Option Tmp} {v:Value} {K K':Env→Prop} (hk: ∀t,K t→K' t) (h:Jcc gd t dst v K):Jcc gd t dst v K':=by
 cases gd with
 | false=>exact hk _ h
 | true=>exact ZcL (hk _) (hk _) h
theorem QcA {C C':CT} (hC:CLe C C') {N:Nat} {ops:Array Oper} {K K':Qn} (hk: ∀t g n,K t g n→K' t g n): ∀(l:List Oper) (i:Nat) (t:Env) (g:G) (n:Nat),Xd3 P C N ops K l i t g n→Xd3 P C' N ops K' l i t g n
 | [],i,t,g,n,h=>hk _ _ _ h
 | o::rest,i,t,g,n,h=>by
  simp only [Xd3] at h ⊢
  split at h
  ·exact h.elim
  ·refine Qcb (fun h=>Qd3 hC (fun v g n h=> ?_) h) (fun h=>QcA hC hk rest _ _ _ _ h) h
   exact QcI (fun t h=>QcA hC hk rest _ _ _ _ h) h
theorem Qdn {C C':CT} (hC:CLe C C') {N:Nat} {ops:Array Oper} {o:Oper} {gd:Bool} {t:Env} {after:G→Prop→Prop} (haf: ∀g p q,(p→q)→after g p→after g q) {K K':Qn} (hk: ∀t g n,K t g n→K' t g n)
  (h:JeY P C N ops o gd t g n after K):JeY P C' N ops o gd t g n after K':=by
 unfold JeY at*
 split at h
 ·exact h.elim
 ·refine Qcb (fun h=>Qd3 hC (fun v g n h=>haf _ _ _ (fun h=> ?_) h) h) (fun h=>hk _ _ _ h) h
  exact QcI (fun t h=>hk _ _ _ h) h
theorem JcH {C C':CT} (hC:CLe C C') {N:Nat} {ops:Array Oper} {bef:List Nat} {K K':List Bool→Qn} (hk: ∀ld t g n,K ld t g n→K' ld t g n): ∀(is:List Nat) (ld:List Bool) (t:Env) (g:G) (n:Nat),QeL P C N ops bef K is ld t g n→QeL P C' N ops bef K' is ld t g n
 | [],ld,t,g,n,h=>hk _ _ _ _ h
 | i::is,ld,t,g,n,h=>by
  simp only [QeL] at h ⊢
  split at h
  ·exact h.elim
  ·split at h
   ·exact JcH hC hk is _ _ _ _ h
   ·exact Qdn hC (fun _ _ _ f=>f) (fun t g n h=>JcH hC hk is _ _ _ _ h) h
theorem Jc1 {ops:Array Oper} {t:Env} {g g':G}: ∀{os:List Oper} {p q:Prop},(p→q)→Jdy ops t g g' os p→Jdy ops t g g' os q
 | [],_,_,f,h=>f h
 | _::_,_,_,f,h=>⟨h.1,Jc1 f h.2⟩
theorem XcX {F F':Nat→Prop} (hf: ∀e,F e→F' e): ∀{es:List Nat},QdY F es→QdY F' es
 | [],_=>trivial
 | [e],h=>hf e h
 | e::e'::es,h=>⟨hf e h.1,XcX hf h.2⟩
theorem QcZ {C C':CT} (hC:CLe C C') {N:Nat} {ops:Array Oper} {bef:List Nat} {K K':Qn} (hk: ∀t g n,K t g n→K' t g n): ∀(k:Nat) (ld:List Bool) (t:Env) (g:G) (n:Nat),Xcf P C N ops bef K k ld t g n→Xcf P C' N ops bef K' k ld t g n
 | 0,_,_,_,_,h=>h.elim
 | k+1,ld,t,g,n,h=>by
  simp only [Xcf] at h ⊢
  refine JcH hC (fun ld t g n h=> ?_) _ _ _ _ _ h
  split at h
  ·exact hk _ _ _ h
  ·refine XcX (fun e h=> ?_) h
   split at h
   ·exact h.elim
   ·refine Qdn hC (fun _ _ _ f=> ?_) (fun t g n h=>QcZ hC hk k _ _ _ _ h) h
    exact Jc1 f
theorem XdD {C C':CT} (hC:CLe C C') {N:Nat} {ops:Array Oper} {K K':Qn} (hk: ∀t g n,K t g n→K' t g n) {t:Env} (h:Jbm P C N ops K t g n):Jbm P C' N ops K' t g n:=by
 unfold Jbm at*
 split at h
 ·exact h.elim
 ·exact QcZ hC hk _ _ _ _ _ h
theorem Zes {C C':CT} (hC:CLe C C') {N:Nat}: ∀(c:Code) {Q Q':JaH},(∀e t g n,Q e t g n→Q' e t g n)→ ∀(t:Env) (g:G) (n:Nat),J9 P C N c Q t g n→J9 P C' N c Q' t g n:=by
 intro c
 induction c with
 | skip=>intro Q Q' hq t g n h;exact hq _ _ _ _ h
 | region id ops draw=>
  intro Q Q' hq t g n h
  cases draw with
  | false=>
   simp only [J9] at h ⊢
   split at h
   ·exact h.elim
   ·exact QcA hC (hq .normal) _ _ _ _ _ h
  | true=>exact XdD hC (hq .normal) h
 | seq a b iha ihb=>
  intro Q Q' hq t g n h
  refine iha (fun e t g n h=> ?_) t g n h
  cases e<;>simp only [XcM] at h ⊢ <;>first|exact ihb hq _ _ _ h|exact hq _ _ _ _ h
 | cond c a b iha ihb=>
  intro Q Q' hq t g n h
  simp only [J9] at h ⊢
  split at h
  ·exact h.elim
  ·exact ZcL (iha hq _ _ _) (ihb hq _ _ _) h
 | block id c ih=>
  intro Q Q' hq t g n h
  refine ih (fun e t g n h=> ?_) t g n h
  cases e<;>simp only [Qcc] at h ⊢ <;>first|exact hq _ _ _ _ h|skip
  split at h<;>exact hq _ _ _ _ h
 | loop c ih=>
  intro Q Q' hq t g n h I hI
  refine h I fun t g n hb=>hI t g n (ih (fun e t g n h=> ?_) t g n hb)
  cases e<;>simp only [XcM] at h ⊢ <;>first|exact h|exact hq _ _ _ _ h
 | exit id=>intro Q Q' hq t g n h;exact hq _ _ _ _ h
 | ret=>intro Q Q' hq t g n h;exact hq _ _ _ _ h
 | _=>intro Q Q' hq t g n h;exact h.elim
theorem JbV {t:Env}: ∀{rs:List ResultVar} {K K':List Value→Prop},(∀vs,K vs→K' vs)→ZeL P t g rs K→ZeL P t g rs K'
 | [],K,K',hk,h=>hk _ h
 | .tmp i::r,K,K',hk,h=>JbV (rs:=r) (fun _=>hk _) h
 | .cell a ty::r,K,K',hk,h=>by
  simp only [ZeL] at h ⊢
  refine XbX (fun _ _=>Z9 fun ag h=> ?_) h
  cases ag with
  | none=>exact Zcm (fun _=>JbV (rs:=r) fun _=>hk _) h
  | some k=>exact Qcv (fun _=>JbV (rs:=r) fun _=>hk _) h
theorem Qc0 {C C':CT} (hC:CLe C C') {f:FuncId} {args:List Value} {K K':Cont} (hk: ∀v g n,K v g n→K' v g n) (h:Zg P C f args g n K):Zg P C' f args g n K':=by
 unfold Zg at*
 split at h
 ·split at h
  ·refine Zes hC _ (fun e t g n h=> ?_) _ _ _ h
   cases e<;>simp only [Qgf] at h ⊢ <;>first|exact h.elim|exact JbV (fun vs h=>by obtain ⟨g',hs,hk'⟩:=h;exact ⟨g',hs,hk _ _ _ hk'⟩) h
  ·exact h.elim
 ·exact h.elim
def Xda (X:XT):Prop:= ∀C C',CLe C C'→CLe (X C) (X C')
theorem ACalls.mono {X:XT} (hX:Xda X):CLe (ACalls P X) (ACalls P X):=by
 intro f args g n K K' hk h
 have hm:=h (fun f args g n K=> ∀K':Cont,(∀v g n,K v g n→K' v g n)→ACalls P X f args g n K') ?_
 ·exact hm K' hk
 ·constructor
  ·intro f args g n K hb K' hk C hC
   refine hC.1 _ _ _ _ _ (Qc0 (C':=C) (fun f args g n K K' hk h=> ?_) hk hb)
   exact h K' hk C hC
  ·intro f args g n K hx K' hk C hC
   exact hC.2 _ _ _ _ _ (hX _ C (fun f args g n K K' hk h=>h K' hk C hC) _ _ _ _ _ _ hk hx)
theorem ACalls.fold {X:XT} (hX:Xda X) {f:FuncId} {args:List Value} {K:Cont} (h:Zg P (ACalls P X) f args g n K):ACalls P X f args g n K:=by
 intro C hC
 refine hC.1 _ _ _ _ _ (Qc0 (C:=ACalls P X) (fun f args g n K K' hk h=> ?_) (fun _ _ _ h=>h) h)
 exact ACalls.mono hX _ _ _ _ _ _ hk h C hC
theorem ACalls.foreign {X:XT} (hX:Xda X) {f:FuncId} {args:List Value} {K:Cont} (h:X (ACalls P X) f args g n K):ACalls P X f args g n K:=fun C hC=>
 hC.2 _ _ _ _ _ (hX _ C (fun _ _ _ _ _ _ hk h=>ACalls.mono hX _ _ _ _ _ _ hk h C hC) _ _ _ _ _ _ (fun _ _ _ h=>h) h)
end Go.Proofs.YtmchcjaomcdbmaaGreat.Abs
namespace Go.Proofs.YtmchcjaomcdbmaaGreat.Abs
open Go Go.RowKit
variable {D:List Deferred} {P:Program} {B:Nat} {w:World} {μ:Mu} {g:G} {n:Nat}
def Xam (P:Program) (B:Nat):Prop:= ∀(D:List Deferred) (N id:Nat) (ops:Array Oper) (K:Qn) (Q:JaH) (t:Env) (g:G) (n:Nat) (μ:Mu) (w:World) (a:Act),(∀t g n,K t g n→Q .normal t g n)→
 Sim μ g n w B→EnvR μ N t a→a.defers=D→Jbm P (ZaU P) N ops K t g n→(Code.region id ops true).wp P (LiftQ D B N w μ Q) a w
def Qcl (P:Program) (c:Code) (Q:Exit→Act→World→Prop) (a:Act) (w:World):Prop:=
 ∀(b:Frame) (k:List Item) (cs:List Frame),∃e a' w',Q e a' w'∧Arrives P (lone (b.at a (.code c:: .inLoop c::k)) cs w) b k cs e a' w'
theorem Zc5 {c:Code} {Q:Exit→Act→World→Prop} {a:Act} {w:World} (h:c.wp P (Exit.then (Qcl P c Q) Q) a w):Qcl P c Q a w:=by
 intro b k cs
 obtain ⟨e,a₁,w₁,hq,harr⟩:=h b (.inLoop c::k) cs
 cases e with
 | normal=>
  obtain ⟨e₂,a₂,w₂,hq₂,harr₂⟩:=hq b k cs
  exact ⟨e₂,a₂,w₂,hq₂,.of_steps (Steps.trans harr (.one step_inLoop)) harr₂⟩
 | exit id=>exact ⟨_,a₁,w₁,hq,.pass (x:= .inLoop c) rfl (fun _ _=> .inl (by simp)) harr⟩
 | goto l=>exact ⟨_,a₁,w₁,hq,.pass (x:= .inLoop c) rfl (fun _ _=> .inl (by simp)) harr⟩
 | ret=>exact ⟨_,a₁,w₁,hq,.pass (x:= .inLoop c) rfl (fun _ _=> .inl (by simp)) harr⟩
 | panic ch=>exact ⟨_,a₁,w₁,hq,.pass (x:= .inLoop c) rfl (fun _ _=> .inl (by simp)) harr⟩
 | outgrown=>exact ⟨_,a₁,w₁,hq,.pass (x:= .inLoop c) rfl (fun _ _=> .inl (by simp)) harr⟩
theorem QdE {c:Code} {Q:Exit→Act→World→Prop} {a:Act} {w:World} (h:Qcl P c Q a w):(Code.loop c).wp P Q a w:=by
 intro b k cs
 obtain ⟨e,a',w',hq,harr⟩:=h b k cs
 exact ⟨e,a',w',hq,.of_steps (.one step_loop) harr⟩
theorem QdU (hD:Xam P B) {N:Nat}: ∀(c:Code) (Q:JaH) (t:Env) (g:G) (n:Nat) (μ:Mu) (w:World) (a:Act),Sim μ g n w B→EnvR μ N t a→a.defers=D→J9 P (ZaU P) N c Q t g n→c.wp P (LiftQ D B N w μ Q) a w:=by
 intro c
 induction c with
 | skip=>intro Q t g n μ w a hs he hd h;exact wp_skip ⟨t,g,n,μ,h,hs,he,hd,Ext.refl μ,Below.refl B w⟩
 | exit id=>intro Q t g n μ w a hs he hd h;exact wp_exit ⟨t,g,n,μ,h,hs,he,hd,Ext.refl μ,Below.refl B w⟩
 | ret=>intro Q t g n μ w a hs he hd h;exact wp_ret ⟨t,g,n,μ,h,hs,he,hd,Ext.refl μ,Below.refl B w⟩
 | region id ops draw=>
  intro Q t g n μ w a hs he hd h
  cases draw with
  | false=>
   simp only [J9] at h
   split at h
   ·exact h.elim
   ·rename_i hok
    have hok: ∀o∈ops.toList,JcD N o.dst=true:=List.all_eq_true.1 hok
    have hl: ∀o∈ops.toList,∀d,o.dst=some d→d<N:=fun o ho d hd=>by have:=hok o ho;rw [hd] at this;simpa [JcD] using this
    refine wp_region_list (JcX (Q:=Q) (fun _ _ _ h=>h) (fun j o d hj hd=>hl o (by simpa using Array.mem_of_getElem? hj) d hd) ops.toList 0 t g n μ w a hl hs he hd h)
  | true=>exact hD D N id ops (Q .normal) Q t g n μ w a (fun _ _ _ h=>h) hs he hd h
 | seq a b iha ihb=>
  intro Q t g n μ w ac hs he hd h
  refine wp_seq (wp_mono (iha _ t g n μ w ac hs he hd h) ?_)
  intro e a' w' hq
  cases e with
  | normal=>
   obtain ⟨t',g',n',μ',hk,hs',he',hd',hx,hb⟩:=hq
   exact wp_mono (ihb Q t' g' n' μ' w' a' hs' he' hd' hk) fun e a w h=>LiftQ.mono h (fun _ _ _ _ h=>h) hx hb
  | panic ch=>exact hq.elim
  | outgrown=>exact hq.elim
  | _=>exact hq
 | cond c a b iha ihb=>
  intro Q t g n μ w ac hs he hd h
  simp only [J9] at h
  split at h
  ·exact h.elim
  ·rename_i hok
   have hr:=he.ev hok
   unfold Qa at h
   split at h
   ·rename_i hv
    rw [hv] at hr
    have:ac.eval c= .bool true:=by cases hc:ac.eval c<;>rw [hc] at hr<;>cases hr;rfl
    exact wp_cond_true this (iha Q t g n μ w ac hs he hd h)
   ·rename_i hv
    rw [hv] at hr
    have:ac.eval c= .bool false:=by cases hc:ac.eval c<;>rw [hc] at hr<;>cases hr;rfl
    exact wp_cond_false this (ihb Q t g n μ w ac hs he hd h)
   ·exact h.elim
 | block id c ih=>
  intro Q t g n μ w a hs he hd h
  refine wp_block (wp_mono (ih _ t g n μ w a hs he hd h) ?_)
  intro e a' w' hq
  cases e with
  | exit i=>
   obtain ⟨t',g',n',μ',hk,rest⟩:=hq
   simp only [Qcc] at hk
   simp only [Exit.inBlock]
   split at hk
   ·rename_i hi
    rw [if_pos (by simpa using hi)]
    exact ⟨t',g',n',μ',hk,rest⟩
   ·rename_i hi
    rw [if_neg (by simpa using hi)]
    exact ⟨t',g',n',μ',hk,rest⟩
  | panic ch=>exact hq.elim
  | outgrown=>exact hq.elim
  | _=>exact hq
 | loop c ih=>
  intro Q t g n μ w a hs he hd h
  refine QdE ?_
  have key:=h (fun t g n=> ∀(μ:Mu) (w':World) (a:Act),Sim μ g n w' B→EnvR μ N t a→a.defers=D→Qcl P c (LiftQ D B N w' μ Q) a w') ?_
  ·exact key μ w a hs he hd
  ·intro t g n hb μ w a hs he hd
   refine Zc5 (wp_mono (ih _ t g n μ w a hs he hd hb) ?_)
   intro e a' w' hq
   cases e with
   | normal=>
    obtain ⟨t',g',n',μ',hk,hs',he',hd',hx,hb'⟩:=hq
    have:=hk μ' w' a' hs' he' hd'
    intro b k cs
    obtain ⟨e,a2,w2,hq2,harr⟩:=this b k cs
    exact ⟨e,a2,w2,LiftQ.mono hq2 (fun _ _ _ _ h=>h) hx hb',harr⟩
   | panic ch=>exact hq.elim
   | outgrown=>exact hq.elim
   | _=>exact hq
 | _=>intro Q t g n μ w a hs he hd h;exact h.elim
def QdG (a:Act):ResultVar→Sem Value
 | .tmp i=>pure (a.tmps.getD i undef)
 | .cell x ty=>do loadVar ty (←asAddr (a.tmps.getD x undef))
theorem Jbq {N:Nat} {t:Env} {a:Act} (hs:Sim μ g n w B) (he:EnvR μ N t a): ∀(rs:List ResultVar) (K:List Value→Prop),ZeL P t g rs K→
  ∃vs vs',K vs∧VRs μ vs vs'∧(rs.mapM (QdG a)).run P w= .ok vs' w
 | [],K,h=>⟨[],[],h,.nil,by simp⟩
 | .tmp i::r,K,h=>by
  obtain ⟨vs,vs',hk,hr,hrun⟩:=Jbq hs he r _ h
  refine ⟨t i::vs,_,hk,.cons (he.rel i) hr,?_⟩
  rw [List.mapM_cons]
  simp only [Sem.run_bind,QdG,Sem.run_pure,Result.andThen_ok,hrun]
 | .cell x ty::r,K,h=>by
  simp only [ZeL] at h
  obtain ⟨l,o,m,hx,hm,hx',h⟩:=Jcn (he.rel x) h
  rcases ZaD h with ⟨i,hi,ha,hj⟩|⟨i,hi,_,ha,hj⟩
  ·obtain ⟨cs,k,hg,ho,hk⟩:=JH hj
   obtain ⟨ds,hl,hvs⟩:=Xbr (P:=P) hs hg hm ho
   obtain ⟨vs,vs',hk,hr,hrun⟩:=Jbq hs he r _ hk
   refine ⟨_,.agg ds.toArray::vs',hk,.cons hvs.agg hr,?_⟩
   rw [List.mapM_cons]
   simp only [Sem.run_bind,QdG,hx',asAddr,Sem.run_pure,Result.andThen_ok,loadVar,ha,if_true,Je hi,hl,hrun]
  ·obtain ⟨cs,k,hg,hk⟩:=JH hj
   obtain ⟨v,hv,hk⟩:=QaZ hk
   obtain ⟨v',hc,hvr⟩:=hs.load hg hm hv
   obtain ⟨vs,vs',hk,hr,hrun⟩:=Jbq hs he r _ hk
   refine ⟨_,v'::vs',hk,.cons hvr hr,?_⟩
   rw [List.mapM_cons]
   simp only [Sem.run_bind,QdG,hx',asAddr,Sem.run_pure,Result.andThen_ok,loadVar,ha,Bool.false_eq_true,if_false,run_load,hc,hrun]
theorem Jgv {vs vs':List Value} (h:VRs μ vs vs'):VR μ (tup vs) (if h:vs'.toArray.size=1 then vs'.toArray[0] else .tuple vs'.toArray):=by
 have tt:VR μ (.tuple vs.toArray) (.tuple vs'.toArray):= .tuple (by simpa using h.length) fun i x y hx hy=>by
  obtain ⟨z,hz,hr⟩:=h.get i x (by simpa using hx)
  have hy':vs'[i]? =some y:=by simpa using hy
  rw [hz] at hy';cases hy';exact hr
 cases h with
 | nil=>exact tt
 | cons hv hr=>
  cases hr with
  | nil=>exact hv
  | cons _ _=>exact tt
theorem Jdg {N:Nat} {t:Env} {a:Act} {fn:Func} {K:List Value→Prop} (hs:Sim μ g n w B) (he:EnvR μ N t a) (h:ZeL P t g fn.results.toList K): ∃vs v',K vs∧VR μ (tup vs) v'∧(results fn a.tmps).run P w= .ok v' w:=by
 obtain ⟨vs,vs',hk,hr,hrun⟩:=Jbq (P:=P) hs he _ _ h
 refine ⟨vs,_,hk,Jgv hr,?_⟩
 have e:results fn a.tmps=(do let vs ←fn.results.mapM (QdG a);pure (if h:vs.size=1 then vs[0] else .tuple vs)):=by
  unfold results
  congr 2
 rw [e,Array.mapM_eq_mapM_toList]
 simp only [Sem.run_bind,Sem.run_map,hrun,Result.andThen_ok,Sem.run_pure]
end Go.Proofs.YtmchcjaomcdbmaaGreat.Abs
namespace Go.Proofs.YtmchcjaomcdbmaaGreat.Abs
open Go Go.RowKit
variable {P:Program} {B:Nat} {w:World} {μ:Mu} {g:G} {n:Nat}
theorem JfE {f:Nat} {args:List Value} {cargs:Array Value} {N:Nat} (hr:VRs μ args cargs.toList) (hl:args.length≤N):
  EnvR μ N (Qq args) { tmps:=cargs++Array.replicate (N-cargs.size) undef,defers:=[] }:=by
 have hs:args.length=cargs.size:=by simpa using hr.length
 refine ⟨by simp;omega,fun i=> ?_⟩
 unfold Qq
 by_cases hi:i<args.length
 ·obtain ⟨y,hy,hv⟩:=hr.get i args[i] (by simp [hi])
  have hy':cargs[i]? =some y:=by simpa using hy
  have:(cargs++Array.replicate (N-cargs.size) undef).getD i undef=y:=by
   rw [Array.getD_eq_getD_getElem?,Array.getElem?_append_left (by omega),hy'];rfl
  simp only [this]
  simpa [hi] using hv
 ·have e:args.getD i undef=undef:=by simp [List.getD_eq_getElem?_getD,List.getElem?_eq_none (by omega:args.length≤i)]
  have e2:(cargs++Array.replicate (N-cargs.size) undef).getD i undef=undef:=by
   rw [Array.getD_eq_getD_getElem?,Array.getElem?_append_right (by omega)]
   rcases Nat.lt_or_ge (i-cargs.size) (N-cargs.size) with h|h
   ·simp [h]
   ·rw [Array.getElem?_eq_none (by simpa using h)];rfl
  simp only [e,e2]
  exact X9 μ
theorem JbG (hD: ∀B,Xam P B): ∀f args g n K,Zg P (ZaU P) f args g n K→ZaU P f args g n K:=by
 intro f args g n K h μ w B cargs hs hr
 unfold Zg at h
 split at h
 ·rename_i fn hf
  split at h
  ·rename_i c hb hn hl
   have hl:args.length≤fn.ntmps:=by simpa using hl
   have hrun:(callFunc f cargs).run P w= .ok (.enter f cargs) w:=by
    simp [callFunc,hf,hb]
    simp at hn
    simp [hn]
   rw [hrun]
   show Calls P f cargs w (Xft B w μ K)
   refine calls_of_wp hf hb ?_
   refine wp_mono (QdU (hD B) c _ _ g n μ w _ hs (JfE (f:=f) hr hl) rfl h) ?_
   intro e a' w' hq
   have fin: ∀(h:LiftE [] B fn.ntmps w μ (fun t g n=>ZeL P t g fn.results.toList fun vs=> ∃g',Sub g' g∧K (tup vs) g' n) a' w'),a'.defers=[]∧ ∃v,(results fn a'.tmps).run P w'= .ok v w'∧Xft B w μ K (.returned v) w':=by
    rintro ⟨t,g',n',μ',hk,hs',he',hd',hx,hbl⟩
    obtain ⟨vs,v',⟨g'',hsub,hk⟩,hvr,hres⟩:=Jdg (P:=P) hs' he' hk
    exact ⟨hd',v',hres,_,g'',n',μ',hk,hvr,hs'.sub hsub,hx,hbl⟩
   cases e with
   | normal=>exact fin hq
   | ret=>exact fin hq
   | exit id=>obtain ⟨t,g',n',μ',hk,_⟩:=hq;exact hk.elim
   | goto l=>obtain ⟨t,g',n',μ',hk,_⟩:=hq;exact hk.elim
   | panic ch=>exact hq.elim
   | outgrown=>exact hq.elim
  ·exact h.elim
 ·exact h.elim
def XcE (P:Program) (X:XT):Prop:= ∀f args g n K,X (ZaU P) f args g n K→ZaU P f args g n K
theorem ACalls.sim (hD: ∀B,Xam P B) {X:XT} (hX:XcE P X) {f:FuncId} {args:List Value} {K:Cont} (h:ACalls P X f args g n K):ZaU P f args g n K:=
 h (ZaU P) ⟨JbG hD,hX⟩
theorem Xcv (hD: ∀B,Xam P B) {X:XT} (hX:XcE P X) {f:FuncId} {fn:Func} {args:List Value} {cargs:Array Value} {K:Cont} (hf:P.funcs[f]? =some fn) (hb:fn.body.isSome=true) (hn:(fn.name== "runtime.NumGoroutine")=false)
  (hs:Sim μ g n w B) (hr:VRs μ args cargs.toList) (h:ACalls P X f args g n K):Calls P f cargs w (Xft B w μ K):=by
 have:=ACalls.sim hD hX h μ w B cargs hs hr
 obtain ⟨c,hb⟩:=Option.isSome_iff_exists.1 hb
 have hrun:(callFunc f cargs).run P w= .ok (.enter f cargs) w:=by
  simp [callFunc,hf,hb]
  simp at hn
  simp [hn]
 rw [hrun] at this
 exact this
end Go.Proofs.YtmchcjaomcdbmaaGreat.Abs
namespace Go.Proofs.YtmchcjaomcdbmaaGreat.Abs
open Go Go.RowKit
variable {P:Program} {g:G} {n:Nat}
theorem ZaA {t t':Env} {pl:Nat→Option (Nat×TypeId)}: ∀{parts:List (Nat×Operand)} {K:List (Nat×Option Nat×Value)→Prop},(∀x∈parts,ev t x.2=ev t' x.2)→partsOf P t pl parts K→partsOf P t' pl parts K
 | [],K,_,h=>h
 |(i,x)::r,K,he,h=>by
  simp only [partsOf] at h ⊢
  have e:ev t x=ev t' x:=he (i,x) (by simp)
  split at h
  ·rw [←e]
   exact Z9 (fun a h=>ZaA (fun y hy=>he y (by simp [hy])) h) h
  ·exact h.elim
theorem JaF {C:CT} {o:Oper} {t t':Env} {K:Cont} (he: ∀x∈o.op.operands.toList,ev t x=ev t' x) (h:aop P C o t g n K):aop P C o t' g n K:=by
 obtain ⟨dst,op,ty,pos,after,guard⟩:=o
 simp only at he
 unfold aop at*
 split at h
 ·exact h.elim
 cases op with
 | move x=>dsimp only at h ⊢;rw [←he x (by simp [Op.operands])];exact h
 | assign x=>dsimp only at h ⊢;rw [←he x (by simp [Op.operands])];exact h
 | pick c x y=>dsimp only at h ⊢;rw [←he x (by simp [Op.operands]),←he y (by simp [Op.operands]),←he c (by simp [Op.operands])];exact h
 | alloc e=>exact h
 | box e x=>dsimp only at h ⊢;rw [←he x (by simp [Op.operands])];exact h
 | build ty parts=>
  have hp: ∀x∈parts.toList,ev t x.2=ev t' x.2:=fun x hx=>he x.2 (by simp only [Op.operands];simp;exact ⟨x.1,by simpa using hx⟩)
  dsimp only at h ⊢
  refine JT (fun _ _ h=> ?_) h
  split at h
  ·split at h
   ·exact h.elim
   ·exact ZaA hp h
  ·exact Z8 (fun _ h=>ZaA hp h) h
  ·exact h.elim
 | buildSlice ty len parts=>
  have hp: ∀x∈parts.toList,ev t x.2=ev t' x.2:=fun x hx=>he x.2 (by simp only [Op.operands];simp;exact ⟨x.1,by simpa using hx⟩)
  simp only at h ⊢
  split at h
  ·refine JT (fun _ _ h=> ?_) h
   split at h
   ·exact ZaA hp h
   ·exact h.elim
  ·exact h.elim
 | load ty x=>dsimp only at h ⊢;rw [←he x (by simp [Op.operands])];exact h
 | store ty x y=>dsimp only at h ⊢;rw [←he x (by simp [Op.operands]),←he y (by simp [Op.operands])];exact h
 | nilCheck x=>dsimp only at h ⊢;rw [←he x (by simp [Op.operands])];exact h
 | binOp op xt x y yt=>dsimp only at h ⊢;rw [←he x (by simp [Op.operands]),←he y (by simp [Op.operands])];exact h
 | unOp op xt x=>dsimp only at h ⊢;rw [←he x (by simp [Op.operands])];exact h
 | convert src dst x=>dsimp only at h ⊢;rw [←he x (by simp [Op.operands])];exact h
 | makeFunc fn first captured=>
  have e1:first.map (ev t)=first.map (ev t'):=Array.map_congr_left fun x hx=>he x (by simp only [Op.operands,Array.toList_append,List.mem_append];exact .inl (by simpa using hx))
  have e2:captured.map (ev t)=captured.map (ev t'):=Array.map_congr_left fun x hx=>he x (by simp only [Op.operands,Array.toList_append,List.mem_append];exact .inr (by simpa using hx))
  dsimp only at h ⊢;rw [←e1,←e2];exact h
 | makeSlice ty x y=>dsimp only at h ⊢;rw [←he x (by simp [Op.operands]),←he y (by simp [Op.operands])];exact h
 | slice ty x lo hi mx=>
  have e0:=he x (by simp [Op.operands])
  have e1:lo.map (ev t)=lo.map (ev t'):=by cases lo with|none=>rfl|some v=>simp [he v (by simp [Op.operands])]
  have e2:hi.map (ev t)=hi.map (ev t'):=by cases hi with|none=>rfl|some v=>simp [he v (by simp [Op.operands])]
  have e3:mx.map (ev t)=mx.map (ev t'):=by cases mx with|none=>rfl|some v=>simp [he v (by simp [Op.operands])]
  dsimp only at h ⊢;rw [←e0,←e1,←e2,←e3];exact h
 | fieldAddr s x f=>dsimp only at h ⊢;rw [←he x (by simp [Op.operands])];exact h
 | field s x f=>dsimp only at h ⊢;rw [←he x (by simp [Op.operands])];exact h
 | indexAddr s x y=>dsimp only at h ⊢;rw [←he x (by simp [Op.operands]),←he y (by simp [Op.operands])];exact h
 | index s x y=>dsimp only at h ⊢;rw [←he x (by simp [Op.operands]),←he y (by simp [Op.operands])];exact h
 | extract x i=>dsimp only at h ⊢;rw [←he x (by simp [Op.operands])];exact h
 | makeMap ty r=>
  cases r with
  | none=>exact h
  | some x=>dsimp only at h ⊢;rw [←he x (by simp [Op.operands])];exact h
 | lookup s x y ok=>dsimp only at h ⊢;rw [←he x (by simp [Op.operands]),←he y (by simp [Op.operands])];exact h
 | mapUpdate s x y z=>dsimp only at h ⊢;rw [←he x (by simp [Op.operands]),←he y (by simp [Op.operands]),←he z (by simp [Op.operands])];exact h
 | insert s x y z=>dsimp only at h ⊢;rw [←he x (by simp [Op.operands]),←he y (by simp [Op.operands]),←he z (by simp [Op.operands])];exact h
 | mapEntry s x y=>dsimp only at h ⊢;rw [←he x (by simp [Op.operands]),←he y (by simp [Op.operands])];exact h
 | entryStore s x y z=>dsimp only at h ⊢;rw [←he x (by simp [Op.operands]),←he y (by simp [Op.operands]),←he z (by simp [Op.operands])];exact h
 | range s x=>dsimp only at h ⊢;rw [←he x (by simp [Op.operands])];exact h
 | next x b=>
  cases b with
  | true=>exact h
  | false=>dsimp only at h ⊢;rw [←he x (by simp [Op.operands])];exact h
 | entry x=>dsimp only at h ⊢;rw [←he x (by simp [Op.operands])];exact h
 | call c=>
  have hargs:c.args.toList.map (ev t)=c.args.toList.map (ev t'):=List.map_congr_left fun x hx=>he x (by simp only [Op.operands,Call.operands,Array.toList_append,List.mem_append];exact .inr hx)
  have ha: ∀x∈c.args.toList,ev t x=ev t' x:=fun x hx=>he x (by simp only [Op.operands,Call.operands,Array.toList_append,List.mem_append];exact .inr hx)
  simp only at h ⊢
  split at h
  ·rename_i f hc
   rw [←he f (by simp [Op.operands,Call.operands,hc]),←hargs];exact h
  ·exact h.elim
  ·split at h
   ·rename_i x _ _ _ hx _ _
    rw [←ha x (by rw [hx];simp)];exact h
   ·rename_i s x _ _ _ _ hx _ _
    rw [←ha s (by rw [hx];simp),←ha x (by rw [hx];simp)];exact h
   ·rename_i s x _ _ _ hx _ _
    rw [←ha s (by rw [hx];simp),←ha x (by rw [hx];simp)];exact h
   ·rename_i x _ _ _ hx _ _
    rw [←ha x (by rw [hx];simp)];exact h
   ·rw [←hargs];exact h
 | _=>exact h
def Det (F:(Value→Prop)→Prop):Prop:= ∀K,F K→ ∃v,K v∧ ∀K',K' v→F K'
theorem XfC {v:Value} {f:Bool→Value}:Det fun K=>XcN v fun b=>K (f b):=by
 intro K h
 obtain ⟨b,rfl,h⟩:=Jdq h
 exact ⟨_,h,fun K' h=>h⟩
theorem Qfj {cs:List Value} {o:Nat}:Det fun K=>Zdd cs o K:=by
 intro K h
 obtain ⟨v,hv,h⟩:=QaZ h
 exact ⟨v,h,fun K' h=>by simpa [Zdd,hv] using h⟩
theorem Zdj: ∀(l:List (Nat×Option Nat×Value)) (cs:List Value),∃o:Option (List Value),∀K:List Value→Prop,Xk cs l K↔ ∃out,o=some out∧K out
 | [],cs=>⟨some cs,fun K=>by simp [Xk]⟩
 |(off,none,v)::r,cs=>by
  by_cases h:isCell v=true∧off<cs.length
  ·obtain ⟨o,ho⟩:=Zdj r (cs.set off v)
   exact ⟨o,fun K=>by simp only [Xk,h,true_and];exact ho K⟩
  ·exact ⟨none,fun K=>by simp only [Xk];exact ⟨fun ⟨a,b,_⟩=>absurd ⟨a,b⟩ h,fun ⟨_,h,_⟩=>by cases h⟩⟩
 |(off,some k,v)::r,cs=>by
  cases v with
  | agg xs=>
   by_cases h:xs.toList.length=k∧off+k≤cs.length
   ·obtain ⟨o,ho⟩:=Zdj r (splice cs off xs.toList)
    exact ⟨o,fun K=>by simp only [Xk,Jl,h,true_and];exact ho K⟩
   ·exact ⟨none,fun K=>by simp only [Xk,Jl];exact ⟨fun ⟨a,b,_⟩=>absurd ⟨a,b⟩ h,fun ⟨_,h,_⟩=>by cases h⟩⟩
  | _=>exact ⟨none,fun K=>by simp [Xk,Jl]⟩
theorem Zdc {ty:TypeId} {F:Option Nat→(Value→Prop)→Prop} (hF: ∀a,Det (F a)):Det fun K=>Xak P ty fun a=>F a K:=by
 intro K h
 unfold Xak JbS at h
 split at h
 ·rename_i fs hu
  split at h
  ·rename_i i hi
   obtain ⟨v,hk,hv⟩:=hF _ K h
   exact ⟨v,hk,fun K' h=>by simp only [Xak,JbS,hu,hi];exact hv K' h⟩
  ·exact h.elim
 ·rename_i a b hu
  split at h
  ·rename_i i hi
   obtain ⟨v,hk,hv⟩:=hF _ K h
   exact ⟨v,hk,fun K' h=>by simp only [Xak,JbS,hu,hi];exact hv K' h⟩
  ·exact h.elim
 ·rename_i d h1 h2 hu
  split at h
  ·rename_i i hi
   split at h
   ·rename_i hsz
    obtain ⟨v,hk,hv⟩:=hF _ K h
    refine ⟨v,hk,fun K' h=> ?_⟩
    unfold Xak JbS
    rw [hu]
    cases d<;>first|(exact absurd rfl (h1 _))|(exact absurd rfl (h2 _ _))|(simp only [hi,hsz];exact hv K' h)
   ·exact h.elim
  ·exact h.elim
 ·exact h.elim
theorem QcW {ty:TypeId} {F:Nat→(Value→Prop)→Prop} (hF: ∀a,Det (F a)):Det fun K=>JbS P ty fun a=>F a K:=by
 intro K h
 unfold JbS at h
 split at h
 ·rename_i i hi
  obtain ⟨v,hk,hv⟩:=hF _ K h
  exact ⟨v,hk,fun K' h=>by simp only [JbS,hi];exact hv K' h⟩
 ·exact h.elim
theorem Zb5 {op:BinOp} {r:Bool}:Det fun K=>Jdl op r K:=by
 intro K h
 cases op<;>simp only [Jdl] at h<;>first|exact ⟨_,h,fun K' h=>h⟩|exact h.elim
theorem XeE {op:BinOp} {k:IntKind} {a b:Int}:Det fun K=>ZF op k a b K:=by
 intro K h
 cases op<;>simp only [ZF] at h ⊢ <;>first|exact ⟨_,h,fun K' h=>h⟩|exact ⟨_,h.2,fun K' h'=>⟨h.1,h'⟩⟩
theorem XfV {e:EK} {op:BinOp} {x y:Value}:Det fun K=>Xb e op x y K:=by
 intro K h
 have h0:=h
 unfold Xb at h
 split at h
 ·split at h
  ·obtain ⟨v,hk,hv⟩:=XeE K h.2
   exact ⟨v,hk,fun K' h'=>⟨h.1,hv K' h'⟩⟩
  ·exact h.elim
 ·split at h
  ·obtain ⟨v,hk,hv⟩:=Zb5 K h
   exact ⟨v,hk,fun K' h'=>hv K' h'⟩
  ·exact h.elim
 ·split at h
  ·obtain ⟨v,hk,hv⟩:=Zb5 K h
   exact ⟨v,hk,fun K' h'=>hv K' h'⟩
  ·obtain ⟨v,hk,hv⟩:=Zb5 K h
   exact ⟨v,hk,fun K' h'=>hv K' h'⟩
  ·exact h.elim
 ·split at h
  ·obtain ⟨v,hk,hv⟩:=Zb5 K h
   exact ⟨v,hk,fun K' h'=>hv K' h'⟩
  ·exact h.elim
 ·split at h
  ·split at h
   ·rename_i r hr
    obtain ⟨v,hk,hv⟩:=Zb5 K h
    exact ⟨v,hk,fun K' h'=>by simp only [Xb,hr];exact hv K' h'⟩
   ·exact h.elim
  ·exact h.elim
 ·split at h
  ·obtain ⟨v,hk,hv⟩:=Zb5 K h
   exact ⟨v,hk,fun K' h'=>hv K' h'⟩
  ·exact h.elim
 ·exact h.elim
theorem Zd9 {cs:List Value} {off:Nat} {a:Option Nat}:Det fun K=>XaH cs off a K:=by
 intro K h
 cases a with
 | none=>exact Qfj K h
 | some k=>exact ⟨_,h.2,fun K' h'=>⟨h.1,h'⟩⟩
theorem QfS {x:Option Value} {d m:Nat} {F:Nat→(Value→Prop)→Prop} (hF: ∀a,Det (F a)):Det fun K=>XJ x d m fun a=>F a K:=by
 intro K h
 rcases ZL h with ⟨rfl,h⟩|⟨k,i,rfl,h0,h1,h⟩
 ·obtain ⟨v,hk,hv⟩:=hF _ K h
  exact ⟨v,hk,fun K' h'=>hv K' h'⟩
 ·obtain ⟨v,hk,hv⟩:=hF _ K h
  exact ⟨v,hk,fun K' h'=>⟨h0,h1,hv K' h'⟩⟩
theorem ZbK {v:Value}:Det fun K=>K v:=fun _ h=>⟨v,h,fun _ h=>h⟩
theorem QeP {x:Value} {lo hi mx:Option Value} {z:Nat}:Det fun K=>Xu x lo hi mx z K:=by
 intro K h
 unfold Xu at h
 split at h
 ·rename_i a len c
  split at h
  ·rename_i hc
   obtain ⟨v,hk,hv⟩:=QfS (fun _=>QfS fun _=>QfS fun _=>ZbK) K h
   exact ⟨v,hk,fun K' h'=>by simp only [Xu,if_pos hc];exact hv K' h'⟩
  ·rename_i hc
   obtain ⟨he,h⟩:=h
   split at h
   ·obtain ⟨v,hk,hv⟩:=QfS (fun _=>QfS fun _=>ZbK) K h
    exact ⟨v,hk,fun K' h'=>by simp only [Xu,if_neg hc];exact ⟨he,hv K' h'⟩⟩
   ·rename_i mxv
    have hd:Det fun K:Value→Prop=>XJ (some mxv) 0 len fun m=>m<LC∧XJ hi 0 m fun h=>XJ lo 0 h fun l=>K (.slice (a.map (·.add (l*z))) (h-l) (m-l)):=
     QfS fun m K h=>by
      obtain ⟨v,hk,hv⟩:=QfS (fun _=>QfS fun _=>ZbK) K h.2
      exact ⟨v,hk,fun K' h'=>⟨h.1,hv K' h'⟩⟩
    obtain ⟨v,hk,hv⟩:=hd K h
    exact ⟨v,hk,fun K' h'=>by simp only [Xu,if_neg hc];exact ⟨he,hv K' h'⟩⟩
 ·exact h.elim
end Go.Proofs.YtmchcjaomcdbmaaGreat.Abs
namespace Go.Proofs.YtmchcjaomcdbmaaGreat.Abs
open Go Go.RowKit
variable {P:Program} {g:G} {n:Nat}
def SameLoad (o:Oper) (t:Env) (g g2:G):Prop:=match o.op with| .load _ a=> ∀l o,ev t a= .pointer (some ⟨l,o,none⟩)→g2 l=g l|_=>True
theorem QcD {t:Env} {pl:Nat→Option (Nat×TypeId)} {F:List (Nat×Option Nat×Value)→(Value→Prop)→Prop} (hF: ∀l,Det (F l)): ∀(parts:List (Nat×Operand)),Det fun K=>partsOf P t pl parts fun l=>F l K
 | []=>fun K h=>hF [] K h
 |(i,x)::r=>by
  intro K h
  simp only [partsOf] at h
  split at h
  ·rename_i off ty hp
   obtain ⟨v,hk,hv⟩:=Zdc (P:=P) (fun a=>QcD (F:=fun l=>F ((off,a,ev t x)::l)) (fun l=>hF _) r) K h
   exact ⟨v,hk,fun K' h'=>by simp only [partsOf,hp];exact hv K' h'⟩
  ·exact h.elim
theorem Jds {cs:List Value} {l:List (Nat×Option Nat×Value)} {f:List Value→Value}:Det fun K=>Xk cs l fun cs=>K (f cs):=by
 intro K h
 obtain ⟨o,ho⟩:=Zdj l cs
 obtain ⟨out,rfl,hk⟩:=(ho _).1 h
 exact ⟨_,hk,fun K' h'=>(ho _).2 ⟨out,rfl,h'⟩⟩
theorem Qf0 {C:CT} {o:Oper} {t:Env} {K:Cont} (he:Xaw o.op=false) (h:aop P C o t g n K):
  ∃v,K v g n∧ ∀(g2:G) (n2:Nat) (K':Cont),SameLoad o t g g2→K' v g2 n2→aop P C o t g2 n2 K':=by
 obtain ⟨dst,op,ty,pos,after,guard⟩:=o
 simp only at he
 unfold aop at h
 split at h
 ·exact h.elim
 rename_i hok
 have fin: ∀{F:(Value→Prop)→Prop},Det F→F (fun v=>K v g n)→(∀g2 n2 (K':Cont),F (fun v=>K' v g2 n2)→aop P C { dst:=dst,op:=op,type:=ty,pos:=pos,after:=after,guard:=guard } t g2 n2 K')→
   ∃v,K v g n∧ ∀(g2:G) (n2:Nat) (K':Cont),SameLoad { dst:=dst,op:=op,type:=ty,pos:=pos,after:=after,guard:=guard } t g g2→K' v g2 n2→aop P C { dst:=dst,op:=op,type:=ty,pos:=pos,after:=after,guard:=guard } t g2 n2 K':=by
  intro F hF h1 h2
  obtain ⟨v,hk,hv⟩:=hF _ h1
  exact ⟨v,hk,fun g2 n2 K' _ hk'=>h2 g2 n2 K' (hv _ hk')⟩
 cases op with
 | move x=>exact fin ZbK h fun g2 n2 K' h=>by unfold aop;rw [hok];exact h
 | assign x=>exact fin ZbK h fun g2 n2 K' h=>by unfold aop;rw [hok];exact h
 | pick c x y=>exact fin XfC h fun g2 n2 K' h=>by unfold aop;rw [hok];exact h
 | build ty parts=>
  dsimp only at h
  obtain ⟨i,z,hi,hz,hp,hc,hsz,h⟩:=Zak h
  have back: ∀(J:List Value→Nat→Prop),J z.cells.toList i.bytes→zeroOf P ty J:=by
   intro J hj
   unfold zeroOf
   simp only [hi,hz]
   rw [show (plain 3 z&&z.cells.toList.all isCell&&(z.cells.size==i.size))=true by
    rw [hp,Bool.true_and];simp only [Bool.and_eq_true,List.all_eq_true,beq_iff_eq];exact ⟨hc,hsz⟩]
   exact hj
  split at h
  ·rename_i fs hu
   split at h
   ·exact h.elim
   ·rename_i hall
    exact fin (QcD (P:=P) (fun l=>Jds) _) h fun g2 n2 K' h=>by
     unfold aop;rw [hok];dsimp only;refine back _ ?_;simp only [hu,hall];exact h
  ·rename_i len e hu
   exact fin (QcW (P:=P) fun k=>QcD (P:=P) (fun l=>Jds) _) h fun g2 n2 K' h=>by
    unfold aop;rw [hok];dsimp only;refine back _ ?_;simp only [hu];exact h
  ·exact h.elim
 | load ty x=>
  dsimp only at h
  unfold Qe at h
  split at h
  ·rename_i l o' hx
   have hd: ∀(g2:G),g2 l=g l→Det (fun K=>Xak P ty fun a=>match a with
     | some k=>Zn g2 l o' k fun cs=>K (.agg cs.toArray)
     | none=>kLd g2 l o' fun v=>K v):=by
    intro g2 hg2
    refine Zdc (P:=P) (F:=fun a K=>match a with
     | some k=>Zn g2 l o' k fun cs=>K (.agg cs.toArray)
     | none=>kLd g2 l o' fun v=>K v) fun a=> ?_
    cases a with
    | none=>
     intro K h
     obtain ⟨cs,k,hg,h⟩:=JH h
     obtain ⟨v,hv,hk⟩:=QaZ h
     exact ⟨v,hk,fun K' h'=>by simp only [kLd,Zam,hg,Zdd,hv];exact h'⟩
    | some k=>
     intro K h
     obtain ⟨cs,k',hg,h⟩:=JH h
     exact ⟨_,h.2,fun K' h'=>by simp only [Zn,Zam,hg];exact ⟨h.1,h'⟩⟩
   obtain ⟨v,hk,hv⟩:=hd g rfl (fun v=>K v g n) h
   refine ⟨v,hk,fun g2 n2 K' hsame hk'=> ?_⟩
   have hg2:g2 l=g l:=hsame l o' hx
   have:=hv (fun v=>K' v g2 n2) hk'
   unfold aop;rw [hok];dsimp only
   simp only [hx,Qe]
   have e: ∀a:Option Nat,(match a with
     | some k=>Zn g l o' k fun cs=>K' (.agg cs.toArray) g2 n2
     | none=>kLd g l o' fun v=>K' v g2 n2)→(match a with
     | some k=>Zn g2 l o' k fun cs=>K' (.agg cs.toArray) g2 n2
     | none=>kLd g2 l o' fun v=>K' v g2 n2):=by
    intro a h
    cases a with
    | none=>simpa [kLd,Zam,hg2] using h
    | some k=>simpa [Zn,Zam,hg2] using h
   exact Z9 e this
  ·exact h.elim
 | nilCheck x=>
  refine fin (F:=fun K=>Qo (ev t x) K) ?_ h fun g2 n2 K' h=>by unfold aop;rw [hok];exact h
  intro K h
  unfold Qo at h
  split at h
  all_goals first|exact h.elim|exact ⟨_,h,fun K' h'=>by simp [Qo, *]⟩
 | binOp op xt x y yt=>exact fin XfV h fun g2 n2 K' h=>by unfold aop;rw [hok];exact h
 | unOp op xt x=>
  refine fin (F:=fun K=>kUn op (ev t x) K) ?_ h fun g2 n2 K' h=>by unfold aop;rw [hok];exact h
  intro K h
  unfold kUn at h
  split at h
  all_goals first|exact h.elim|exact ⟨_,h,fun K' h'=>by first|(simp [kUn, *];done)|simpa [kUn, *] using h'⟩
 | convert src dst x=>
  dsimp only at h
  split at h
  ·rename_i d k h1 h2
   refine fin (F:=fun K=>Xch k (ev t x) K) ?_ h fun g2 n2 K' h=>by unfold aop;rw [hok];dsimp only;simp only [h1,h2];exact h
   intro K h
   unfold Xch at h
   split at h
   ·exact ⟨_,h,fun K' h'=>by simp [Xch, *]⟩
   ·exact h.elim
  ·exact h.elim
 | makeFunc fn first captured=>exact fin ZbK h fun g2 n2 K' h=>by unfold aop;rw [hok];exact h
 | slice ty x lo hi mx=>
  dsimp only at h
  split at h
  ·rename_i e h1 h2
   exact fin (QcW (P:=P) fun z=>QeP) h fun g2 n2 K' h=>by unfold aop;rw [hok];dsimp only;simp only [h1,h2];exact h
  ·exact h.elim
 | fieldAddr s x f=>
  dsimp only at h
  split at h
  ·rename_i fs hu
   split at h
   ·rename_i fd hf
    have hd:Det fun K=>JbS P fd.type fun k=>match k==0 with|true=>False|false=>Zas (ev t x) fd.offset K:=by
     refine QcW (P:=P) (F:=fun k K=>match k==0 with|true=>False|false=>Zas (ev t x) fd.offset K) fun k=> ?_
     intro K h
     split at h
     ·exact h.elim
     ·rename_i hk0
      unfold Zas Qe at h
      split at h
      ·rename_i hx
       exact ⟨_,h,fun K' h'=>by simp only [Zas,Qe,hx];exact h'⟩
      ·exact h.elim
    exact fin hd h fun g2 n2 K' h=>by unfold aop;rw [hok];dsimp only;simp only [hu,hf];exact h
   ·exact h.elim
  ·exact h.elim
 | field s x f=>
  dsimp only at h
  split at h
  ·rename_i fs hu
   split at h
   ·rename_i fd hf
    have hd:Det fun K=>Xak P fd.type fun a=>Jl (ev t x) fun cs=>XaH cs fd.offset a K:=by
     refine Zdc (P:=P) (F:=fun a K=>Jl (ev t x) fun cs=>XaH cs fd.offset a K) fun a=> ?_
     intro K h
     obtain ⟨cs,hx,h⟩:=Za0 h
     obtain ⟨v,hk,hv⟩:=Zd9 K h
     exact ⟨v,hk,fun K' h'=>by rw [hx];exact hv K' h'⟩
    exact fin hd h fun g2 n2 K' h=>by unfold aop;rw [hok];dsimp only;simp only [hu,hf];exact h
   ·exact h.elim
  ·exact h.elim
 | indexAddr s x y=>
  dsimp only at h
  split at h
  ·rename_i e hu
   have hd:Det fun K=>JbS P e fun z=>Jc (ev t x) (ev t y) z K:=by
    refine QcW (P:=P) (F:=fun z K=>Jc (ev t x) (ev t y) z K) fun z=> ?_
    intro K h
    unfold Jc at h
    split at h
    ·rename_i hx hy
     exact ⟨_,h.2.2,fun K' h'=>by simp only [Jc,hx,hy];exact ⟨h.1,h.2.1,h'⟩⟩
    ·exact h.elim
   exact fin hd h fun g2 n2 K' h=>by unfold aop;rw [hok];dsimp only;simp only [hu];exact h
  ·rename_i len e hu
   have hd:Det fun K=>JbS P e fun z=>ZD (ev t x) (ev t y) len z K:=by
    refine QcW (P:=P) (F:=fun z K=>ZD (ev t x) (ev t y) len z K) fun z=> ?_
    intro K h
    unfold ZD at h
    split at h
    ·rename_i hx hy
     exact ⟨_,h.2.2,fun K' h'=>by simp only [ZD,hx,hy];exact ⟨h.1,h.2.1,h'⟩⟩
    ·exact h.elim
   exact fin hd h fun g2 n2 K' h=>by unfold aop;rw [hok];dsimp only;simp only [hu];exact h
  ·exact h.elim
 | index s x y=>
  dsimp only at h
  split at h
  ·rename_i len e hu
   have hd:Det fun K=>JbS P e fun z=>Xak P e fun a=>Xdl (ev t x) (ev t y) len z a K:=by
    refine QcW (P:=P) (F:=fun z K=>Xak P e fun a=>Xdl (ev t x) (ev t y) len z a K) fun z=>Zdc (P:=P) (F:=fun a K=>Xdl (ev t x) (ev t y) len z a K) fun a=> ?_
    intro K h
    obtain ⟨cs,hx,h⟩:=Za0 h
    obtain ⟨k,j,hy,h0,h1,h⟩:=Xa2 h
    obtain ⟨v,hk,hv⟩:=Zd9 K h
    exact ⟨v,hk,fun K' h'=>by rw [hx,hy];exact ⟨h0,h1,hv K' h'⟩⟩
   exact fin hd h fun g2 n2 K' h=>by unfold aop;rw [hok];dsimp only;simp only [hu];exact h
  ·rename_i hu
   refine fin (F:=fun K=>ZcO (ev t x) (ev t y) K) ?_ h fun g2 n2 K' h=>by unfold aop;rw [hok];dsimp only;simp only [hu];exact h
   intro K h
   unfold ZcO at h
   split at h
   ·rename_i hx hy
    obtain ⟨h0,h⟩:=h
    split at h
    ·rename_i hb
     exact ⟨_,h,fun K' h'=>by rw [hx,hy];exact ⟨h0,by simp only [hb];exact h'⟩⟩
    ·exact h.elim
   ·exact h.elim
  ·exact h.elim
 | extract x i=>
  refine fin (F:=fun K=>Xd (ev t x) i K) ?_ h fun g2 n2 K' h=>by unfold aop;rw [hok];exact h
  intro K h
  unfold Xd at h
  split at h
  ·rename_i vs hx
   obtain ⟨v,hk,hv⟩:=Qfj K h
   exact ⟨v,hk,fun K' h'=>by rw [hx];exact hv K' h'⟩
  ·exact h.elim
 | call c=>
  dsimp only at h
  simp only [Xaw] at he
  split at he
  ·rename_i hc
   simp only [hc] at h
   split at h
   ·rename_i x r1 ty1 r2 _ h1 h2
    split at h
    ·rename_i e hu
     refine fin (F:=fun K=>ZaH (ev t x) K) ?_ h fun g2 n2 K' h=>by unfold aop;rw [hok];dsimp only;simp only [hc,h1,h2,hu];exact h
     intro K h
     unfold ZaH at h
     split at h
     ·exact ⟨_,h,fun K' h'=>by simp [ZaH, *]⟩
     ·exact h.elim
    ·rename_i len e hu
     exact fin ZbK h fun g2 n2 K' h=>by unfold aop;rw [hok];dsimp only;simp only [hc,h1,h2,hu];exact h
    ·rename_i hu
     refine fin (F:=fun K=>Jcu (ev t x) K) ?_ h fun g2 n2 K' h=>by unfold aop;rw [hok];dsimp only;simp only [hc,h1,h2,hu];exact h
     intro K h
     unfold Jcu at h
     split at h
     ·exact ⟨_,h,fun K' h'=>by simp [Jcu, *]⟩
     ·exact h.elim
    ·exact h.elim
   all_goals first|contradiction|exact h.elim|exact (show False from h).elim
  ·cases he
 | _=>simp [Xaw] at he
end Go.Proofs.YtmchcjaomcdbmaaGreat.Abs
namespace Go.Proofs.YtmchcjaomcdbmaaGreat.Abs
open Go Go.RowKit
def Jbi (acc:List Nat) (o:Oper):Nat:=o.after.toList.foldl (fun s e=>if Xap e then s ||| 2^e.on ||| acc.getD e.on 0 else s) 0
theorem Zc9: ∀(l:List Oper) (acc:List Nat),∃r,l.foldl (fun acc o=>acc++[Jbi acc o]) acc=acc++r∧r.length=l.length∧
  ∀(i:Nat) (o:Oper),l[i]? =some o→r[i]? =some (Jbi (acc++r.take i) o)
 | [],acc=>⟨[],by simp,rfl,by intro i o h;simp at h⟩
 | o::l,acc=>by
  obtain ⟨r,h1,h2,h3⟩:=Zc9 l (acc++[Jbi acc o])
  refine ⟨Jbi acc o::r,by rw [List.foldl_cons,h1];simp,by simp [h2],?_⟩
  intro i o' h
  cases i with
  | zero=>simp at h;subst h;simp
  | succ i=>
   have:=h3 i o' (by simpa using h)
   simp only [List.getElem?_cons_succ,List.take_succ_cons]
   rw [this];simp
theorem Xgg {l:List Oper} {i:Nat} {o:Oper} (h:l[i]? =some o):(ZC l).getD i 0=Jbi ((ZC l).take i) o:=by
 obtain ⟨r,h1,h2,h3⟩:=Zc9 l []
 have e:ZC l=r:=by simpa [ZC,Jbi] using h1
 rw [e]
 have:=h3 i o h
 simp only [List.nil_append] at this
 simp [List.getD_eq_getElem?_getD,this]
theorem Xf0 (l:List Oper):(ZC l).length=l.length:=by
 obtain ⟨r,h1,h2,h3⟩:=Zc9 l []
 have e:ZC l=r:=by simpa [ZC,Jbi] using h1
 rw [e,h2]
theorem Jed (acc:List Nat) (j:Nat): ∀(es:List Edge) (s:Nat),((es.foldl (fun s e=>if Xap e then s ||| 2^e.on ||| acc.getD e.on 0 else s) s).testBit j=true)↔(s.testBit j=true∨ ∃e∈es,Xap e=true∧(e.on=j∨(acc.getD e.on 0).testBit j=true))
 | [],s=>by simp
 | e::es,s=>by
  rw [List.foldl_cons,Jed acc j es]
  by_cases hb:Xap e=true
  ·rw [if_pos hb]
   simp only [Nat.testBit_or,Nat.testBit_two_pow,Bool.or_eq_true,decide_eq_true_eq]
   constructor
   ·rintro (((h|h)|h)|⟨e',h1,h2⟩)
    ·exact .inl h
    ·exact .inr ⟨e,by simp,hb,.inl h⟩
    ·exact .inr ⟨e,by simp,hb,.inr h⟩
    ·exact .inr ⟨e',by simp [h1],h2⟩
   ·rintro (h|⟨e',h1,h2,h3⟩)
    ·exact .inl (.inl (.inl h))
    ·rcases List.mem_cons.1 h1 with rfl|h1
     ·rcases h3 with h3|h3
      ·exact .inl (.inl (.inr h3))
      ·exact .inl (.inr h3)
     ·exact .inr ⟨e',h1,h2,h3⟩
  ·rw [if_neg hb]
   constructor
   ·rintro (h|⟨e',h1,h2⟩)
    ·exact .inl h
    ·exact .inr ⟨e',by simp [h1],h2⟩
   ·rintro (h|⟨e',h1,h2,h3⟩)
    ·exact .inl h
    ·rcases List.mem_cons.1 h1 with rfl|h1
     ·exact absurd h2 hb
     ·exact .inr ⟨e',h1,h2,h3⟩
theorem QfD {l:List Oper} {i:Nat} {o:Oper} (h:l[i]? =some o) (hlt: ∀e∈o.after.toList,Xap e=true→e.on<i) (j:Nat):
  hasB (ZC l) i j=true↔ ∃e∈o.after.toList,Xap e=true∧(e.on=j∨hasB (ZC l) e.on j=true):=by
 have e1: ∀e∈o.after.toList,Xap e=true→((ZC l).take i).getD e.on 0=(ZC l).getD e.on 0:=by
  intro e he hb
  have:=hlt e he hb
  simp [List.getD_eq_getElem?_getD,this]
 unfold hasB
 rw [Xgg h,Jbi,Jed]
 simp only [Nat.zero_testBit,Bool.false_eq_true,false_or]
 constructor
 ·rintro ⟨e,h1,h2,h3⟩;exact ⟨e,h1,h2,by rw [e1 e h1 h2] at h3;exact h3⟩
 ·rintro ⟨e,h1,h2,h3⟩;exact ⟨e,h1,h2,by rw [e1 e h1 h2];exact h3⟩
structure DOk (l:List Oper):Prop where
 back: ∀(i:Nat) (o:Oper),l[i]? =some o→ ∀e∈o.after.toList,Xap e=true→e.on<i
 grd: ∀(i:Nat) (o:Oper) (j:Nat) (want:Bool),l[i]? =some o→o.guard=some (j,want)→ ∃p d,l[j]? =some p∧p.dst=some d
 wr: ∀(i:Nat) (o:Oper) (j:Nat) (p:Oper) (d:Nat),l[i]? =some o→l[j]? =some p→p.dst=some d→d∈looks l o→hasB (ZC l) i j=true∨(Zfr o=true∧hasB (ZC l) j i=true)
 once: ∀(i:Nat) (o:Oper) (j:Nat) (p:Oper) (d:Nat),l[i]? =some o→l[j]? =some p→p.dst=some d→i≠j→o.dst≠some d
theorem ZeP {l:List Oper} (h:Qdx l (ZC l)=true):DOk l:=by
 unfold Qdx at h
 have h:=List.all_eq_true.1 h
 have at_: ∀(i:Nat) (o:Oper),l[i]? =some o→(o,i)∈l.zipIdx:=by
  intro i o hi
  rw [List.mem_iff_getElem?]
  exact ⟨i,by simp [List.getElem?_zipIdx,hi]⟩
 have h': ∀(i:Nat) (o:Oper),l[i]? =some o→_:=fun i o hi=>h (o,i) (at_ i o hi)
 simp only [Bool.and_eq_true,List.all_eq_true] at h'
 refine ⟨?_,?_,?_,?_⟩
 ·intro i o hi e he hb
  have:=(h' i o hi).1.1 e he
  simpa [hb] using this
 ·intro i o j want hi hg
  have:=(h' i o hi).1.2
  simp only [hg] at this
  cases hp:l[j]? with
  | none=>simp [hp] at this
  | some p=>
   cases hd:p.dst with
   | none=>simp [hp,hd] at this
   | some d=>exact ⟨p,d,rfl,hd⟩
 ·intro i o j p d hi hj hd hl
  have:=(h' i o hi).2 (p,j) (at_ j p hj)
  simp only [hd,Bool.and_eq_true,Bool.or_eq_true,Bool.not_eq_true'] at this
  rcases this.1 with h|h
  ·rw [List.contains_eq_mem] at h
   simp at h;exact absurd hl h
  ·exact h
 ·intro i o j p d hi hj hd hne
  have:=(h' i o hi).2 (p,j) (at_ j p hj)
  simp only [hd,Bool.and_eq_true,Bool.or_eq_true] at this
  rcases this.2 with h|h
  ·simp at h;exact absurd h hne
  ·simpa using h
end Go.Proofs.YtmchcjaomcdbmaaGreat.Abs
namespace Go.Proofs.YtmchcjaomcdbmaaGreat.Abs
open Go Go.RowKit
variable {P:Program} {B:Nat}
theorem XfH {t t':Env} {x:Operand} (h: ∀d,x= .tmp d→t d=t' d):ev t x=ev t' x:=by
 cases x with
 | tmp d=>exact h d rfl
 | _=>rfl
theorem JfI {ops:List Oper} {o:Oper} {d:Nat} (h:Operand.tmp d∈o.op.operands.toList):d∈looks ops o:=by
 unfold looks
 refine List.mem_append.2 (.inl (List.mem_filterMap.2 ⟨.tmp d,h,rfl⟩))
theorem Qfl {ops:List Oper} {o:Oper} {j:Nat} {want:Bool} {d:Nat} (hg:o.guard=some (j,want)) (hj:(ops[j]?).bind (·.dst)=some d):d∈looks ops o:=by
 unfold looks
 refine List.mem_append.2 (.inr ?_)
 rw [hg];simp only [hj];simp
theorem Zan {ops:List Oper} {o:Oper} {t t':Env} (h: ∀d∈looks ops o,t d=t' d): ∀x∈o.op.operands.toList,ev t x=ev t' x:=fun x hx=>
 XfH fun d hd=>h d (JfI (by rw [←hd];exact hx))
theorem XM {ops:Array Oper} {o:Oper} {t t':Env} {A A':Prop} {C C':Prop} (h: ∀d∈looks ops.toList o,t d=t' d) (ha:A→A') (hc:C→C') (hw:Xx ops o t A C):Xx ops o t' A' C':=by
 unfold Xx at*
 split at hw
 ·exact ha hw
 ·rename_i j want hg
  split at hw
  ·rename_i d hj
   have hj':(ops.toList[j]?).bind (·.dst)=some d:=by simpa using hj
   rw [←h d (Qfl hg hj')]
   split at hw
   ·generalize (_==want)=c at hw ⊢
    cases c with
    | true=>exact ha hw
    | false=>exact hc hw
   ·exact hc hw
   ·exact hw.elim
  ·exact hw.elim
theorem Xdn {ops:Array Oper} {o:Oper} {t:Env} {A A' C C':Prop} (h:Xx ops o t A C) (h':Xx ops o t A' C'):Xx ops o t (A∧A') (C∧C'):=by
 unfold Xx at*
 cases hg:o.guard with
 | none=>simp only [hg] at h h' ⊢;exact ⟨h,h'⟩
 | some jw=>
  obtain ⟨j,want⟩:=jw
  simp only [hg] at h h' ⊢
  cases hj:(ops[j]?).bind (·.dst) with
  | none=>simp only [hj] at h
  | some d=>
   simp only [hj] at h h' ⊢
   cases hb:t d with
   | bool b=>
    simp only [hb] at h h' ⊢
    generalize (b==want)=c at h h' ⊢
    cases c with
    | true=>exact ⟨h,h'⟩
    | false=>exact ⟨h,h'⟩
   | tuple xs=>simp only [hb] at h h' ⊢;exact ⟨h,h'⟩
   | _=>simp only [hb] at h
def Val (t:Env) (dst:Option Tmp) (v:Value):Prop:= ∀d,dst=some d→t d=v
def Pend (P:Program) (C:CT) (ops:Array Oper) (t:Env) (g:G) (o:Oper):Prop:=
 Xx ops o t (∃v,Val t o.dst v∧ ∀(g2:G) (n2:Nat) (K':Cont),SameLoad o t g g2→K' v g2 n2→aop P C o t g2 n2 K') (Val t o.dst undef)
theorem SameLoad.congr {o:Oper} {t t':Env} {g g2:G} (h: ∀x∈o.op.operands.toList,ev t x=ev t' x) (hs:SameLoad o t' g g2):SameLoad o t g g2:=by
 unfold SameLoad at*
 split<;>rename_i hop
 ·rename_i ty a
  simp only [hop] at hs
  intro l q hq
  exact hs l q (by rw [←h a (by rw [hop];simp [Op.operands])];exact hq)
 ·trivial
theorem Pend.congr {C:CT} {ops:Array Oper} {t t':Env} {g:G} {o:Oper} (h: ∀d∈looks ops.toList o,t d=t' d) (hd: ∀d,o.dst=some d→t d=t' d) (hp:Pend P C ops t g o):Pend P C ops t' g o:=by
 refine XM h ?_ ?_ hp
 ·rintro ⟨v,hv,hk⟩
  refine ⟨v,fun d e=>by rw [←hd d e];exact hv d e,fun g2 n2 K' hs hk'=> ?_⟩
  exact JaF (Zan h) (hk g2 n2 K' (hs.congr (Zan h)) hk')
 ·intro hv d e;rw [←hd d e];exact hv d e
theorem Pend.heap {C:CT} {ops:Array Oper} {t:Env} {g g':G} {o:Oper} (hp:Pend P C ops t g o) (hs:Xx ops o t (SameLoad o t g g') True):Pend P C ops t g' o:=by
 refine XM (fun _ _=>rfl) ?_ ?_ (Xdn hp hs)
 ·rintro ⟨⟨v,hv,hk⟩,hsame⟩
  refine ⟨v,hv,fun g2 n2 K' hs2 hk'=>hk g2 n2 K' ?_ hk'⟩
  unfold SameLoad at*
  split<;>rename_i hop
  ·simp only [hop] at hsame hs2
   intro l q hq
   rw [hs2 l q hq,hsame l q hq]
  ·trivial
 ·rintro ⟨hv,_⟩;exact hv
def WarAt (l:List Oper) (i:Nat) (o:Oper):Prop:= ∃(j:Nat) (p:Oper) (d:Nat),l[j]? =some p∧p.dst=some d∧d∈looks l o∧hasB (ZC l) j i=true
def QgG (P:Program) (C:CT) (t t':Env) (o:Oper):Prop:= ∃v,Val t o.dst v∧ ∀(g2:G) (n2:Nat) (K':Cont),K' v g2 n2→aop P C o t' g2 n2 K'
theorem Jdd {l:List Oper} {o:Oper} (h:Zfr o=true) {d d':Nat} (h1:d∈looks l o) (h2:d'∈looks l o):d=d':=by
 unfold Zfr at h
 split at h
 ·rename_i x hop hg
  unfold looks at h1 h2
  rw [hop,hg] at h1 h2
  simp only [Op.operands,List.append_nil] at h1 h2
  cases x<;>simp at h1 h2
  rw [h1,h2]
 ·cases h
theorem Zdz {ops:Array Oper} {o:Oper} (h:Zfr o=true) {t:Env} {A C:Prop}:Xx ops o t A C↔A:=by
 unfold Zfr at h
 split at h
 ·rename_i x hop hg
  unfold Xx;rw [hg]
 ·cases h
theorem Xf8 {o:Oper} (h:Zfr o=true) {t:Env} {g g2:G}:SameLoad o t g g2:=by
 unfold Zfr at h
 split at h
 ·rename_i x hop hg
  unfold SameLoad;rw [hop];trivial
 ·cases h
theorem WarAt.mv {l:List Oper} (hD:DOk l) {i:Nat} {o:Oper} (hi:l[i]? =some o) (h:WarAt l i o) (hlt: ∀i j,hasB (ZC l) i j=true→j<i):Zfr o=true:=by
 obtain ⟨j,p,d,hj,hd,hm,hb⟩:=h
 rcases hD.wr i o j p d hi hj hd hm with h|h
 ·have:=hlt _ _ h;have:=hlt _ _ hb;omega
 ·exact h.1
def Open (ld:List Bool) (listed:Array Bool) (i:Nat):Prop:=ld.getD i false=true∧listed.getD i false=false
structure DInv (P:Program) (N:Nat) (ops:Array Oper) (listed:Array Bool) (ld:List Bool) (t t':Env) (g:G):Prop where
 sl:listed.size=ops.size
 sd:ld.length=ops.size
 down: ∀i,listed.getD i false=true→ ∀j,hasB (ZC ops.toList) i j=true→listed.getD j false=true
 sub: ∀i,listed.getD i false=true→ld.getD i false=true
 eff: ∀(i:Nat) (o:Oper),ops.toList[i]? =some o→Xaw o.op=true→ld.getD i false=true→listed.getD i false=true
 agree: ∀d,(∀(j:Nat) (p:Oper),ops.toList[j]? =some p→p.dst=some d→ ¬Open ld listed j)→t' d=t d
 pend: ∀(i:Nat) (o:Oper),ops.toList[i]? =some o→Open ld listed i→(¬WarAt ops.toList i o→Pend P (ZaU P) ops t g o)∧(WarAt ops.toList i o→QgG P (ZaU P) t t' o)
 ldown: ∀(i:Nat) (o:Oper),ops.toList[i]? =some o→ld.getD i false=true→ ∀j,hasB (ZC ops.toList) i j=true→ld.getD j false=true
theorem XaZ (ld:List Bool) (i j:Nat) (d:Bool) (hi:i<ld.length):(ld.set i true).getD j d=if j=i then true else ld.getD j d:=by
 simp only [List.getD_eq_getElem?_getD,List.getElem?_set]
 by_cases h:i=j
 ·subst h;simp [hi]
 ·simp [h,show ¬j=i from fun e=>h e.symm]
theorem QaE (t:Env) (d:Nat) (v:Value) (i:Nat):put t (some d) v i=if i=d then v else t i:=rfl
theorem Qd {α:Type} {l:List α} {i:Nat} {x:α} (h:l[i]? =some x):i<l.length:=(List.getElem?_eq_some_iff.1 h).1
theorem DInv.reckon {N:Nat} {ops:Array Oper} {listed:Array Bool} {ld:List Bool} {t t':Env} {g:G} (hI:DInv P N ops listed ld t t' g) (hD:DOk ops.toList) (hlt0: ∀i j,hasB (ZC ops.toList) i j=true→j<i) {i:Nat} {o:Oper} (hi:ops.toList[i]? =some o) (hl:ld.getD i true=false) (he:Xaw o.op=false)
  (hbef: ∀j,hasB (ZC ops.toList) i j=true→ld.getD j false=true) {v:Value} (hp:Pend P (ZaU P) ops (put t o.dst v) g o):DInv P N ops listed (ld.set i true) (put t o.dst v) t' g:=by
 have hlt:i<ld.length:=by rw [hI.sd];simpa using Qd hi
 have hlf:ld.getD i false=false:=by
  simp only [List.getD_eq_getElem?_getD,List.getElem?_eq_getElem hlt] at hl ⊢;exact hl
 have hlisted:listed.getD i false=false:=by
  cases h:listed.getD i false with
  | false=>rfl
  | true=>have:=hI.sub i h;rw [hlf] at this;cases this
 have hset:=fun j d=>XaZ ld i j d hlt
 have hother: ∀(j:Nat) (p:Oper) (d:Nat),ops.toList[j]? =some p→ld.getD j false=true→o.dst=some d→(¬WarAt ops.toList j p→d∉looks ops.toList p)∧p.dst≠some d:=by
  intro j p d hj hlj hod
  have hne:j≠i:=fun e=>by subst e;rw [hlf] at hlj;cases hlj
  refine ⟨fun hnw hmem=> ?_,hD.once j p i o d hj hi hod hne⟩
  rcases hD.wr j p i o d hj hi hod hmem with h|h
  ·have:=hI.ldown j p hj hlj i h
   rw [hlf] at this;cases this
  ·exact hnw ⟨i,o,d,hi,hod,hmem,h.2⟩
 refine ⟨hI.sl,by simp [hI.sd],hI.down,?_,?_,?_,?_,?_⟩
 ·intro j hj;rw [hset];split
  ·rfl
  ·exact hI.sub j hj
 ·intro j p hj hpe hlj
  rw [hset] at hlj
  split at hlj
  ·rename_i e;subst e;rw [hi] at hj;cases hj;rw [he] at hpe;cases hpe
  ·exact hI.eff j p hj hpe hlj
 ·intro d hd
  have hne:o.dst≠some d:=fun e=>hd i o hi e ⟨by rw [hset];simp,hlisted⟩
  have h1:t' d=t d:=hI.agree d fun j p hj hpd ho=>by
   refine hd j p hj hpd ⟨?_,ho.2⟩
   rw [hset];split
   ·rfl
   ·exact ho.1
  rw [h1]
  cases hod:o.dst with
  | none=>rfl
  | some q=>rw [QaE];rw [if_neg (fun e=>hne (by rw [hod,e]))]
 ·intro j p hj ho
  obtain ⟨ho1,ho2⟩:=ho
  rw [hset] at ho1
  split at ho1
  ·rename_i e;subst e;rw [hi] at hj;cases hj
   refine ⟨fun _=>hp,fun hw=> ?_⟩
   have hmv:=hw.mv hD hi hlt0
   obtain ⟨q,r,dd,hq,hr,hm,hb⟩:=hw
   obtain ⟨v',hv',hk'⟩:=(Zdz hmv).1 hp
   refine ⟨v',hv',fun g2 n2 K' hk2=> ?_⟩
   have hag:t' dd=t dd:=hI.agree dd fun j' p' hj' hp' hop=>by
    have hjq:j'=q:=Classical.byContradiction fun hne=>hD.once j' p' q r dd hj' hq hr hne hp'
    subst hjq
    have:=hI.ldown j' p' hj' hop.1 j hb
    rw [hlf] at this;cases this
   have hne:o.dst≠some dd:=fun e=>by
    by_cases hqi:q=j
    ·subst hqi;have:=hlt0 _ _ hb;omega
    ·exact hD.once q r j o dd hq hi e hqi hr
   refine JaF (Zan (ops:=ops.toList) fun d hd=> ?_) (hk' g2 n2 K' (Xf8 hmv) hk2)
   have:=Jdd hmv hd hm
   subst this
   cases hod:o.dst with
   | none=>exact hag.symm
   | some z=>rw [QaE,if_neg (fun e=>hne (by rw [hod,e]))];exact hag.symm
  ·rename_i hne
   obtain ⟨hpj,hpm⟩:=hI.pend j p hj ⟨ho1,ho2⟩
   cases hod:o.dst with
   | none=>exact ⟨hpj,hpm⟩
   | some d=>
    obtain ⟨h1,h2⟩:=hother j p d hj ho1 hod
    refine ⟨fun hnw=>(hpj hnw).congr (fun q hq=> ?_) (fun q hq=> ?_),fun hw=> ?_⟩
    ·rw [QaE,if_neg (fun e=>h1 hnw (by rw [←e];exact hq))]
    ·rw [QaE,if_neg (fun e=>h2 (by rw [←e];exact hq))]
    ·obtain ⟨v',hv',hk'⟩:=hpm hw
     exact ⟨v',fun q hq=>by rw [QaE,if_neg (fun e=>h2 (by rw [←e];exact hq))];exact hv' q hq,hk'⟩
 ·intro j p hj hlj q hq
  rw [hset] at hlj ⊢
  split
  ·rfl
  ·split at hlj
   ·rename_i e;subst e;exact hbef q hq
   ·exact hI.ldown j p hj hlj q hq
end Go.Proofs.YtmchcjaomcdbmaaGreat.Abs
namespace Go.Proofs.YtmchcjaomcdbmaaGreat.Abs
open Go Go.RowKit
variable {P:Program} {B:Nat} {g:G} {n:Nat}
theorem DOk.iff {l:List Oper} (hD:DOk l) {i:Nat} {o:Oper} (h:l[i]? =some o) (j:Nat):hasB (ZC l) i j=true↔ ∃e∈o.after.toList,Xap e=true∧(e.on=j∨hasB (ZC l) e.on j=true):=
 QfD h (hD.back i o h) j
theorem Zd6 {l:List Oper} {i j:Nat} (h:hasB (ZC l) i j=true): ∃o,l[i]? =some o:=by
 rcases Nat.lt_or_ge i l.length with hl|hl
 ·exact ⟨l[i],by simp [hl]⟩
 ·unfold hasB at h
  rw [List.getD_eq_getElem?_getD,List.getElem?_eq_none (by rw [Xf0];exact hl)] at h
  simp at h
theorem DOk.lt {l:List Oper} (hD:DOk l): ∀(i j:Nat),hasB (ZC l) i j=true→j<i:=by
 intro i
 induction i using Nat.strongRecOn with
 | _ i ih=>
  intro j h
  obtain ⟨o,ho⟩:=Zd6 h
  obtain ⟨e,he,hb,h⟩:=(hD.iff ho j).1 h
  have:=hD.back i o ho e he hb
  rcases h with rfl|h
  ·exact this
  ·have:=ih e.on this j h;omega
theorem DOk.trans {l:List Oper} (hD:DOk l): ∀(i j k:Nat),hasB (ZC l) i j=true→hasB (ZC l) j k=true→hasB (ZC l) i k=true:=by
 intro i
 induction i using Nat.strongRecOn with
 | _ i ih=>
  intro j k h h2
  obtain ⟨o,ho⟩:=Zd6 h
  obtain ⟨e,he,hb,h⟩:=(hD.iff ho j).1 h
  refine (hD.iff ho k).2 ⟨e,he,hb,.inr ?_⟩
  rcases h with rfl|h
  ·exact h2
  ·exact ih e.on (hD.back i o ho e he hb) j k h h2
theorem effsDone_iff {l:List Oper} {bef:List Nat} {ld:List Bool} {i:Nat}:Jal l bef ld i=true↔ ∀(j:Nat) (o:Oper),l[j]? =some o→hasB bef i j=true→Xaw o.op=true→ld.getD j false=true:=by
 unfold Jal
 rw [List.all_eq_true]
 constructor
 ·intro h j o hj hb he
  have:=h (o,j) (by rw [List.mem_iff_getElem?];exact ⟨j,by simp [List.getElem?_zipIdx,hj]⟩)
  simpa [hb,he] using this
 ·intro h x hx
  obtain ⟨o,j⟩:=x
  obtain ⟨k,hk⟩:=List.mem_iff_getElem?.1 hx
  rw [List.getElem?_zipIdx] at hk
  cases hl:l[k]? with
  | none=>simp [hl] at hk
  | some q=>
   simp [hl] at hk
   obtain ⟨rfl,rfl⟩:=hk
   simp only [Bool.or_eq_true,Bool.not_eq_true',Bool.and_eq_false_iff]
   cases hb:hasB bef i k with
   | false=>exact .inl (.inl rfl)
   | true=>
    cases he:Xaw q.op with
    | false=>exact .inl (.inr rfl)
    | true=>exact .inr (h k q hl hb he)
theorem Ja4 {ops:Array Oper} {o:Oper} {t:Env} {A C:Prop} (h:Xx ops o t A C):(A∧ ∀X Y:Prop,X→Xx ops o t X Y)∨(C∧ ∀X Y:Prop,Y→Xx ops o t X Y):=by
 unfold Xx at*
 cases hg:o.guard with
 | none=>simp only [hg] at h ⊢;exact .inl ⟨h,fun _ _ x=>x⟩
 | some jw=>
  obtain ⟨j,want⟩:=jw
  simp only [hg] at h ⊢
  cases hj:(ops[j]?).bind (·.dst) with
  | none=>simp only [hj] at h
  | some d=>
   simp only [hj] at h ⊢
   cases hb:t d with
   | bool b=>
    simp only [hb] at h ⊢
    generalize (b==want)=c at h ⊢
    cases c with
    | true=>exact .inl ⟨h,fun _ _ x=>x⟩
    | false=>exact .inr ⟨h,fun _ _ x=>x⟩
   | tuple xs=>simp only [hb] at h ⊢;exact .inr ⟨h,fun _ _ x=>x⟩
   | _=>simp only [hb] at h
theorem Qeh {C:CT} {N:Nat} {ops:Array Oper} {o:Oper} {gd:Bool} {t:Env} {after:G→Prop→Prop} {K:Qn} (h:JeY P C N ops o gd t g n after K):
  (∀d,o.dst=some d→d<N)∧((aop P C o t g n (fun v g n=>after g (Jcc gd t o.dst v fun t=>K t g n))∧ ∀X Y:Prop,X→Xx ops o t X Y)∨(K (put t o.dst undef) g n∧ ∀X Y:Prop,Y→Xx ops o t X Y)):=by
 unfold JeY at h
 split at h
 ·exact h.elim
 ·rename_i hd
  refine ⟨fun d hdd=> ?_,Ja4 h⟩
  rw [hdd] at hd
  simpa [JcD] using hd
theorem adv {N:Nat} {ops:Array Oper} {listed:Array Bool} {t':Env} (hD:DOk ops.toList) {Kf:List Bool→Qn}: ∀(m k:Nat) (ld:List Bool) (t:Env),k+m=ops.size→DInv P N ops listed ld t t' g→
  (∀(j:Nat) (o:Oper),j<k→ops.toList[j]? =some o→Xaw o.op=false→Jal ops.toList (ZC ops.toList) ld j=true→ld.getD j false=true)→
  QeL P (ZaU P) N ops (ZC ops.toList) Kf (List.range' k m) ld t g n→
  ∃ld2 t2,Kf ld2 t2 g n∧DInv P N ops listed ld2 t2 t' g∧(∀(i:Nat) (o:Oper),ops.toList[i]? =some o→Xaw o.op=true→ld2.getD i false=ld.getD i false)∧
   (∀(j:Nat) (o:Oper),ops.toList[j]? =some o→Xaw o.op=false→Jal ops.toList (ZC ops.toList) ld2 j=true→ld2.getD j false=true)
 | 0,k,ld,t,hk,hI,hdone,h=>by
  refine ⟨ld,t,h,hI,fun _ _ _ _=>rfl,fun j o hj he hx=>hdone j o ?_ hj he hx⟩
  have:=Qd hj
  simp at this;omega
 | m+1,k,ld,t,hk,hI,hdone,h=>by
  have hklt:k<ops.toList.length:=by simp;omega
  obtain ⟨o,ho⟩: ∃o,ops.toList[k]? =some o:=⟨ops.toList[k],by simp⟩
  rw [List.range'_succ] at h
  simp only [QeL,ho] at h
  have hkl:k<ld.length:=by rw [hI.sd];simpa using hklt
  have eqd:ld.getD k true=ld.getD k false:=by simp [List.getD_eq_getElem?_getD,List.getElem?_eq_getElem hkl]
  split at h
  ·rename_i hc
   refine adv hD m (k+1) ld t (by omega) hI ?_ h
   intro j p hj hp he hx
   by_cases hjk:j=k
   ·subst hjk
    rw [ho] at hp;cases hp
    rw [he,hx,eqd] at hc
    simpa using hc
   ·exact hdone j p (by omega) hp he hx
  ·rename_i hc
   simp only [Bool.and_eq_true,Bool.not_eq_true'] at hc
   obtain ⟨⟨hl,he⟩,hx⟩:=hc
   obtain ⟨hdN,hcase⟩:=Qeh h
   have hbef: ∀j,hasB (ZC ops.toList) k j=true→ld.getD j false=true:=by
    intro j hj
    have hjk:=hD.lt k j hj
    obtain ⟨p,hp⟩: ∃p,ops.toList[j]? =some p:=⟨ops.toList[j]'(by omega),by rw [List.getElem?_eq_getElem]⟩
    cases hpe:Xaw p.op with
    | true=>exact effsDone_iff.1 hx j p hp hj hpe
    | false=>exact hdone j p hjk hp hpe (effsDone_iff.2 fun q r hq hb hr=>effsDone_iff.1 hx q r hq (hD.trans k j q hj hb) hr)
   have hself: ∀d,o.dst=some d→d∉looks ops.toList o:=fun d hd hm=>by
    rcases hD.wr k o k o d ho ho hd hm with h|h
    ·have:=hD.lt k k h;omega
    ·have:=hD.lt k k h.2;omega
   have hcongr: ∀v,∀d∈looks ops.toList o,t d=put t o.dst v d:=by
    intro v d hd
    cases hod:o.dst with
    | none=>rfl
    | some q=>rw [QaE,if_neg (fun e=>hself q hod (by rw [←e];exact hd))]
   have hval: ∀v,Val (put t o.dst v) o.dst v:=by intro v d hd;rw [hd,QaE];simp
   have next: ∀v,Pend P (ZaU P) ops (put t o.dst v) g o→QeL P (ZaU P) N ops (ZC ops.toList) Kf (List.range' (k+1) m) (ld.set k true) (put t o.dst v) g n→
     ∃ld2 t2,Kf ld2 t2 g n∧DInv P N ops listed ld2 t2 t' g∧(∀(i:Nat) (o:Oper),ops.toList[i]? =some o→Xaw o.op=true→ld2.getD i false=ld.getD i false)∧
      (∀(j:Nat) (o:Oper),ops.toList[j]? =some o→Xaw o.op=false→Jal ops.toList (ZC ops.toList) ld2 j=true→ld2.getD j false=true):=by
    intro v hp hk2
    have hI2:=hI.reckon hD hD.lt ho hl he hbef hp
    have hsame: ∀(j:Nat) (p:Oper),ops.toList[j]? =some p→Xaw p.op=true→(ld.set k true).getD j false=ld.getD j false:=by
     intro j p hj hpe
     rw [XaZ _ _ _ _ hkl]
     split
     ·rename_i e;subst e;rw [ho] at hj;cases hj;rw [he] at hpe;cases hpe
     ·rfl
    obtain ⟨ld2,t2,h1,h2,h3,h4⟩:=adv hD m (k+1) (ld.set k true) (put t o.dst v) (by omega) hI2 (by
     intro j p hj hp hpe hx2
     rw [XaZ _ _ _ _ hkl]
     split
     ·rfl
     ·refine hdone j p (by omega) hp hpe (effsDone_iff.2 fun q r hq hb hr=> ?_)
      rw [←hsame q r hq hr];exact effsDone_iff.1 hx2 q r hq hb hr) hk2
    exact ⟨ld2,t2,h1,h2,fun i p hi hpe=>(h3 i p hi hpe).trans (hsame i p hi hpe),h4⟩
   rcases hcase with ⟨hop,hw⟩|⟨hk2,hw⟩
   ·obtain ⟨v,hkv,hdet⟩:=Qf0 he hop
    refine next v ?_ (QcH (K:=fun t=>QeL P (ZaU P) N ops (ZC ops.toList) Kf (List.range' (k+1) m) (ld.set k true) t g n) hkv)
    refine XM (hcongr v) id id (hw _ _ ⟨v,hval v,fun g2 n2 K' hs hk'=> ?_⟩)
    exact JaF (Zan (hcongr v)) (hdet g2 n2 K' (hs.congr (Zan (hcongr v))) hk')
   ·exact next undef (XM (hcongr undef) id id (hw _ _ (hval undef))) hk2
end Go.Proofs.YtmchcjaomcdbmaaGreat.Abs
namespace Go.Proofs.YtmchcjaomcdbmaaGreat.Abs
open Go Go.RowKit
variable {P:Program} {B:Nat} {g:G} {n:Nat}
theorem Qbl (listed:Array Bool) (i j:Nat) (d:Bool) (hi:i<listed.size):(listed.setIfInBounds i true).getD j d=if j=i then true else listed.getD j d:=by
 simp only [Array.getD_eq_getD_getElem?,Array.getElem?_setIfInBounds]
 by_cases h:i=j
 ·subst h;simp [hi]
 ·simp [h,show ¬j=i from fun e=>h e.symm]
theorem DInv.carry {N:Nat} {ops:Array Oper} {listed:Array Bool} {ld:List Bool} {t t':Env} (hI:DInv P N ops listed ld t t' g) (hD:DOk ops.toList) {i:Nat} {o:Oper} (hi:ops.toList[i]? =some o) (ho:Open ld listed i)
  (hbef: ∀j,hasB (ZC ops.toList) i j=true→listed.getD j false=true) {v:Value} (hv:Val t o.dst v):DInv P N ops (listed.setIfInBounds i true) ld t (put t' o.dst v) g:=by
 have hlt:i<listed.size:=by rw [hI.sl];simpa using Qd hi
 have hset:=fun j d=>Qbl listed i j d hlt
 have hopen: ∀j,Open ld (listed.setIfInBounds i true) j→Open ld listed j∧j≠i:=by
  intro j hj
  have h2:=hj.2
  rw [hset] at h2
  split at h2
  ·cases h2
  ·rename_i hne;exact ⟨⟨hj.1,h2⟩,hne⟩
 refine ⟨by simp [hI.sl],hI.sd,?_,?_,?_,?_,?_,hI.ldown⟩
 ·intro j hj q hq
  rw [hset] at hj ⊢
  split
  ·rfl
  ·split at hj
   ·rename_i e;subst e;exact hbef q hq
   ·exact hI.down j hj q hq
 ·intro j hj
  rw [hset] at hj
  split at hj
  ·rename_i e;subst e;exact ho.1
  ·exact hI.sub j hj
 ·intro j p hj he hl
  rw [hset]
  split
  ·rfl
  ·exact hI.eff j p hj he hl
 ·intro d hd
  cases hod:o.dst with
  | none=>
   exact hI.agree d fun j p hj hp hop=>by
    by_cases hji:j=i
    ·subst hji;rw [hi] at hj;cases hj;rw [hod] at hp;cases hp
    ·exact hd j p hj hp ⟨hop.1,by rw [hset,if_neg hji];exact hop.2⟩
  | some q=>
   rw [QaE]
   split
   ·rename_i e;subst e;exact (hv d hod).symm
   ·rename_i hne
    exact hI.agree d fun j p hj hp hop=>by
     by_cases hji:j=i
     ·subst hji;rw [hi] at hj;cases hj;rw [hod] at hp;cases hp;exact hne rfl
     ·exact hd j p hj hp ⟨hop.1,by rw [hset,if_neg hji];exact hop.2⟩
 ·intro j p hj hop
  obtain ⟨hop1,hne⟩:=hopen j hop
  obtain ⟨h1,h2⟩:=hI.pend j p hj hop1
  refine ⟨h1,fun hw=> ?_⟩
  obtain ⟨v',hv',hk'⟩:=h2 hw
  refine ⟨v',hv',fun g2 n2 K' hk=>JaF (Zan (ops:=ops.toList) fun d hd=> ?_) (hk' g2 n2 K' hk)⟩
  cases hod:o.dst with
  | none=>rfl
  | some q=>
   rw [QaE,if_neg]
   rintro rfl
   have hmv:=hw.mv hD hj hD.lt
   obtain ⟨a,r,dd,ha,hr,hm,hb⟩:=hw
   have e:=Jdd hmv hd hm
   subst e
   have hai:a=i:=Classical.byContradiction fun hne=>hD.once a r i o d ha hi hod hne hr
   subst hai
   have:=hbef j hb
   rw [hop1.2] at this;cases this
theorem DInv.effect {N:Nat} {ops:Array Oper} {listed:Array Bool} {ld:List Bool} {t t':Env} (hI:DInv P N ops listed ld t t' g) (hD:DOk ops.toList) {i:Nat} {o:Oper} (hi:ops.toList[i]? =some o) (hl:ld.getD i false=false)
  (hbef: ∀j,hasB (ZC ops.toList) i j=true→listed.getD j false=true) {v:Value} {g':G} (hch: ∀(j:Nat) (p:Oper),ops.toList[j]? =some p→Open ld listed j→ ¬WarAt ops.toList j p→Xx ops p t (SameLoad p t g g') True):
  DInv P N ops (listed.setIfInBounds i true) (ld.set i true) (put t o.dst v) (put t' o.dst v) g':=by
 have hlt:i<listed.size:=by rw [hI.sl];simpa using Qd hi
 have hld:i<ld.length:=by rw [hI.sd];simpa using Qd hi
 have hset:=fun j d=>Qbl listed i j d hlt
 have hset2:=fun j d=>XaZ ld i j d hld
 have hopen: ∀j,Open (ld.set i true) (listed.setIfInBounds i true) j→Open ld listed j∧j≠i:=by
  intro j hj
  obtain ⟨h1,h2⟩:=hj
  rw [hset] at h2
  rw [hset2] at h1
  split at h2
  ·cases h2
  ·rename_i hne
   rw [if_neg hne] at h1
   exact ⟨⟨h1,h2⟩,hne⟩
 have hopen2: ∀j,j≠i→Open ld listed j→Open (ld.set i true) (listed.setIfInBounds i true) j:=by
  intro j hne hj
  exact ⟨by rw [hset2,if_neg hne];exact hj.1,by rw [hset,if_neg hne];exact hj.2⟩
 refine ⟨by simp [hI.sl],by simp [hI.sd],?_,?_,?_,?_,?_,?_⟩
 ·intro j hj q hq
  rw [hset] at hj ⊢
  split
  ·rfl
  ·split at hj
   ·rename_i e;subst e;exact hbef q hq
   ·exact hI.down j hj q hq
 ·intro j hj
  rw [hset] at hj;rw [hset2]
  split
  ·rfl
  ·rename_i hne;rw [if_neg hne] at hj;exact hI.sub j hj
 ·intro j p hj he hl2
  rw [hset2] at hl2;rw [hset]
  split
  ·rfl
  ·rename_i hne;rw [if_neg hne] at hl2;exact hI.eff j p hj he hl2
 ·intro d hd
  cases hod:o.dst with
  | none=>
   exact hI.agree d fun j p hj hp hop=>by
    by_cases hji:j=i
    ·subst hji;have:=hop.1;rw [hl] at this;cases this
    ·exact hd j p hj hp (hopen2 j hji hop)
  | some q=>
   rw [QaE,QaE]
   split
   ·rfl
   ·exact hI.agree d fun j p hj hp hop=>by
     by_cases hji:j=i
     ·subst hji;have:=hop.1;rw [hl] at this;cases this
     ·exact hd j p hj hp (hopen2 j hji hop)
 ·intro j p hj hop
  obtain ⟨hop1,hne⟩:=hopen j hop
  obtain ⟨p1,p2⟩:=hI.pend j p hj hop1
  refine ⟨fun hnw=> ?_,fun hw=> ?_⟩
  ·have hpj:=(p1 hnw).heap (hch j p hj hop1 hnw)
   cases hod:o.dst with
   | none=>exact hpj
   | some d=>
    have h1:d∉looks ops.toList p:=fun hm=>by
     rcases hD.wr j p i o d hj hi hod hm with h|h
     ·have:=hI.ldown j p hj hop1.1 i h
      rw [hl] at this;cases this
     ·exact hnw ⟨i,o,d,hi,hod,hm,h.2⟩
    have h2:p.dst≠some d:=hD.once j p i o d hj hi hod hne
    refine hpj.congr (fun q hq=> ?_) (fun q hq=> ?_)
    ·rw [QaE,if_neg (fun e=>h1 (by rw [←e];exact hq))]
    ·rw [QaE,if_neg (fun e=>h2 (by rw [←e];exact hq))]
  ·obtain ⟨v',hv',hk'⟩:=p2 hw
   cases hod:o.dst with
   | none=>exact ⟨v',hv',hk'⟩
   | some z=>
    have h2:p.dst≠some z:=hD.once j p i o z hj hi hod hne
    refine ⟨v',fun q hq=>by rw [QaE,if_neg (fun e=>h2 (by rw [←e];exact hq))];exact hv' q hq,fun g2 n2 K' hk=>JaF (Zan (ops:=ops.toList) fun d hd=> ?_) (hk' g2 n2 K' hk)⟩
    rw [QaE,if_neg]
    rintro rfl
    have hmv:=hw.mv hD hj hD.lt
    obtain ⟨a,r,dd,ha,hr,hm,hb⟩:=hw
    have e:=Jdd hmv hd hm
    subst e
    have hai:a=i:=Classical.byContradiction fun hne=>hD.once a r i o d ha hi hod hne hr
    subst hai
    have:=hbef j hb
    rw [hop1.2] at this;cases this
 ·intro j p hj hlj q hq
  rw [hset2] at hlj ⊢
  split
  ·rfl
  ·split at hlj
   ·rename_i e;subst e;exact hI.sub q (hbef q hq)
   ·exact hI.ldown j p hj hlj q hq
def cnt (f:Nat→Bool):Nat→Nat
 | 0=>0
 | m+1=>cnt f m+if f m then 0 else 1
theorem Jdb {f:Nat→Bool}: ∀{m:Nat},cnt f m=0→ ∀i,i<m→f i=true
 | 0,_,i,hi=>by omega
 | m+1,h,i,hi=>by
  simp only [cnt] at h
  by_cases him:i=m
  ·subst him
   cases hf:f i with
   | true=>rfl
   | false=>simp [hf] at h
  ·exact Jdb (m:=m) (by omega) i (by omega)
theorem Jfk {f f':Nat→Bool} {i:Nat} (hi:f i=false) (hf: ∀j,f' j=if j=i then true else f j): ∀m,i<m→cnt f' m+1=cnt f m
 | 0,h=>by omega
 | m+1,h=>by
  simp only [cnt]
  by_cases him:i=m
  ·subst him
   have e:cnt f' i=cnt f i:=by
    have: ∀k,k≤i→cnt f' k=cnt f k:=by
     intro k
     induction k with
     | zero=>intro _;rfl
     | succ k ih=>intro hk;simp only [cnt];rw [ih (by omega),hf k,if_neg (show ¬k=i by omega)]
    exact this i (Nat.le_refl _)
   rw [e,hi,hf i];simp
  ·have:=Jfk hi hf m (by omega)
   rw [hf m,if_neg (show ¬m=i by omega)];omega
theorem Qd5 {f:Nat→Bool}: ∀{m:Nat},0<cnt f m→ ∃i,i<m∧f i=false∧ ∀j,j<i→f j=true
 | 0,h=>by simp [cnt] at h
 | m+1,h=>by
  rcases Nat.eq_zero_or_pos (cnt f m) with h0|h0
  ·simp only [cnt,h0] at h
   cases hf:f m with
   | true=>simp [hf] at h
   | false=>exact ⟨m,by omega,hf,fun j hj=>Jdb h0 j hj⟩
  ·obtain ⟨i,h1,h2,h3⟩:=Qd5 h0
   exact ⟨i,by omega,h2,h3⟩
end Go.Proofs.YtmchcjaomcdbmaaGreat.Abs
namespace Go.Proofs.YtmchcjaomcdbmaaGreat.Abs
open Go Go.RowKit
variable {D:List Deferred} {P:Program} {B:Nat}
theorem Jdw {F:Nat→Prop}: ∀{es:List Nat},QdY F es→ ∀e∈es,F e
 | [],_,e,he=>by simp at he
 | [x],h,e,he=>by simp at he;subst he;exact h
 | x::y::es,h,e,he=>by
  rcases List.mem_cons.1 he with rfl|he
  ·exact h.1
  ·exact Jdw h.2 e he
theorem Jdn {ops:Array Oper} {t:Env} {g g':G}: ∀{os:List Oper} {p:Prop},Jdy ops t g g' os p→p∧ ∀o∈os,Xgh ops t g g' o
 | [],p,h=>⟨h,by intro o ho;simp at ho⟩
 | o::os,p,h=>by
  obtain ⟨h1,h2⟩:=Jdn h.2
  refine ⟨h1,fun q hq=> ?_⟩
  rcases List.mem_cons.1 hq with rfl|hq
  ·exact h.1
  ·exact h2 q hq
theorem Qe5 {l:List Oper} {bef:List Nat} {ld:List Bool} {i:Nat} {o:Oper} (hi:l[i]? =some o) (he:Xaw o.op=true) (hl:ld.getD i true=false) (hx:Jal l bef ld i=true):i∈nexts l bef ld:=by
 rw [List.getD_eq_getElem?_getD] at hl
 unfold nexts
 rw [List.mem_filterMap]
 exact ⟨(o,i),by rw [List.mem_iff_getElem?];exact ⟨i,by simp [List.getElem?_zipIdx,hi]⟩,by simp [he,hl,hx]⟩
theorem JeQ {l:List Oper} {bef:List Nat} {ld:List Bool} {e j:Nat} {o:Oper} {ty:TypeId} {a:Operand} (hj:l[j]? =some o) (hop:o.op= .load ty a) (hl:ld.getD j false=true) (hb:hasB bef e j=false):o∈Qes l bef ld e:=by
 rw [List.getD_eq_getElem?_getD] at hl
 unfold Qes
 rw [List.mem_filterMap]
 exact ⟨(o,j),by rw [List.mem_iff_getElem?];exact ⟨j,by simp [List.getElem?_zipIdx,hj]⟩,by simp [hl,hb,hop,Xaw]⟩
def Qfs (P:Program) (N:Nat) (ops:Array Oper) (K:Qn) (k:Nat) (ld:List Bool) (t:Env) (g:G) (n:Nat):Prop:=
 match nexts ops.toList (ZC ops.toList) ld with
 | []=>K t g n
 | es=>QdY (fun e=>match ops.toList[e]? with
  | none=>False
  | some o=>JeY P (ZaU P) N ops o (guarded ops.toList e) t g n (fun g'=>Jdy ops t g g' (Qes ops.toList (ZC ops.toList) ld e)) fun t g n=>Xcf P (ZaU P) N ops (ZC ops.toList) K k (ld.set e true) t g n) es
def Qfa (ops:Array Oper) (ld:List Bool):Prop:= ∀(j:Nat) (o:Oper),ops.toList[j]? =some o→Xaw o.op=false→Jal ops.toList (ZC ops.toList) ld j=true→ld.getD j false=true
theorem Ja2 {N:Nat} {ops:Array Oper} {listed:Array Bool} {ld:List Bool} {t t':Env} {g:G} {n:Nat} {K:Qn} {k:Nat} (hD:DOk ops.toList) (hI:DInv P N ops listed ld t t' g) (h:Xcf P (ZaU P) N ops (ZC ops.toList) K k ld t g n):
  ∃k' ld2 t2,Qfs P N ops K k' ld2 t2 g n∧DInv P N ops listed ld2 t2 t' g∧Qfa ops ld2:=by
 cases k with
 | zero=>exact h.elim
 | succ k=>
  simp only [Xcf] at h
  rw [List.range_eq_range'] at h
  obtain ⟨ld2,t2,h1,h2,_,h4⟩:=adv hD ops.size 0 ld t (by omega) hI (fun j o hj=>by omega) h
  exact ⟨k,ld2,t2,h1,h2,h4⟩
theorem ZdB {P:Program} {ops:Array Oper} {Q:Exit→Act→World→Prop} {fuel:Nat} {listed:Array Bool} {a:Act} {w:World} (hr:Region.ready .any ops listed=[]) (h:Q .normal a w):wpAny P .any ops Q fuel listed a w:=by
 cases fuel with
 | zero=>exact ⟨hr,h⟩
 | succ k=>exact ⟨fun _=>h,by rw [hr];intro i hi;simp at hi⟩
theorem Xe6 {N:Nat} {ops:Array Oper} {K:Qn} {Q:JaH} (hD:DOk ops.toList) (hQ: ∀t g n,K t g n→Q .normal t g n) (hN: ∀(i:Nat) (o:Oper) (d:Nat),ops.toList[i]? =some o→o.dst=some d→d<N) {w0:World} {μ0:Mu}:
  ∀(fuel:Nat) (listed:Array Bool) (ld:List Bool) (t t':Env) (g:G) (n:Nat) (μ:Mu) (w:World) (a:Act) (k:Nat),DInv P N ops listed ld t t' g→Qfa ops ld→Qfs P N ops K k ld t g n→cnt (fun i=>listed.getD i false) ops.size=fuel→
   Sim μ g n w B→EnvR μ N t' a→a.defers=D→Ext μ0 μ→Below B w0 w→wpAny P .any ops (LiftQ D B N w0 μ0 Q) fuel listed a w:=by
 intro fuel
 induction fuel with
 | zero=>
  intro listed ld t t' g n μ w a k hI hC hA hcnt hs he hd hx hb
  have hall:=Jdb hcnt
  have hready:Region.ready .any ops listed=[]:=by
   apply List.eq_nil_iff_forall_not_mem.2
   intro i hi
   obtain ⟨h1,o,ho,_⟩:=mem_ready.1 hi
   have hlt:i<ops.size:=(Array.getElem?_eq_some_iff.1 ho).1
   have h2:=hall i hlt
   have h3:i<listed.size:=by rw [hI.sl];exact hlt
   simp [Array.getD,h3] at h1 h2
   rw [h1] at h2;cases h2
  refine ZdB hready ?_
  have hnx:nexts ops.toList (ZC ops.toList) ld=[]:=by
   apply List.eq_nil_iff_forall_not_mem.2
   intro i hi
   unfold nexts at hi
   obtain ⟨⟨o,j⟩,hmem,hf⟩:=List.mem_filterMap.1 hi
   obtain ⟨q,hq⟩:=List.mem_iff_getElem?.1 hmem
   rw [List.getElem?_zipIdx] at hq
   cases hl:ops.toList[q]? with
   | none=>simp [hl] at hq
   | some p=>
    simp [hl] at hq
    obtain ⟨rfl,rfl⟩:=hq
    have hlt:q<ops.size:=by simpa using Qd hl
    have hld:=hI.sub q (hall q hlt)
    have:ld.getD q true=true:=by
     have hql:q<ld.length:=by rw [hI.sd];exact hlt
     simp only [List.getD_eq_getElem?_getD,List.getElem?_eq_getElem hql] at hld ⊢;exact hld
    rw [List.getD_eq_getElem?_getD] at this
    simp [this] at hf
  have hk:K t g n:=by unfold Qfs at hA;rw [hnx] at hA;exact hA
  have htt:t'=t:=by
   funext d
   refine hI.agree d fun j p hj hp hop=> ?_
   have:=hall j (by simpa using Qd hj)
   rw [hop.2] at this;cases this
  subst htt
  exact ⟨t',g,n,μ,hQ _ _ _ hk,hs,he,hd,hx,hb⟩
 | succ fuel ih=>
  intro listed ld t t' g n μ w a k hI hC hA hcnt hs he hd hx hb
  refine ⟨?_,?_⟩
  ·intro hr
   exfalso
   obtain ⟨i,h1,h2,h3⟩:=Qd5 (f:=fun i=>listed.getD i false) (m:=ops.size) (by rw [hcnt];omega)
   have hil:i<listed.size:=by rw [hI.sl];exact h1
   have hmem:i∈Region.ready .any ops listed:=by
    refine mem_ready.2 ⟨?_,ops[i],by simp [h1],?_⟩
    ·simp [Array.getD,hil] at h2 ⊢;exact h2
    ·intro e he hbind
     exact h3 e.on (hD.back i ops[i] (by simp [h1]) e (by simpa using he) hbind)
   rw [hr] at hmem;simp at hmem
  ·intro i hi
   obtain ⟨h1,o,ho,hpre⟩:=mem_ready.1 hi
   have hilt:i<ops.size:=(Array.getElem?_eq_some_iff.1 ho).1
   have hil:i<listed.size:=by rw [hI.sl];exact hilt
   have hlf:listed.getD i false=false:=by simp [Array.getD,hil] at h1 ⊢;exact h1
   have hoL:ops.toList[i]? =some o:=by simpa using ho
   have hbef: ∀j,hasB (ZC ops.toList) i j=true→listed.getD j false=true:=by
    intro j hj
    obtain ⟨e,he1,he2,he3⟩:=(hD.iff hoL j).1 hj
    have hl:=hpre e (by simpa using he1) he2
    rcases he3 with rfl|h
    ·exact hl
    ·exact hI.down e.on hl j h
   have hcnt2:cnt (fun j=>(listed.setIfInBounds i true).getD j false) ops.size=fuel:=by
    have:=Jfk (f:=fun j=>listed.getD j false) (f':=fun j=>(listed.setIfInBounds i true).getD j false) (i:=i) hlf (fun j=>Qbl listed i j false hil) ops.size hilt
    omega
   have hNo: ∀d,o.dst=some d→d<N:=fun d hdd=>hN i o d hoL hdd
   have hNa: ∀(j:Nat) (o:Oper) (d:Nat),ops[j]? =some o→o.dst=some d→d<N:=fun j o d hj hdd=>hN j o d (by simpa using hj) hdd
   have hlook: ¬WarAt ops.toList i o→ ∀d∈looks ops.toList o,t d=t' d:=by
    intro hnw d hdl
    exact (hI.agree d fun j p hj hp hop=>by
     rcases hD.wr i o j p d hoL hj hp hdl with h|h
     ·have:=hbef j h
      rw [hop.2] at this;cases this
     ·exact hnw ⟨j,p,d,hj,hp,hdl,h.2⟩).symm
   have dput: ∀v,(a.put o.dst v).defers=D:=fun v=>by cases hdd:o.dst<;>simp [Act.put,hd]
   unfold wpOp
   rw [ho]
   simp only
   cases hef:Xaw o.op with
   | false=>
    have hld:ld.getD i false=true:=hC i o hoL hef (effsDone_iff.2 fun j p hj hb' hpe=>hI.sub j (hbef j hb'))
    have hp:=hI.pend i o hoL ⟨hld,hlf⟩
    have hp':Xx ops o t' (∃v,Val t o.dst v∧ ∀(n2:Nat) (K':Cont),K' v g n2→aop P (ZaU P) o t' g n2 K') (Val t o.dst undef):=by
     by_cases hwar:WarAt ops.toList i o
     ·have hmv:=hwar.mv hD hoL hD.lt
      obtain ⟨v,hv,hk⟩:=hp.2 hwar
      exact (Zdz hmv).2 ⟨v,hv,fun n2 K' h=>hk g n2 K' h⟩
     ·refine XM (hlook hwar) ?_ id (hp.1 hwar)
      rintro ⟨v,hv,hk⟩
      exact ⟨v,hv,fun n2 K' h=>JaF (Zan (hlook hwar)) (hk g n2 K' (by unfold SameLoad;split<;>simp) h)⟩
    rcases QaA he hp' hNa with ⟨hw,v,hv,hk⟩|⟨hw,hv⟩
    ·rw [if_pos hw]
     refine .inl ?_
     have hop:=hk n (fun v' g' n'=>v'=v∧g'=g∧n'=n) ⟨rfl,rfl,rfl⟩
     refine Jcx he hd hNo _ (Xcw hs he hop) _ ?_
     rintro v0 v' g' n' μ' w' ⟨rfl,rfl,rfl⟩ hvr hs' hx' hb'
     exact ih _ ld t _ g' n' μ' w' _ k (hI.carry hD hoL ⟨hld,hlf⟩ hbef hv) hC hA hcnt2 hs' ((he.ext hx').put hvr o.dst hNo) (dput v') (hx.trans hx') (hb.trans hb')
    ·rw [if_neg (by rw [hw];simp)]
     exact ih _ ld t _ g n μ w _ k (hI.carry hD hoL ⟨hld,hlf⟩ hbef hv) hC hA hcnt2 hs (he.put (X9 μ) o.dst hNo) (dput undef) hx hb
   | true=>
    have hnwar: ¬WarAt ops.toList i o:=fun hw=>by
     have hmv:=hw.mv hD hoL hD.lt
     unfold Zfr at hmv
     split at hmv
     ·rename_i x hop hg;rw [hop] at hef;simp [Xaw] at hef
     ·cases hmv
    have hlook:=hlook hnwar
    have hld:ld.getD i false=false:=by
     cases h:ld.getD i false with
     | false=>rfl
     | true=>have:=hI.eff i o hoL hef h;rw [hlf] at this;cases this
    have hild:i<ld.length:=by rw [hI.sd];exact hilt
    have hldt:ld.getD i true=false:=by
     simp only [List.getD_eq_getElem?_getD,List.getElem?_eq_getElem hild] at hld ⊢;exact hld
    have hmem:=Qe5 (bef:=ZC ops.toList) hoL hef hldt (effsDone_iff.2 fun j p hj hb' hpe=>hI.sub j (hbef j hb'))
    have hone:JeY P (ZaU P) N ops o (guarded ops.toList i) t g n (fun g'=>Jdy ops t g g' (Qes ops.toList (ZC ops.toList) ld i)) fun t g n=>Xcf P (ZaU P) N ops (ZC ops.toList) K k (ld.set i true) t g n:=by
     unfold Qfs at hA
     split at hA
     ·rename_i hnil;rw [hnil] at hmem;simp at hmem
     ·have:=Jdw hA i hmem
      simpa only [hoL] using this
    obtain ⟨_,hcase⟩:=Qeh hone
    rcases hcase with ⟨hop,hwX⟩|⟨hk,hwX⟩
    ·have hw':=XM (C':=False) hlook id id (hwX True False trivial)
     rcases QaA he hw' hNa with ⟨hw,_⟩|⟨_,hf⟩
     ·rw [if_pos hw]
      refine .inl ?_
      refine Jcx he hd hNo _ (Xcw hs he (JaF (Zan hlook) hop)) _ ?_
      intro v0 v' g' n' μ' w' hk hvr hs' hx' hb'
      obtain ⟨hk,hch⟩:=Jdn hk
      have hk:=QcH (K:=fun t=>Xcf P (ZaU P) N ops (ZC ops.toList) K k (ld.set i true) t g' n') hk
      have hI2:=hI.effect hD hoL hld hbef (v:=v0) (g':=g') (by
       intro j p hj hop hnw
       have hnb:hasB (ZC ops.toList) i j=false:=by
        cases h:hasB (ZC ops.toList) i j with
        | false=>rfl
        | true=>have:=hbef j h;rw [hop.2] at this;cases this
       have hpp:=(hI.pend j p hj hop).1 hnw
       rcases Ja4 hpp with ⟨_,hX⟩|⟨_,hY⟩
       ·cases hpo:p.op with
        | load ty x=>
         have hc:=hch p (JeQ hj hpo hop.1 hnb)
         unfold Xgh at hc
         simp only [hpo] at hc
         refine XM (fun _ _=>rfl) (fun h=> ?_) id hc
         unfold SameLoad
         rw [hpo]
         intro l q hq
         simpa [Qe,hq] using h
        | _=>exact hX _ _ (by unfold SameLoad;rw [hpo];trivial)
       ·exact hY _ _ trivial)
      obtain ⟨k2,ld2,t2,hA2,hI3,hC2⟩:=Ja2 hD hI2 hk
      exact ih _ ld2 t2 _ g' n' μ' w' _ k2 hI3 hC2 hA2 hcnt2 hs' ((he.ext hx').put hvr o.dst hNo) (dput v') (hx.trans hx') (hb.trans hb')
     ·exact hf.elim
    ·have hw':=XM (A':=False) hlook id id (hwX False True trivial)
     rcases QaA he hw' hNa with ⟨_,hf⟩|⟨hw,_⟩
     ·exact hf.elim
     ·rw [if_neg (by rw [hw];simp)]
      have hI2:=hI.effect hD hoL hld hbef (v:=undef) (g':=g) (by
       intro j p hj hop hnw
       rcases Ja4 ((hI.pend j p hj hop).1 hnw) with ⟨_,hX⟩|⟨_,hY⟩
       ·exact hX _ _ (by unfold SameLoad;split<;>simp)
       ·exact hY _ _ trivial)
      obtain ⟨k2,ld2,t2,hA2,hI3,hC2⟩:=Ja2 hD hI2 hk
      exact ih _ ld2 t2 _ g n μ w _ k2 hI3 hC2 hA2 hcnt2 hs (he.put (X9 μ) o.dst hNo) (dput undef) hx hb
theorem Xcy (hm:P.follows .mixedOrders=true) (B:Nat):Xam P B:=by
 intro D N id ops K Q t g n μ w a hQ hs he hd h
 unfold Jbm at h
 split at h
 ·exact h.elim
 ·rename_i hok
  rw [Bool.and_eq_true] at hok
  have hD:=ZeP hok.1
  have hN: ∀(i:Nat) (o:Oper) (d:Nat),ops.toList[i]? =some o→o.dst=some d→d<N:=by
   intro i o d hi hdd
   have:=List.all_eq_true.1 hok.2 o (List.mem_of_getElem? hi)
   rw [hdd] at this;simpa [JcD] using this
  have hI:DInv P N ops (Array.replicate ops.size false) (List.replicate ops.size false) t t g:=by
   have h0: ∀i d,(Array.replicate ops.size false).getD i d=true→d=true:=by
    intro i d h
    rw [Array.getD_eq_getD_getElem?,Array.getElem?_replicate] at h
    split at h<;>simp_all
   have h1: ∀i d,(List.replicate ops.size false).getD i d=true→d=true:=by
    intro i d h
    rw [List.getD_eq_getElem?_getD,List.getElem?_replicate] at h
    split at h<;>simp_all
   refine ⟨by simp,by simp,?_,?_,?_,fun _ _=>rfl,?_,?_⟩
   ·intro i hi;have:=h0 i false hi;cases this
   ·intro i hi;have:=h0 i false hi;cases this
   ·intro i o _ _ hi;have:=h1 i false hi;cases this
   ·intro i o _ hi;have:=h1 i false hi.1;cases this
   ·intro i o _ hi;have:=h1 i false hi;cases this
  obtain ⟨k2,ld2,t2,hA2,hI3,hC2⟩:=Ja2 hD hI h
  refine wp_region_any hm ?_
  have hcnt:cnt (fun i=>(Array.replicate ops.size false).getD i false) ops.size=ops.size:=by
   have: ∀m,cnt (fun i=>(Array.replicate ops.size false).getD i false) m=m:=by
    intro m
    induction m with
    | zero=>rfl
    | succ m ih=>
     simp only [cnt,ih]
     have:(Array.replicate ops.size false).getD m false=false:=by
      rw [Array.getD_eq_getD_getElem?,Array.getElem?_replicate]
      split<;>rfl
     simp [this]
   exact this _
  exact Xe6 hD hQ hN ops.size _ ld2 t2 t g n μ w.drew a k2 hI3 hC2 hA2 hcnt hs.drew he hd (Ext.refl μ) (Below.refl B w).drew
end Go.Proofs.YtmchcjaomcdbmaaGreat.Abs
namespace Go.Proofs.YtmchcjaomcdbmaaGreat.Abs
open Go Go.RowKit
def puts (t:Env):List (Nat×Value)→Env
 | []=>t
 |(d,v)::r=>puts (put t (some d) v) r
def lfp (F:Qn→Qn):Qn:=fun t g n=> ∀I:Qn,(∀t g n,F I t g n→I t g n)→I t g n
def Qc (K:Cont) (v:Value) (g:G) (n:Nat):Prop:= ∃g',Sub g' g∧K v g' n
end Go.Proofs.YtmchcjaomcdbmaaGreat.Abs
namespace Go.Proofs.YtmchcjaomcdbmaaGreat.Abs
open Go Go.RowKit
variable {g:G} {n:Nat}
@[simp] theorem QgF (b:Bool) (K:Bool→Prop):XcN (.bool b) K=K b:=rfl
@[simp] theorem Zba (k:IntKind) (i:Int) (K:Int→Prop):Qd4 (.int k i) K=K i:=rfl
@[simp] theorem Zc (l o:Nat) (K:Nat→Nat→Prop):Qe (ptr l o) K=K l o:=rfl
@[simp] theorem Qf (cs:List Value) (K:List Value→Prop):Jl (.agg cs.toArray) K=K cs:=rfl
@[simp] theorem Zf (l o:Nat) (K:Value→Prop):Qo (ptr l o) K=K (ptr l o):=rfl
@[simp] theorem Zcb (a:Option Addr) (m c:Nat) (K:Value→Prop):ZaH (.slice a m c) K=K (.int .i64 m):=rfl
@[simp] theorem Jf (b:Bool) (A B:Prop):Qa (.bool b) A B=((b=true→A)∧(b=false→B)):=by cases b<;>simp [Qa]
@[simp] theorem Jaw (b:Bool) (K:Value→Prop):kUn .not (.bool b) K=K (.bool !b):=rfl
@[simp] theorem JgF (k:IntKind) (a:Int) (K:Value→Prop):kUn .neg (.int k a) K=K (.int k (k.wrap (0-a))):=rfl
@[simp] theorem JgC (d k:IntKind) (a:Int) (K:Value→Prop):Xch d (.int k a) K=K (.int d (d.wrap a)):=rfl
section
variable {k:IntKind} {a b:Int} {K:Value→Prop}
@[simp] theorem Jo:Xb .int .add (.int k a) (.int k b) K=K (.int k (k.wrap (a+b))):=by simp [Xb,ZF]
@[simp] theorem Qfw:Xb .int .sub (.int k a) (.int k b) K=K (.int k (k.wrap (a-b))):=by simp [Xb,ZF]
@[simp] theorem Zd4:Xb .int .mul (.int k a) (.int k b) K=K (.int k (k.wrap (a*b))):=by simp [Xb,ZF]
@[simp] theorem Xgx:Xb .int .quo (.int k a) (.int k b) K=(b≠0∧K (.int k (k.wrap (a.tdiv b)))):=by simp [Xb,ZF]
@[simp] theorem Xdf:Xb .int .rem (.int k a) (.int k b) K=(b≠0∧K (.int k (a.tmod b))):=by simp [Xb,ZF]
@[simp] theorem Qw:Xb .int .eql (.int k a) (.int k b) K=K (.bool (decide (a=b))):=by simp only [Xb,ZF,true_and];rfl
@[simp] theorem Jam:Xb .int .neq (.int k a) (.int k b) K=K (.bool (decide (a≠b))):=by
 have e:(a !=b)=decide (a≠b):=by by_cases h:a=b<;>simp [h]
 simp only [Xb,ZF,true_and,e]
@[simp] theorem Jj:Xb .int .lss (.int k a) (.int k b) K=K (.bool (decide (a<b))):=by simp [Xb,ZF]
@[simp] theorem Xdh:Xb .int .leq (.int k a) (.int k b) K=K (.bool (decide (a≤b))):=by simp [Xb,ZF]
@[simp] theorem Zbs:Xb .int .gtr (.int k a) (.int k b) K=K (.bool (decide (b<a))):=by simp [Xb,ZF]
@[simp] theorem QK:Xb .int .geq (.int k a) (.int k b) K=K (.bool (decide (b≤a))):=by simp [Xb,ZF]
@[simp] theorem Qgs {p q:Bool}:Xb .bool .eql (.bool p) (.bool q) K=K (.bool (p==q)):=rfl
@[simp] theorem Jgo {p q:Bool}:Xb .bool .neq (.bool p) (.bool q) K=K (.bool (!(p==q))):=rfl
@[simp] theorem Xdi:Xb .ptr .eql (.pointer none) (.pointer none) K=K (.bool true):=rfl
@[simp] theorem Qdh:Xb .ptr .neq (.pointer none) (.pointer none) K=K (.bool false):=rfl
@[simp] theorem Zp {l o:Nat}:Xb .ptr .eql (ptr l o) (.pointer none) K=K (.bool false):=rfl
@[simp] theorem ZeJ {l o:Nat}:Xb .ptr .neq (ptr l o) (.pointer none) K=K (.bool true):=rfl
end
@[simp] theorem Jq (x:Value) (xs:List Value) (K:Value→Prop):Zdd (x::xs) 0 K=K x:=rfl
@[simp] theorem Qr (x:Value) (xs:List Value) (o:Nat) (K:Value→Prop):Zdd (x::xs) (o+1) K=Zdd xs o K:=rfl
@[simp] theorem Zm (vs:List Value) (i:Nat) (K:Value→Prop):Xd (.tuple vs.toArray) i K=Zdd vs i K:=rfl
@[simp] theorem Jz (cs:List Value) (K:List Value→Prop):Xk cs [] K=K cs:=rfl
@[simp] theorem Zdf (C:CT) (f:FuncId) (as xs bs:List Value) (g:G) (n:Nat) (K:Cont):Zbl C (.func (.func f) as.toArray bs.toArray) xs g n K=C f (as++xs++bs) g n K:=rfl
theorem Qb1 {cs:List Value} {o:Nat} {v:Value} {K:Value→Prop} (h:cs[o]? =some v) (k:K v):Zdd cs o K:=by unfold Zdd;rw [h];exact k
theorem JaP {l:Nat} {cs:List Value} {bk:BK} {K:List Value→BK→Prop} (h:g l=some (.cells cs bk)) (k:K cs bk):Zam g l K:=by unfold Zam;rw [h];exact k
theorem Qb {l o:Nat} {cs:List Value} {bk:BK} {v:Value} {K:Value→Prop} (h:g l=some (.cells cs bk)) (hv:cs[o]? =some v) (k:K v):kLd g l o K:=JaP h (Qb1 hv k)
theorem Ju {l o k:Nat} {cs:List Value} {bk:BK} {K:List Value→Prop} (h:g l=some (.cells cs bk)) (hv:o+k≤cs.length) (kk:K ((cs.drop o).take k)):Zn g l o k K:=JaP h ⟨hv,kk⟩
theorem ZR {l o:Nat} {v:Value} {cs:List Value} {bk:BK} {K:G→Prop} (h:g l=some (.cells cs bk)) (hr:bk.rw=true) (ho:o<cs.length) (hc:isCell v=true) (k:K (upd g l (some (.cells (cs.set o v) bk)))):kSt g l o v K:=JaP h ⟨hr,ho,hc,k⟩
theorem XB {l o:Nat} {vs:List Value} {cs:List Value} {bk:BK} {K:G→Prop} (h:g l=some (.cells cs bk)) (hr:bk.rw=true) (ho:o+vs.length≤cs.length) (hc: ∀v∈vs,isCell v=true) (k:K (upd g l (some (.cells (splice cs o vs) bk)))):Xw g l o vs K:=JaP h ⟨hr,ho,hc,k⟩
theorem Sub.live {g' g:G} (h:Sub g' g) {l:Nat} {b:Blk} (hl:g' l=some b):g l=some b:=by
 rcases h l with e|e
 ·rw [e] at hl;cases hl
 ·rw [←e];exact hl
theorem Sub.none {g' g:G} (h:Sub g' g) {l:Nat} (hl:g l= .none):g' l= .none:=by
 rcases h l with e|e
 ·exact e
 ·rw [e];exact hl
theorem Sub.new {g' g:G} (h:Sub g' g) {l:Nat} (hl:g l= .none) (b:Option Blk):Sub g' (Abs.upd g l b):=h.upd_fresh b (h.none hl)
theorem Jfu {g:G} {l m:Nat} {b:Blk} (hl:g l=some b) (hm:g m=none) (c:Option Blk):upd g m c l=some b:=by
 rw [Xc];exact hl;intro e;subst e;rw [hl] at hm;cases hm
theorem Ja {K:Cont} {v:Value} {g':G} (h:Sub g' g) (k:K v g' n):Qc K v g n:=⟨g',h,k⟩
theorem JY {F:Qn→Qn} (Inv:Nat→Qn) (step: ∀(I:Qn) (m:Nat) (t:Env) (g:G) (n:Nat),(∀m' t g n,m'<m→Inv m' t g n→I t g n)→Inv m t g n→F I t g n)
  {m:Nat} {t:Env} {g:G} {n:Nat} (h:Inv m t g n):lfp F t g n:=by
 intro I hI
 induction m using Nat.strongRecOn generalizing t g n with
 | ind m ih=>exact hI t g n (step I m t g n (fun m' t g n hlt hi=>ih m' hlt hi) h)
def Rd (g:G) (v:Value) (z m:Nat) (cs:List Value):Prop:=
 ∃a c,v= .slice a m c∧cs.length=m*z∧(a=none∨ ∃l o,a=some ⟨l,o,none⟩)∧(0<m→ ∃l o bs bk,a=some ⟨l,o,none⟩∧g l=some (.cells bs bk)∧o+m*z≤bs.length∧(bs.drop o).take (m*z)=cs)
theorem Rd.mono {g g':G} {v:Value} {z m:Nat} {cs:List Value} (h:Rd g v z m cs) (hs:Sub g g'):Rd g' v z m cs:=by
 obtain ⟨a,c,rfl,hl,ha,h⟩:=h
 refine ⟨a,c,rfl,hl,ha,fun hm=> ?_⟩
 obtain ⟨l,o,bs,bk,e,hg,h1,h2⟩:=h hm
 exact ⟨l,o,bs,bk,e,hs.live hg,h1,h2⟩
theorem Rd.len {v:Value} {z m:Nat} {cs:List Value} {K:Value→Prop} (h:Rd g v z m cs) (k:K (.int .i64 m)):ZaH v K:=by obtain ⟨a,c,rfl,_⟩:=h;exact k
def At (g:G) (l o:Nat) (cs:List Value):Prop:= ∃bs bk,g l=some (.cells bs bk)∧o+cs.length≤bs.length∧(bs.drop o).take cs.length=cs
theorem At.mono {g g':G} {l o:Nat} {cs:List Value} (h:At g l o cs) (hs:Sub g g'):At g' l o cs:=by
 obtain ⟨bs,bk,h1,h2⟩:=h;exact ⟨bs,bk,hs.live h1,h2⟩
theorem At.ldN {l o k:Nat} {cs:List Value} {K:List Value→Prop} (h:At g l o cs) (hk:k=cs.length) (kk:K cs):Zn g l o k K:=by
 subst hk
 obtain ⟨bs,bk,h1,h2,h3⟩:=h
 exact Ju h1 h2 (by rw [h3];exact kk)
theorem At.ld {l o i:Nat} {cs:List Value} {v:Value} {K:Value→Prop} (h:At g l o cs) (hv:cs[i]? =some v) (kk:K v):kLd g l (o+i) K:=by
 obtain ⟨bs,bk,h1,h2,h3⟩:=h
 refine Qb h1 ?_ kk
 rw [←h3,List.getElem?_take] at hv
 split at hv
 ·rw [List.getElem?_drop] at hv;exact hv
 ·cases hv
theorem Rd.idx {v:Value} {z m:Nat} {cs:List Value} {k:IntKind} {j:Int} {K:Value→Prop} (h:Rd g v z m cs) (h0:0≤j) (h1:j<m)
  (kk: ∀l o,At g l o ((cs.drop (j.toNat*z)).take z)→K (ptr l o)):Jc v (.int k j) z K:=by
 obtain ⟨a,c,rfl,hl,_,h⟩:=h
 obtain ⟨l,o,bs,bk,rfl,hg,h2,h3⟩:=h (by omega)
 refine ⟨h0,by simpa using h1,kk l _ ⟨bs,bk,hg,?_⟩⟩
 have hj:j.toNat+1≤m:=by omega
 have hjz:j.toNat*z+z≤m*z:=by
  have:=Nat.mul_le_mul_right z hj
  rw [Nat.add_mul,Nat.one_mul] at this;exact this
 have hlen:((cs.drop (j.toNat*z)).take z).length=z:=by rw [List.length_take,List.length_drop,hl];omega
 rw [hlen]
 refine ⟨by omega,?_⟩
 rw [←h3,List.drop_take,List.take_take,List.drop_drop]
 congr 1
 omega
theorem Rd.elems {v:Value} {z m:Nat} {cs:List Value} {K:List Value→Prop} (h:Rd g v z m cs) (kk:K cs):J6 g v m z K:=by
 obtain ⟨a,c,rfl,hl,ha,h⟩:=h
 by_cases hm:m*z=0
 ·have:cs=[]:=List.eq_nil_of_length_eq_zero (by omega)
  subst this
  rcases ha with rfl|⟨l,o,rfl⟩
  ·exact ⟨hm,kk⟩
  ·simp only [J6,hm,if_true];exact kk
 ·have h0:0<m:=Nat.pos_of_ne_zero (fun e=>hm (by simp [e]))
  obtain ⟨l,o,bs,bk,rfl,hg,h2,h3⟩:=h h0
  simp only [J6,hm,if_false]
  exact Ju hg h2 (by rw [h3];exact kk)
theorem Rd.lit {l m z c:Nat} {cs:List Value} {bk:BK} (h:g l=some (.cells cs bk)) (hl:cs.length=m*z):Rd g (.slice (some ⟨l,0,none⟩) m c) z m cs:=
 ⟨_,c,rfl,hl,.inr ⟨l,0,rfl⟩,fun _=>⟨l,0,cs,bk,rfl,h,by omega,by rw [List.drop_zero,←hl,List.take_length]⟩⟩
theorem Rd.nil (z:Nat):Rd g (.slice none 0 0) z 0 []:=⟨_,_,rfl,by simp,.inl rfl,fun h=>absurd h (by omega)⟩
def QaH:Value→Option Nat
 | .slice (some a) _ _=>some a.block
 | _=>none
def Own (g0 g:G) (v:Value) (z m:Nat) (cs:List Value):Prop:=
 (m=0∧cs=[]∧ ∃a,v= .slice a 0 0∧(a=none∨ ∃l o,a=some ⟨l,o,none⟩))∨
 (∃l c bk,v= .slice (some ⟨l,0,none⟩) m c∧g l=some (.cells cs bk)∧g0 l=none∧cs.length=m*z∧((c=m∧bk= .exact∧m<LC)∨(c=LC+z∧bk= .loose z)))
theorem Own.rd {g0:G} {v:Value} {z m:Nat} {cs:List Value} (h:Own g0 g v z m cs):Rd g v z m cs:=by
 rcases h with ⟨rfl,rfl,a,rfl,ha⟩|⟨l,c,bk,rfl,hg,_,hl,_⟩
 ·exact ⟨a,0,rfl,by simp,ha,fun h=>absurd h (by omega)⟩
 ·exact Rd.lit hg hl
theorem Own.nil (g0 g:G) (z:Nat):Own g0 g (.slice none 0 0) z 0 []:= .inl ⟨rfl,rfl,none,rfl,.inl rfl⟩
theorem Own.empty (g0 g:G) (z l o:Nat):Own g0 g (.slice (some ⟨l,o,none⟩) 0 0) z 0 []:= .inl ⟨rfl,rfl,_,rfl,.inr ⟨l,o,rfl⟩⟩
theorem Own.lit {g0 g:G} {l m z:Nat} {cs:List Value} (h:g l=some (.cells cs .exact)) (h0:g0 l=none) (hl:cs.length=m*z) (hm:m<LC):Own g0 g (.slice (some ⟨l,0,none⟩) m m) z m cs:=
 .inr ⟨l,m,_,rfl,h,h0,hl,.inl ⟨rfl,rfl,hm⟩⟩
theorem Own.mono {g0 g g':G} {v:Value} {z m:Nat} {cs:List Value} (h:Own g0 g v z m cs) (hs:Sub g g'):Own g0 g' v z m cs:=by
 rcases h with h|⟨l,c,bk,e,hg,h0,hl⟩
 ·exact .inl h
 ·exact .inr ⟨l,c,bk,e,hs.live hg,h0,hl⟩
theorem Own.base {g0 g1 g:G} {v:Value} {z m:Nat} {cs:List Value} (h:Own g1 g v z m cs) (hs:Sub g0 g1):Own g0 g v z m cs:=by
 rcases h with h|⟨l,c,bk,e,hg,h0,hl⟩
 ·exact .inl h
 ·exact .inr ⟨l,c,bk,e,hg,hs.none h0,hl⟩
theorem Own.keep {g0 g g':G} {v:Value} {z m:Nat} {cs:List Value} (h:Own g0 g v z m cs) (hk: ∀l b,g l=some b→QaH v=some l→g' l=some b):Own g0 g' v z m cs:=by
 rcases h with h|⟨l,c,bk,rfl,hg,h0,hl⟩
 ·exact .inl h
 ·exact .inr ⟨l,c,bk,rfl,hk _ _ hg rfl,h0,hl⟩
theorem ZeB {g0:G} {v x:Value} {z m k bytes:Nat} {cs new:List Value} {K:Cont} (hs:Sub g0 g) (ho:Own g0 g v z m cs) (hx:Rd g x z k new) (hnew: ∀v∈new,isCell v=true)
  (hb:bytes≤1048576) (h1:(m+k)*bytes≤140737488355328) (h2:m+k<140737488355328)
  (hK: ∀v' g' n',Sub g0 g'→Own g0 g' v' z (m+k) (cs++new)→(∀l b,g l=some b→QaH v≠some l→g' l=some b)→(0<k→ ∀l,QaH v'=some l→g l=none)→K v' g' n'):Q5 v x z bytes g n K:=by
 obtain ⟨ax,cx,rfl,hlx,hax,hgx⟩:=id hx
 have hel: ∀{K':List Value→Prop},K' new→J6 g (.slice ax k cx) k z K':=fun kk=>hx.elems kk
 have fresh: ∀{old:List Value},old=cs→cs.length=m*z→Zw (old++new) (.loose z) g n fun l g n=>K (.slice (some ⟨l,0,none⟩) (m+k) (LC+z)) g n:=by
  rintro _ rfl hl hn
  refine hK _ _ _ (hs.new hn _) (.inr ⟨n,_,_,rfl,by rw [Xa],hs.none hn,by rw [List.length_append,hl,hlx,Nat.add_mul],.inr ⟨rfl,rfl⟩⟩) (fun l b h _=>Jfu h hn _) (fun _ l hl=> ?_)
  simp [QaH] at hl;rw [←hl];exact hn
 rcases ho with ⟨rfl,rfl,a,rfl,ha⟩|⟨l,c,bk,rfl,hg,h0,hl,⟨rfl,rfl,hm⟩|⟨rfl,rfl⟩⟩
 ·refine ⟨hb,h1,h2,hel ⟨hnew,?_⟩⟩
  rw [if_pos (by decide:(0:Nat)<LC)]
  by_cases hk:0+k≤0
  ·rw [if_pos hk]
   obtain rfl:k=0:=by omega
   have hn:new=[]:=List.eq_nil_of_length_eq_zero (by omega)
   subst hn
   have hkk:K (.slice a 0 0) g n:=hK _ _ _ hs (.inl ⟨rfl,rfl,a,rfl,ha⟩) (fun l b h _=>h) (fun h=>absurd h (by omega))
   rcases ha with rfl|⟨l,o,rfl⟩
   ·exact ⟨rfl,hkk⟩
   ·simpa using hkk
  ·rw [if_neg hk]
   have:J6 g (.slice a 0 0) 0 z fun old=>Zw (old++new) (.loose z) g n fun l g n=>K (.slice (some ⟨l,0,none⟩) (0+k) (LC+z)) g n:=by
    have kk:=fresh (old:=[]) rfl (by simp)
    rcases ha with rfl|⟨l,o,rfl⟩
    ·exact ⟨by simp,kk⟩
    ·simp only [J6,Nat.zero_mul,if_true];exact kk
   exact this
 ·refine ⟨hb,h1,h2,hel ⟨hnew,?_⟩⟩
  rw [if_pos hm]
  by_cases hk:c+k≤c
  ·rw [if_pos hk]
   obtain rfl:k=0:=by omega
   have hn:new=[]:=List.eq_nil_of_length_eq_zero (by omega)
   subst hn
   simp only [if_true,Nat.add_zero]
   exact hK _ _ _ hs (by rw [List.append_nil];exact .inr ⟨l,c,_,rfl,hg,h0,hl,.inl ⟨rfl,rfl,hm⟩⟩) (fun l b h _=>h) (fun h=>absurd h (by omega))
  ·rw [if_neg hk]
   have hr:Rd g (.slice (some ⟨l,0,none⟩) c c) z c cs:=Rd.lit hg hl
   exact hr.elems (fresh rfl hl)
 ·refine ⟨hb,h1,h2,hel ⟨hnew,?_⟩⟩
  rw [if_neg (by omega: ¬LC+z<LC)]
  refine ⟨rfl,JaP hg ⟨rfl,by omega,fun hn=> ?_⟩⟩
  have e:((cs.drop 0).take (m*z))=cs:=by rw [List.drop_zero,←hl,List.take_length]
  rw [e]
  refine hK _ _ _ ((hs.upd_fresh _ h0).upd_fresh _ (hs.none hn)) (.inr ⟨n,_,_,rfl,by rw [Xa],hs.none hn,by rw [List.length_append,hl,hlx,Nat.add_mul],.inr ⟨rfl,rfl⟩⟩) ?_ ?_
  ·intro l' b h hne
   have hl':l'≠l:=by intro e;subst e;simp [QaH] at hne
   have hn':l'≠n:=by intro e;subst e;rw [hn] at h;cases h
   rw [Xc _ _ hn',Xc _ _ hl'];exact h
  ·intro _ l' hl'
   simp [QaH] at hl';rw [←hl'];exact hn
end Go.Proofs.YtmchcjaomcdbmaaGreat.Abs
namespace Go.Proofs.YtmchcjaomcdbmaaGreat.Abs
open Go Go.RowKit
variable {g:G} {n:Nat}
theorem Zk {α:Type} (enc:α→List Value) (z:Nat) (hz: ∀x,(enc x).length=z): ∀(xs:List α),(xs.map enc).flatten.length=xs.length*z
 | []=>by simp
 | x::xs=>by simp [Zk enc z hz xs,hz,Nat.add_mul];omega
theorem Jbh {α:Type} (enc:α→List Value) (z:Nat) (hz: ∀x,(enc x).length=z): ∀(xs:List α) (j:Nat) (x:α),xs[j]? =some x→((xs.map enc).flatten.drop (j*z)).take z=enc x
 | [],j,x,h=>by simp at h
 | y::ys,0,x,h=>by
  simp at h;subst h
  simp [←hz y]
 | y::ys,j+1,x,h=>by
  have:=Jbh enc z hz ys j x (by simpa using h)
  rw [←this]
  have e:(j+1)*z=z+j*z:=by rw [Nat.add_mul];omega
  simp only [List.map_cons,List.flatten_cons,e]
  rw [←List.drop_drop,List.drop_left' (hz y)]
def Sl {α:Type} (enc:α→List Value) (z:Nat) (g:G) (v:Value) (xs:List α):Prop:=Rd g v z xs.length (xs.map enc).flatten
def OwnS {α:Type} (enc:α→List Value) (z:Nat) (g0 g:G) (v:Value) (xs:List α):Prop:=Own g0 g v z xs.length (xs.map enc).flatten
section
variable {α:Type} {enc:α→List Value} {z:Nat} {v:Value} {xs:List α}
theorem Sl.mono {g':G} (h:Sl enc z g v xs) (hs:Sub g g'):Sl enc z g' v xs:=Rd.mono h hs
theorem Sl.len {K:Value→Prop} (h:Sl enc z g v xs) (k:K (.int .i64 xs.length)):ZaH v K:=Rd.len h k
theorem Sl.idx (hz: ∀x,(enc x).length=z) {k:IntKind} {j:Nat} {x:α} {K:Value→Prop} (h:Sl enc z g v xs) (hj:xs[j]? =some x) (kk: ∀l o,At g l o (enc x)→K (ptr l o)):Jc v (.int k j) z K:=by
 have hlt:j<xs.length:=by rcases Nat.lt_or_ge j xs.length with h|h;exact h;rw [List.getElem?_eq_none h] at hj;cases hj
 refine Rd.idx h (by omega) (by omega) (fun l o ha=>kk l o ?_)
 simpa [Jbh enc z hz xs j x hj] using ha
theorem Sl.nil:Sl enc z g (.slice none 0 0) ([]:List α):=Rd.nil z
theorem OwnS.sl {g0:G} (h:OwnS enc z g0 g v xs):Sl enc z g v xs:=Own.rd h
theorem OwnS.mono {g0 g':G} (h:OwnS enc z g0 g v xs) (hs:Sub g g'):OwnS enc z g0 g' v xs:=Own.mono h hs
theorem OwnS.base {g0 g1:G} (h:OwnS enc z g1 g v xs) (hs:Sub g0 g1):OwnS enc z g0 g v xs:=Own.base h hs
theorem OwnS.nil {g0:G}:OwnS enc z g0 g (.slice none 0 0) ([]:List α):=Own.nil _ _ _
theorem OwnS.keep {g0 g':G} (h:OwnS enc z g0 g v xs) (hk: ∀l b,g l=some b→QaH v=some l→g' l=some b):OwnS enc z g0 g' v xs:=Own.keep h hk
theorem OwnS.empty {g0:G} {l o:Nat}:OwnS enc z g0 g (.slice (some ⟨l,o,none⟩) 0 0) ([]:List α):=Own.empty _ _ _ _ _
theorem OwnS.append {g0:G} {x:Value} {bytes:Nat} {ys:List α} {K:Cont} (ho:OwnS enc z g0 g v xs) (hs:Sub g0 g) (hx:Sl enc z g x ys) (hc: ∀y,∀v∈enc y,isCell v=true)
  (hb:bytes≤1048576) (h1:(xs.length+ys.length)*bytes≤140737488355328) (h2:xs.length+ys.length<140737488355328)
  (hK: ∀v' g' n',Sub g0 g'→OwnS enc z g0 g' v' (xs++ys)→(∀l b,g l=some b→QaH v≠some l→g' l=some b)→(0<ys.length→ ∀l,QaH v'=some l→g l=none)→K v' g' n'):Q5 v x z bytes g n K:=by
 refine ZeB hs ho hx ?_ hb h1 h2 (fun v' g' n' a b c d=>hK v' g' n' a ?_ c d)
 ·intro w hw
  obtain ⟨l,hl,hw⟩:=List.mem_flatten.1 hw
  obtain ⟨y,_,rfl⟩:=List.mem_map.1 hl
  exact hc y w hw
 ·simpa [OwnS] using b
theorem Sl.one {l c:Nat} {x:α} {bk:BK} (hz:(enc x).length=z) (h:g l=some (.cells (enc x) bk)):Sl enc z g (.slice (some ⟨l,0,none⟩) 1 c) [x]:=by
 have:=Rd.lit (g:=g) (l:=l) (m:=1) (z:=z) (c:=c) (cs:=enc x) (bk:=bk) h (by omega)
 simpa [Sl] using this
end
theorem Xn {a:Int} (h0: -9223372036854775808≤a) (h1:a≤9223372036854775807):IntKind.i64.wrap a=a:=IntWalk.i64_in a ⟨h0,h1⟩
theorem ZaZ {a:Nat} (h1:a<9223372036854775807):IntKind.i64.wrap ((a:Int)+1)=((a+1:Nat):Int):=by rw [Xn (by omega) (by omega)];omega
def X0:XT:=fun _ _ _ _ _ _=>False
theorem Jb:Xda X0:=fun _ _ _ _ _ _ _ _ _ _ h=>h.elim
end Go.Proofs.YtmchcjaomcdbmaaGreat.Abs
namespace Go.Proofs.YtmchcjaomcdbmaaGreat.Abs
open Go Go.RowKit
variable {g:G} {n:Nat}
section
variable {α:Type} {enc:α→List Value} {z:Nat}
theorem JaZ (xs ys:List α):((xs++ys).map enc).flatten=(xs.map enc).flatten++(ys.map enc).flatten:=by simp
theorem QbO (hz: ∀x,(enc x).length=z) (xs:List α) (i:Nat) (hi:i≤xs.length):((xs.map enc).flatten).take (i*z)=((xs.take i).map enc).flatten:=by
 have e:xs=xs.take i++xs.drop i:=(List.take_append_drop i xs).symm
 have hl:((xs.take i).map enc).flatten.length=i*z:=by rw [Zk enc z hz,List.length_take];congr 1;omega
 conv=>lhs;rw [e,JaZ,←hl]
 rw [List.take_left]
theorem ZbZ (hz: ∀x,(enc x).length=z) (xs:List α) (i:Nat) (hi:i≤xs.length):((xs.map enc).flatten).drop (i*z)=((xs.drop i).map enc).flatten:=by
 have e:xs=xs.take i++xs.drop i:=(List.take_append_drop i xs).symm
 have hl:((xs.take i).map enc).flatten.length=i*z:=by rw [Zk enc z hz,List.length_take];congr 1;omega
 conv=>lhs;rw [e,JaZ,←hl]
 rw [List.drop_left]
theorem ZaF (hz: ∀x,(enc x).length=z) (xs ys:List α) (i:Nat) (hi:i+ys.length≤xs.length):splice ((xs.map enc).flatten) (i*z) ((ys.map enc).flatten)=(((xs.take i++ys++xs.drop (i+ys.length))).map enc).flatten:=by
 unfold splice
 rw [QbO hz xs i (by omega),Zk enc z hz,←Nat.add_mul,ZbZ hz xs _ (by omega)]
 simp
theorem Jft (hz: ∀x,(enc x).length=z) (xs:List α) (i:Nat) (y:α) (hi:i<xs.length):splice ((xs.map enc).flatten) (i*z) (enc y)=((xs.set i y).map enc).flatten:=by
 have:=ZaF hz xs [y] i (by simp;omega)
 simp only [List.map_cons,List.map_nil,List.flatten_cons,List.flatten_nil,List.append_nil,List.length_singleton] at this
 rw [this,List.set_eq_take_append_cons_drop,if_pos hi]
 simp
theorem Qam (y:α): ∀(k:Nat),reps k (enc y)=((List.replicate k y).map enc).flatten:=by
 intro k;simp [reps,List.map_replicate]
def Blk1 (enc:α→List Value) (g:G) (l:Nat) (xs:List α) (bk:BK):Prop:=g l=some (.cells (xs.map enc).flatten bk)
theorem Blk1.mono {g':G} {l:Nat} {xs:List α} {bk:BK} (h:Blk1 enc g l xs bk) (hs:Sub g g'):Blk1 enc g' l xs bk:=hs.live h
theorem Blk1.sl {l c i m:Nat} {xs:List α} {bk:BK} (hz: ∀x,(enc x).length=z) (h:Blk1 enc g l xs bk) (hi:i+m≤xs.length):Sl enc z g (.slice (some ⟨l,i*z,none⟩) m c) ((xs.drop i).take m):=by
 have hl:((xs.drop i).take m).length=m:=by rw [List.length_take,List.length_drop];omega
 unfold Sl
 rw [hl]
 refine ⟨_,c,rfl,?_,.inr ⟨l,i*z,rfl⟩,fun _=>⟨l,i*z,_,bk,rfl,h,?_,?_⟩⟩
 ·rw [Zk enc z hz,hl]
 ·rw [Zk enc z hz,←Nat.add_mul];exact Nat.mul_le_mul_right _ hi
 ·rw [ZbZ hz xs i (by omega),QbO hz _ m (by rw [List.length_drop];omega)]
theorem Blk1.ldN {l i:Nat} {xs:List α} {bk:BK} {x:α} {K:List Value→Prop} (hz: ∀x,(enc x).length=z) (h:Blk1 enc g l xs bk) (hi:xs[i]? =some x) (k:K (enc x)):Zn g l (i*z) z K:=by
 have hlt:i<xs.length:=by rcases Nat.lt_or_ge i xs.length with h|h;exact h;rw [List.getElem?_eq_none h] at hi;cases hi
 refine Ju h ?_ (by rw [Jbh enc z hz xs i x hi];exact k)
 rw [Zk enc z hz]
 have:=Nat.mul_le_mul_right z (show i+1≤xs.length from hlt)
 rw [Nat.add_mul,Nat.one_mul] at this;exact this
theorem Blk1.stN {l i:Nat} {xs:List α} {bk:BK} {y:α} {K:G→Prop} (hz: ∀x,(enc x).length=z) (hc: ∀x,∀v∈enc x,isCell v=true) (h:Blk1 enc g l xs bk) (hr:bk.rw=true) (hi:i<xs.length)
  (k:Blk1 enc (upd g l (some (.cells ((xs.set i y).map enc).flatten bk))) l (xs.set i y) bk→K (upd g l (some (.cells ((xs.set i y).map enc).flatten bk)))):Xw g l (i*z) (enc y) K:=by
 refine XB h hr ?_ (hc y) ?_
 ·rw [Zk enc z hz,hz]
  have:=Nat.mul_le_mul_right z (show i+1≤xs.length from hi)
  rw [Nat.add_mul,Nat.one_mul] at this;exact this
 ·rw [Jft hz xs i y hi]
  exact k (Xa _ _ _)
end
theorem Qv {l o m c z:Nat} {k:IntKind} {j:Int} {K:Value→Prop} (h0:0≤j) (h1:j<m) (kk:K (ptr l (o+j.toNat*z))):Jc (.slice (some ⟨l,o,none⟩) m c) (.int k j) z K:=⟨h0,h1,kk⟩
theorem Xb4 (l o n:Nat):(⟨l,o,none⟩:Addr).add n=⟨l,o+n,none⟩:=by unfold Addr.add;split<;>simp_all
theorem XaC {l o m c z f:Nat} {K:Value→Prop} (hc:(c<LC∧m≤c)∨c=LC+z) (hf:f≤m) (k: ∀o' c',(f<m→o'=o+f*z)→K (.slice (some ⟨l,o',none⟩) (m-f) c')):
  Xu (.slice (some ⟨l,o,none⟩) m c) (some (.int .i64 f)) none none z K:=by
 rcases hc with ⟨hc,hm⟩|hc
 ·simp only [Xu,if_pos hc,XJ,Zba]
  refine ⟨by omega,by omega,?_⟩
  rw [Int.toNat_natCast]
  by_cases e:c=f
  ·rw [if_pos e];exact k _ _ (fun h=>by omega)
  ·rw [if_neg e]
   simp only [Option.map_some,Xb4]
   exact k _ _ (fun _=>rfl)
 ·have hc': ¬c<LC:=by omega
  simp only [Xu,if_neg hc',XJ,Zba]
  refine ⟨hc,by omega,by omega,?_⟩
  rw [Int.toNat_natCast]
  simp only [Option.map_some,Xb4]
  exact k _ _ (fun _=>rfl)
theorem JbL {l o m c z f:Nat} {K:Value→Prop} (hc:(c<LC∧m≤c)∨c=LC+z) (hf:f≤m) (k:K (.slice (some ⟨l,o,none⟩) f c)):
  Xu (.slice (some ⟨l,o,none⟩) m c) none (some (.int .i64 f)) none z K:=by
 rcases hc with ⟨hc,hm⟩|hc
 ·simp only [Xu,if_pos hc,XJ,Zba]
  refine ⟨by omega,by omega,?_⟩
  simp only [Int.toNat_natCast,Nat.zero_mul,Option.map_some,Xb4,Nat.add_zero,Nat.sub_zero,ite_self]
  exact k
 ·have hc': ¬c<LC:=by omega
  simp only [Xu,if_neg hc',XJ,Zba]
  refine ⟨hc,by omega,by omega,?_⟩
  simp only [Int.toNat_natCast,Nat.zero_mul,Option.map_some,Xb4,Nat.add_zero,Nat.sub_zero]
  rw [←hc];exact k
theorem Blk1.clear {α:Type} {enc:α→List Value} {z:Nat} {l o f c:Nat} {xs:List α} {bk:BK} {y:α} {K:Value→G→Prop} (hz: ∀x,(enc x).length=z) (hc: ∀x,∀v∈enc x,isCell v=true) (h:Blk1 enc g l xs bk) (hr:bk.rw=true)
  (hf:f≤xs.length) (ho:f<xs.length→o=0+f*z) (k0:f=xs.length→K undef g)
  (k: ∀xs',xs'.take f=xs.take f→xs'.length=xs.length→Blk1 enc (upd g l (some (.cells (xs'.map enc).flatten bk))) l xs' bk→K undef (upd g l (some (.cells (xs'.map enc).flatten bk)))):Jav (.slice (some ⟨l,o,none⟩) (xs.length-f) c) (enc y) g K:=by
 simp only [Jav]
 by_cases hz0:z=0
 ·rw [if_pos (.inr (List.eq_nil_of_length_eq_zero (by rw [hz,hz0])))]
  have hnil: ∀(l:List α),(l.map enc).flatten=[]:=fun l=>List.eq_nil_of_length_eq_zero (by rw [Zk enc z hz,hz0,Nat.mul_zero])
  have:=k xs rfl rfl (by unfold Blk1;rw [Xa])
  have e:upd g l (some (.cells (xs.map enc).flatten bk))=g:=by
   funext i;by_cases hi:i=l
   ·subst hi;rw [Xa];exact h.symm
   ·rw [Xc _ _ hi]
  rwa [e] at this
 by_cases hl:xs.length-f=0
 ·rw [if_pos (.inl hl)];exact k0 (by omega)
 ·rw [if_neg (by rintro (h|h);exact hl h;have:=hz y;rw [h] at this;exact hz0 this.symm)]
  rw [ho (by omega),Nat.zero_add,Qam]
  have hi:f+(List.replicate (xs.length-f) y).length≤xs.length:=by rw [List.length_replicate];omega
  refine XB h hr ?_ ?_ ?_
  ·rw [Zk enc z hz,Zk enc z hz,←Nat.add_mul];exact Nat.mul_le_mul_right _ hi
  ·intro v hv
   obtain ⟨w,hw,hv⟩:=List.mem_flatten.1 hv
   obtain ⟨x,_,rfl⟩:=List.mem_map.1 hw
   exact hc x v hv
  ·rw [ZaF hz xs _ f hi]
   refine k _ ?_ ?_ (Xa _ _ _)
   ·rw [List.append_assoc,List.take_append_of_le_length (by rw [List.length_take];omega),List.take_take];congr 1;omega
   ·simp;omega
theorem Xdq {α:Type} {ys:List α} {f:Nat} {e:α} (h:f<ys.length):(ys.set f e).take (f+1)=ys.take f++[e]:=by
 rw [List.take_add_one,List.getElem?_set_self h,List.take_set_of_le (Nat.le_refl _)];rfl
def Cap (v:Value) (z:Nat):Prop:=match v with
 | .slice _ m c=>(c<LC∧m≤c)∨c=LC+z
 | _=>False
theorem Own.cap {g0:G} {v:Value} {z m:Nat} {cs:List Value} (h:Own g0 g v z m cs):Cap v z:=by
 rcases h with ⟨rfl,rfl,a,rfl,ha⟩|⟨l,c,bk,rfl,hg,_,hl,⟨rfl,_,h⟩|⟨rfl,_⟩⟩
 ·exact .inl ⟨by decide,Nat.le_refl _⟩
 ·exact .inl ⟨h,Nat.le_refl _⟩
 ·exact .inr rfl
theorem OwnS.cap {α:Type} {enc:α→List Value} {z:Nat} {g0:G} {v:Value} {xs:List α} (h:OwnS enc z g0 g v xs):Cap v z:=Own.cap h
section
variable {α:Type} {enc:α→List Value} {z:Nat}
theorem Sl.to {v:Value} {xs:List α} {f:Nat} {K:Value→Prop} (hz: ∀x,(enc x).length=z) (h:Sl enc z g v xs) (hc:Cap v z) (hf:f≤xs.length) (k: ∀v',Sl enc z g v' (xs.take f)→Cap v' z→K v'):
  Xu v none (some (.int .i64 f)) none z K:=by
 obtain ⟨a,c,rfl,hl,ha,hg⟩:=h
 have hlt:(xs.take f).length=f:=by rw [List.length_take];omega
 have hz1:((xs.take f).map enc).flatten=((xs.map enc).flatten).take (f*z):=(QbO hz xs f hf).symm
 have hs: ∀c',Sl enc z g (.slice a f c') (xs.take f):=by
  intro c'
  unfold Sl
  rw [hlt]
  refine ⟨a,c',rfl,by rw [Zk enc z hz,hlt],ha,fun h0=> ?_⟩
  obtain ⟨l,o,bs,bk,h1,h2,h3,h4⟩:=hg (by omega)
  have:f*z≤xs.length*z:=Nat.mul_le_mul_right _ hf
  refine ⟨l,o,bs,bk,h1,h2,by omega,?_⟩
  rw [hz1,←h4,List.take_take,Nat.min_eq_left this]
 rcases ha with rfl|⟨l,o,rfl⟩
 ·rcases hc with ⟨hc,hm⟩|hc
  ·simp only [Xu,if_pos hc,XJ,Zba]
   refine ⟨by omega,by omega,?_⟩
   simp only [Int.toNat_natCast,Option.map_none,ite_self,Nat.sub_zero]
   exact k _ (hs _) (.inl ⟨hc,by omega⟩)
  ·have hc': ¬c<LC:=by omega
   simp only [Xu,if_neg hc',XJ,Zba]
   refine ⟨hc,by omega,by omega,?_⟩
   simp only [Int.toNat_natCast,Option.map_none,Nat.sub_zero]
   exact k _ (hs _) (.inr rfl)
 ·exact JbL hc hf (k _ (hs _) (by rcases hc with ⟨h1,h2⟩|h;exact .inl ⟨h1,by omega⟩;exact .inr h))
theorem Sl.from {v:Value} {xs:List α} {f:Nat} {K:Value→Prop} (hz: ∀x,(enc x).length=z) (h:Sl enc z g v xs) (hc:Cap v z) (hf:f≤xs.length) (k: ∀v',Sl enc z g v' (xs.drop f)→K v'):
  Xu v (some (.int .i64 f)) none none z K:=by
 obtain ⟨a,c,rfl,hl,ha,hg⟩:=h
 have hlt:(xs.drop f).length=xs.length-f:=List.length_drop ..
 rcases ha with rfl|⟨l,o,rfl⟩
 ·have h0:xs.length=0:=by
   rcases Nat.eq_zero_or_pos xs.length with h|h
   ·exact h
   ·obtain ⟨l,o,_,_,h1,_⟩:=hg h;cases h1
  have hxs:xs=[]:=List.eq_nil_of_length_eq_zero h0
  subst hxs
  obtain rfl:f=0:=by simpa using hf
  have hs: ∀c',Sl enc z g (.slice none 0 c') ([]:List α):=fun c'=>⟨_,c',rfl,by simp,.inl rfl,fun h=>absurd h (by simp)⟩
  rcases hc with ⟨hc,hm⟩|hc
  ·simp only [Xu,if_pos hc,XJ,Zba]
   refine ⟨by simp,by simp,?_⟩
   simp only [Option.map_none,ite_self]
   exact k _ (hs _)
  ·have hc': ¬c<LC:=by omega
   simp only [Xu,if_neg hc',XJ,Zba]
   refine ⟨hc,by simp,by simp,?_⟩
   simp only [Option.map_none]
   exact k _ (hs _)
 ·refine XaC hc hf (fun o' c' ho=>k _ ?_)
  unfold Sl
  rw [hlt]
  refine ⟨_,c',rfl,by rw [Zk enc z hz,hlt],.inr ⟨l,o',rfl⟩,fun h0=> ?_⟩
  have hfl:f<xs.length:=by clear hg ho;omega
  have hpos:0<xs.length:=by clear hg ho;omega
  have hoo:=ho hfl
  have e1:xs.length*z=f*z+(xs.length-f)*z:=by rw [←Nat.add_mul];congr 1;clear hg ho;omega
  obtain ⟨l1,o1,bs,bk,h1,h2,h3,h4⟩:=hg hpos
  obtain ⟨rfl,rfl⟩:l=l1∧o=o1:=by simpa using h1
  clear h1 hg ho
  refine ⟨l,o',bs,bk,rfl,h2,by rw [hoo];omega,?_⟩
  rw [←ZbZ hz xs f hf,←h4,hoo,List.drop_take,List.drop_drop]
  congr 1
  rw [e1];omega
end
end Go.Proofs.YtmchcjaomcdbmaaGreat.Abs
namespace Go.Proofs.YtmchcjaomcdbmaaGreat.Abs
open Go Go.RowKit
variable {g:G} {n:Nat}
def hide (g:G) (la ls:Nat):G:=upd (upd g la none) ls none
theorem Za2 (g:G) (la ls:Nat):Sub (hide g la ls) g:=fun i=>by
 unfold hide
 by_cases h1:i=ls
 ·subst h1;exact .inl (Xa _ _ _)
 ·rw [Xc _ _ h1]
  by_cases h2:i=la
  ·subst h2;exact .inl (Xa _ _ _)
  ·rw [Xc _ _ h2];exact .inr rfl
theorem Ze8 (g:G) (la ls:Nat):hide g la ls ls=none:=Xa _ _ _
theorem Sub.hide {g0 g:G} {la ls:Nat} (h:Sub g0 g) (ha:g0 la= .none) (hs:g0 ls= .none):Sub g0 (Abs.hide g la ls):=fun i=>by
 unfold Abs.hide
 by_cases h1:i=ls
 ·subst h1;exact .inl hs
 ·rw [Xc _ _ h1]
  by_cases h2:i=la
  ·subst h2;exact .inl ha
  ·rw [Xc _ _ h2];exact h i
theorem JaG {g g':G} {la ls:Nat} (h:Sub g g'):Sub (hide g la ls) (hide g' la ls):=(h.upd la none).upd ls none
theorem Zea (g:G) (la ls:Nat) (b:Option Blk):hide (upd g la b) la ls=hide g la ls:=by
 unfold hide;congr 1
 funext i
 by_cases h:i=la
 ·subst h;rw [Xa,Xa]
 ·rw [Xc _ _ h,Xc _ _ h,Xc _ _ h]
theorem Zl {l m:Nat} {b:Blk} (hl:g l=some b) (hm:g m=none):m≠l:=by
 intro e;subst e;rw [hl] at hm;cases hm
theorem ZN {la ls l:Nat} {b:Blk} (h1:l≠la) (h2:l≠ls) (h:g l=some b):hide g la ls l=some b:=by
 unfold hide;rw [Xc _ _ h2,Xc _ _ h1];exact h
def Xgs (v:Value) (la ls:Nat):Prop:= ∀l,QaH v=some l→l≠la∧l≠ls
theorem Sl.keep {α:Type} {enc:α→List Value} {z:Nat} {g':G} {v:Value} {xs:List α} (h:Sl enc z g v xs) (hk: ∀l b,g l=some b→QaH v=some l→g' l=some b):Sl enc z g' v xs:=by
 obtain ⟨a,c,rfl,hl,ha,h⟩:=h
 refine ⟨a,c,rfl,hl,ha,fun h0=> ?_⟩
 obtain ⟨l,o,bs,bk,rfl,hg,h3⟩:=h h0
 exact ⟨l,o,bs,bk,rfl,hk l _ hg rfl,h3⟩
theorem Sl.hide {α:Type} {enc:α→List Value} {z la ls:Nat} {g':G} {v:Value} {xs:List α} (h:Sl enc z g v xs) (ha:Xgs v la ls) (hs:Sub (Abs.hide g la ls) g'):Sl enc z g' v xs:=
 h.keep fun l _ hg hb=>hs.live (ZN (ha l hb).1 (ha l hb).2 hg)
theorem OwnS.hide {α:Type} {enc:α→List Value} {z la ls:Nat} {g0 g':G} {v:Value} {xs:List α} (h:OwnS enc z g0 g v xs) (ha:Xgs v la ls) (hs:Sub (Abs.hide g la ls) g'):OwnS enc z g0 g' v xs:=
 h.keep fun l _ hg hb=>hs.live (ZN (ha l hb).1 (ha l hb).2 hg)
end Go.Proofs.YtmchcjaomcdbmaaGreat.Abs
namespace Go.Proofs.YtmchcjaomcdbmaaGreat.Abs
open Go Go.RowKit
variable {g:G} {n:Nat}
section
variable {α:Type}
variable {ev:α→Value} {kk:IntKind} {l:Nat} {ms:List (Int×α)} {a:Int}
end
end Go.Proofs.YtmchcjaomcdbmaaGreat.Abs
namespace Go.Proofs.YtmchcjaomcdbmaaGreat.Abs
open Go Go.RowKit
def Q0 (P:Program) (C:CT) (N:Nat) (J:Qn):List Nat→Code→JaH→Qn
 | [],_,_=>J
 | i::p,.seq a b,Q=>match i with
  | 0=>Q0 P C N J p a (XcM (J9 P C N b Q) Q)
  | _=>J9 P C N a (XcM (Q0 P C N J p b Q) Q)
 | i::p,.cond c a b,Q=>fun t g n=>match Zc4 c with
  | false=>False
  | true=>match i with
   | 0=>Qa (ev t c) (Q0 P C N J p a Q t g n) (J9 P C N b Q t g n)
   | _=>Qa (ev t c) (J9 P C N a Q t g n) (Q0 P C N J p b Q t g n)
 | _::p,.block id c,Q=>Q0 P C N J p c (Qcc id Q)
 | _::_,c,Q=>J9 P C N c Q
def Jaq (P:Program) (C:CT) (N:Nat):List Nat→Code→JaH→Qn
 | [],c,Q=>J9 P C N c Q
 | i::p,.seq a b,Q=>match i with
  | 0=>Jaq P C N p a (XcM (J9 P C N b Q) Q)
  | _=>Jaq P C N p b Q
 | i::p,.cond _ a b,Q=>match i with
  | 0=>Jaq P C N p a Q
  | _=>Jaq P C N p b Q
 | _::p,.block id c,Q=>Jaq P C N p c (Qcc id Q)
 | _::_,_,_=>fun _ _ _=>True
theorem Xag (P:Program) (C:CT) (N:Nat): ∀(p:List Nat) (c:Code) (Q:JaH),Q0 P C N (Jaq P C N p c Q) p c Q=J9 P C N c Q
 | [],c,Q=>by unfold Q0 Jaq;rfl
 | i::p,c,Q=>by
  cases c with
  | seq a b=>
   match i with
   | 0=>exact Xag P C N p a _
   | i+1=>
    show J9 P C N a (XcM (Q0 P C N (Jaq P C N p b Q) p b Q) Q)=J9 P C N (.seq a b) Q
    rw [Xag P C N p b Q];rfl
  | cond c a b=>
   funext t g n
   match i with
   | 0=>
    show (match Zc4 c with|false=>False|true=>Qa (ev t c) (Q0 P C N (Jaq P C N p a Q) p a Q t g n) (J9 P C N b Q t g n))=J9 P C N (.cond c a b) Q t g n
    rw [Xag P C N p a Q];rfl
   | i+1=>
    show (match Zc4 c with|false=>False|true=>Qa (ev t c) (J9 P C N a Q t g n) (Q0 P C N (Jaq P C N p b Q) p b Q t g n))=J9 P C N (.cond c a b) Q t g n
    rw [Xag P C N p b Q];rfl
  | block id c=>exact Xag P C N p c _
  | _=>rfl
def Qcm (P:Program) (C:CT) (p:List Nat) (J:Qn) (f:FuncId) (args:List Value) (g:G) (n:Nat) (K:Cont):Prop:=
 match P.funcs[f]? with
 | some fn=>match fn.body,fn.name== "runtime.NumGoroutine",decide (args.length≤fn.ntmps) with
  | some c,false,true=>Q0 P C fn.ntmps J p c (Qgf P fn.results.toList K) (Qq args) g n
  | _,_,_=>False
 | none=>False
def XaG (P:Program) (C:CT) (p:List Nat) (f:FuncId) (K:Cont):Qn:=
 match P.funcs[f]? with
 | some fn=>match fn.body with
  | some c=>Jaq P C fn.ntmps p c (Qgf P fn.results.toList K)
  | none=>fun _ _ _=>True
 | none=>fun _ _ _=>True
theorem Jcv (P:Program) (C:CT) (p:List Nat) (f:FuncId) (args:List Value) (g:G) (n:Nat) (K:Cont):Qcm P C p (XaG P C p f K) f args g n K=Zg P C f args g n K:=by
 unfold Qcm XaG Zg
 cases P.funcs[f]? with
 | none=>rfl
 | some fn=>
  simp only
  cases fn.body with
  | none=>rfl
  | some c=>
   simp only
   cases (fn.name== "runtime.NumGoroutine")<;>cases decide (args.length≤fn.ntmps)<;>first|rfl|(show Q0 P C fn.ntmps _ p c _ _ g n=J9 P C fn.ntmps c _ _ g n;rw [Xag])
end Go.Proofs.YtmchcjaomcdbmaaGreat.Abs
namespace Go.Proofs.YtmchcjaomcdbmaaGreat.Abs
open Go Go.RowKit
def Qat (P:Program) (C:CT) (N:Nat) (J:Qn):List Nat→List Nat→Code→JaH→Qn
 | [],q,c,Q=>Q0 P C N J q c Q
 | i::p,q,.seq a b,Q=>match i with
  | 0=>Qat P C N J p q a (XcM (J9 P C N b Q) Q)
  | _=>Qat P C N J p q b Q
 | i::p,q,.cond _ a b,Q=>match i with
  | 0=>Qat P C N J p q a Q
  | _=>Qat P C N J p q b Q
 | _::p,q,.block id c,Q=>Qat P C N J p q c (Qcc id Q)
 | _::_,_,_,_=>fun _ _ _=>True
theorem J8 (P:Program) (C:CT) (N:Nat): ∀(p q:List Nat) (c:Code) (Q:JaH),Qat P C N (Jaq P C N (p++q) c Q) p q c Q=Jaq P C N p c Q
 | [],q,c,Q=>by
  show Q0 P C N (Jaq P C N q c Q) q c Q=J9 P C N c Q
  exact Xag P C N q c Q
 | i::p,q,c,Q=>by
  cases c with
  | seq a b=>
   match i with
   | 0=>exact J8 P C N p q a _
   | i+1=>exact J8 P C N p q b _
  | cond c a b=>
   match i with
   | 0=>exact J8 P C N p q a _
   | i+1=>exact J8 P C N p q b _
  | block id c=>exact J8 P C N p q c _
  | _=>rfl
def Qbp (P:Program) (C:CT) (p q:List Nat) (J:Qn) (f:FuncId) (K:Cont):Qn:=
 match P.funcs[f]? with
 | some fn=>match fn.body with
  | some c=>Qat P C fn.ntmps J p q c (Qgf P fn.results.toList K)
  | none=>fun _ _ _=>True
 | none=>fun _ _ _=>True
theorem XbL (P:Program) (C:CT) (p q:List Nat) (f:FuncId) (K:Cont):Qbp P C p q (XaG P C (p++q) f K) f K=XaG P C p f K:=by
 unfold Qbp XaG
 cases P.funcs[f]? with
 | none=>rfl
 | some fn=>
  simp only
  cases fn.body with
  | none=>rfl
  | some c=>exact J8 P C fn.ntmps p q c _
end Go.Proofs.YtmchcjaomcdbmaaGreat.Abs
namespace Go.Proofs.YtmchcjaomcdbmaaGreat.Abs
open Go Go.RowKit
variable {T:Type}
abbrev Col (T:Type):=Nat→Option T
def unc (o:Col T) (g:G):G:=fun l=>match o l with|none=>g l|some _=>none
theorem Xq (o:Col T) (g:G):Sub (unc o g) g:=fun l=>by
 unfold unc;split
 ·exact .inr rfl
 ·exact .inl rfl
theorem Jm {o:Col T} {g:G} {l:Nat} (h:o l=none):unc o g l=g l:=by unfold unc;rw [h]
theorem JaI {o:Col T} {g:G} {l:Nat} {c:T} (h:o l=some c):unc o g l=none:=by unfold unc;rw [h]
structure Kept (t:T→Prop) (o o':Col T) (g g':G):Prop where
 unc:Sub (unc o g) (unc o' g')
 col: ∀l c,o l=some c→ ¬t c→o' l=some c∧g' l=g l
 back: ∀l c,o' l=some c→ ¬t c→o l=some c
theorem Kept.refl (t:T→Prop) (o:Col T) (g:G):Kept t o o g g:=⟨Sub.refl _,fun _ _ h _=>⟨h,rfl⟩,fun _ _ h _=>h⟩
theorem Kept.trans {t:T→Prop} {o p q:Col T} {a b c:G} (h:Kept t o p a b) (k:Kept t p q b c):Kept t o q a c:=
 ⟨h.unc.trans k.unc,fun l x e ne=>⟨(k.col l x (h.col l x e ne).1 ne).1,(k.col l x (h.col l x e ne).1 ne).2.trans (h.col l x e ne).2⟩,fun l x e ne=>h.back l x (k.back l x e ne) ne⟩
theorem Kept.mono {t t':T→Prop} {o o':Col T} {g g':G} (h:Kept t o o' g g') (ht: ∀c,t c→t' c):Kept t' o o' g g':=
 ⟨h.unc,fun l c e ne=>h.col l c e (fun k=>ne (ht c k)),fun l c e ne=>h.back l c e (fun k=>ne (ht c k))⟩
def Live (o:Col T) (g:G):Prop:= ∀l c,o l=some c→ ∃b,g l=some b
theorem Live.fresh {o:Col T} {g:G} {l:Nat} (h:Live o g) (hl:g l=none):o l=none:=by
 cases e:o l with
 | none=>rfl
 | some c=>obtain ⟨b,hb⟩:=h l c e;rw [hl] at hb;cases hb
theorem Live.sub {o:Col T} {g g':G} (h:Live o g) (hs:Sub g g'):Live o g':=fun i c e=>by
 obtain ⟨b,hb⟩:=h i c e;exact ⟨b,hs.live hb⟩
theorem Live.upd {o:Col T} {g:G} (h:Live o g) (l:Nat) (b:Blk):Live o (Abs.upd g l (some b)):=fun i c e=>by
 by_cases hi:i=l
 ·subst hi;exact ⟨b,Xa _ _ _⟩
 ·rw [Xc _ _ hi];exact h i c e
theorem Kept.of_sub {t:T→Prop} {o:Col T} {g g':G} (ho:Live o g) (h:Sub g g'):Kept t o o g g':=by
 refine ⟨fun l=> ?_,fun l c e _=> ?_,fun _ _ e _=>e⟩
 ·cases e:o l with
  | some c=>exact .inl (JaI e)
  | none=>
   rw [Jm e,Jm e]
   exact h l
 ·obtain ⟨b,hb⟩:=ho l c e
  exact ⟨e,by rw [hb];exact h.live hb⟩
theorem Kept.upd {t:T→Prop} {o:Col T} {g:G} {l:Nat} {c:T} (h:o l=some c) (ht:t c) (b:Option Blk):Kept t o o g (Abs.upd g l b):=by
 refine ⟨fun i=> ?_,fun i d e ne=>⟨e,?_⟩,fun _ _ e _=>e⟩
 ·cases e:o i with
  | some c=>exact .inl (JaI e)
  | none=>
   rw [Jm e,Jm e,Xc _ _ (fun x=>by rw [x,h] at e;cases e)]
   exact .inr rfl
 ·exact Xc _ _ (fun x=>by subst x;rw [h] at e;cases e;exact ne ht)
theorem Kept.new {t:T→Prop} {o:Col T} {g:G} {l:Nat} {c:T} (ho:o l=none) (hl:g l=none) (ht:t c) (b:Option Blk):Kept t o (Abs.upd o l (some c)) g (Abs.upd g l b):=by
 refine ⟨fun i=> ?_,fun i d e ne=> ?_,fun i d e ne=> ?_⟩
 ·by_cases hi:i=l
  ·subst hi;exact .inl (by rw [Jm ho];exact hl)
  ·have e:Abs.unc (Abs.upd o l (some c)) (Abs.upd g l b) i=Abs.unc o g i:=by unfold Abs.unc;rw [Xc _ _ hi,Xc _ _ hi]
   exact .inr e.symm
 ·have hi:i≠l:=fun x=>by subst x;rw [ho] at e;cases e
  exact ⟨by rw [Xc _ _ hi];exact e,Xc _ _ hi⟩
 ·by_cases hi:i=l
  ·subst hi;rw [Xa] at e;cases e;exact absurd ht ne
  ·rw [Xc _ _ hi] at e;exact e
theorem Live.new {o:Col T} {g:G} (h:Live o g) (l:Nat) (c:T) (b:Blk):Live (Abs.upd o l (some c)) (Abs.upd g l (some b)):=fun i d e=>by
 by_cases hi:i=l
 ·subst hi;exact ⟨b,Xa _ _ _⟩
 ·rw [Xc _ _ hi] at e;rw [Xc _ _ hi];exact h i d e
theorem Kept.gone {t:T→Prop} {o:Col T} {g:G} {l:Nat} {c:T} (h:o l=some c) (ht:t c):Kept t o (Abs.upd o l none) g (Abs.upd g l none):=by
 refine ⟨fun i=> ?_,fun i d e ne=> ?_,fun i d e ne=> ?_⟩
 ·by_cases hi:i=l
  ·subst hi;exact .inl (JaI h)
  ·have e:Abs.unc (Abs.upd o l none) (Abs.upd g l none) i=Abs.unc o g i:=by unfold Abs.unc;rw [Xc _ _ hi,Xc _ _ hi]
   exact .inr e.symm
 ·have hi:i≠l:=fun x=>by subst x;rw [h] at e;cases e;exact ne ht
  exact ⟨by rw [Xc _ _ hi];exact e,Xc _ _ hi⟩
 ·by_cases hi:i=l
  ·subst hi;rw [Xa] at e;cases e
  ·rw [Xc _ _ hi] at e;exact e
theorem Live.gone {o:Col T} {g:G} (h:Live o g) (l:Nat):Live (Abs.upd o l none) (Abs.upd g l none):=fun i d e=>by
 by_cases hi:i=l
 ·subst hi;rw [Xa] at e;cases e
 ·rw [Xc _ _ hi] at e;rw [Xc _ _ hi];exact h i d e
theorem Kept.of_hide {t:T→Prop} {o:Col T} {g g':G} {la ls:Nat} {c d:T} (ho:Live o g) (ha:o la=some c) (hs:o ls=some d) (hc:t c) (hd:t d) (h:Sub (hide g la ls) g'):Kept t o o g g':=by
 refine ⟨fun i=> ?_,fun i e he ne=>⟨he,?_⟩,fun _ _ e _=>e⟩
 ·cases e:o i with
  | some c=>exact .inl (JaI e)
  | none=>
   rw [Jm e,Jm e]
   have h1:i≠ls:=fun x=>by rw [x,hs] at e;cases e
   have h2:i≠la:=fun x=>by rw [x,ha] at e;cases e
   have:=h i
   unfold Abs.hide at this
   rw [Xc _ _ h1,Xc _ _ h2] at this
   exact this
 ·obtain ⟨b,hb⟩:=ho i e he
  have h1:i≠ls:=fun x=>by subst x;rw [hs] at he;cases he;exact ne hd
  have h2:i≠la:=fun x=>by subst x;rw [ha] at he;cases he;exact ne hc
  rw [hb];exact h.live (ZN h2 h1 hb)
theorem Live.of_kept {t:T→Prop} {o:Col T} {g g':G} (h:Live o g) (k:Kept t o o g g') (ht: ∀l c,o l=some c→t c→ ∃b,g' l=some b):Live o g':=fun l c e=>by
 by_cases hc:t c
 ·exact ht l c e hc
 ·obtain ⟨b,hb⟩:=h l c e
  exact ⟨b,by rw [(k.col l c e hc).2];exact hb⟩
theorem Kept.fresh {t:T→Prop} {o:Col T} {g g':G} {l:Nat} (h:Kept t o o g g') (hl:g l=none) (ho:o l=none) (b:Option Blk):Kept t o o g (Abs.upd g' l b):=by
 refine ⟨fun i=> ?_,fun i c e ne=>⟨e,?_⟩,fun _ _ e _=>e⟩
 ·by_cases hi:i=l
  ·subst hi;exact .inl (by rw [Jm ho];exact hl)
  ·have e:Abs.unc o (Abs.upd g' l b) i=Abs.unc o g' i:=by unfold Abs.unc;rw [Xc _ _ hi]
   rw [e];exact h.unc i
 ·have hi:i≠l:=fun x=>by subst x;rw [ho] at e;cases e
  rw [Xc _ _ hi];exact (h.col i c e ne).2
theorem Sl.kept {α:Type} {enc:α→List Value} {z:Nat} {t:T→Prop} {o o':Col T} {g g':G} {v:Value} {xs:List α} (h:Sl enc z (unc o g) v xs) (k:Kept t o o' g g'):Sl enc z (unc o' g') v xs:=h.mono k.unc
def QV {α:Type} (enc:α→List Value) (z:Nat) (o:Col T) (c:T) (g:G) (v:Value) (xs:List α):Prop:=
 (v= .slice none 0 0∧xs=[])∨ ∃l off cs,v= .slice (some ⟨l,off,none⟩) xs.length (LC+z)∧o l=some c∧g l=some (.cells cs (.loose z))∧off+xs.length*z≤cs.length∧(cs.drop off).take (xs.length*z)=(xs.map enc).flatten
section
variable {α:Type} {enc:α→List Value} {z:Nat} {o:Col T} {c:T} {g:G} {v:Value} {xs:List α}
theorem QV.sl (hz: ∀x,(enc x).length=z) (h:QV enc z o c g v xs):Sl enc z g v xs:=by
 rcases h with ⟨rfl,rfl⟩|⟨l,off,cs,rfl,_,hg,hl,he⟩
 ·exact Sl.nil
 ·exact ⟨_,_,rfl,Zk enc z hz xs,.inr ⟨l,off,rfl⟩,fun _=>⟨l,off,cs,_,rfl,hg,hl,he⟩⟩
theorem QV.kept {t:T→Prop} {o':Col T} {g':G} (h:QV enc z o c g v xs) (k:Kept t o o' g g') (hc: ¬t c):QV enc z o' c g' v xs:=by
 rcases h with h|⟨l,off,cs,rfl,ho,hg,hl,he⟩
 ·exact .inl h
 ·obtain ⟨h1,h2⟩:=k.col l c ho hc
  exact .inr ⟨l,off,cs,rfl,h1,h2.trans hg,hl,he⟩
theorem QV.of_sub {g':G} (h:QV enc z o c g v xs) (hs:Sub g g'):QV enc z o c g' v xs:=by
 rcases h with h|⟨l,off,cs,rfl,ho,hg,hl,he⟩
 ·exact .inl h
 ·exact .inr ⟨l,off,cs,rfl,ho,hs.live hg,hl,he⟩
theorem QV.of_upd {l:Nat} {b:Option Blk} (h:QV enc z o c g v xs) (hl:o l=none):QV enc z o c (upd g l b) v xs:=by
 rcases h with h|⟨l',off,cs,rfl,ho,hg,hl',he⟩
 ·exact .inl h
 ·exact .inr ⟨l',off,cs,rfl,ho,by rw [Xc _ _ (fun e=>by rw [e,hl] at ho;cases ho)];exact hg,hl',he⟩
theorem QV.cellOk (h:QV enc z o c g v xs):isCell v=true:=by
 rcases h with ⟨rfl,_⟩|⟨l',off,cs,rfl,_⟩<;>rfl
theorem QV.append {bytes:Nat} {n:Nat} {x:Value} {ys:List α} {K:Cont} (hz: ∀x,(enc x).length=z) (h:QV enc z o c g v xs) (hL:Live o g) (hx:Sl enc z (unc o g) x ys) (hy:ys≠[]) (hc: ∀y,∀v∈enc y,isCell v=true)
  (hb:bytes≤1048576) (h1:(xs.length+ys.length)*bytes≤140737488355328) (h2:xs.length+ys.length<140737488355328)
  (hK: ∀v' o' g' n',Kept (· =c) o o' g g'→Live o' g'→QV enc z o' c g' v' (xs++ys)→K v' g' n'):Q5 v x z bytes g n K:=by
 have hx':=hx.mono (Xq o g)
 obtain ⟨ax,cx,rfl⟩: ∃ax cx,x= .slice ax ys.length cx:=by obtain ⟨a,c,e,_⟩:=id hx';exact ⟨a,c,e⟩
 have hyl:0<ys.length:=by cases ys with
  | nil=>exact absurd rfl hy
  | cons y ys=>simp
 have hnew: ∀w∈(ys.map enc).flatten,isCell w=true:=by
  intro w hw
  obtain ⟨l,hl,hw⟩:=List.mem_flatten.1 hw
  obtain ⟨y,_,rfl⟩:=List.mem_map.1 hl
  exact hc y w hw
 rcases h with ⟨rfl,rfl⟩|⟨l,off,cs,rfl,ho,hg,hl,he⟩
 ·refine ⟨hb,by simpa using h1,by simpa using h2,Rd.elems hx' ⟨hnew,?_⟩⟩
  rw [if_pos (by unfold LC;decide),if_neg (by omega)]
  refine ⟨by simp,?_⟩
  intro hn
  have hno:=hL.fresh hn
  refine hK _ (upd o n (some c)) _ _ (Kept.new (t:=(· =c)) (c:=c) hno hn rfl _) (hL.new n c _) (.inr ⟨n,0,(ys.map enc).flatten,?_,Xa _ _ _,?_,?_,?_⟩)
  ·simp
  ·rw [Xa];simp
  ·rw [List.nil_append,Zk enc z hz];omega
  ·rw [List.nil_append,List.drop_zero,List.take_of_length_le (by rw [Zk enc z hz];exact Nat.le_refl _)]
 ·refine ⟨hb,h1,h2,Rd.elems hx' ⟨hnew,?_⟩⟩
  rw [if_neg (by omega)]
  refine ⟨rfl,JaP hg ⟨rfl,hl,fun hn=> ?_⟩⟩
  have hno:=hL.fresh hn
  have hne:n≠l:=fun e=>by rw [e,hg] at hn;cases hn
  have hno':upd o l none n=none:=by rw [Xc _ _ hne];exact hno
  have hn':upd g l none n=none:=by rw [Xc _ _ hne];exact hn
  refine hK _ (upd (upd o l none) n (some c)) _ _ ((Kept.gone (t:=(· =c)) ho rfl).trans (Kept.new (t:=(· =c)) (c:=c) hno' hn' rfl _)) ((hL.gone l).new n c _) (.inr ⟨n,0,(xs.map enc).flatten++(ys.map enc).flatten,?_,Xa _ _ _,?_,?_,?_⟩)
  ·simp
  ·rw [Xa,he]
  ·rw [←JaZ,Zk enc z hz];omega
  ·rw [List.drop_zero,←JaZ,List.take_of_length_le (by rw [Zk enc z hz];exact Nat.le_refl _)]
theorem QV.tail {x:α} {K:Value→Prop} (hz: ∀x,(enc x).length=z) (h:QV enc z o c g v (x::xs)) (k: ∀v',QV enc z o c g v' xs→K v'):Xu v (some (.int .i64 1)) none none z K:=by
 rcases h with ⟨_,h⟩|⟨l,off,cs,rfl,ho,hg,hl,he⟩
 ·cases h
 ·have e:Xu (.slice (some ⟨l,off,none⟩) (x::xs).length (LC+z)) (some (.int .i64 ((1:Nat):Int))) none none z K:=by
   rw [List.length_cons] at hl he
   have hmul:(xs.length+1)*z=xs.length*z+z:=by rw [Nat.add_mul];omega
   simp only [Xu,if_neg (show ¬LC+z<LC by omega),XJ,Zba]
   refine ⟨trivial,by omega,by simp;omega,?_⟩
   simp only [Option.map_some,Xb4,Int.toNat_natCast,List.length_cons,Nat.add_sub_cancel,Nat.one_mul]
   refine k _ (.inr ⟨l,off+z,cs,rfl,ho,hg,by omega,?_⟩)
   have h3:=congrArg (fun t=>(t.drop z).take (xs.length*z)) he
   simp only [List.map_cons,List.flatten_cons] at h3
   rw [List.drop_left' (hz x),List.drop_take,List.drop_drop,show (xs.length+1)*z-z=xs.length*z by omega,List.take_take,Nat.min_self] at h3
   rw [h3,List.take_of_length_le (by rw [Zk enc z hz];exact Nat.le_refl _)]
  exact e
end
end Go.Proofs.YtmchcjaomcdbmaaGreat.Abs
