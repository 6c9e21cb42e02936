import Derived.Test.YtmchcjaomcdbmaaGreatAbsA
/- The machine's code and calls, sound for the model's runs; rules for proofs over it; how arguments come in. -/
set_option linter.all false
set_option linter.deprecated false
namespace Go.Proofs.YtmchcjaomcdbmaaGreat.Abs
open Go Go.RowKit
section
variable {P:Program} {B:Nat} {w:World} {μ:Mu} {g:G} {n:Nat} {K:Cont}
theorem VRs.mapEv {t:Env} {a:Act} {N:Nat} (he:EnvR μ N t a): ∀(xs:List Operand),(∀x∈xs,Qd2 x=true)→VRs μ (xs.map (ev t)) (xs.map a.eval)
 | [],_=> .nil
 | x::xs,h=> .cons (he.ev (h x (by simp))) (VRs.mapEv he xs λy j=>h y (by simp [j]))
theorem QfN {t:Env} {a:Act} {N:Nat} (hs:Sim μ g n w B) (he:EnvR μ N t a) {c:Call} {f:Operand} {ty:TypeId} (hc:c.callee= .value f) (E: ∀x∈c.operands.toList,Qd2 x=true)
  (h:Qbu (JbG P) (ev t f) (c.args.toList.map (ev t)) g n K):Upon P B w μ K ((do let d ←resolve a.eval c ty;invoke d.target d.args:Sem Next).run P w):=by
 have V:VR μ (ev t f) (a.eval f):=he.ev (E f (by simp [Call.operands,hc]))
 unfold Qbu at h
 split at h
 ·rename_i J xs ys Q
  rw [Q] at V
  generalize hfv:a.eval f=fv at V
  cases V with
  | @func _ _ _ us vs Y h2 Z h4=>
   have j:VRs μ (c.args.toList.map (ev t)) (c.args.toList.map a.eval):=VRs.mapEv he _ λx hx=>E x (by simp only [Call.operands,Array.toList_append,List.mem_append];exact .inr hx)
   have O:VRs μ xs.toList us.toList:=VRs.of_get (by simpa using Y) λi x y hx U=>Z i x y (by simpa using hx) (by simpa using U)
   have I:VRs μ ys.toList vs.toList:=VRs.of_get (by simpa using h2) λi x y hx U=>h4 i x y (by simpa using hx) (by simpa using U)
   have:=h μ w B (us++c.args.map a.eval++vs) hs (by simpa using (O.append j).append I)
   have e:((do let d ←resolve a.eval c ty;invoke d.target d.args:Sem Next).run P w)=(callFunc J (us++c.args.map a.eval++vs)).run P w:=by
    simp [resolve,hc,hfv,Deferred.ofValue,invoke]
   rw [e];exact this
 ·exact h.elim
theorem upon_value {s:Sem Value} {v:Value} {w':World} (h:s.run P w= .ok v w') (j:Fin B w μ K v w'):Upon P B w μ K ((do pure (.value (←s)):Sem Next).run P w):=by
 simp only [Sem.run_bind,h,Result.andThen_ok,Sem.run_pure];exact j
theorem QcP {s:Sem Unit} {w':World} (h:s.run P w= .ok () w') (j:Fin B w μ K undef w'):Upon P B w μ K ((do s;pure .skip:Sem Next).run P w):=by
 simp only [Sem.run_bind,h,Result.andThen_ok,Sem.run_pure];exact j
theorem Jia {o:Oper} (h:o.op.operands.toList.all Qd2=true): ∀x∈o.op.operands.toList,Qd2 x=true:=List.all_eq_true.1 h
theorem ZdP {t:Env} {a:Act} {N:Nat} {o:Oper} (hs:Sim μ g n w B) (he:EnvR μ N t a) (h:aop P (JbG P) o t g n K):Upon P B w μ K ((execOp a.eval o).run P w):=by
 unfold aop at h
 split at h
 ·exact h.elim
 rename_i E
 have E:=Jia E
 obtain ⟨dst,op,ty,pos,after,guard⟩:=o
 simp only at h E
 cases op with
 | move x=>exact Xl hs (he.ev (E x (by simp [Op.operands]))) h
 | assign x=>exact Xl hs (he.ev (E x (by simp [Op.operands]))) h
 | pick c x y=>
  obtain ⟨b,hb,h⟩:=XeJ h
  have hc:=he.ev (E c (by simp [Op.operands]))
  rw [hb] at hc
  have am:a.eval c= .bool b:=by cases hcc:a.eval c<;>rw [hcc] at hc<;>cases hc;rfl
  have hx:=he.ev (E x (by simp [Op.operands]))
  have hy:=he.ev (E y (by simp [Op.operands]))
  simp only [execOp,am,asBool,Sem.run_bind,Sem.run_pure,Result.andThen_ok]
  cases b
  ·exact Xl hs hy h
  ·exact Xl hs hx h
 | alloc e=>
  obtain ⟨v,w',I,J⟩:=Ze1 hs h
  exact upon_value I J
 | box e x=>
  obtain ⟨v,w',I,J⟩:=XgN hs (he.ev (E x (by simp [Op.operands]))) h
  exact upon_value I J
 | build ty parts=>
  obtain ⟨v,I,J⟩:=Qe1 (P:=P) hs he (by intro x hx;exact E x.2 (by simp only [Op.operands];simp;exact ⟨x.1,by simpa using hx⟩)) h
  exact upon_value I J
 | buildSlice ty len parts=>
  simp only at h
  split at h
  ·rename_i e Q
   obtain ⟨v,w',I,J⟩:=Qdj (P:=P) hs he (by intro x hx;exact E x.2 (by simp only [Op.operands];simp;exact ⟨x.1,by simpa using hx⟩)) Q h
   exact upon_value I J
  ·exact h.elim
 | load ty x=>
  obtain ⟨v,I,J⟩:=JfL (P:=P) hs (he.ev (E x (by simp [Op.operands]))) h
  exact upon_value I J
 | store ty x y=>
  obtain ⟨w',I,J⟩:=Je8 (P:=P) hs (he.ev (E x (by simp [Op.operands]))) (he.ev (E y (by simp [Op.operands]))) h
  exact QcP I J
 | nilCheck x=>
  have hx:=he.ev (E x (by simp [Op.operands]))
  simp only [Xf] at h
  split at h
  all_goals first|exact h.elim|skip
  all_goals
   rename_i hv
   rw [hv] at hx
   cases ad:a.eval x<;>rw [ad] at hx<;>first|(cases hx;done)|skip
   simp only [execOp,ad]
  ·cases hx with
   | ptr o hm=>exact Xl hs (.ptr o hm) h
  ·cases hx with
   | func _ I J U h4=>exact Xl hs (.func _ I J U h4) h
  ·exact Xl hs hx h
  ·exact Xl hs hx h
  ·exact Xl hs hx h
 | binOp op xt x y yt=>
  obtain ⟨v,I,J,U⟩:=Zgd (P:=P) (w:=w) (X:=x) (Y:=y) (he.ev (E x (by simp [Op.operands]))) (he.ev (E y (by simp [Op.operands]))) h
  exact upon_value I (Xl hs J U)
 | unOp op xt x=>
  obtain ⟨v,I,J,U⟩:=Zg0 (P:=P) (w:=w) (he.ev (E x (by simp [Op.operands]))) h
  exact upon_value I (Xl hs J U)
 | convert src dst x=>
  simp only at h
  split at h
  ·rename_i d k an al
   obtain ⟨v,I,J,U⟩:=Xf3 (P:=P) (w:=w) an al (he.ev (E x (by simp [Op.operands]))) h
   exact upon_value I (Xl hs J U)
  ·exact h.elim
 | makeFunc fn first captured=>
  refine Xl hs ?_ h
  refine .func fn (by simp) (by simp) ?_ ?_
  ·intro i x y hx hy
   rw [Array.getElem?_map] at hx hy
   cases hf:first[i]? with
   | none=>simp [hf] at hx
   | some q=>
    simp [hf] at hx hy
    subst hx;subst hy
    exact he.ev (E q (by simp only [Op.operands,Array.toList_append,List.mem_append];exact .inl (by simpa using Array.mem_of_getElem? hf)))
  ·intro i x y hx hy
   rw [Array.getElem?_map] at hx hy
   cases hf:captured[i]? with
   | none=>simp [hf] at hx
   | some q=>
    simp [hf] at hx hy
    subst hx;subst hy
    exact he.ev (E q (by simp only [Op.operands,Array.toList_append,List.mem_append];exact .inr (by simpa using Array.mem_of_getElem? hf)))
 | makeSlice ty l c=>
  simp only at h
  split at h
  ·rename_i e Q
   obtain ⟨i,z,V,hz,hp,_,ac,h⟩:=XaI h
   obtain ⟨v,w',I,J⟩:=ZfT (P:=P) Q V hz hp ac hs (he.ev (E l (by simp [Op.operands]))) (he.ev (E c (by simp [Op.operands]))) h
   exact upon_value I J
  ·exact h.elim
 | slice ty x lo V mx=>
  simp only at h
  split at h
  ·rename_i e Q aj
   obtain ⟨i,ak,h⟩:=ZaX h
   obtain ⟨v,v',I,J,U⟩:=Ze9 (P:=P) (w:=w) Q ak (he.ev (E x (by simp [Op.operands])))
    (XgE he lo (λo ho=>E o (by subst ho;simp [Op.operands]))) (XgE he V (λo ho=>E o (by subst ho;simp [Op.operands]))) (XgE he mx (λo ho=>E o (by subst ho;simp [Op.operands])))
    (by intro I J;cases V<;>cases mx<;>simp_all) h
   exact upon_value I (Xl hs J U)
  ·exact h.elim
 | fieldAddr s x f=>
  simp only at h
  split at h
  ·rename_i fs Q
   split at h
   ·rename_i fd hf
    obtain ⟨i,V,h⟩:=ZaX h
    split at h
    ·exact h.elim
    ·rename_i hz
     obtain ⟨v,v',I,J,U⟩:=JdK (P:=P) (w:=w) Q hf V (by simpa using hz) (he.ev (E x (by simp [Op.operands]))) h
     exact upon_value I (Xl hs J U)
   ·exact h.elim
  ·exact h.elim
 | field xt x f=>
  simp only at h
  split at h
  ·rename_i fs Q
   split at h
   ·rename_i fd hf
    obtain ⟨v,v',I,J,U⟩:=Zfh (P:=P) (w:=w) Q hf (he.ev (E x (by simp [Op.operands]))) h
    exact upon_value I (Xl hs J U)
   ·exact h.elim
  ·exact h.elim
 | indexAddr ty x i=>
  simp only at h
  split at h
  ·rename_i e Q
   obtain ⟨inf,V,h⟩:=ZaX h
   obtain ⟨v,v',I,J,U⟩:=QdR (P:=P) (w:=w) Q V (he.ev (E x (by simp [Op.operands]))) (he.ev (E i (by simp [Op.operands]))) h
   exact upon_value I (Xl hs J U)
  ·rename_i len e Q
   obtain ⟨inf,V,h⟩:=ZaX h
   obtain ⟨v,v',I,J,U⟩:=QdY (P:=P) (w:=w) Q V (he.ev (E x (by simp [Op.operands]))) (he.ev (E i (by simp [Op.operands]))) h
   exact upon_value I (Xl hs J U)
  ·exact h.elim
 | index xt x i=>
  simp only at h
  split at h
  ·rename_i len e Q
   obtain ⟨inf,V,h⟩:=ZaX h
   obtain ⟨v,v',I,J,U⟩:=Xe7 (P:=P) (w:=w) Q V (he.ev (E x (by simp [Op.operands]))) (he.ev (E i (by simp [Op.operands]))) h
   exact upon_value I (Xl hs J U)
  ·rename_i Q
   obtain ⟨v,v',I,J,U⟩:=ZeI (P:=P) (w:=w) Q (he.ev (E x (by simp [Op.operands]))) (he.ev (E i (by simp [Op.operands]))) h
   exact upon_value I (Xl hs J U)
  ·exact h.elim
 | extract x i=>
  obtain ⟨v,v',I,J,U⟩:=Zet (P:=P) (w:=w) (he.ev (E x (by simp [Op.operands]))) h
  exact upon_value I (Xl hs J U)
 | call c=>
  simp only at h
  split at h
  ·rename_i f hc
   exact QfN hs he hc (λx hx=>E x (by simpa [Op.operands] using hx)) h
  ·exact h.elim
  ·rename_i b hc
   have O: ∀x∈c.args.toList,Qd2 x=true:=λx hx=>E x (by simp only [Op.operands,Call.operands,Array.toList_append,List.mem_append];exact .inr hx)
   have get: ∀(i:Nat) (x:Operand),c.args.toList[i]? =some x→(c.args.map a.eval)[i]? =some (a.eval x):=by
    intro i x hx
    rw [Array.getElem?_map]
    have:c.args[i]? =some x:=by simpa using hx
    simp [this]
   have ab: ∀(i:Nat) (x:TypeId),c.argTypes.toList[i]? =some x→c.argTypes[i]? =some x:=λi x hx=>by simpa using hx
   have run: ∀(s:Array TypeId→TypeId→Array Value→Sem Value),(∀ae args,builtin b c.argTypes ty ae args=(do pure (.value (←s c.argTypes ty args))))→ ∀v w',(s c.argTypes ty (c.args.map a.eval)).run P w= .ok v w'→Fin B w μ K v w'→
     Upon P B w μ K ((execOp a.eval { dst:=dst,op:= .call c,type:=ty,pos:=pos,after:=after,guard:=guard }).run P w):=by
    intro s ah v w' I J
    have e:(execOp a.eval { dst:=dst,op:= .call c,type:=ty,pos:=pos,after:=after,guard:=guard })=(do pure (.value (←s c.argTypes ty (c.args.map a.eval))):Sem Next):=by
     simp [execOp,resolve,hc,invoke,ah]
    rw [e]
    exact upon_value I J
   split at h
   ·rename_i x r1 aa r2 Z ht
    split at h
    ·rename_i e Q
     obtain ⟨v,I,J,U⟩:=XgA (P:=P) (w:=w) (ty:=ty) (ab 0 aa (by rw [ht];rfl)) Q _ (he.ev (O x (by rw [Z];simp))) (get 0 x (by rw [Z];rfl)) h
     exact run _ (λ_ _=>rfl) v w I (Xl hs J U)
    ·rename_i len e Q
     refine run Builtin.len_ (λ_ _=>rfl) (.int .i64 len) w ?_ (Xl hs (.int _ _) h)
     have h0:=ab 0 aa (by rw [ht];rfl)
     have I:=get 0 x (by rw [Z];rfl)
     simp [Builtin.len_,h0,goInt]
     rw [Array.getElem?_map] at I
     cases hc0:c.args[0]? with
     | none=>simp [hc0] at I
     | some q=>simp [run_underlying Q]
    ·rename_i Q
     obtain ⟨v,I,J,U⟩:=Jf7 (P:=P) (w:=w) (ty:=ty) (ab 0 aa (by rw [ht];rfl)) Q _ (he.ev (O x (by rw [Z];simp))) (get 0 x (by rw [Z];rfl)) h
     exact run _ (λ_ _=>rfl) v w I (Xl hs J U)
    ·exact h.elim
   ·rename_i s x r1 aa ai r2 Z ht
    split at h
    ·rename_i e e' Q af
     obtain ⟨i,z,V,hz,hp,_,ac,h⟩:=XaI h
     rw [Array.length_toList,ac] at h
     obtain ⟨v,w',I,J⟩:=ZeD (P:=P) (ty:=ty) (ab 0 aa (by rw [ht];rfl)) (ab 1 ai (by rw [ht];rfl)) Q af V hz ac hs (he.ev (O s (by rw [Z];simp))) (he.ev (O x (by rw [Z];simp))) _ (get 0 s (by rw [Z];rfl)) (get 1 x (by rw [Z];rfl)) h
     exact run _ (λ_ _=>rfl) v w' I J
    ·rename_i e kX Q af
     obtain ⟨i,z,V,hz,hp,_,ac,h⟩:=XaI h
     obtain ⟨v,w',I,J⟩:=Qeq (P:=P) (ty:=ty) (ab 0 aa (by rw [ht];rfl)) (ab 1 ai (by rw [ht];rfl)) Q af V hz hp ac hs (he.ev (O s (by rw [Z];simp))) (he.ev (O x (by rw [Z];simp))) _ (get 0 s (by rw [Z];rfl)) (get 1 x (by rw [Z];rfl)) h
     exact run _ (λ_ _=>rfl) v w' I J
    ·exact h.elim
   ·rename_i d s r1 aa r2 Z ht
    split at h
    ·rename_i e Q
     obtain ⟨i,V,h⟩:=ZaX h
     obtain ⟨v,w',I,J⟩:=Qf2 (P:=P) (ty:=ty) (ab 0 aa (by rw [ht];rfl)) Q V hs (he.ev (O d (by rw [Z];simp))) (he.ev (O s (by rw [Z];simp))) _ (get 0 d (by rw [Z];rfl)) (get 1 s (by rw [Z];rfl)) h
     exact run _ (λ_ _=>rfl) v w' I J
    ·exact h.elim
   ·rename_i x r1 aa r2 Z ht
    split at h
    ·rename_i e Q
     obtain ⟨i,z,V,hz,hp,_,ac,h⟩:=XaI h
     obtain ⟨v,w',I,J⟩:=Qfc (P:=P) (ty:=ty) (ab 0 aa (by rw [ht];rfl)) Q V hz hp hs (he.ev (O x (by rw [Z];simp))) _ (get 0 x (by rw [Z];rfl)) h
     exact run _ (λ_ _=>rfl) v w' I J
    ·exact h.elim
   ·obtain ⟨s,ah,v,v',I,J,U⟩:=Jf4 (P:=P) (w:=w) (ty:=ty) (cvs:=c.args.map a.eval) (by simpa using VRs.mapEv he _ O) h
    exact run s ah v' w I (Xl hs J U)
 | makeMap mt r=>
  cases r with
  | none=>
   refine upon_value (v:= .map (some w.heap.size)) (w':=w.alloc (.map #[] 0)) ?_ (Qdd hs h)
   simp [Instr.makeMap]
  | some x=>
   simp only at h
   split at h
   ·rename_i kt e Q
    obtain ⟨k,j,hv,h⟩:=JbL h
    have hx:=he.ev (E x (by simp [Op.operands]))
    rw [hv] at hx
    have ad:a.eval x= .int k j:=by cases ad:a.eval x<;>rw [ad] at hx<;>cases hx;rfl
    refine upon_value (v:= .map (some w.heap.size)) (w':=w.alloc (.map #[] 0)) ?_ (Qdd hs h)
    simp [Instr.makeMap,run_underlying Q,ad,asInt,asIntOf]
   ·exact h.elim
 | lookup xt x i ok=>
  obtain ⟨kt,kk,e,Q,hk,h⟩:=Qc0 h
  obtain ⟨inf,z,V,hz,hp,h⟩:=QeB h
  obtain ⟨v,v',I,J,U⟩:=QeL (P:=P) Q hk V hz hp hs (he.ev (E x (by simp [Op.operands]))) (he.ev (E i (by simp [Op.operands]))) h
  exact upon_value I (Xl hs J U)
 | mapUpdate mt x y z=>
  obtain ⟨kt,kk,e,Q,hk,h⟩:=Qc0 h
  obtain ⟨w',I,J⟩:=Jdd (P:=P) Q hk hs (he.ev (E x (by simp [Op.operands]))) (he.ev (E y (by simp [Op.operands]))) (he.ev (E z (by simp [Op.operands]))) h
  exact QcP I J
 | insert mt x y z=>
  obtain ⟨kt,kk,e,Q,hk,h⟩:=Qc0 h
  obtain ⟨w',I,J⟩:=Jdd (P:=P) Q hk hs (he.ev (E x (by simp [Op.operands]))) (he.ev (E y (by simp [Op.operands]))) (he.ev (E z (by simp [Op.operands]))) h
  exact QcP I J
 | mapEntry mt x y=>
  obtain ⟨kt,kk,e,Q,hk,h⟩:=Qc0 h
  obtain ⟨inf,z,V,hz,hp,h⟩:=QeB h
  obtain ⟨v,w',I,J⟩:=QdT (P:=P) Q hk V hz hp hs (he.ev (E x (by simp [Op.operands]))) (he.ev (E y (by simp [Op.operands]))) h
  exact upon_value I J
 | entryStore mt x y z=>
  obtain ⟨w',I,J⟩:=Qdh (P:=P) (ty:=mt) hs (he.ev (E x (by simp [Op.operands]))) (he.ev (E y (by simp [Op.operands]))) (he.ev (E z (by simp [Op.operands]))) h
  exact QcP I J
 | range xt x=>
  simp only at h
  split at h
  ·rename_i kt e Q
   obtain ⟨v,w',I,J⟩:=Jfh (P:=P) Q hs (he.ev (E x (by simp [Op.operands]))) h
   exact upon_value I J
  ·exact h.elim
 | next x b=>
  cases b with
  | true=>exact h.elim
  | false=>
   obtain ⟨v,w',I,J⟩:=JfZ (P:=P) (ty:=ty) hs (he.ev (E x (by simp [Op.operands]))) h
   exact upon_value I J
 | entry x=>
  obtain ⟨v,v',I,J,U⟩:=Zfd (P:=P) hs (he.ev (E x (by simp [Op.operands]))) h
  exact upon_value I (Xl hs J U)
 | _=>exact h.elim
end
section
variable {D:List Deferred} {P:Program} {B:Nat} {w:World} {μ:Mu} {g:G} {n:Nat}
abbrev Qk:=Env→G→Nat→Prop
abbrev Qbk:=Exit→Env→G→Nat→Prop
def Qa (v:Value) (A B:Prop):Prop:=match v with| .bool true=>A| .bool false=>B|_=>False
def Zdd (gd:Bool) (t:Env) (dst:Option Tmp) (v:Value) (K:Env→Prop):Prop:=
 match gd with
 | true=>Qa v (K (put t dst (.bool true))) (K (put t dst (.bool false)))
 | false=>K (put t dst v)
def guarded (ops:List Oper) (i:Nat):Bool:=ops.any λo=>match o.guard with|some (j,_)=>j==i|none=>false
def QE (ops:Array Oper) (o:Oper) (t:Env) (A B:Prop):Prop:=
 match o.guard with
 | none=>A
 | some (j,want)=>match (ops[j]?).bind (·.dst) with
  | some d=>match t d with
   | .bool b=>bif b==want then A else B
   | .tuple _=>B
   | _=>False
  | none=>False
def Jdr (N:Nat) (d:Option Tmp):Bool:=match d with|some d=>decide (d<N)|none=>true
def ZfC (P:Program) (C:CT) (N:Nat) (ops:Array Oper) (K:Qk):List Oper→Nat→Env→G→Nat→Prop
 | [],_,t,g,n=>K t g n
 | o::rest,i,t,g,n=>
  match Jdr N o.dst with
  | false=>False
  | true=>
   QE ops o t
    (aop P C o t g n λv g n=>Zdd (guarded rest i) t o.dst v λt=>ZfC P C N ops K rest (i+1) t g n)
    (ZfC P C N ops K rest (i+1) (put t o.dst undef) g n)
def LiftE (D:List Deferred) (B N:Nat) (w:World) (μ:Mu) (K:Qk) (a:Act) (w':World):Prop:=
 ∃t g n μ',K t g n∧Sim μ' g n w' B∧EnvR μ' N t a∧a.defers=D∧Ext μ μ'∧Below B w w'
def LiftQ (D:List Deferred) (B N:Nat) (w:World) (μ:Mu) (Q:Qbk) (e:Exit) (a:Act) (w':World):Prop:=
 match e with
 | .outgrown=>False
 | .panic _=>False
 | e=>LiftE D B N w μ (Q e) a w'
theorem LiftE.mono {N:Nat} {E:World} {μ0:Mu} {K j:Qk} {a:Act} {w':World} (h:LiftE D B N w μ K a w') (I: ∀t g n,K t g n→j t g n) (hx:Ext μ0 μ) (hb:Below B E w):LiftE D B N E μ0 j a w':=by
 obtain ⟨t,g,n,μ',k,s,e,d,x,b⟩:=h
 exact ⟨t,g,n,μ',I _ _ _ k,s,e,d,hx.trans x,hb.trans b⟩
theorem LiftQ.mono {N:Nat} {E:World} {μ0:Mu} {Q j:Qbk} {e:Exit} {a:Act} {w':World} (h:LiftQ D B N w μ Q e a w') (I: ∀e t g n,Q e t g n→j e t g n) (hx:Ext μ0 μ) (hb:Below B E w):LiftQ D B N E μ0 j e a w':=by
 cases e<;>simp only [LiftQ] at h ⊢ <;>exact LiftE.mono h (I _) hx hb
theorem Xdy {t:Env} {dst:Option Tmp} {v:Value} {gd:Bool} {K:Env→Prop} (h:Zdd gd t dst v K):K (put t dst v):=by
 cases gd with
 | false=>exact h
 | true=>
  simp only [Zdd,Qa] at h
  split at h
  ·exact h
  ·exact h
  ·exact h.elim
theorem Qba {N:Nat} {ops:Array Oper} {o:Oper} {t:Env} {a:Act} (he:EnvR μ N t a) {X Y:Prop} (h:QE ops o t X Y)
  (hd: ∀(j:Nat) (o:Oper) (d:Nat),ops[j]? =some o→o.dst=some d→d<N):(Region.wanted o (yielded ops a.tmps)=true∧X)∨(Region.wanted o (yielded ops a.tmps)=false∧Y):=by
 unfold QE at h
 split at h
 ·rename_i Z;exact .inl ⟨by simp [Region.wanted,Z],h⟩
 ·rename_i j O Z
  split at h
  ·rename_i d V
   split at h
   ·rename_i b hb
    have J:=he.rel d
    rw [hb] at J
    obtain ⟨oj,Q,E⟩:=Option.bind_eq_some_iff.1 V
    have I:d<a.tmps.size:=by rw [he.size];exact hd j oj d Q E
    have U:a.tmps[d]? =some (.bool b):=by
     have e:a.tmps.getD d undef=a.tmps[d]:=by simp [Array.getD,I]
     rw [e] at J
     rw [Array.getElem?_eq_getElem I]
     generalize a.tmps[d]=v at J ⊢
     cases J;rfl
    have hy:yielded ops a.tmps j=some b:=by simp [yielded,V,U]
    have hw:Region.wanted o (yielded ops a.tmps)=(b==O):=by simp [Region.wanted,Z,hy]
    cases hbw:(b==O) with
    | true=>rw [hbw] at h;exact .inl ⟨by rw [hw,hbw],h⟩
    | false=>rw [hbw] at h;exact .inr ⟨by rw [hw,hbw],h⟩
   ·rename_i xs hb
    have J:=he.rel d
    rw [hb] at J
    obtain ⟨oj,Q,E⟩:=Option.bind_eq_some_iff.1 V
    have I:d<a.tmps.size:=by rw [he.size];exact hd j oj d Q E
    have U: ∃ys,a.tmps[d]? =some (.tuple ys):=by
     have e:a.tmps.getD d undef=a.tmps[d]:=by simp [Array.getD,I]
     rw [e] at J
     rw [Array.getElem?_eq_getElem I]
     generalize a.tmps[d]=v at J ⊢
     cases J;exact ⟨_,rfl⟩
    obtain ⟨ys,U⟩:=U
    have hy:yielded ops a.tmps j=none:=by simp [yielded,V,U]
    exact .inr ⟨by simp [Region.wanted,Z,hy],h⟩
   ·exact h.elim
  ·exact h.elim
theorem JdF {N:Nat} {QQ:Exit→Act→World→Prop} {o:Oper} {t:Env} {a:Act} {K:Cont} (he:EnvR μ N t a) (hd:a.defers=D) (J: ∀i,o.dst=some i→i<N) (r:Result Next) (h:Upon P B w μ K r)
  (next:Act→World→Prop) (j: ∀(v I:Value) (g:G) (n:Nat) (μ':Mu) (w':World),K v g n→VR μ' v I→Sim μ' g n w' B→Ext μ μ'→Below B w w'→next (a.put o.dst I) w'):
  o.upon P a next QQ r:=by
 cases r with
 | halt x w'=>exact h.elim
 | ok x w'=>
  cases x<;>simp only [Upon] at h<;>first|exact h.elim|skip
  ·obtain ⟨v,g,n,μ',k,r,s,x,b⟩:=h
   exact j v _ g n μ' w' k r s x b
  ·obtain ⟨v,g,n,μ',k,r,s,x,b⟩:=h
   exact j v _ g n μ' w' k r s x b
  ·simp only [Oper.upon]
   refine Calls.mono h λe E he=> ?_
   cases e with
   | returned I=>
    obtain ⟨v,g,n,μ',k,r,s,x,b⟩:=he
    exact j v _ g n μ' E k r s x b
   | panicked c=>exact he.elim
   | outgrown=>exact he.elim
  ·simp only [Oper.upon]
   refine Rows.mono h λI E he=> ?_
   obtain ⟨v,g,n,μ',k,r,s,x,b⟩:=he
   exact j v _ g n μ' E k r s x b
theorem QfR {Q E:Exit→Act→World→Prop} (hq: ∀e a w,Q e a w→E e a w) {next next':Act→World→Prop} (j: ∀a w,next a w→next' a w) {o:Oper} {a:Act} {r:Result Next} (h:o.upon P a next Q r):o.upon P a next' E r:=by
 cases r with
 | ok x w'=>
  cases x<;>simp only [Oper.upon] at h ⊢ <;>first
   | exact j _ _ h
   | exact Calls.mono h (λe I he=>by cases e<;>first|exact j _ _ he|exact hq _ _ _ he|(obtain ⟨a,w,q⟩:=he;exact ⟨a,w,hq _ _ _ q⟩))
   | exact Rows.mono h (λ_ _ he=>j _ _ he)
 | halt x w'=>cases x<;>simp only [Oper.upon] at h ⊢ <;>exact hq _ _ _ h
theorem Xb6 {ops:Array Oper} {Q E:Exit→Act→World→Prop} (hq: ∀e a w,Q e a w→E e a w): ∀(l:List Oper) (a:Act) (w:World),wpList P ops Q l a w→wpList P ops E l a w
 | [],a,w,h=>hq _ _ _ h
 | o::rest,a,w,h=>by
  unfold wpList at h ⊢
  split
  ·rename_i j
   rw [if_pos j] at h
   rcases h with h|⟨h,I⟩
   ·exact .inl (QfR hq (λa w=>Xb6 hq rest a w) h)
   ·obtain ⟨a,w,q⟩:=I;exact .inr ⟨h,a,w,hq _ _ _ q⟩
  ·rename_i j
   rw [if_neg j] at h
   exact Xb6 hq rest _ _ h
theorem Xd8 {N:Nat} {ops:Array Oper} {K:Qk} {Q:Qbk} (hQ: ∀t g n,K t g n→Q .normal t g n) (I: ∀(j:Nat) (o:Oper) (d:Nat),ops[j]? =some o→o.dst=some d→d<N):
  ∀(l:List Oper) (i:Nat) (t:Env) (g:G) (n:Nat) (μ:Mu) (w:World) (a:Act),(∀o∈l,∀d,o.dst=some d→d<N)→Sim μ g n w B→EnvR μ N t a→a.defers=D→ZfC P (JbG P) N ops K l i t g n→
   wpList P ops (LiftQ D B N w μ Q) l a w
 | [],i,t,g,n,μ,w,a,_,hs,he,hd,h=>by
  show LiftQ D B N w μ Q .normal a w
  exact ⟨t,g,n,μ,hQ _ _ _ h,hs,he,hd,Ext.refl μ,Below.refl B w⟩
 | o::rest,i,t,g,n,μ,w,a,hl,hs,he,hd,h=>by
  have E: ∀d,o.dst=some d→d<N:=hl o (by simp)
  have O: ∀o∈rest,∀d,o.dst=some d→d<N:=λo ho=>hl o (by simp [ho])
  simp only [ZfC] at h
  split at h
  ·exact h.elim
  have go: ∀(Y:Act) (w':World) (t':Env) (g':G) (n':Nat) (μ':Mu),ZfC P (JbG P) N ops K rest (i+1) t' g' n'→Sim μ' g' n' w' B→EnvR μ' N t' Y→Y.defers=D→Ext μ μ'→Below B w w'→
    wpList P ops (LiftQ D B N w μ Q) rest Y w':=by
   intro Y w' t' g' n' μ' Z V J U hx hb
   have:=Xd8 hQ I rest (i+1) t' g' n' μ' w' Y O V J U Z
   exact Xb6 (λe a w h=>LiftQ.mono h (λ_ _ _ _ h=>h) hx hb) rest Y w' this
  unfold wpList
  rcases Qba he h I with ⟨hw,h⟩|⟨hw,h⟩
  ·rw [if_pos hw]
   refine .inl ?_
   unfold Oper.wp
   refine JdF he hd E _ (ZdP hs he h) _ ?_
   intro v v' g' n' μ' w' Z hv V hx hb
   have J:=(he.ext hx).put hv o.dst E
   have U:(a.put o.dst v').defers=D:=by cases aa:o.dst<;>simp [Act.put,hd]
   exact go _ w' _ g' n' μ' (Xdy (K:=λt=>ZfC P (JbG P) N ops K rest (i+1) t g' n') Z) V J U hx hb
  ·rw [if_neg (by rw [hw];simp)]
   exact go _ w _ g n μ h hs (he.put (Xat μ) o.dst E) (by cases aa:o.dst<;>simp [Act.put,hd]) (Ext.refl μ) (Below.refl B w)
end
section
variable {P:Program} {g:G} {n:Nat}
theorem Qf4 {v:Value} {K K':Bool→Prop} (j: ∀b,K b→K' b) (h:Jbz v K):Jbz v K':=by
 unfold Jbz at *;split at h<;>first|exact j _ h|exact h.elim
theorem Jby {v:Value} {K K':Int→Prop} (j: ∀b,K b→K' b) (h:XfC v K):XfC v K':=by
 unfold XfC at *;split at h<;>first|exact j _ h|exact h.elim
theorem XcM {v:Value} {K K':Nat→Nat→Prop} (j: ∀l o,K l o→K' l o) (h:Xc v K):Xc v K':=by
 unfold Xc at *;split at h<;>first|exact j _ _ h|exact h.elim
theorem Qca {v:Value} {K K':List Value→Prop} (j: ∀l,K l→K' l) (h:Jj v K):Jj v K':=by
 unfold Jj at *;split at h<;>first|exact j _ h|exact h.elim
theorem Xbg {l:Nat} {K K':List Value→BK→Prop} (j: ∀c k,K c k→K' c k) (h:ZaP g l K):ZaP g l K':=by
 unfold ZaP at *;split at h<;>first|exact j _ _ h|exact h.elim
theorem QdB {cs:List Value} {o:Nat} {K K':Value→Prop} (j: ∀v,K v→K' v) (h:Zef cs o K):Zef cs o K':=by
 unfold Zef at *;split at h<;>first|exact j _ h|exact h.elim
theorem Qdp {l o:Nat} {K K':Value→Prop} (j: ∀v,K v→K' v) (h:kLd g l o K):kLd g l o K':=Xbg (λ_ _=>QdB j) h
theorem JdQ {l o k:Nat} {K K':List Value→Prop} (j: ∀v,K v→K' v) (h:Ql g l o k K):Ql g l o k K':=Xbg (λ_ _ h=>⟨h.1,j _ h.2⟩) h
theorem Qbw {cs:List Value} {k:BK} {K K':Nat→G→Nat→Prop} (j: ∀l g n,K l g n→K' l g n) (h:Zl cs k g n K):Zl cs k g n K':=λe=>j _ _ _ (h e)
theorem Jcm {l o:Nat} {v:Value} {K K':G→Prop} (j: ∀g,K g→K' g) (h:kSt g l o v K):kSt g l o v K':=Xbg (λ_ _ h=>⟨h.1,h.2.1,h.2.2.1,j _ h.2.2.2⟩) h
theorem JcS {l o:Nat} {vs:List Value} {K K':G→Prop} (j: ∀g,K g→K' g) (h:Qu g l o vs K):Qu g l o vs K':=Xbg (λ_ _ h=>⟨h.1,h.2.1,h.2.2.1,j _ h.2.2.2⟩) h
theorem Qap {t:TypeId} {K K':Nat→Prop} (j: ∀k,K k→K' k) (h:QcL P t K):QcL P t K':=by
 unfold QcL at *;split at h<;>first|exact j _ h|exact h.elim
theorem Xas {t:TypeId} {K K':Option Nat→Prop} (j: ∀k,K k→K' k) (h:QaJ P t K):QaJ P t K':=by
 unfold QaJ at*
 split at h
 ·exact Qap (λ_=>j _) h
 ·exact Qap (λ_=>j _) h
 ·refine Qap (λk h=> ?_) h
  split at h
  ·exact j _ h
  ·exact h.elim
 ·exact h.elim
theorem Qag {t:TypeId} {K K':List Value→Nat→Prop} (j: ∀z b,K z b→K' z b) (h:zeroOf P t K):zeroOf P t K':=by
 unfold zeroOf at*
 split at h
 ·split at h
  ·split at h
   ·exact j _ _ h
   ·exact h.elim
  ·exact h.elim
 ·exact h.elim
theorem Xbl {t:Env} {pl:Nat→Option (Nat×TypeId)}: ∀{parts:List (Nat×Operand)} {K j:List (Nat×Option Nat×Value)→Prop},(∀l,K l→j l)→partsOf P t pl parts K→partsOf P t pl parts j
 | [],K,j,E,h=>E _ h
 |(i,x)::r,K,j,E,h=>by
  simp only [partsOf] at h ⊢
  split at h
  ·exact Xas (λa=>Xbl (λl=>E _)) h
  ·exact h.elim
theorem ZbB: ∀{l:List (Nat×Option Nat×Value)} {cs:List Value} {K E:List Value→Prop},(∀l,K l→E l)→Qf cs l K→Qf cs l E
 | [],cs,K,E,j,h=>j _ h
 |(off,none,v)::r,cs,K,E,j,h=>⟨h.1,h.2.1,ZbB j h.2.2⟩
 |(off,some k,v)::r,cs,K,E,j,h=>Qca (λ_ h=>⟨h.1,h.2.1,ZbB j h.2.2⟩) h
theorem Qgn {ty:TypeId} {v:Value} {K K':Nat→G→Nat→Prop} (j: ∀l g n,K l g n→K' l g n) (h:XhT P ty v g n K):XhT P ty v g n K':=by
 refine Xas (λa h=> ?_) h
 cases a with
 | none=>exact ⟨h.1,Qbw j h.2⟩
 | some k=>exact Qca (λ_=>Qbw j) h
theorem Zew {op:BinOp} {k:IntKind} {a b:Int} {K K':Value→Prop} (j: ∀v,K v→K' v) (h:ZH op k a b K):ZH op k a b K':=by
 cases op<;>simp only [ZH] at h ⊢ <;>first|exact j _ h|exact ⟨h.1,j _ h.2⟩
theorem QbD {op:BinOp} {r:Bool} {K K':Value→Prop} (j: ∀v,K v→K' v) (h:Qev op r K):Qev op r K':=by
 cases op<;>simp only [Qev] at h ⊢ <;>exact j _ h
theorem QgL {e:EK} {op:BinOp} {x y:Value} {K K':Value→Prop} (j: ∀v,K v→K' v) (h:Jb e op x y K):Jb e op x y K':=by
 unfold Jb at*
 split at h
 ·split at h
  ·exact ⟨h.1,Zew j h.2⟩
  ·exact h.elim
 ·split at h
  ·exact QbD j h
  ·exact h.elim
 ·split at h
  ·exact QbD j h
  ·exact QbD j h
  ·exact h.elim
 ·split at h
  ·exact QbD j h
  ·exact h.elim
 ·split at h
  ·split at h
   ·exact QbD j h
   ·exact h.elim
  ·exact h.elim
 ·split at h
  ·exact QbD j h
  ·exact h.elim
 ·exact h.elim
theorem Zhd {op:UnOp} {x:Value} {K K':Value→Prop} (j: ∀v,K v→K' v) (h:kUn op x K):kUn op x K':=by
 unfold kUn at *;split at h<;>first|exact j _ h|exact h.elim
theorem JfK {k:IntKind} {x:Value} {K K':Value→Prop} (j: ∀v,K v→K' v) (h:XaQ k x K):XaQ k x K':=by
 unfold XaQ at *;split at h<;>first|exact j _ h|exact h.elim
theorem Zgn {x:Value} {K K':Value→Prop} (j: ∀v,K v→K' v) (h:Xf x K):Xf x K':=by
 unfold Xf at *;split at h<;>first|exact j _ h|exact h.elim
theorem Qdx {x i:Value} {z:Nat} {K K':Value→Prop} (j: ∀v,K v→K' v) (h:Jd x i z K):Jd x i z K':=by
 unfold Jd at *;split at h<;>first|exact ⟨h.1,h.2.1,j _ h.2.2⟩|exact h.elim
theorem ZdW {x i:Value} {len z:Nat} {K K':Value→Prop} (j: ∀v,K v→K' v) (h:Ji x i len z K):Ji x i len z K':=by
 unfold Ji at *;split at h<;>first|exact ⟨h.1,h.2.1,j _ h.2.2⟩|exact h.elim
theorem Jd9 {cs:List Value} {off:Nat} {a:Option Nat} {K K':Value→Prop} (j: ∀v,K v→K' v) (h:Xbf cs off a K):Xbf cs off a K':=by
 cases a with
 | none=>exact QdB j h
 | some k=>exact ⟨h.1,j _ h.2⟩
theorem ZgI {x i:Value} {len z:Nat} {a:Option Nat} {K K':Value→Prop} (j: ∀v,K v→K' v) (h:JdY x i len z a K):JdY x i len z a K':=
 Qca (λ_=>Jby λ_ h=>⟨h.1,h.2.1,Jd9 j h.2.2⟩) h
theorem Zee {x:Value} {i:Nat} {K K':Value→Prop} (j: ∀v,K v→K' v) (h:Qc x i K):Qc x i K':=by
 unfold Qc at *;split at h<;>first|exact QdB j h|exact h.elim
theorem Xga {x:Value} {K K':Value→Prop} (j: ∀v,K v→K' v) (h:Jak x K):Jak x K':=by
 unfold Jak at *;split at h<;>first|exact j _ h|exact h.elim
theorem Zaq {x:Option Value} {d m:Nat} {K K':Nat→Prop} (j: ∀v,K v→K' v) (h:ZW x d m K):ZW x d m K':=by
 unfold ZW at*
 split at h
 ·exact j _ h
 ·exact Jby (λ_ h=>⟨h.1,h.2.1,j _ h.2.2⟩) h
theorem Je2 {x:Value} {O J I:Option Value} {z:Nat} {K K':Value→Prop} (j: ∀v,K v→K' v) (h:Xx x O J I z K):Xx x O J I z K':=by
 unfold Xx at*
 split at h
 ·split at h
  ·rename_i hc
   rw [if_pos hc]
   exact Zaq (λ_=>Zaq λ_=>Zaq λ_=>j _) h
  ·rename_i hc
   rw [if_neg hc]
   refine ⟨h.1,?_⟩
   have E:=h.2
   split at E
   ·exact Zaq (λ_=>Zaq λ_=>j _) E
   ·exact Zaq (λ_ h=>⟨h.1,Zaq (λ_=>Zaq λ_=>j _) h.2⟩) E
 ·exact h.elim
theorem ZcA {x:Value} {k z:Nat} {K K':List Value→Prop} (j: ∀v,K v→K' v) (h:Xar g x k z K):Xar g x k z K':=by
 unfold Xar at*
 split at h
 ·exact ⟨h.1,j _ h.2⟩
 ·split at h
  ·rename_i hc;rw [if_pos hc];exact j _ h
  ·rename_i hc;rw [if_neg hc];exact JdQ j h
 ·exact h.elim
theorem Qem {s x:Value} {z:List Value} {b:Nat} {K K':Cont} (j: ∀v g n,K v g n→K' v g n) (h:Jbm s x z b g n K):Jbm s x z b g n K':=by
 unfold Jbm at*
 split at h
 ·exact ⟨h.1,h.2.1,h.2.2.1,h.2.2.2.1,λE=>j _ _ _ (h.2.2.2.2 E)⟩
 ·exact h.elim
theorem JeV {s x:Value} {z b:Nat} {K K':Cont} (j: ∀v g n,K v g n→K' v g n) (h:Zs s x z b g n K):Zs s x z b g n K':=by
 unfold Zs at*
 split at h
 ·obtain ⟨J,Q,O,h⟩:=h
  refine ⟨J,Q,O,ZcA (λnew h=>⟨h.1,?_⟩) h⟩
  have h:=h.2
  split at h
  ·rename_i hc
   rw [if_pos hc]
   split at h
   ·rename_i I
    rw [if_pos I]
    split at h
    ·exact ⟨h.1,j _ _ _ h.2⟩
    ·split at h
     ·rename_i E;rw [if_pos E];exact j _ _ _ h
     ·rename_i E;rw [if_neg E];exact JcS (λ_=>j _ _ _) h
    ·exact h.elim
   ·rename_i I
    rw [if_neg I]
    exact ZcA (λ_=>Qbw λ_ _ _=>j _ _ _) h
  ·rename_i hc
   rw [if_neg hc]
   split at h
   ·exact ⟨h.1,Xbg (λ_ _ h=>⟨h.1,h.2.1,λe=>j _ _ _ (h.2.2 e)⟩) h.2⟩
   ·exact h.elim
 ·exact h.elim
theorem XfK {d s:Value} {z:Nat} {K K':Value→G→Prop} (j: ∀v g,K v g→K' v g) (h:Jcg d s z g K):Jcg d s z g K':=by
 unfold Jcg at*
 split at h
 ·refine ZcA (λnew h=>⟨h.1,?_⟩) h
  have h:=h.2
  split at h
  ·exact j _ _ h
  ·split at h
   ·rename_i E;rw [if_pos E];exact j _ _ h
   ·rename_i E;rw [if_neg E];exact JcS (λ_=>j _ _) h
  ·exact h.elim
 ·exact h.elim
theorem Qfa {x:Value} {z:List Value} {K K':Value→G→Prop} (j: ∀v g,K v g→K' v g) (h:Xaz x z g K):Xaz x z g K':=by
 unfold Xaz at*
 split at h
 ·exact j _ _ h
 ·split at h
  ·rename_i E;rw [if_pos E];exact j _ _ h
  ·rename_i E;rw [if_neg E];exact JcS (λ_=>j _ _) h
 ·exact h.elim
theorem QfQ {l c:Value} {z:List Value} {b:Nat} {K K':Cont} (j: ∀v g n,K v g n→K' v g n) (h:Zcr l c z b g n K):Zcr l c z b g n K':=
 Jby (λ_=>Jby λ_ h=>⟨h.1,h.2.1,h.2.2.1,h.2.2.2.1,Qbw (λ_ _ _=>j _ _ _) h.2.2.2.2⟩) h
theorem JbB {l:Nat} {K K':List (Value×Value)→Prop} (j: ∀c,K c→K' c) (h:JeE g l K):JeE g l K':=by
 unfold JeE at *;split at h<;>first|exact j _ h|exact h.elim
theorem Xdx {kk:IntKind} {v:Value} {K K':Int→Prop} (j: ∀c,K c→K' c) (h:JgP kk v K):JgP kk v K':=by
 unfold JgP at *;split at h<;>first|exact ⟨h.1,j _ h.2⟩|exact h.elim
theorem Jc7 {kk:IntKind} {a:Int} {es:List (Value×Value)} {K K':Option Nat→Prop} (j: ∀c,K c→K' c) (h:JcW kk a es K):JcW kk a es K':=by
 unfold JcW at *;split at h<;>first|exact j _ h|exact h.elim
theorem Xdn {es:List (Value×Value)} {i:Nat} {K K':Value×Value→Prop} (j: ∀c,K c→K' c) (h:kAt es i K):kAt es i K':=by
 unfold kAt at *;split at h<;>first|exact j _ h|exact h.elim
theorem Qc2 {b:Blk} {K K':Nat→G→Nat→Prop} (j: ∀l g n,K l g n→K' l g n) (h:ZeV b g n K):ZeV b g n K':=λe=>j _ _ _ (h e)
theorem Qec {t:TypeId} {K K':Value→Prop} (j: ∀c,K c→K' c) (h:Jeg P t K):Jeg P t K':=by
 unfold Jeg at*
 split at h
 ·split at h
  ·split at h
   ·exact j _ h
   ·exact h.elim
  ·exact h.elim
 ·exact h.elim
theorem Zcn {t:TypeId} {K K':IntKind→TypeId→Prop} (j: ∀k e,K k e→K' k e) (h:mapOf P t K):mapOf P t K':=by
 unfold mapOf at*
 split at h
 ·split at h
  ·exact j _ _ h
  ·exact h.elim
 ·exact h.elim
theorem ZeW {kk:IntKind} {x i z:Value} {ok:Bool} {K K':Value→Prop} (j: ∀c,K c→K' c) (h:Qce kk x i z ok g K):Qce kk x i z ok g K':=by
 refine Xdx (λa h=> ?_) h
 split at h
 ·exact j _ h
 ·refine JbB (λes=>Jc7 λr h=> ?_) h
  split at h
  ·exact Xdn (λ_=>j _) h
  ·exact j _ h
 ·exact h.elim
theorem Jdg {kk:IntKind} {x i z:Value} {K K':G→Prop} (j: ∀c,K c→K' c) (h:ZaV kk x i z g K):ZaV kk x i z g K':=by
 refine Xdx (λa h=> ?_) h
 split at h
 ·refine JbB (λes=>Jc7 λr h=> ?_) h
  split at h<;>exact j _ h
 ·exact h.elim
theorem QdU {kk:IntKind} {x i z:Value} {K K':Value→G→Prop} (j: ∀v c,K v c→K' v c) (h:Xb8 kk x i z g K):Xb8 kk x i z g K':=by
 refine Xdx (λa h=> ?_) h
 split at h
 ·refine JbB (λes=>Jc7 λr h=> ?_) h
  split at h
  ·exact Xdn (λ_=>j _ _) h
  ·exact j _ _ h
 ·exact h.elim
theorem Zdj {x i z:Value} {K K':G→Prop} (j: ∀c,K c→K' c) (h:Zbc x i z g K):Zbc x i z g K':=by
 refine Jby (λa h=> ?_) h
 split at h
 ·exact JbB (λes h=>⟨h.1,Xdn (λ_=>j _) h.2⟩) h
 ·exact h.elim
theorem Zfi {x:Value} {K K':Nat→G→Nat→Prop} (j: ∀l g n,K l g n→K' l g n) (h:Xdd x g n K):Xdd x g n K':=by
 unfold Xdd at*
 split at h
 ·exact JbB (λ_=>Qc2 j) h
 ·exact h.elim
theorem Zeb {x:Value} {K K':Nat→Nat→List (Value×Value)→List Nat→Prop} (j: ∀p l e s,K p l e s→K' p l e s) (h:Xee x g K):Xee x g K':=by
 unfold Xee at*
 split at h
 ·split at h
  ·exact JbB (λ_ h=>⟨h.1,j _ _ _ _ h.2⟩) h
  ·exact h.elim
 ·exact h.elim
theorem Zf2 {x:Value} {K K':Value→G→Prop} (j: ∀v g,K v g→K' v g) (h:Zgv x g K):Zgv x g K':=
 Zeb (λ_ _ _ _ h=>⟨λe=>j _ _ (h.1 e),λi J E I=>j _ _ (h.2 i J E I)⟩) h
theorem Je5 {x:Value} {K K':Value→Prop} (j: ∀v,K v→K' v) (h:ZeR x g K):ZeR x g K':=
 Zeb (λ_ _ _ _ h=>by
  split at h
  ·exact Xdn (λ_=>j _) h
  ·exact h.elim) h
theorem QgK {x:Value} {K K':Value→Prop} (j: ∀v,K v→K' v) (h:Xho x K):Xho x K':=by
 unfold Xho at*
 split at h
 ·split at h
  ·rename_i hc;rw [if_pos hc];exact j _ h
  ·exact h.elim
 ·exact h.elim
theorem Xf4 {x:Value} {K K':Value→Prop} (j: ∀v,K v→K' v) (h:QdO x K):QdO x K':=by
 unfold QdO at *;split at h<;>first|exact j _ h|exact h.elim
theorem XfN {x i:Value} {K K':Value→Prop} (j: ∀v,K v→K' v) (h:QdS x i K):QdS x i K':=by
 unfold QdS at*
 split at h
 ·refine ⟨h.1,?_⟩
  have h:=h.2
  split at h
  ·exact j _ h
  ·exact h.elim
 ·exact h.elim
theorem XfI {b:Builtin} {vs:List Value} {j:List TypeId} {K K':Value→Prop} (E: ∀v,K v→K' v) (h:ZeH P b vs j K):ZeH P b vs j K':=by
 unfold ZeH at*
 split at h
 ·split at h
  ·split at h
   ·exact QgK E h
   ·exact h.elim
  ·exact h.elim
 ·split at h
  ·split at h
   ·unfold Xh0 at*
    split at h
    ·exact ⟨h.1,E _ h.2⟩
    ·exact h.elim
   ·exact h.elim
  ·exact h.elim
 ·exact h.elim
def CLe (C C':CT):Prop:= ∀f args g n (K K':Cont),(∀v g n,K v g n→K' v g n)→C f args g n K→C' f args g n K'
theorem Jf2 {C C':CT} (E:CLe C C') {f:Value} {args:List Value} {K K':Cont} (j: ∀v g n,K v g n→K' v g n) (h:Qbu C f args g n K):Qbu C' f args g n K':=by
 unfold Qbu at *;split at h<;>first|exact E _ _ _ _ _ _ j h|exact h.elim
theorem Qfp {C C':CT} (E:CLe C C') {o:Oper} {t:Env} {K K':Cont} (j: ∀v g n,K v g n→K' v g n) (h:aop P C o t g n K):aop P C' o t g n K':=by
 unfold aop at*
 split at h
 ·exact h.elim
 split at h
 ·exact j _ _ _ h
 ·exact j _ _ _ h
 ·exact Qf4 (λ_=>j _ _ _) h
 ·exact Qag (λ_ _=>Qbw λ_ _ _=>j _ _ _) h
 ·exact Qgn (λ_ _ _=>j _ _ _) h
 ·refine Qag (λ_ _ h=> ?_) h
  split at h
  ·split at h
   ·exact h.elim
   ·exact Xbl (λ_=>ZbB λ_=>j _ _ _) h
  ·exact Qap (λ_=>Xbl λ_=>ZbB λ_=>j _ _ _) h
  ·exact h.elim
 ·split at h
  ·refine Qag (λ_ _ h=> ?_) h
   split at h
   ·exact Xbl (λ_=>ZbB λ_=>Qbw λ_ _ _=>j _ _ _) h
   ·exact h.elim
  ·exact h.elim
 ·refine XcM (λ_ _=>Xas λa h=> ?_) h
  cases a with
  | none=>exact Qdp (λ_=>j _ _ _) h
  | some k=>exact JdQ (λ_=>j _ _ _) h
 ·refine XcM (λ_ _=>Xas λa h=> ?_) h
  cases a with
  | none=>exact Jcm (λ_=>j _ _ _) h
  | some k=>exact Qca (λ_ h=>⟨h.1,JcS (λ_=>j _ _ _) h.2⟩) h
 ·exact Zgn (λ_=>j _ _ _) h
 ·exact QgL (λ_=>j _ _ _) h
 ·exact Zhd (λ_=>j _ _ _) h
 ·split at h
  ·exact JfK (λ_=>j _ _ _) h
  ·exact h.elim
 ·exact j _ _ _ h
 ·split at h
  ·exact Qag (λ_ _=>QfQ j) h
  ·exact h.elim
 ·split at h
  ·exact Qap (λ_=>Je2 λ_=>j _ _ _) h
  ·exact h.elim
 ·split at h
  ·split at h
   ·refine Qap (λ_ h=> ?_) h
    split at h
    ·exact h.elim
    ·exact XcM (λ_ _=>j _ _ _) h
   ·exact h.elim
  ·exact h.elim
 ·split at h
  ·split at h
   ·exact Xas (λ_=>Qca λ_=>Jd9 λ_=>j _ _ _) h
   ·exact h.elim
  ·exact h.elim
 ·split at h
  ·exact Qap (λ_=>Qdx λ_=>j _ _ _) h
  ·exact Qap (λ_=>ZdW λ_=>j _ _ _) h
  ·exact h.elim
 ·split at h
  ·exact Qap (λ_=>Xas λ_=>ZgI λ_=>j _ _ _) h
  ·exact XfN (λ_=>j _ _ _) h
  ·exact h.elim
 ·exact Zee (λ_=>j _ _ _) h
 ·split at h
  ·exact Jf2 E j h
  ·exact h.elim
  ·split at h
   ·split at h
    ·exact Xga (λ_=>j _ _ _) h
    ·exact j _ _ _ h
    ·exact Xf4 (λ_=>j _ _ _) h
    ·exact h.elim
   ·split at h
    ·exact Qag (λ_ _=>JeV j) h
    ·exact Qag (λ_ _=>Qem j) h
    ·exact h.elim
   ·split at h
    ·exact Qap (λ_=>XfK λ_ _=>j _ _ _) h
    ·exact h.elim
   ·split at h
    ·exact Qag (λ_ _=>Qfa λ_ _=>j _ _ _) h
    ·exact h.elim
   ·exact XfI (λ_=>j _ _ _) h
 ·split at h
  ·exact Qc2 (λ_ _ _=>j _ _ _) h
  ·split at h
   ·exact Jby (λ_=>Qc2 λ_ _ _=>j _ _ _) h
   ·exact h.elim
 ·exact Zcn (λ_ _=>Qec λ_=>ZeW λ_=>j _ _ _) h
 ·exact Zcn (λ_ _=>Jdg λ_=>j _ _ _) h
 ·exact Zcn (λ_ _=>Jdg λ_=>j _ _ _) h
 ·exact Zcn (λ_ _=>Qec λ_=>QdU λ_ _=>j _ _ _) h
 ·exact Zdj (λ_=>j _ _ _) h
 ·split at h
  ·exact Zfi (λ_ _ _=>j _ _ _) h
  ·exact h.elim
 ·exact Zf2 (λ_ _=>j _ _ _) h
 ·exact Je5 (λ_=>j _ _ _) h
 ·exact h.elim
end
section
variable {P:Program} {g:G} {n:Nat}
def Ja4 (op:Op):Bool:=
 match op with
 | .move _| .assign _| .pick .. | .build .. | .load .. | .nilCheck _| .binOp .. | .unOp .. | .convert .. | .makeFunc .. | .slice .. | .fieldAddr .. | .field .. | .indexAddr .. | .index .. | .extract .. =>false
 | .call c=>match c.callee with
  | .builtin .len=>false
  | _=>true
 | _=>true
def JaQ (e:Edge):Bool:=Region.binds .any e
def XJ (ops:List Oper):List Nat:=
 (ops.foldl (λ(acc:List Nat) (o:Oper)=>acc++[o.after.toList.foldl (λs e=>if JaQ e then s ||| 2^e.on ||| acc.getD e.on 0 else s) 0]) [])
def hasB (bef:List Nat) (i j:Nat):Bool:=(bef.getD i 0).testBit j
def QaR (ops:List Oper) (bef:List Nat) (ld:List Bool) (i:Nat):Bool:=
 (ops.zipIdx).all λ(o,j)=> !(hasB bef i j&&Ja4 o.op)||ld.getD j false
def ZgE (P:Program) (C:CT) (N:Nat) (ops:Array Oper) (o:Oper) (guards:Bool) (t:Env) (g:G) (n:Nat) (after:G→Prop→Prop) (K:Qk):Prop:=
 match Jdr N o.dst with
 | false=>False
 | true=>
  QE ops o t
   (aop P C o t g n λv g n=>after g (Zdd guards t o.dst v λt=>K t g n))
   (K (put t o.dst undef) g n)
def Xf9 (P:Program) (C:CT) (N:Nat) (ops:Array Oper) (bef:List Nat) (K:List Bool→Qk):List Nat→List Bool→Qk
 | [],ld,t,g,n=>K ld t g n
 | i::is,ld,t,g,n=>
  match ops.toList[i]? with
  | none=>False
  | some o=>match !ld.getD i true&& !Ja4 o.op&&QaR ops.toList bef ld i with
   | false=>Xf9 P C N ops bef K is ld t g n
   | true=>ZgE P C N ops o (guarded ops.toList i) t g n (λ_ p=>p) λt g n=>Xf9 P C N ops bef K is (ld.set i true) t g n
def Qh6 (ops:Array Oper) (t:Env) (g g':G) (o:Oper):Prop:=
 match o.op with
 | .load _ a=>QE ops o t (Xc (ev t a) λl _=>g' l=g l) True
 | _=>True
def QfV (ops:List Oper) (bef:List Nat) (ld:List Bool) (e:Nat):List Oper:=
 (ops.zipIdx).filterMap λ(o,j)=>if ld.getD j false&& !Ja4 o.op&& !hasB bef e j&&(match o.op with| .load .. =>true|_=>false) then some o else none
def Qew (ops:Array Oper) (t:Env) (g g':G):List Oper→Prop→Prop
 | [],p=>p
 | o::os,p=>Qh6 ops t g g' o∧Qew ops t g g' os p
def nexts (ops:List Oper) (bef:List Nat) (ld:List Bool):List Nat:=
 (ops.zipIdx).filterMap λ(o,j)=>if Ja4 o.op&& !ld.getD j true&&QaR ops bef ld j then some j else none
def Zfb (F:Nat→Prop):List Nat→Prop
 | []=>True
 | [e]=>F e
 | e::es=>F e∧Zfb F es
def Xdj (P:Program) (C:CT) (N:Nat) (ops:Array Oper) (bef:List Nat) (K:Qk):Nat→List Bool→Qk
 | 0,_,_,_,_=>False
 | k+1,ld,t,g,n=>
  Xf9 P C N ops bef (λld t g n=>
   match nexts ops.toList bef ld with
   | []=>K t g n
   | es=>Zfb (λe=>match ops.toList[e]? with
    | none=>False
    | some o=>ZgE P C N ops o (guarded ops.toList e) t g n (λg'=>Qew ops t g g' (QfV ops.toList bef ld e)) λt g n=>Xdj P C N ops bef K k (ld.set e true) t g n) es)
   (List.range ops.size) ld t g n
def looks (ops:List Oper) (o:Oper):List Nat:=
 (o.op.operands.toList.filterMap λx=>match x with| .tmp d=>some d|_=>none)++
 (match o.guard with|some (j,_)=>(match (ops[j]?).bind (·.dst) with|some d=>[d]|none=>[])|none=>[])
def QgQ (o:Oper):Bool:=match o.op,o.guard with
 | .move _,none=>true
 | _,_=>false
def ZeJ (ops:List Oper) (bef:List Nat):Bool:=
 (ops.zipIdx).all λ(o,i)=>
  o.after.toList.all (λe=> !JaQ e||decide (e.on<i))&&
  (match o.guard with|some (j,_)=>(match (ops[j]?).bind (·.dst) with|some _=>true|none=>false)|none=>true)&&
  (ops.zipIdx).all λ(p,j)=>match p.dst with
   | none=>true
   | some d=>(!(looks ops o).contains d||(hasB bef i j||(QgQ o&&hasB bef j i)))&&(i==j||o.dst !=some d)
def ZdZ (N:Nat) (ops:Array Oper):Bool:=ops.toList.all λo=>Jdr N o.dst
def Qb4 (P:Program) (C:CT) (N:Nat) (ops:Array Oper) (K:Qk) (t:Env) (g:G) (n:Nat):Prop:=
 match ZeJ ops.toList (XJ ops.toList)&&ZdZ N ops with
 | false=>False
 | true=>Xdj P C N ops (XJ ops.toList) K (ops.size+1) (List.replicate ops.size false) t g n
def JdV (K:Qk) (Q:Qbk):Qbk
 | .normal,t,g,n=>K t g n
 | e,t,g,n=>Q e t g n
def Zdf (id:Nat) (Q:Qbk):Qbk
 | .exit i,t,g,n=>match i==id with|true=>Q .normal t g n|false=>Q (.exit i) t g n
 | e,t,g,n=>Q e t g n
def Zau (P:Program) (C:CT) (N:Nat):Code→Qbk→Qk
 | .skip,Q=>Q .normal
 | .region _ ops false,Q=>λt g n=>match ZdZ N ops with
  | false=>False
  | true=>ZfC P C N ops (Q .normal) ops.toList 0 t g n
 | .region _ ops true,Q=>Qb4 P C N ops (Q .normal)
 | .seq a b,Q=>Zau P C N a (JdV (Zau P C N b Q) Q)
 | .cond c a b,Q=>λt g n=>match Qd2 c with
  | false=>False
  | true=>Qa (ev t c) (Zau P C N a Q t g n) (Zau P C N b Q t g n)
 | .block id c,Q=>Zau P C N c (Zdf id Q)
 | .loop c,Q=>λt g n=> ∀I:Qk,(∀t g n,Zau P C N c (JdV I Q) t g n→I t g n)→I t g n
 | .exit id,Q=>Q (.exit id)
 | .ret,Q=>Q .ret
 | _,_=>λ_ _ _=>False
def Xf8 (P:Program) (t:Env) (g:G):List ResultVar→(List Value→Prop)→Prop
 | [],K=>K []
 | .tmp i::r,K=>Xf8 P t g r λvs=>K (t i::vs)
 | .cell a ty::r,K=>Xc (t a) λl o=>QaJ P ty λag=>match ag with
  | some k=>Ql g l o k λcs=>Xf8 P t g r λvs=>K (.agg cs.toArray::vs)
  | none=>kLd g l o λv=>Xf8 P t g r λvs=>K (v::vs)
def tup:List Value→Value
 | [v]=>v
 | vs=> .tuple vs.toArray
def QhP (P:Program) (rs:List ResultVar) (K:Cont):Qbk
 | .normal,t,g,n| .ret,t,g,n=>Xf8 P t g rs λvs=> ∃g',Sub g' g∧K (tup vs) g' n
 | _,_,_,_=>False
def Qi (args:List Value):Env:=λi=>args.getD i undef
def Qe (P:Program) (C:CT) (f:FuncId) (args:List Value) (g:G) (n:Nat) (K:Cont):Prop:=
 match P.funcs[f]? with
 | some fn=>match fn.body,fn.name== "runtime.NumGoroutine",decide (args.length≤fn.ntmps) with
  | some c,false,true=>Zau P C fn.ntmps c (QhP P fn.results.toList K) (Qi args) g n
  | _,_,_=>False
 | none=>False
abbrev XT:=CT→CT
def Closed (P:Program) (X:XT) (C:CT):Prop:=(∀f args g n K,Qe P C f args g n K→C f args g n K)∧(∀f args g n K,X C f args g n K→C f args g n K)
def ACalls (P:Program) (X:XT):CT:=λf args g n K=> ∀C:CT,Closed P X C→C f args g n K
end
section
variable {P:Program} {g:G} {n:Nat}
theorem JdP {v:Value} {A B A' B':Prop} (j:A→A') (hb:B→B') (h:Qa v A B):Qa v A' B':=by
 unfold Qa at *;split at h<;>first|exact j h|exact hb h|exact h.elim
theorem Jde {ops:Array Oper} {o:Oper} {t:Env} {A B A' B':Prop} (I:A→A') (hb:B→B') (h:QE ops o t A B):QE ops o t A' B':=by
 unfold QE at*
 split at h
 ·exact I h
 ·split at h
  ·split at h
   ·rename_i _ j E _ _ d _ _ b _
    generalize (b==E)=c at h ⊢
    cases c with
    | true=>exact I h
    | false=>exact hb h
   ·exact hb h
   ·exact h.elim
  ·exact h.elim
theorem ZdC {gd:Bool} {t:Env} {dst:Option Tmp} {v:Value} {K K':Env→Prop} (j: ∀t,K t→K' t) (h:Zdd gd t dst v K):Zdd gd t dst v K':=by
 cases gd with
 | false=>exact j _ h
 | true=>exact JdP (j _) (j _) h
theorem XdD {C C':CT} (E:CLe C C') {N:Nat} {ops:Array Oper} {K I:Qk} (j: ∀t g n,K t g n→I t g n): ∀(l:List Oper) (i:Nat) (t:Env) (g:G) (n:Nat),ZfC P C N ops K l i t g n→ZfC P C' N ops I l i t g n
 | [],i,t,g,n,h=>j _ _ _ h
 | o::rest,i,t,g,n,h=>by
  simp only [ZfC] at h ⊢
  split at h
  ·exact h.elim
  ·refine Jde (λh=>Qfp E (λv g n h=> ?_) h) (λh=>XdD E j rest _ _ _ _ h) h
   exact ZdC (λt h=>XdD E j rest _ _ _ _ h) h
theorem Qex {C C':CT} (J:CLe C C') {N:Nat} {ops:Array Oper} {o:Oper} {gd:Bool} {t:Env} {j:G→Prop→Prop} (E: ∀g p q,(p→q)→j g p→j g q) {K K':Qk} (I: ∀t g n,K t g n→K' t g n)
  (h:ZgE P C N ops o gd t g n j K):ZgE P C' N ops o gd t g n j K':=by
 unfold ZgE at*
 split at h
 ·exact h.elim
 ·refine Jde (λh=>Qfp J (λv g n h=>E _ _ _ (λh=> ?_) h) h) (λh=>I _ _ _ h) h
  exact ZdC (λt h=>I _ _ _ h) h
theorem ZdL {C C':CT} (E:CLe C C') {N:Nat} {ops:Array Oper} {bef:List Nat} {K I:List Bool→Qk} (j: ∀ld t g n,K ld t g n→I ld t g n): ∀(is:List Nat) (ld:List Bool) (t:Env) (g:G) (n:Nat),Xf9 P C N ops bef K is ld t g n→Xf9 P C' N ops bef I is ld t g n
 | [],ld,t,g,n,h=>j _ _ _ _ h
 | i::is,ld,t,g,n,h=>by
  simp only [Xf9] at h ⊢
  split at h
  ·exact h.elim
  ·split at h
   ·exact ZdL E j is _ _ _ _ h
   ·exact Qex E (λ_ _ _ f=>f) (λt g n h=>ZdL E j is _ _ _ _ h) h
theorem Xd3 {ops:Array Oper} {t:Env} {g g':G}: ∀{os:List Oper} {p q:Prop},(p→q)→Qew ops t g g' os p→Qew ops t g g' os q
 | [],_,_,f,h=>f h
 | _::_,_,_,f,h=>⟨h.1,Xd3 f h.2⟩
theorem Qd7 {F E:Nat→Prop} (j: ∀e,F e→E e): ∀{es:List Nat},Zfb F es→Zfb E es
 | [],_=>trivial
 | [e],h=>j e h
 | e::e'::es,h=>⟨j e h.1,Qd7 j h.2⟩
theorem Xd4 {C C':CT} (j:CLe C C') {N:Nat} {ops:Array Oper} {bef:List Nat} {K I:Qk} (E: ∀t g n,K t g n→I t g n): ∀(k:Nat) (ld:List Bool) (t:Env) (g:G) (n:Nat),Xdj P C N ops bef K k ld t g n→Xdj P C' N ops bef I k ld t g n
 | 0,_,_,_,_,h=>h.elim
 | k+1,ld,t,g,n,h=>by
  simp only [Xdj] at h ⊢
  refine ZdL j (λld t g n h=> ?_) _ _ _ _ _ h
  split at h
  ·exact E _ _ _ h
  ·refine Qd7 (λe h=> ?_) h
   split at h
   ·exact h.elim
   ·refine Qex j (λ_ _ _ f=> ?_) (λt g n h=>Xd4 j E k _ _ _ _ h) h
    exact Xd3 f
theorem JeU {C C':CT} (I:CLe C C') {N:Nat} {ops:Array Oper} {K j:Qk} (E: ∀t g n,K t g n→j t g n) {t:Env} (h:Qb4 P C N ops K t g n):Qb4 P C' N ops j t g n:=by
 unfold Qb4 at*
 split at h
 ·exact h.elim
 ·exact Xd4 I E _ _ _ _ _ h
theorem ZfP {C C':CT} (U:CLe C C') {N:Nat}: ∀(c:Code) {Q j:Qbk},(∀e t g n,Q e t g n→j e t g n)→ ∀(t:Env) (g:G) (n:Nat),Zau P C N c Q t g n→Zau P C' N c j t g n:=by
 intro c
 induction c with
 | skip=>intro Q j hq t g n h;exact hq _ _ _ _ h
 | region id ops draw=>
  intro Q j hq t g n h
  cases draw with
  | false=>
   simp only [Zau] at h ⊢
   split at h
   ·exact h.elim
   ·exact XdD U (hq .normal) _ _ _ _ _ h
  | true=>exact JeU U (hq .normal) h
 | seq a b J E=>
  intro Q j hq t g n h
  refine J (λe t g n h=> ?_) t g n h
  cases e<;>simp only [JdV] at h ⊢ <;>first|exact E hq _ _ _ h|exact hq _ _ _ _ h
 | cond c a b J E=>
  intro Q j hq t g n h
  simp only [Zau] at h ⊢
  split at h
  ·exact h.elim
  ·exact JdP (J hq _ _ _) (E hq _ _ _) h
 | block id c O=>
  intro Q j hq t g n h
  refine O (λe t g n h=> ?_) t g n h
  cases e<;>simp only [Zdf] at h ⊢ <;>first|exact hq _ _ _ _ h|skip
  split at h<;>exact hq _ _ _ _ h
 | loop c O=>
  intro Q j hq t g n h I V
  refine h I λt g n hb=>V t g n (O (λe t g n h=> ?_) t g n hb)
  cases e<;>simp only [JdV] at h ⊢ <;>first|exact h|exact hq _ _ _ _ h
 | exit id=>intro Q j hq t g n h;exact hq _ _ _ _ h
 | ret=>intro Q j hq t g n h;exact hq _ _ _ _ h
 | _=>intro Q j hq t g n h;exact h.elim
theorem ZcM {t:Env}: ∀{rs:List ResultVar} {K E:List Value→Prop},(∀vs,K vs→E vs)→Xf8 P t g rs K→Xf8 P t g rs E
 | [],K,E,j,h=>j _ h
 | .tmp i::r,K,E,j,h=>ZcM (rs:=r) (λ_=>j _) h
 | .cell a ty::r,K,E,j,h=>by
  simp only [Xf8] at h ⊢
  refine XcM (λ_ _=>Xas λag h=> ?_) h
  cases ag with
  | none=>exact Qdp (λ_=>ZcM (rs:=r) λ_=>j _) h
  | some k=>exact JdQ (λ_=>ZcM (rs:=r) λ_=>j _) h
theorem XdY {C C':CT} (I:CLe C C') {f:FuncId} {args:List Value} {K K':Cont} (E: ∀v g n,K v g n→K' v g n) (h:Qe P C f args g n K):Qe P C' f args g n K':=by
 unfold Qe at*
 split at h
 ·split at h
  ·refine ZfP I _ (λe t g n h=> ?_) _ _ _ h
   cases e<;>simp only [QhP] at h ⊢ <;>first|exact h.elim|exact ZcM (λvs h=>by obtain ⟨g',hs,j⟩:=h;exact ⟨g',hs,E _ _ _ j⟩) h
  ·exact h.elim
 ·exact h.elim
def Qep (X:XT):Prop:= ∀C C',CLe C C'→CLe (X C) (X C')
theorem ACalls.mono {X:XT} (J:Qep X):CLe (ACalls P X) (ACalls P X):=by
 intro f args g n K j E h
 have hm:=h (λf args g n K=> ∀j:Cont,(∀v g n,K v g n→j v g n)→ACalls P X f args g n j) ?_
 ·exact hm j E
 ·constructor
  ·intro f args g n K hb j E C I
   refine I.1 _ _ _ _ _ (XdY (C':=C) (λf args g n K j E h=> ?_) E hb)
   exact h j E C I
  ·intro f args g n K hx j E C I
   exact I.2 _ _ _ _ _ (J _ C (λf args g n K j E h=>h j E C I) _ _ _ _ _ _ E hx)
theorem ACalls.fold {X:XT} (I:Qep X) {f:FuncId} {args:List Value} {K:Cont} (h:Qe P (ACalls P X) f args g n K):ACalls P X f args g n K:=by
 intro C j
 refine j.1 _ _ _ _ _ (XdY (C:=ACalls P X) (λf args g n K J E h=> ?_) (λ_ _ _ h=>h) h)
 exact ACalls.mono I _ _ _ _ _ _ E h C j
theorem ACalls.foreign {X:XT} (E:Qep X) {f:FuncId} {args:List Value} {K:Cont} (h:X (ACalls P X) f args g n K):ACalls P X f args g n K:=λC j=>
 j.2 _ _ _ _ _ (E _ C (λ_ _ _ _ _ _ I h=>ACalls.mono E _ _ _ _ _ _ I h C j) _ _ _ _ _ _ (λ_ _ _ h=>h) h)
end
section
variable {D:List Deferred} {P:Program} {B:Nat} {w:World} {μ:Mu} {g:G} {n:Nat}
def XaK (P:Program) (B:Nat):Prop:= ∀(D:List Deferred) (N id:Nat) (ops:Array Oper) (K:Qk) (Q:Qbk) (t:Env) (g:G) (n:Nat) (μ:Mu) (w:World) (a:Act),(∀t g n,K t g n→Q .normal t g n)→
 Sim μ g n w B→EnvR μ N t a→a.defers=D→Qb4 P (JbG P) N ops K t g n→(Code.region id ops true).wp P (LiftQ D B N w μ Q) a w
def Zdp (P:Program) (c:Code) (Q:Exit→Act→World→Prop) (a:Act) (w:World):Prop:=
 ∀(b:Frame) (k:List Item) (cs:List Frame),∃e a' w',Q e a' w'∧Arrives P (lone (b.at a (.code c:: .inLoop c::k)) cs w) b k cs e a' w'
theorem Jek {c:Code} {Q:Exit→Act→World→Prop} {a:Act} {w:World} (h:c.wp P (Exit.then (Zdp P c Q) Q) a w):Zdp P c Q a w:=by
 intro b k cs
 obtain ⟨e,a₁,w₁,hq,j⟩:=h b (.inLoop c::k) cs
 cases e with
 | normal=>
  obtain ⟨e₂,a₂,w₂,hq₂,harr₂⟩:=hq b k cs
  exact ⟨e₂,a₂,w₂,hq₂,.of_steps (Steps.trans j (.one step_inLoop)) harr₂⟩
 | exit id=>exact ⟨_,a₁,w₁,hq,.pass (x:= .inLoop c) rfl (λ_ _=> .inl (by simp)) j⟩
 | goto l=>exact ⟨_,a₁,w₁,hq,.pass (x:= .inLoop c) rfl (λ_ _=> .inl (by simp)) j⟩
 | ret=>exact ⟨_,a₁,w₁,hq,.pass (x:= .inLoop c) rfl (λ_ _=> .inl (by simp)) j⟩
 | panic E=>exact ⟨_,a₁,w₁,hq,.pass (x:= .inLoop c) rfl (λ_ _=> .inl (by simp)) j⟩
 | outgrown=>exact ⟨_,a₁,w₁,hq,.pass (x:= .inLoop c) rfl (λ_ _=> .inl (by simp)) j⟩
theorem ZeO {c:Code} {Q:Exit→Act→World→Prop} {a:Act} {w:World} (h:Zdp P c Q a w):(Code.loop c).wp P Q a w:=by
 intro b k cs
 obtain ⟨e,E,w',hq,j⟩:=h b k cs
 exact ⟨e,E,w',hq,.of_steps (.one step_loop) j⟩
theorem Xe5 (hD:XaK P B) {N:Nat}: ∀(c:Code) (Q:Qbk) (t:Env) (g:G) (n:Nat) (μ:Mu) (w:World) (a:Act),Sim μ g n w B→EnvR μ N t a→a.defers=D→Zau P (JbG P) N c Q t g n→c.wp P (LiftQ D B N w μ Q) a w:=by
 intro c
 induction c with
 | skip=>intro Q t g n μ w a hs he hd h;exact wp_skip ⟨t,g,n,μ,h,hs,he,hd,Ext.refl μ,Below.refl B w⟩
 | exit id=>intro Q t g n μ w a hs he hd h;exact wp_exit ⟨t,g,n,μ,h,hs,he,hd,Ext.refl μ,Below.refl B w⟩
 | ret=>intro Q t g n μ w a hs he hd h;exact wp_ret ⟨t,g,n,μ,h,hs,he,hd,Ext.refl μ,Below.refl B w⟩
 | region id ops draw=>
  intro Q t g n μ w a hs he hd h
  cases draw with
  | false=>
   simp only [Zau] at h
   split at h
   ·exact h.elim
   ·rename_i E
    have E: ∀o∈ops.toList,Jdr N o.dst=true:=List.all_eq_true.1 E
    have hl: ∀o∈ops.toList,∀d,o.dst=some d→d<N:=λo ho d hd=>by have:=E o ho;rw [hd] at this;simpa [Jdr] using this
    refine wp_region_list (Xd8 (Q:=Q) (λ_ _ _ h=>h) (λj o d hj hd=>hl o (by simpa using Array.mem_of_getElem? hj) d hd) ops.toList 0 t g n μ w a hl hs he hd h)
  | true=>exact hD D N id ops (Q .normal) Q t g n μ w a (λ_ _ _ h=>h) hs he hd h
 | seq a b U O=>
  intro Q t g n μ w J hs he hd h
  refine wp_seq (wp_mono (U _ t g n μ w J hs he hd h) ?_)
  intro e a' w' hq
  cases e with
  | normal=>
   obtain ⟨t',g',n',μ',I,Z,V,Y,hx,hb⟩:=hq
   exact wp_mono (O Q t' g' n' μ' w' a' Z V Y I) λe a w h=>LiftQ.mono h (λ_ _ _ _ h=>h) hx hb
  | panic ch=>exact hq.elim
  | outgrown=>exact hq.elim
  | _=>exact hq
 | cond c a b U O=>
  intro Q t g n μ w J hs he hd h
  simp only [Zau] at h
  split at h
  ·exact h.elim
  ·rename_i E
   have hr:=he.ev E
   unfold Qa at h
   split at h
   ·rename_i hv
    rw [hv] at hr
    have:J.eval c= .bool true:=by cases hc:J.eval c<;>rw [hc] at hr<;>cases hr;rfl
    exact wp_cond_true this (U Q t g n μ w J hs he hd h)
   ·rename_i hv
    rw [hv] at hr
    have:J.eval c= .bool false:=by cases hc:J.eval c<;>rw [hc] at hr<;>cases hr;rfl
    exact wp_cond_false this (O Q t g n μ w J hs he hd h)
   ·exact h.elim
 | block id c ih=>
  intro Q t g n μ w a hs he hd h
  refine wp_block (wp_mono (ih _ t g n μ w a hs he hd h) ?_)
  intro e a' w' hq
  cases e with
  | exit i=>
   obtain ⟨t',g',n',μ',I,rest⟩:=hq
   simp only [Zdf] at I
   simp only [Exit.inBlock]
   split at I
   ·rename_i hi
    rw [if_pos (by simpa using hi)]
    exact ⟨t',g',n',μ',I,rest⟩
   ·rename_i hi
    rw [if_neg (by simpa using hi)]
    exact ⟨t',g',n',μ',I,rest⟩
  | panic ch=>exact hq.elim
  | outgrown=>exact hq.elim
  | _=>exact hq
 | loop c ih=>
  intro Q t g n μ w a hs he hd h
  refine ZeO ?_
  have key:=h (λt g n=> ∀(μ:Mu) (w':World) (a:Act),Sim μ g n w' B→EnvR μ N t a→a.defers=D→Zdp P c (LiftQ D B N w' μ Q) a w') ?_
  ·exact key μ w a hs he hd
  ·intro t g n hb μ w a hs he hd
   refine Jek (wp_mono (ih _ t g n μ w a hs he hd hb) ?_)
   intro e a' w' hq
   cases e with
   | normal=>
    obtain ⟨t',g',n',μ',I,Z,V,Y,hx,ad⟩:=hq
    have:=I μ' w' a' Z V Y
    intro b k cs
    obtain ⟨e,a2,w2,ab,aa⟩:=this b k cs
    exact ⟨e,a2,w2,LiftQ.mono ab (λ_ _ _ _ h=>h) hx ad,aa⟩
   | panic ch=>exact hq.elim
   | outgrown=>exact hq.elim
   | _=>exact hq
 | _=>intro Q t g n μ w a hs he hd h;exact h.elim
def Jez (a:Act):ResultVar→Sem Value
 | .tmp i=>pure (a.tmps.getD i undef)
 | .cell x ty=>do loadVar ty (←asAddr (a.tmps.getD x undef))
theorem Qck {N:Nat} {t:Env} {a:Act} (hs:Sim μ g n w B) (he:EnvR μ N t a): ∀(rs:List ResultVar) (K:List Value→Prop),Xf8 P t g rs K→
  ∃vs E,K vs∧VRs μ vs E∧(rs.mapM (Jez a)).run P w= .ok E w
 | [],K,h=>⟨[],[],h,.nil,by simp⟩
 | .tmp i::r,K,h=>by
  obtain ⟨vs,E,I,O,j⟩:=Qck hs he r _ h
  refine ⟨t i::vs,_,I,.cons (he.rel i) O,?_⟩
  rw [List.mapM_cons]
  simp only [Sem.run_bind,Jez,Sem.run_pure,Result.andThen_ok,j]
 | .cell x ty::r,K,h=>by
  simp only [Xf8] at h
  obtain ⟨l,o,m,hx,hm,J,h⟩:=Xdo (he.rel x) h
  rcases Qbf h with ⟨i,hi,Y,Q⟩|⟨i,hi,_,Y,Q⟩
  ·obtain ⟨cs,k,U,ho,I⟩:=ZX Q
   obtain ⟨ds,hl,Z⟩:=Zcm (P:=P) hs U hm ho
   obtain ⟨vs,E,I,O,j⟩:=Qck hs he r _ I
   refine ⟨_,.agg ds.toArray::E,I,.cons Z.agg O,?_⟩
   rw [List.mapM_cons]
   simp only [Sem.run_bind,Jez,J,asAddr,Sem.run_pure,Result.andThen_ok,loadVar,Y,if_true,Zh hi,hl,j]
  ·obtain ⟨cs,k,U,I⟩:=ZX Q
   obtain ⟨v,hv,I⟩:=XbJ I
   obtain ⟨v',hc,V⟩:=hs.load U hm hv
   obtain ⟨vs,E,I,O,j⟩:=Qck hs he r _ I
   refine ⟨_,v'::E,I,.cons V O,?_⟩
   rw [List.mapM_cons]
   simp only [Sem.run_bind,Jez,J,asAddr,Sem.run_pure,Result.andThen_ok,loadVar,Y,Bool.false_eq_true,if_false,run_load,hc,j]
theorem Jh0 {vs j:List Value} (h:VRs μ vs j):VR μ (tup vs) (if h:j.toArray.size=1 then j.toArray[0] else .tuple j.toArray):=by
 have J:VR μ (.tuple vs.toArray) (.tuple j.toArray):= .tuple (by simpa using h.length) λi x y hx O=>by
  obtain ⟨z,Q,I⟩:=h.get i x (by simpa using hx)
  have E:j[i]? =some y:=by simpa using O
  rw [Q] at E;cases E;exact I
 cases h with
 | nil=>exact J
 | cons U I=>
  cases I with
  | nil=>exact U
  | cons _ _=>exact J
theorem Zei {N:Nat} {t:Env} {a:Act} {E:Func} {K:List Value→Prop} (hs:Sim μ g n w B) (he:EnvR μ N t a) (h:Xf8 P t g E.results.toList K): ∃vs I,K vs∧VR μ (tup vs) I∧(results E a.tmps).run P w= .ok I w:=by
 obtain ⟨vs,J,Q,O,j⟩:=Qck (P:=P) hs he _ _ h
 refine ⟨vs,_,Q,Jh0 O,?_⟩
 have e:results E a.tmps=(do let vs ←E.results.mapM (Jez a);pure (if h:vs.size=1 then vs[0] else .tuple vs)):=by
  unfold results
  congr 2
 rw [e,Array.mapM_eq_mapM_toList]
 simp only [Sem.run_bind,Sem.run_map,j,Result.andThen_ok,Sem.run_pure]
end
section
variable {P:Program} {B:Nat} {w:World} {μ:Mu} {g:G} {n:Nat}
theorem XgY {f:Nat} {args:List Value} {cargs:Array Value} {N:Nat} (E:VRs μ args cargs.toList) (O:args.length≤N):
  EnvR μ N (Qi args) { tmps:=cargs++Array.replicate (N-cargs.size) undef,defers:=[] }:=by
 have hs:args.length=cargs.size:=by simpa using E.length
 refine ⟨by simp;omega,λi=> ?_⟩
 unfold Qi
 by_cases hi:i<args.length
 ·obtain ⟨y,I,J⟩:=E.get i args[i] (by simp [hi])
  have j:cargs[i]? =some y:=by simpa using I
  have:(cargs++Array.replicate (N-cargs.size) undef).getD i undef=y:=by
   rw [Array.getD_eq_getD_getElem?,Array.getElem?_append_left (by omega),j];rfl
  simp only [this]
  simpa [hi] using J
 ·have e:args.getD i undef=undef:=by simp [List.getD_eq_getElem?_getD,List.getElem?_eq_none (by omega:args.length≤i)]
  have e2:(cargs++Array.replicate (N-cargs.size) undef).getD i undef=undef:=by
   rw [Array.getD_eq_getD_getElem?,Array.getElem?_append_right (by omega)]
   rcases Nat.lt_or_ge (i-cargs.size) (N-cargs.size) with h|h
   ·simp [h]
   ·rw [Array.getElem?_eq_none (by simpa using h)];rfl
  simp only [e,e2]
  exact Xat μ
theorem XcD (hD: ∀B,XaK P B): ∀f args g n K,Qe P (JbG P) f args g n K→JbG P f args g n K:=by
 intro f args g n K h μ w B cargs hs hr
 unfold Qe at h
 split at h
 ·rename_i U hf
  split at h
  ·rename_i c hb hn V
   have V:args.length≤U.ntmps:=by simpa using V
   have E:(callFunc f cargs).run P w= .ok (.enter f cargs) w:=by
    simp [callFunc,hf,hb]
    simp at hn
    simp [hn]
   rw [E]
   show Calls P f cargs w (Zg2 B w μ K)
   refine calls_of_wp hf hb ?_
   refine wp_mono (Xe5 (hD B) c _ _ g n μ w _ hs (XgY (f:=f) hr V) rfl h) ?_
   intro e a' w' hq
   have O: ∀(h:LiftE [] B U.ntmps w μ (λt g n=>Xf8 P t g U.results.toList λvs=> ∃g',Sub g' g∧K (tup vs) g' n) a' w'),a'.defers=[]∧ ∃v,(results U a'.tmps).run P w'= .ok v w'∧Zg2 B w μ K (.returned v) w':=by
    rintro ⟨t,g',n',μ',j,Q,aa,ab,hx,Y⟩
    obtain ⟨vs,v',⟨Z,J,j⟩,ac,I⟩:=Zei (P:=P) Q aa j
    exact ⟨ab,v',I,_,Z,n',μ',j,ac,Q.sub J,hx,Y⟩
   cases e with
   | normal=>exact O hq
   | ret=>exact O hq
   | exit id=>obtain ⟨t,g',n',μ',j,_⟩:=hq;exact j.elim
   | goto l=>obtain ⟨t,g',n',μ',j,_⟩:=hq;exact j.elim
   | panic ch=>exact hq.elim
   | outgrown=>exact hq.elim
  ·exact h.elim
 ·exact h.elim
def Qdz (P:Program) (X:XT):Prop:= ∀f args g n K,X (JbG P) f args g n K→JbG P f args g n K
theorem ACalls.sim (E: ∀B,XaK P B) {X:XT} (j:Qdz P X) {f:FuncId} {args:List Value} {K:Cont} (h:ACalls P X f args g n K):JbG P f args g n K:=
 h (JbG P) ⟨XcD E,j⟩
theorem Jdx (O: ∀B,XaK P B) {X:XT} (Q:Qdz P X) {f:FuncId} {E:Func} {args:List Value} {cargs:Array Value} {K:Cont} (U:P.funcs[f]? =some E) (hb:E.body.isSome=true) (I:(E.name== "runtime.NumGoroutine")=false)
  (hs:Sim μ g n w B) (J:VRs μ args cargs.toList) (h:ACalls P X f args g n K):Calls P f cargs w (Zg2 B w μ K):=by
 have:=ACalls.sim O Q h μ w B cargs hs J
 obtain ⟨c,hb⟩:=Option.isSome_iff_exists.1 hb
 have j:(callFunc f cargs).run P w= .ok (.enter f cargs) w:=by
  simp [callFunc,U,hb]
  simp at I
  simp [I]
 rw [j] at this
 exact this
end
section
variable {P:Program} {g:G} {n:Nat}
theorem Ja8 {t t':Env} {pl:Nat→Option (Nat×TypeId)}: ∀{parts:List (Nat×Operand)} {K:List (Nat×Option Nat×Value)→Prop},(∀x∈parts,ev t x.2=ev t' x.2)→partsOf P t pl parts K→partsOf P t' pl parts K
 | [],K,_,h=>h
 |(i,x)::r,K,he,h=>by
  simp only [partsOf] at h ⊢
  have e:ev t x=ev t' x:=he (i,x) (by simp)
  split at h
  ·rw [←e]
   exact Xas (λa h=>Ja8 (λy j=>he y (by simp [j])) h) h
  ·exact h.elim
theorem Qbe {C:CT} {o:Oper} {t t':Env} {K:Cont} (he: ∀x∈o.op.operands.toList,ev t x=ev t' x) (h:aop P C o t g n K):aop P C o t' g n K:=by
 obtain ⟨dst,op,ty,pos,O,guard⟩:=o
 simp only at he
 unfold aop at*
 split at h
 ·exact h.elim
 cases op with
 | move x=>dsimp only at h ⊢;rw [←he x (by simp [Op.operands])];exact h
 | assign x=>dsimp only at h ⊢;rw [←he x (by simp [Op.operands])];exact h
 | pick c x y=>dsimp only at h ⊢;rw [←he x (by simp [Op.operands]),←he y (by simp [Op.operands]),←he c (by simp [Op.operands])];exact h
 | alloc e=>exact h
 | box e x=>dsimp only at h ⊢;rw [←he x (by simp [Op.operands])];exact h
 | build ty parts=>
  have hp: ∀x∈parts.toList,ev t x.2=ev t' x.2:=λx hx=>he x.2 (by simp only [Op.operands];simp;exact ⟨x.1,by simpa using hx⟩)
  dsimp only at h ⊢
  refine Qag (λ_ _ h=> ?_) h
  split at h
  ·split at h
   ·exact h.elim
   ·exact Ja8 hp h
  ·exact Qap (λ_ h=>Ja8 hp h) h
  ·exact h.elim
 | buildSlice ty len parts=>
  have hp: ∀x∈parts.toList,ev t x.2=ev t' x.2:=λx hx=>he x.2 (by simp only [Op.operands];simp;exact ⟨x.1,by simpa using hx⟩)
  simp only at h ⊢
  split at h
  ·refine Qag (λ_ _ h=> ?_) h
   split at h
   ·exact Ja8 hp h
   ·exact h.elim
  ·exact h.elim
 | load ty x=>dsimp only at h ⊢;rw [←he x (by simp [Op.operands])];exact h
 | store ty x y=>dsimp only at h ⊢;rw [←he x (by simp [Op.operands]),←he y (by simp [Op.operands])];exact h
 | nilCheck x=>dsimp only at h ⊢;rw [←he x (by simp [Op.operands])];exact h
 | binOp op U x y Z=>dsimp only at h ⊢;rw [←he x (by simp [Op.operands]),←he y (by simp [Op.operands])];exact h
 | unOp op U x=>dsimp only at h ⊢;rw [←he x (by simp [Op.operands])];exact h
 | convert src dst x=>dsimp only at h ⊢;rw [←he x (by simp [Op.operands])];exact h
 | makeFunc Y first captured=>
  have e1:first.map (ev t)=first.map (ev t'):=Array.map_congr_left λx hx=>he x (by simp only [Op.operands,Array.toList_append,List.mem_append];exact .inl (by simpa using hx))
  have e2:captured.map (ev t)=captured.map (ev t'):=Array.map_congr_left λx hx=>he x (by simp only [Op.operands,Array.toList_append,List.mem_append];exact .inr (by simpa using hx))
  dsimp only at h ⊢;rw [←e1,←e2];exact h
 | makeSlice ty x y=>dsimp only at h ⊢;rw [←he x (by simp [Op.operands]),←he y (by simp [Op.operands])];exact h
 | slice ty x I Q J=>
  have V:=he x (by simp [Op.operands])
  have e1:I.map (ev t)=I.map (ev t'):=by cases I with|none=>rfl|some v=>simp [he v (by simp [Op.operands])]
  have e2:Q.map (ev t)=Q.map (ev t'):=by cases Q with|none=>rfl|some v=>simp [he v (by simp [Op.operands])]
  have e3:J.map (ev t)=J.map (ev t'):=by cases J with|none=>rfl|some v=>simp [he v (by simp [Op.operands])]
  dsimp only at h ⊢;rw [←V,←e1,←e2,←e3];exact h
 | fieldAddr s x f=>dsimp only at h ⊢;rw [←he x (by simp [Op.operands])];exact h
 | field s x f=>dsimp only at h ⊢;rw [←he x (by simp [Op.operands])];exact h
 | indexAddr s x y=>dsimp only at h ⊢;rw [←he x (by simp [Op.operands]),←he y (by simp [Op.operands])];exact h
 | index s x y=>dsimp only at h ⊢;rw [←he x (by simp [Op.operands]),←he y (by simp [Op.operands])];exact h
 | extract x i=>dsimp only at h ⊢;rw [←he x (by simp [Op.operands])];exact h
 | makeMap ty r=>
  cases r with
  | none=>exact h
  | some x=>dsimp only at h ⊢;rw [←he x (by simp [Op.operands])];exact h
 | lookup s x y ok=>dsimp only at h ⊢;rw [←he x (by simp [Op.operands]),←he y (by simp [Op.operands])];exact h
 | mapUpdate s x y z=>dsimp only at h ⊢;rw [←he x (by simp [Op.operands]),←he y (by simp [Op.operands]),←he z (by simp [Op.operands])];exact h
 | insert s x y z=>dsimp only at h ⊢;rw [←he x (by simp [Op.operands]),←he y (by simp [Op.operands]),←he z (by simp [Op.operands])];exact h
 | mapEntry s x y=>dsimp only at h ⊢;rw [←he x (by simp [Op.operands]),←he y (by simp [Op.operands])];exact h
 | entryStore s x y z=>dsimp only at h ⊢;rw [←he x (by simp [Op.operands]),←he y (by simp [Op.operands]),←he z (by simp [Op.operands])];exact h
 | range s x=>dsimp only at h ⊢;rw [←he x (by simp [Op.operands])];exact h
 | next x b=>
  cases b with
  | true=>exact h
  | false=>dsimp only at h ⊢;rw [←he x (by simp [Op.operands])];exact h
 | entry x=>dsimp only at h ⊢;rw [←he x (by simp [Op.operands])];exact h
 | call c=>
  have j:c.args.toList.map (ev t)=c.args.toList.map (ev t'):=List.map_congr_left λx hx=>he x (by simp only [Op.operands,Call.operands,Array.toList_append,List.mem_append];exact .inr hx)
  have E: ∀x∈c.args.toList,ev t x=ev t' x:=λx hx=>he x (by simp only [Op.operands,Call.operands,Array.toList_append,List.mem_append];exact .inr hx)
  simp only at h ⊢
  split at h
  ·rename_i f hc
   rw [←he f (by simp [Op.operands,Call.operands,hc]),←j];exact h
  ·exact h.elim
  ·split at h
   ·rename_i x _ _ _ hx _ _
    rw [←E x (by rw [hx];simp)];exact h
   ·rename_i s x _ _ _ _ hx _ _
    rw [←E s (by rw [hx];simp),←E x (by rw [hx];simp)];exact h
   ·rename_i s x _ _ _ hx _ _
    rw [←E s (by rw [hx];simp),←E x (by rw [hx];simp)];exact h
   ·rename_i x _ _ _ hx _ _
    rw [←E x (by rw [hx];simp)];exact h
   ·rw [←j];exact h
 | _=>exact h
def Det (F:(Value→Prop)→Prop):Prop:= ∀K,F K→ ∃v,K v∧ ∀K',K' v→F K'
theorem JgR {v:Value} {f:Bool→Value}:Det λK=>Jbz v λb=>K (f b):=by
 intro K h
 obtain ⟨b,rfl,h⟩:=XeJ h
 exact ⟨_,h,λj h=>h⟩
theorem Zgx {cs:List Value} {o:Nat}:Det λK=>Zef cs o K:=by
 intro K h
 obtain ⟨v,j,h⟩:=XbJ h
 exact ⟨v,h,λE h=>by simpa [Zef,j] using h⟩
theorem Xet: ∀(l:List (Nat×Option Nat×Value)) (cs:List Value),∃o:Option (List Value),∀K:List Value→Prop,Qf cs l K↔ ∃out,o=some out∧K out
 | [],cs=>⟨some cs,λK=>by simp [Qf]⟩
 |(off,none,v)::r,cs=>by
  by_cases h:isCell v=true∧off<cs.length
  ·obtain ⟨o,j⟩:=Xet r (cs.set off v)
   exact ⟨o,λK=>by simp only [Qf,h,true_and];exact j K⟩
  ·exact ⟨none,λK=>by simp only [Qf];exact ⟨λ⟨a,b,_⟩=>absurd ⟨a,b⟩ h,λ⟨_,h,_⟩=>by cases h⟩⟩
 |(off,some k,v)::r,cs=>by
  cases v with
  | agg xs=>
   by_cases h:xs.toList.length=k∧off+k≤cs.length
   ·obtain ⟨o,j⟩:=Xet r (splice cs off xs.toList)
    exact ⟨o,λK=>by simp only [Qf,Jj,h,true_and];exact j K⟩
   ·exact ⟨none,λK=>by simp only [Qf,Jj];exact ⟨λ⟨a,b,_⟩=>absurd ⟨a,b⟩ h,λ⟨_,h,_⟩=>by cases h⟩⟩
  | _=>exact ⟨none,λK=>by simp [Qf,Jj]⟩
theorem Jem {ty:TypeId} {F:Option Nat→(Value→Prop)→Prop} (Q: ∀a,Det (F a)):Det λK=>QaJ P ty λa=>F a K:=by
 intro K h
 unfold QaJ QcL at h
 split at h
 ·rename_i Z I
  split at h
  ·rename_i i E
   obtain ⟨v,j,O⟩:=Q _ K h
   exact ⟨v,j,λJ h=>by simp only [QaJ,QcL,I,E];exact O J h⟩
  ·exact h.elim
 ·rename_i a b I
  split at h
  ·rename_i i E
   obtain ⟨v,j,O⟩:=Q _ K h
   exact ⟨v,j,λJ h=>by simp only [QaJ,QcL,I,E];exact O J h⟩
  ·exact h.elim
 ·rename_i d V Y I
  split at h
  ·rename_i i E
   split at h
   ·rename_i U
    obtain ⟨v,j,O⟩:=Q _ K h
    refine ⟨v,j,λJ h=> ?_⟩
    unfold QaJ QcL
    rw [I]
    cases d<;>first|(exact absurd rfl (V _))|(exact absurd rfl (Y _ _))|(simp only [E,U];exact O J h)
   ·exact h.elim
  ·exact h.elim
 ·exact h.elim
theorem Jd6 {ty:TypeId} {F:Nat→(Value→Prop)→Prop} (j: ∀a,Det (F a)):Det λK=>QcL P ty λa=>F a K:=by
 intro K h
 unfold QcL at h
 split at h
 ·rename_i i E
  obtain ⟨v,J,I⟩:=j _ K h
  exact ⟨v,J,λO h=>by simp only [QcL,E];exact I O h⟩
 ·exact h.elim
theorem Jc9 {op:BinOp} {r:Bool}:Det λK=>Qev op r K:=by
 intro K h
 cases op<;>simp only [Qev] at h<;>first|exact ⟨_,h,λj h=>h⟩|exact h.elim
theorem JfH {op:BinOp} {k:IntKind} {a b:Int}:Det λK=>ZH op k a b K:=by
 intro K h
 cases op<;>simp only [ZH] at h ⊢ <;>first|exact ⟨_,h,λj h=>h⟩|exact ⟨_,h.2,λj h'=>⟨h.1,h'⟩⟩
theorem XhC {e:EK} {op:BinOp} {x y:Value}:Det λK=>Jb e op x y K:=by
 intro K h
 have O:=h
 unfold Jb at h
 split at h
 ·split at h
  ·obtain ⟨v,E,j⟩:=JfH K h.2
   exact ⟨v,E,λI h'=>⟨h.1,j I h'⟩⟩
  ·exact h.elim
 ·split at h
  ·obtain ⟨v,E,j⟩:=Jc9 K h
   exact ⟨v,E,λI h'=>j I h'⟩
  ·exact h.elim
 ·split at h
  ·obtain ⟨v,E,j⟩:=Jc9 K h
   exact ⟨v,E,λI h'=>j I h'⟩
  ·obtain ⟨v,E,j⟩:=Jc9 K h
   exact ⟨v,E,λI h'=>j I h'⟩
  ·exact h.elim
 ·split at h
  ·obtain ⟨v,E,j⟩:=Jc9 K h
   exact ⟨v,E,λI h'=>j I h'⟩
  ·exact h.elim
 ·split at h
  ·split at h
   ·rename_i r J
    obtain ⟨v,E,j⟩:=Jc9 K h
    exact ⟨v,E,λI h'=>by simp only [Jb,J];exact j I h'⟩
   ·exact h.elim
  ·exact h.elim
 ·split at h
  ·obtain ⟨v,E,j⟩:=Jc9 K h
   exact ⟨v,E,λI h'=>j I h'⟩
  ·exact h.elim
 ·exact h.elim
theorem Jfk {cs:List Value} {off:Nat} {a:Option Nat}:Det λK=>Xbf cs off a K:=by
 intro K h
 cases a with
 | none=>exact Zgx K h
 | some k=>exact ⟨_,h.2,λj h'=>⟨h.1,h'⟩⟩
theorem Jhh {x:Option Value} {d m:Nat} {F:Nat→(Value→Prop)→Prop} (J: ∀a,Det (F a)):Det λK=>ZW x d m λa=>F a K:=by
 intro K h
 rcases J2 h with ⟨rfl,h⟩|⟨k,i,rfl,O,Q,h⟩
 ·obtain ⟨v,E,j⟩:=J _ K h
  exact ⟨v,E,λI h'=>j I h'⟩
 ·obtain ⟨v,E,j⟩:=J _ K h
  exact ⟨v,E,λI h'=>⟨O,Q,j I h'⟩⟩
theorem ZcB {v:Value}:Det λK=>K v:=λ_ h=>⟨v,h,λ_ h=>h⟩
theorem Zgp {x:Value} {Q O U:Option Value} {z:Nat}:Det λK=>Xx x Q O U z K:=by
 intro K h
 unfold Xx at h
 split at h
 ·rename_i a len c
  split at h
  ·rename_i hc
   obtain ⟨v,j,I⟩:=Jhh (λ_=>Jhh λ_=>Jhh λ_=>ZcB) K h
   exact ⟨v,j,λE h'=>by simp only [Xx,if_pos hc];exact I E h'⟩
  ·rename_i hc
   obtain ⟨he,h⟩:=h
   split at h
   ·obtain ⟨v,j,I⟩:=Jhh (λ_=>Jhh λ_=>ZcB) K h
    exact ⟨v,j,λE h'=>by simp only [Xx,if_neg hc];exact ⟨he,I E h'⟩⟩
   ·rename_i J
    have hd:Det λK:Value→Prop=>ZW (some J) 0 len λm=>m<LC∧ZW O 0 m λh=>ZW Q 0 h λl=>K (.slice (a.map (·.add (l*z))) (h-l) (m-l)):=
     Jhh λm K h=>by
      obtain ⟨v,j,I⟩:=Jhh (λ_=>Jhh λ_=>ZcB) K h.2
      exact ⟨v,j,λE h'=>⟨h.1,I E h'⟩⟩
    obtain ⟨v,j,I⟩:=hd K h
    exact ⟨v,j,λE h'=>by simp only [Xx,if_neg hc];exact ⟨he,I E h'⟩⟩
 ·exact h.elim
end
section
variable {P:Program} {g:G} {n:Nat}
def SameLoad (o:Oper) (t:Env) (g g2:G):Prop:=match o.op with| .load _ a=> ∀l o,ev t a= .pointer (some ⟨l,o,none⟩)→g2 l=g l|_=>True
theorem JdO {t:Env} {pl:Nat→Option (Nat×TypeId)} {F:List (Nat×Option Nat×Value)→(Value→Prop)→Prop} (j: ∀l,Det (F l)): ∀(parts:List (Nat×Operand)),Det λK=>partsOf P t pl parts λl=>F l K
 | []=>λK h=>j [] K h
 |(i,x)::r=>by
  intro K h
  simp only [partsOf] at h
  split at h
  ·rename_i off ty hp
   obtain ⟨v,E,J⟩:=Jem (P:=P) (λa=>JdO (F:=λl=>F ((off,a,ev t x)::l)) (λl=>j _) r) K h
   exact ⟨v,E,λI h'=>by simp only [partsOf,hp];exact J I h'⟩
  ·exact h.elim
theorem QeT {cs:List Value} {l:List (Nat×Option Nat×Value)} {f:List Value→Value}:Det λK=>Qf cs l λcs=>K (f cs):=by
 intro K h
 obtain ⟨o,j⟩:=Xet l cs
 obtain ⟨out,rfl,E⟩:=(j _).1 h
 exact ⟨_,E,λI h'=>(j _).2 ⟨out,rfl,h'⟩⟩
theorem JhL {C:CT} {o:Oper} {t:Env} {K:Cont} (he:Ja4 o.op=false) (h:aop P C o t g n K):
  ∃v,K v g n∧ ∀(E:G) (n2:Nat) (K':Cont),SameLoad o t g E→K' v E n2→aop P C o t E n2 K':=by
 obtain ⟨dst,op,ty,pos,after,guard⟩:=o
 simp only at he
 unfold aop at h
 split at h
 ·exact h.elim
 rename_i I
 have O: ∀{F:(Value→Prop)→Prop},Det F→F (λv=>K v g n)→(∀E n2 (K':Cont),F (λv=>K' v E n2)→aop P C { dst:=dst,op:=op,type:=ty,pos:=pos,after:=after,guard:=guard } t E n2 K')→
   ∃v,K v g n∧ ∀(E:G) (n2:Nat) (K':Cont),SameLoad { dst:=dst,op:=op,type:=ty,pos:=pos,after:=after,guard:=guard } t g E→K' v E n2→aop P C { dst:=dst,op:=op,type:=ty,pos:=pos,after:=after,guard:=guard } t E n2 K':=by
  intro F hF V Z
  obtain ⟨v,U,Y⟩:=hF _ V
  exact ⟨v,U,λE n2 K' _ ab=>Z E n2 K' (Y _ ab)⟩
 cases op with
 | move x=>exact O ZcB h λE n2 K' h=>by unfold aop;rw [I];exact h
 | assign x=>exact O ZcB h λE n2 K' h=>by unfold aop;rw [I];exact h
 | pick c x y=>exact O JgR h λE n2 K' h=>by unfold aop;rw [I];exact h
 | build ty parts=>
  dsimp only at h
  obtain ⟨i,z,hi,hz,hp,hc,ae,h⟩:=XaI h
  have back: ∀(J:List Value→Nat→Prop),J z.cells.toList i.bytes→zeroOf P ty J:=by
   intro J hj
   unfold zeroOf
   simp only [hi,hz]
   rw [show (plain 3 z&&z.cells.toList.all isCell&&(z.cells.size==i.size))=true by
    rw [hp,Bool.true_and];simp only [Bool.and_eq_true,List.all_eq_true,beq_iff_eq];exact ⟨hc,ae⟩]
   exact hj
  split at h
  ·rename_i fs Q
   split at h
   ·exact h.elim
   ·rename_i ad
    exact O (JdO (P:=P) (λl=>QeT) _) h λE n2 K' h=>by
     unfold aop;rw [I];dsimp only;refine back _ ?_;simp only [Q,ad];exact h
  ·rename_i len e Q
   exact O (Jd6 (P:=P) λk=>JdO (P:=P) (λl=>QeT) _) h λE n2 K' h=>by
    unfold aop;rw [I];dsimp only;refine back _ ?_;simp only [Q];exact h
  ·exact h.elim
 | load ty x=>
  dsimp only at h
  unfold Xc at h
  split at h
  ·rename_i l o' hx
   have hd: ∀(E:G),E l=g l→Det (λK=>QaJ P ty λa=>match a with
     | some k=>Ql E l o' k λcs=>K (.agg cs.toArray)
     | none=>kLd E l o' λv=>K v):=by
    intro E ac
    refine Jem (P:=P) (F:=λa K=>match a with
     | some k=>Ql E l o' k λcs=>K (.agg cs.toArray)
     | none=>kLd E l o' λv=>K v) λa=> ?_
    cases a with
    | none=>
     intro K h
     obtain ⟨cs,k,hg,h⟩:=ZX h
     obtain ⟨v,Y,U⟩:=XbJ h
     exact ⟨v,U,λK' h'=>by simp only [kLd,ZaP,hg,Zef,Y];exact h'⟩
    | some k=>
     intro K h
     obtain ⟨cs,k',hg,h⟩:=ZX h
     exact ⟨_,h.2,λK' h'=>by simp only [Ql,ZaP,hg];exact ⟨h.1,h'⟩⟩
   obtain ⟨v,U,Y⟩:=hd g rfl (λv=>K v g n) h
   refine ⟨v,U,λE n2 K' aa ab=> ?_⟩
   have ac:E l=g l:=aa l o' hx
   have:=Y (λv=>K' v E n2) ab
   unfold aop;rw [I];dsimp only
   simp only [hx,Xc]
   have e: ∀a:Option Nat,(match a with
     | some k=>Ql g l o' k λcs=>K' (.agg cs.toArray) E n2
     | none=>kLd g l o' λv=>K' v E n2)→(match a with
     | some k=>Ql E l o' k λcs=>K' (.agg cs.toArray) E n2
     | none=>kLd E l o' λv=>K' v E n2):=by
    intro a h
    cases a with
    | none=>simpa [kLd,ZaP,ac] using h
    | some k=>simpa [Ql,ZaP,ac] using h
   exact Xas e this
  ·exact h.elim
 | nilCheck x=>
  refine O (F:=λK=>Xf (ev t x) K) ?_ h λE n2 K' h=>by unfold aop;rw [I];exact h
  intro K h
  unfold Xf at h
  split at h
  all_goals first|exact h.elim|exact ⟨_,h,λK' h'=>by simp [Xf, *]⟩
 | binOp op xt x y yt=>exact O XhC h λE n2 K' h=>by unfold aop;rw [I];exact h
 | unOp op xt x=>
  refine O (F:=λK=>kUn op (ev t x) K) ?_ h λE n2 K' h=>by unfold aop;rw [I];exact h
  intro K h
  unfold kUn at h
  split at h
  all_goals first|exact h.elim|exact ⟨_,h,λK' h'=>by first|(simp [kUn, *];done)|simpa [kUn, *] using h'⟩
 | convert src dst x=>
  dsimp only at h
  split at h
  ·rename_i d k V Z
   refine O (F:=λK=>XaQ k (ev t x) K) ?_ h λE n2 K' h=>by unfold aop;rw [I];dsimp only;simp only [V,Z];exact h
   intro K h
   unfold XaQ at h
   split at h
   ·exact ⟨_,h,λK' h'=>by simp [XaQ, *]⟩
   ·exact h.elim
  ·exact h.elim
 | makeFunc fn first captured=>exact O ZcB h λE n2 K' h=>by unfold aop;rw [I];exact h
 | slice ty x lo hi mx=>
  dsimp only at h
  split at h
  ·rename_i e V Z
   exact O (Jd6 (P:=P) λz=>Zgp) h λE n2 K' h=>by unfold aop;rw [I];dsimp only;simp only [V,Z];exact h
  ·exact h.elim
 | fieldAddr s x f=>
  dsimp only at h
  split at h
  ·rename_i fs Q
   split at h
   ·rename_i fd hf
    have hd:Det λK=>QcL P fd.type λk=>match k==0 with|true=>False|false=>JaS (ev t x) fd.offset K:=by
     refine Jd6 (P:=P) (F:=λk K=>match k==0 with|true=>False|false=>JaS (ev t x) fd.offset K) λk=> ?_
     intro K h
     split at h
     ·exact h.elim
     ·rename_i af
      unfold JaS Xc at h
      split at h
      ·rename_i hx
       exact ⟨_,h,λK' h'=>by simp only [JaS,Xc,hx];exact h'⟩
      ·exact h.elim
    exact O hd h λE n2 K' h=>by unfold aop;rw [I];dsimp only;simp only [Q,hf];exact h
   ·exact h.elim
  ·exact h.elim
 | field s x f=>
  dsimp only at h
  split at h
  ·rename_i fs Q
   split at h
   ·rename_i fd hf
    have hd:Det λK=>QaJ P fd.type λa=>Jj (ev t x) λcs=>Xbf cs fd.offset a K:=by
     refine Jem (P:=P) (F:=λa K=>Jj (ev t x) λcs=>Xbf cs fd.offset a K) λa=> ?_
     intro K h
     obtain ⟨cs,hx,h⟩:=QbP h
     obtain ⟨v,U,Y⟩:=Jfk K h
     exact ⟨v,U,λK' h'=>by rw [hx];exact Y K' h'⟩
    exact O hd h λE n2 K' h=>by unfold aop;rw [I];dsimp only;simp only [Q,hf];exact h
   ·exact h.elim
  ·exact h.elim
 | indexAddr s x y=>
  dsimp only at h
  split at h
  ·rename_i e Q
   have hd:Det λK=>QcL P e λz=>Jd (ev t x) (ev t y) z K:=by
    refine Jd6 (P:=P) (F:=λz K=>Jd (ev t x) (ev t y) z K) λz=> ?_
    intro K h
    unfold Jd at h
    split at h
    ·rename_i hx hy
     exact ⟨_,h.2.2,λK' h'=>by simp only [Jd,hx,hy];exact ⟨h.1,h.2.1,h'⟩⟩
    ·exact h.elim
   exact O hd h λE n2 K' h=>by unfold aop;rw [I];dsimp only;simp only [Q];exact h
  ·rename_i len e Q
   have hd:Det λK=>QcL P e λz=>Ji (ev t x) (ev t y) len z K:=by
    refine Jd6 (P:=P) (F:=λz K=>Ji (ev t x) (ev t y) len z K) λz=> ?_
    intro K h
    unfold Ji at h
    split at h
    ·rename_i hx hy
     exact ⟨_,h.2.2,λK' h'=>by simp only [Ji,hx,hy];exact ⟨h.1,h.2.1,h'⟩⟩
    ·exact h.elim
   exact O hd h λE n2 K' h=>by unfold aop;rw [I];dsimp only;simp only [Q];exact h
  ·exact h.elim
 | index s x y=>
  dsimp only at h
  split at h
  ·rename_i len e Q
   have hd:Det λK=>QcL P e λz=>QaJ P e λa=>JdY (ev t x) (ev t y) len z a K:=by
    refine Jd6 (P:=P) (F:=λz K=>QaJ P e λa=>JdY (ev t x) (ev t y) len z a K) λz=>Jem (P:=P) (F:=λa K=>JdY (ev t x) (ev t y) len z a K) λa=> ?_
    intro K h
    obtain ⟨cs,hx,h⟩:=QbP h
    obtain ⟨k,j,hy,h0,V,h⟩:=JbL h
    obtain ⟨v,U,Y⟩:=Jfk K h
    exact ⟨v,U,λK' h'=>by rw [hx,hy];exact ⟨h0,V,Y K' h'⟩⟩
   exact O hd h λE n2 K' h=>by unfold aop;rw [I];dsimp only;simp only [Q];exact h
  ·rename_i Q
   refine O (F:=λK=>QdS (ev t x) (ev t y) K) ?_ h λE n2 K' h=>by unfold aop;rw [I];dsimp only;simp only [Q];exact h
   intro K h
   unfold QdS at h
   split at h
   ·rename_i hx hy
    obtain ⟨h0,h⟩:=h
    split at h
    ·rename_i hb
     exact ⟨_,h,λK' h'=>by rw [hx,hy];exact ⟨h0,by simp only [hb];exact h'⟩⟩
    ·exact h.elim
   ·exact h.elim
  ·exact h.elim
 | extract x i=>
  refine O (F:=λK=>Qc (ev t x) i K) ?_ h λE n2 K' h=>by unfold aop;rw [I];exact h
  intro K h
  unfold Qc at h
  split at h
  ·rename_i vs hx
   obtain ⟨v,U,Y⟩:=Zgx K h
   exact ⟨v,U,λK' h'=>by rw [hx];exact Y K' h'⟩
  ·exact h.elim
 | call c=>
  dsimp only at h
  simp only [Ja4] at he
  split at he
  ·rename_i hc
   simp only [hc] at h
   split at h
   ·rename_i x r1 ah r2 _ V Z
    split at h
    ·rename_i e Q
     refine O (F:=λK=>Jak (ev t x) K) ?_ h λE n2 K' h=>by unfold aop;rw [I];dsimp only;simp only [hc,V,Z,Q];exact h
     intro K h
     unfold Jak at h
     split at h
     ·exact ⟨_,h,λK' h'=>by simp [Jak, *]⟩
     ·exact h.elim
    ·rename_i len e Q
     exact O ZcB h λE n2 K' h=>by unfold aop;rw [I];dsimp only;simp only [hc,V,Z,Q];exact h
    ·rename_i Q
     refine O (F:=λK=>QdO (ev t x) K) ?_ h λE n2 K' h=>by unfold aop;rw [I];dsimp only;simp only [hc,V,Z,Q];exact h
     intro K h
     unfold QdO at h
     split at h
     ·exact ⟨_,h,λK' h'=>by simp [QdO, *]⟩
     ·exact h.elim
    ·exact h.elim
   all_goals first|contradiction|exact h.elim|exact (show False from h).elim
  ·cases he
 | _=>simp [Ja4] at he
end
section
def Xcb (acc:List Nat) (o:Oper):Nat:=o.after.toList.foldl (λs e=>if JaQ e then s ||| 2^e.on ||| acc.getD e.on 0 else s) 0
theorem Jen: ∀(l:List Oper) (j:List Nat),∃r,l.foldl (λj o=>j++[Xcb j o]) j=j++r∧r.length=l.length∧
  ∀(i:Nat) (o:Oper),l[i]? =some o→r[i]? =some (Xcb (j++r.take i) o)
 | [],j=>⟨[],by simp,rfl,by intro i o h;simp at h⟩
 | o::l,j=>by
  obtain ⟨r,I,J,E⟩:=Jen l (j++[Xcb j o])
  refine ⟨Xcb j o::r,by rw [List.foldl_cons,I];simp,by simp [J],?_⟩
  intro i o' h
  cases i with
  | zero=>simp at h;subst h;simp
  | succ i=>
   have:=E i o' (by simpa using h)
   simp only [List.getElem?_cons_succ,List.take_succ_cons]
   rw [this];simp
theorem ZhV {l:List Oper} {i:Nat} {o:Oper} (h:l[i]? =some o):(XJ l).getD i 0=Xcb ((XJ l).take i) o:=by
 obtain ⟨r,E,I,j⟩:=Jen l []
 have e:XJ l=r:=by simpa [XJ,Xcb] using E
 rw [e]
 have:=j i o h
 simp only [List.nil_append] at this
 simp [List.getD_eq_getElem?_getD,this]
theorem Qhy (l:List Oper):(XJ l).length=l.length:=by
 obtain ⟨r,j,E,I⟩:=Jen l []
 have e:XJ l=r:=by simpa [XJ,Xcb] using j
 rw [e,E]
theorem Zfy (Q:List Nat) (j:Nat): ∀(es:List Edge) (s:Nat),((es.foldl (λs e=>if JaQ e then s ||| 2^e.on ||| Q.getD e.on 0 else s) s).testBit j=true)↔(s.testBit j=true∨ ∃e∈es,JaQ e=true∧(e.on=j∨(Q.getD e.on 0).testBit j=true))
 | [],s=>by simp
 | e::es,s=>by
  rw [List.foldl_cons,Zfy Q j es]
  by_cases hb:JaQ e=true
  ·rw [if_pos hb]
   simp only [Nat.testBit_or,Nat.testBit_two_pow,Bool.or_eq_true,decide_eq_true_eq]
   constructor
   ·rintro (((h|h)|h)|⟨O,E,J⟩)
    ·exact .inl h
    ·exact .inr ⟨e,by simp,hb,.inl h⟩
    ·exact .inr ⟨e,by simp,hb,.inr h⟩
    ·exact .inr ⟨O,by simp [E],J⟩
   ·rintro (h|⟨O,E,J,I⟩)
    ·exact .inl (.inl (.inl h))
    ·rcases List.mem_cons.1 E with rfl|E
     ·rcases I with I|I
      ·exact .inl (.inl (.inr I))
      ·exact .inl (.inr I)
     ·exact .inr ⟨O,E,J,I⟩
  ·rw [if_neg hb]
   constructor
   ·rintro (h|⟨O,E,J⟩)
    ·exact .inl h
    ·exact .inr ⟨O,by simp [E],J⟩
   ·rintro (h|⟨O,E,J,I⟩)
    ·exact .inl h
    ·rcases List.mem_cons.1 E with rfl|E
     ·exact absurd J hb
     ·exact .inr ⟨O,E,J,I⟩
theorem Zg7 {l:List Oper} {i:Nat} {o:Oper} (h:l[i]? =some o) (O: ∀e∈o.after.toList,JaQ e=true→e.on<i) (j:Nat):
  hasB (XJ l) i j=true↔ ∃e∈o.after.toList,JaQ e=true∧(e.on=j∨hasB (XJ l) e.on j=true):=by
 have e1: ∀e∈o.after.toList,JaQ e=true→((XJ l).take i).getD e.on 0=(XJ l).getD e.on 0:=by
  intro e he hb
  have:=O e he hb
  simp [List.getD_eq_getElem?_getD,this]
 unfold hasB
 rw [ZhV h,Xcb,Zfy]
 simp only [Nat.zero_testBit,Bool.false_eq_true,false_or]
 constructor
 ·rintro ⟨e,E,I,J⟩;exact ⟨e,E,I,by rw [e1 e E I] at J;exact J⟩
 ·rintro ⟨e,E,I,J⟩;exact ⟨e,E,I,by rw [e1 e E I];exact J⟩
structure DOk (l:List Oper):Prop where
 back: ∀(i:Nat) (o:Oper),l[i]? =some o→ ∀e∈o.after.toList,JaQ e=true→e.on<i
 grd: ∀(i:Nat) (o:Oper) (j:Nat) (want:Bool),l[i]? =some o→o.guard=some (j,want)→ ∃p d,l[j]? =some p∧p.dst=some d
 wr: ∀(i:Nat) (o:Oper) (j:Nat) (p:Oper) (d:Nat),l[i]? =some o→l[j]? =some p→p.dst=some d→d∈looks l o→hasB (XJ l) i j=true∨(QgQ o=true∧hasB (XJ l) j i=true)
 once: ∀(i:Nat) (o:Oper) (j:Nat) (p:Oper) (d:Nat),l[i]? =some o→l[j]? =some p→p.dst=some d→i≠j→o.dst≠some d
theorem QgM {l:List Oper} (h:ZeJ l (XJ l)=true):DOk l:=by
 unfold ZeJ at h
 have h:=List.all_eq_true.1 h
 have at_: ∀(i:Nat) (o:Oper),l[i]? =some o→(o,i)∈l.zipIdx:=by
  intro i o E
  rw [List.mem_iff_getElem?]
  exact ⟨i,by simp [List.getElem?_zipIdx,E]⟩
 have h': ∀(i:Nat) (o:Oper),l[i]? =some o→_:=λi o E=>h (o,i) (at_ i o E)
 simp only [Bool.and_eq_true,List.all_eq_true] at h'
 refine ⟨?_,?_,?_,?_⟩
 ·intro i o E e he hb
  have:=(h' i o E).1.1 e he
  simpa [hb] using this
 ·intro i o j O E U
  have:=(h' i o E).1.2
  simp only [U] at this
  cases hp:l[j]? with
  | none=>simp [hp] at this
  | some p=>
   cases hd:p.dst with
   | none=>simp [hp,hd] at this
   | some d=>exact ⟨p,d,rfl,hd⟩
 ·intro i o j p d E J hd Q
  have:=(h' i o E).2 (p,j) (at_ j p J)
  simp only [hd,Bool.and_eq_true,Bool.or_eq_true,Bool.not_eq_true'] at this
  rcases this.1 with h|h
  ·rw [List.contains_eq_mem] at h
   simp at h;exact absurd Q h
  ·exact h
 ·intro i o j p d E J hd I
  have:=(h' i o E).2 (p,j) (at_ j p J)
  simp only [hd,Bool.and_eq_true,Bool.or_eq_true] at this
  rcases this.2 with h|h
  ·simp at h;exact absurd h I
  ·simpa using h
end
section
variable {P:Program} {B:Nat}
theorem Xhb {t t':Env} {x:Operand} (h: ∀d,x= .tmp d→t d=t' d):ev t x=ev t' x:=by
 cases x with
 | tmp d=>exact h d rfl
 | _=>rfl
theorem QgV {ops:List Oper} {o:Oper} {d:Nat} (h:Operand.tmp d∈o.op.operands.toList):d∈looks ops o:=by
 unfold looks
 refine List.mem_append.2 (.inl (List.mem_filterMap.2 ⟨.tmp d,h,rfl⟩))
theorem JgM {ops:List Oper} {o:Oper} {j:Nat} {E:Bool} {d:Nat} (I:o.guard=some (j,E)) (J:(ops[j]?).bind (·.dst)=some d):d∈looks ops o:=by
 unfold looks
 refine List.mem_append.2 (.inr ?_)
 rw [I];simp only [J];simp
theorem QaL {ops:List Oper} {o:Oper} {t t':Env} (h: ∀d∈looks ops o,t d=t' d): ∀x∈o.op.operands.toList,ev t x=ev t' x:=λx hx=>
 Xhb λd hd=>h d (QgV (by rw [←hd];exact hx))
theorem Z5 {ops:Array Oper} {o:Oper} {t t':Env} {A A':Prop} {C C':Prop} (h: ∀d∈looks ops.toList o,t d=t' d) (O:A→A') (hc:C→C') (E:QE ops o t A C):QE ops o t' A' C':=by
 unfold QE at*
 split at E
 ·exact O E
 ·rename_i j I U
  split at E
  ·rename_i d Q
   have J:(ops.toList[j]?).bind (·.dst)=some d:=by simpa using Q
   rw [←h d (JgM U J)]
   split at E
   ·generalize (_==I)=c at E ⊢
    cases c with
    | true=>exact O E
    | false=>exact hc E
   ·exact hc E
   ·exact E.elim
  ·exact E.elim
theorem QeK {ops:Array Oper} {o:Oper} {t:Env} {A A' C C':Prop} (h:QE ops o t A C) (h':QE ops o t A' C'):QE ops o t (A∧A') (C∧C'):=by
 unfold QE at*
 cases hg:o.guard with
 | none=>simp only [hg] at h h' ⊢;exact ⟨h,h'⟩
 | some I=>
  obtain ⟨j,E⟩:=I
  simp only [hg] at h h' ⊢
  cases hj:(ops[j]?).bind (·.dst) with
  | none=>simp only [hj] at h
  | some d=>
   simp only [hj] at h h' ⊢
   cases hb:t d with
   | bool b=>
    simp only [hb] at h h' ⊢
    generalize (b==E)=c at h h' ⊢
    cases c with
    | true=>exact ⟨h,h'⟩
    | false=>exact ⟨h,h'⟩
   | tuple xs=>simp only [hb] at h h' ⊢;exact ⟨h,h'⟩
   | _=>simp only [hb] at h
def Val (t:Env) (dst:Option Tmp) (v:Value):Prop:= ∀d,dst=some d→t d=v
def Pend (P:Program) (C:CT) (ops:Array Oper) (t:Env) (g:G) (o:Oper):Prop:=
 QE ops o t (∃v,Val t o.dst v∧ ∀(g2:G) (n2:Nat) (K':Cont),SameLoad o t g g2→K' v g2 n2→aop P C o t g2 n2 K') (Val t o.dst undef)
theorem SameLoad.congr {o:Oper} {t t':Env} {g g2:G} (h: ∀x∈o.op.operands.toList,ev t x=ev t' x) (hs:SameLoad o t' g g2):SameLoad o t g g2:=by
 unfold SameLoad at*
 split<;>rename_i j
 ·rename_i ty a
  simp only [j] at hs
  intro l q hq
  exact hs l q (by rw [←h a (by rw [j];simp [Op.operands])];exact hq)
 ·trivial
theorem Pend.congr {C:CT} {ops:Array Oper} {t t':Env} {g:G} {o:Oper} (h: ∀d∈looks ops.toList o,t d=t' d) (hd: ∀d,o.dst=some d→t d=t' d) (hp:Pend P C ops t g o):Pend P C ops t' g o:=by
 refine Z5 h ?_ ?_ hp
 ·rintro ⟨v,E,I⟩
  refine ⟨v,λd e=>by rw [←hd d e];exact E d e,λJ n2 O hs j=> ?_⟩
  exact Qbe (QaL h) (I J n2 O (hs.congr (QaL h)) j)
 ·intro E d e;rw [←hd d e];exact E d e
theorem Pend.heap {C:CT} {ops:Array Oper} {t:Env} {g g':G} {o:Oper} (hp:Pend P C ops t g o) (hs:QE ops o t (SameLoad o t g g') True):Pend P C ops t g' o:=by
 refine Z5 (λ_ _=>rfl) ?_ ?_ (QeK hp hs)
 ·rintro ⟨⟨v,O,Q⟩,j⟩
  refine ⟨v,O,λU n2 V E J=>Q U n2 V ?_ J⟩
  unfold SameLoad at*
  split<;>rename_i I
  ·simp only [I] at j E
   intro l q hq
   rw [E l q hq,j l q hq]
  ·trivial
 ·rintro ⟨O,_⟩;exact O
def WarAt (l:List Oper) (i:Nat) (o:Oper):Prop:= ∃(j:Nat) (p:Oper) (d:Nat),l[j]? =some p∧p.dst=some d∧d∈looks l o∧hasB (XJ l) j i=true
def Jig (P:Program) (C:CT) (t t':Env) (o:Oper):Prop:= ∃v,Val t o.dst v∧ ∀(g2:G) (n2:Nat) (K':Cont),K' v g2 n2→aop P C o t' g2 n2 K'
theorem Zeg {l:List Oper} {o:Oper} (h:QgQ o=true) {d d':Nat} (j:d∈looks l o) (E:d'∈looks l o):d=d':=by
 unfold QgQ at h
 split at h
 ·rename_i x I J
  unfold looks at j E
  rw [I,J] at j E
  simp only [Op.operands,List.append_nil] at j E
  cases x<;>simp at j E
  rw [j,E]
 ·cases h
theorem ZeK {ops:Array Oper} {o:Oper} (h:QgQ o=true) {t:Env} {A C:Prop}:QE ops o t A C↔A:=by
 unfold QgQ at h
 split at h
 ·rename_i x j E
  unfold QE;rw [E]
 ·cases h
theorem XhA {o:Oper} (h:QgQ o=true) {t:Env} {g g2:G}:SameLoad o t g g2:=by
 unfold QgQ at h
 split at h
 ·rename_i x j E
  unfold SameLoad;rw [j];trivial
 ·cases h
theorem WarAt.mv {l:List Oper} (J:DOk l) {i:Nat} {o:Oper} (I:l[i]? =some o) (h:WarAt l i o) (E: ∀i j,hasB (XJ l) i j=true→j<i):QgQ o=true:=by
 obtain ⟨j,p,d,O,hd,hm,hb⟩:=h
 rcases J.wr i o j p d I O hd hm with h|h
 ·have:=E _ _ h;have:=E _ _ hb;omega
 ·exact h.1
def Open (ld:List Bool) (listed:Array Bool) (i:Nat):Prop:=ld.getD i false=true∧listed.getD i false=false
structure DInv (P:Program) (N:Nat) (ops:Array Oper) (listed:Array Bool) (ld:List Bool) (t t':Env) (g:G):Prop where
 sl:listed.size=ops.size
 sd:ld.length=ops.size
 down: ∀i,listed.getD i false=true→ ∀j,hasB (XJ ops.toList) i j=true→listed.getD j false=true
 sub: ∀i,listed.getD i false=true→ld.getD i false=true
 eff: ∀(i:Nat) (o:Oper),ops.toList[i]? =some o→Ja4 o.op=true→ld.getD i false=true→listed.getD i false=true
 agree: ∀d,(∀(j:Nat) (p:Oper),ops.toList[j]? =some p→p.dst=some d→ ¬Open ld listed j)→t' d=t d
 pend: ∀(i:Nat) (o:Oper),ops.toList[i]? =some o→Open ld listed i→(¬WarAt ops.toList i o→Pend P (JbG P) ops t g o)∧(WarAt ops.toList i o→Jig P (JbG P) t t' o)
 ldown: ∀(i:Nat) (o:Oper),ops.toList[i]? =some o→ld.getD i false=true→ ∀j,hasB (XJ ops.toList) i j=true→ld.getD j false=true
theorem QbQ (ld:List Bool) (i j:Nat) (d:Bool) (E:i<ld.length):(ld.set i true).getD j d=if j=i then true else ld.getD j d:=by
 simp only [List.getD_eq_getElem?_getD,List.getElem?_set]
 by_cases h:i=j
 ·subst h;simp [E]
 ·simp [h,show ¬j=i from λe=>h e.symm]
theorem Jbi (t:Env) (d:Nat) (v:Value) (i:Nat):put t (some d) v i=if i=d then v else t i:=rfl
theorem Xg {α:Type} {l:List α} {i:Nat} {x:α} (h:l[i]? =some x):i<l.length:=(List.getElem?_eq_some_iff.1 h).1
theorem DInv.reckon {N:Nat} {ops:Array Oper} {listed:Array Bool} {ld:List Bool} {t t':Env} {g:G} (U:DInv P N ops listed ld t t' g) (hD:DOk ops.toList) (ac: ∀i j,hasB (XJ ops.toList) i j=true→j<i) {i:Nat} {o:Oper} (V:ops.toList[i]? =some o) (hl:ld.getD i true=false) (he:Ja4 o.op=false)
  (am: ∀j,hasB (XJ ops.toList) i j=true→ld.getD j false=true) {v:Value} (hp:Pend P (JbG P) ops (put t o.dst v) g o):DInv P N ops listed (ld.set i true) (put t o.dst v) t' g:=by
 have ao:i<ld.length:=by rw [U.sd];simpa using Xg V
 have aa:ld.getD i false=false:=by
  simp only [List.getD_eq_getElem?_getD,List.getElem?_eq_getElem ao] at hl ⊢;exact hl
 have hlisted:listed.getD i false=false:=by
  cases h:listed.getD i false with
  | false=>rfl
  | true=>have:=U.sub i h;rw [aa] at this;cases this
 have I:=λj d=>QbQ ld i j d ao
 have Z: ∀(j:Nat) (p:Oper) (d:Nat),ops.toList[j]? =some p→ld.getD j false=true→o.dst=some d→(¬WarAt ops.toList j p→d∉looks ops.toList p)∧p.dst≠some d:=by
  intro j p d O E J
  have Q:j≠i:=λe=>by subst e;rw [aa] at E;cases E
  refine ⟨λab ad=> ?_,hD.once j p i o d O V J Q⟩
  rcases hD.wr j p i o d O V J ad with h|h
  ·have:=U.ldown j p O E i h
   rw [aa] at this;cases this
  ·exact ab ⟨i,o,d,V,J,ad,h.2⟩
 refine ⟨U.sl,by simp [U.sd],U.down,?_,?_,?_,?_,?_⟩
 ·intro j O;rw [I];split
  ·rfl
  ·exact U.sub j O
 ·intro j p O af E
  rw [I] at E
  split at E
  ·rename_i e;subst e;rw [V] at O;cases O;rw [he] at af;cases af
  ·exact U.eff j p O af E
 ·intro d hd
  have Q:o.dst≠some d:=λe=>hd i o V e ⟨by rw [I];simp,hlisted⟩
  have h1:t' d=t d:=U.agree d λj p O au ho=>by
   refine hd j p O au ⟨?_,ho.2⟩
   rw [I];split
   ·rfl
   ·exact ho.1
  rw [h1]
  cases J:o.dst with
  | none=>rfl
  | some q=>rw [Jbi];rw [if_neg (λe=>Q (by rw [J,e]))]
 ·intro j p O ho
  obtain ⟨Y,aq⟩:=ho
  rw [I] at Y
  split at Y
  ·rename_i e;subst e;rw [V] at O;cases O
   refine ⟨λ_=>hp,λhw=> ?_⟩
   have ai:=hw.mv hD V ac
   obtain ⟨q,r,dd,hq,hr,hm,hb⟩:=hw
   obtain ⟨v',ah,ae⟩:=(ZeK ai).1 hp
   refine ⟨v',ah,λg2 n2 K' aw=> ?_⟩
   have al:t' dd=t dd:=U.agree dd λj' p' aj av ap=>by
    have ar:j'=q:=Classical.byContradiction λQ=>hD.once j' p' q r dd aj hq hr Q av
    subst ar
    have:=U.ldown j' p' aj ap.1 j hb
    rw [aa] at this;cases this
   have Q:o.dst≠some dd:=λe=>by
    by_cases hqi:q=j
    ·subst hqi;have:=ac _ _ hb;omega
    ·exact hD.once q r j o dd hq V e hqi hr
   refine Qbe (QaL (ops:=ops.toList) λd hd=> ?_) (ae g2 n2 K' (XhA ai) aw)
   have:=Zeg ai hd hm
   subst this
   cases J:o.dst with
   | none=>exact al.symm
   | some z=>rw [Jbi,if_neg (λe=>Q (by rw [J,e]))];exact al.symm
  ·rename_i Q
   obtain ⟨ak,an⟩:=U.pend j p O ⟨Y,aq⟩
   cases J:o.dst with
   | none=>exact ⟨ak,an⟩
   | some d=>
    obtain ⟨h1,h2⟩:=Z j p d O Y J
    refine ⟨λab=>(ak ab).congr (λq hq=> ?_) (λq hq=> ?_),λhw=> ?_⟩
    ·rw [Jbi,if_neg (λe=>h1 ab (by rw [←e];exact hq))]
    ·rw [Jbi,if_neg (λe=>h2 (by rw [←e];exact hq))]
    ·obtain ⟨v',ah,ae⟩:=an hw
     exact ⟨v',λq hq=>by rw [Jbi,if_neg (λe=>h2 (by rw [←e];exact hq))];exact ah q hq,ae⟩
 ·intro j p O E q hq
  rw [I] at E ⊢
  split
  ·rfl
  ·split at E
   ·rename_i e;subst e;exact am q hq
   ·exact U.ldown j p O E q hq
end
section
variable {P:Program} {B:Nat} {g:G} {n:Nat}
theorem DOk.iff {l:List Oper} (E:DOk l) {i:Nat} {o:Oper} (h:l[i]? =some o) (j:Nat):hasB (XJ l) i j=true↔ ∃e∈o.after.toList,JaQ e=true∧(e.on=j∨hasB (XJ l) e.on j=true):=
 Zg7 h (E.back i o h) j
theorem Zft {l:List Oper} {i j:Nat} (h:hasB (XJ l) i j=true): ∃o,l[i]? =some o:=by
 rcases Nat.lt_or_ge i l.length with E|E
 ·exact ⟨l[i],by simp [E]⟩
 ·unfold hasB at h
  rw [List.getD_eq_getElem?_getD,List.getElem?_eq_none (by rw [Qhy];exact E)] at h
  simp at h
theorem DOk.lt {l:List Oper} (E:DOk l): ∀(i j:Nat),hasB (XJ l) i j=true→j<i:=by
 intro i
 induction i using Nat.strongRecOn with
 | _ i J=>
  intro j h
  obtain ⟨o,I⟩:=Zft h
  obtain ⟨e,he,hb,h⟩:=(E.iff I j).1 h
  have:=E.back i o I e he hb
  rcases h with rfl|h
  ·exact this
  ·have:=J e.on this j h;omega
theorem DOk.trans {l:List Oper} (E:DOk l): ∀(i j k:Nat),hasB (XJ l) i j=true→hasB (XJ l) j k=true→hasB (XJ l) i k=true:=by
 intro i
 induction i using Nat.strongRecOn with
 | _ i O=>
  intro j k h J
  obtain ⟨o,I⟩:=Zft h
  obtain ⟨e,he,hb,h⟩:=(E.iff I j).1 h
  refine (E.iff I k).2 ⟨e,he,hb,.inr ?_⟩
  rcases h with rfl|h
  ·exact J
  ·exact O e.on (E.back i o I e he hb) j k h J
theorem effsDone_iff {l:List Oper} {bef:List Nat} {ld:List Bool} {i:Nat}:QaR l bef ld i=true↔ ∀(j:Nat) (o:Oper),l[j]? =some o→hasB bef i j=true→Ja4 o.op=true→ld.getD j false=true:=by
 unfold QaR
 rw [List.all_eq_true]
 constructor
 ·intro h j o I hb he
  have:=h (o,j) (by rw [List.mem_iff_getElem?];exact ⟨j,by simp [List.getElem?_zipIdx,I]⟩)
  simpa [hb,he] using this
 ·intro h x hx
  obtain ⟨o,j⟩:=x
  obtain ⟨k,E⟩:=List.mem_iff_getElem?.1 hx
  rw [List.getElem?_zipIdx] at E
  cases hl:l[k]? with
  | none=>simp [hl] at E
  | some q=>
   simp [hl] at E
   obtain ⟨rfl,rfl⟩:=E
   simp only [Bool.or_eq_true,Bool.not_eq_true',Bool.and_eq_false_iff]
   cases hb:hasB bef i k with
   | false=>exact .inl (.inl rfl)
   | true=>
    cases he:Ja4 q.op with
    | false=>exact .inl (.inr rfl)
    | true=>exact .inr (h k q hl hb he)
theorem QbO {ops:Array Oper} {o:Oper} {t:Env} {A C:Prop} (h:QE ops o t A C):(A∧ ∀X Y:Prop,X→QE ops o t X Y)∨(C∧ ∀X Y:Prop,Y→QE ops o t X Y):=by
 unfold QE at*
 cases hg:o.guard with
 | none=>simp only [hg] at h ⊢;exact .inl ⟨h,λ_ _ x=>x⟩
 | some I=>
  obtain ⟨j,E⟩:=I
  simp only [hg] at h ⊢
  cases hj:(ops[j]?).bind (·.dst) with
  | none=>simp only [hj] at h
  | some d=>
   simp only [hj] at h ⊢
   cases hb:t d with
   | bool b=>
    simp only [hb] at h ⊢
    generalize (b==E)=c at h ⊢
    cases c with
    | true=>exact .inl ⟨h,λ_ _ x=>x⟩
    | false=>exact .inr ⟨h,λ_ _ x=>x⟩
   | tuple xs=>simp only [hb] at h ⊢;exact .inr ⟨h,λ_ _ x=>x⟩
   | _=>simp only [hb] at h
theorem Zfu {C:CT} {N:Nat} {ops:Array Oper} {o:Oper} {gd:Bool} {t:Env} {j:G→Prop→Prop} {K:Qk} (h:ZgE P C N ops o gd t g n j K):
  (∀d,o.dst=some d→d<N)∧((aop P C o t g n (λv g n=>j g (Zdd gd t o.dst v λt=>K t g n))∧ ∀X Y:Prop,X→QE ops o t X Y)∨(K (put t o.dst undef) g n∧ ∀X Y:Prop,Y→QE ops o t X Y)):=by
 unfold ZgE at h
 split at h
 ·exact h.elim
 ·rename_i hd
  refine ⟨λd E=> ?_,QbO h⟩
  rw [E] at hd
  simpa [Jdr] using hd
theorem adv {N:Nat} {ops:Array Oper} {listed:Array Bool} {t':Env} (U:DOk ops.toList) {Kf:List Bool→Qk}: ∀(m k:Nat) (ld:List Bool) (t:Env),k+m=ops.size→DInv P N ops listed ld t t' g→
  (∀(j:Nat) (o:Oper),j<k→ops.toList[j]? =some o→Ja4 o.op=false→QaR ops.toList (XJ ops.toList) ld j=true→ld.getD j false=true)→
  Xf9 P (JbG P) N ops (XJ ops.toList) Kf (List.range' k m) ld t g n→
  ∃E Z,Kf E Z g n∧DInv P N ops listed E Z t' g∧(∀(i:Nat) (o:Oper),ops.toList[i]? =some o→Ja4 o.op=true→E.getD i false=ld.getD i false)∧
   (∀(j:Nat) (o:Oper),ops.toList[j]? =some o→Ja4 o.op=false→QaR ops.toList (XJ ops.toList) E j=true→E.getD j false=true)
 | 0,k,ld,t,hk,hI,I,h=>by
  refine ⟨ld,t,h,hI,λ_ _ _ _=>rfl,λj o Q he hx=>I j o ?_ Q he hx⟩
  have:=Xg Q
  simp at this;omega
 | m+1,k,ld,t,hk,hI,I,h=>by
  have ah:k<ops.toList.length:=by simp;omega
  obtain ⟨o,ho⟩: ∃o,ops.toList[k]? =some o:=⟨ops.toList[k],by simp⟩
  rw [List.range'_succ] at h
  simp only [Xf9,ho] at h
  have aa:k<ld.length:=by rw [hI.sd];simpa using ah
  have aj:ld.getD k true=ld.getD k false:=by simp [List.getD_eq_getElem?_getD,List.getElem?_eq_getElem aa]
  split at h
  ·rename_i hc
   refine adv U m (k+1) ld t (by omega) hI ?_ h
   intro j p Q hp he hx
   by_cases ab:j=k
   ·subst ab
    rw [ho] at hp;cases hp
    rw [he,hx,aj] at hc
    simpa using hc
   ·exact I j p (by omega) hp he hx
  ·rename_i hc
   simp only [Bool.and_eq_true,Bool.not_eq_true'] at hc
   obtain ⟨⟨hl,he⟩,hx⟩:=hc
   obtain ⟨ao,ac⟩:=Zfu h
   have ae: ∀j,hasB (XJ ops.toList) k j=true→ld.getD j false=true:=by
    intro j Q
    have ab:=U.lt k j Q
    obtain ⟨p,hp⟩: ∃p,ops.toList[j]? =some p:=⟨ops.toList[j]'(by omega),by rw [List.getElem?_eq_getElem]⟩
    cases J:Ja4 p.op with
    | true=>exact effsDone_iff.1 hx j p hp Q J
    | false=>exact I j p ab hp J (effsDone_iff.2 λq r hq hb hr=>effsDone_iff.1 hx q r hq (U.trans k j q Q hb) hr)
   have Y: ∀d,o.dst=some d→d∉looks ops.toList o:=λd hd hm=>by
    rcases U.wr k o k o d ho ho hd hm with h|h
    ·have:=U.lt k k h;omega
    ·have:=U.lt k k h.2;omega
   have hcongr: ∀v,∀d∈looks ops.toList o,t d=put t o.dst v d:=by
    intro v d hd
    cases hod:o.dst with
    | none=>rfl
    | some q=>rw [Jbi,if_neg (λe=>Y q hod (by rw [←e];exact hd))]
   have V: ∀v,Val (put t o.dst v) o.dst v:=by intro v d hd;rw [hd,Jbi];simp
   have next: ∀v,Pend P (JbG P) ops (put t o.dst v) g o→Xf9 P (JbG P) N ops (XJ ops.toList) Kf (List.range' (k+1) m) (ld.set k true) (put t o.dst v) g n→
     ∃E Z,Kf E Z g n∧DInv P N ops listed E Z t' g∧(∀(i:Nat) (o:Oper),ops.toList[i]? =some o→Ja4 o.op=true→E.getD i false=ld.getD i false)∧
      (∀(j:Nat) (o:Oper),ops.toList[j]? =some o→Ja4 o.op=false→QaR ops.toList (XJ ops.toList) E j=true→E.getD j false=true):=by
    intro v hp ad
    have ai:=hI.reckon U U.lt ho hl he ae hp
    have O: ∀(j:Nat) (p:Oper),ops.toList[j]? =some p→Ja4 p.op=true→(ld.set k true).getD j false=ld.getD j false:=by
     intro j p Q J
     rw [QbQ _ _ _ _ aa]
     split
     ·rename_i e;subst e;rw [ho] at Q;cases Q;rw [he] at J;cases J
     ·rfl
    obtain ⟨E,Z,h1,h2,h3,h4⟩:=adv U m (k+1) (ld.set k true) (put t o.dst v) (by omega) ai (by
     intro j p Q hp J an
     rw [QbQ _ _ _ _ aa]
     split
     ·rfl
     ·refine I j p (by omega) hp J (effsDone_iff.2 λq r hq hb hr=> ?_)
      rw [←O q r hq hr];exact effsDone_iff.1 an q r hq hb hr) ad
    exact ⟨E,Z,h1,h2,λi p hi J=>(h3 i p hi J).trans (O i p hi J),h4⟩
   rcases ac with ⟨ak,hw⟩|⟨ad,hw⟩
   ·obtain ⟨v,am,af⟩:=JhL he ak
    refine next v ?_ (Xdy (K:=λt=>Xf9 P (JbG P) N ops (XJ ops.toList) Kf (List.range' (k+1) m) (ld.set k true) t g n) am)
    refine Z5 (hcongr v) id id (hw _ _ ⟨v,V v,λg2 n2 K' hs al=> ?_⟩)
    exact Qbe (QaL (hcongr v)) (af g2 n2 K' (hs.congr (QaL (hcongr v))) al)
   ·exact next undef (Z5 (hcongr undef) id id (hw _ _ (V undef))) ad
end
section
variable {P:Program} {B:Nat} {g:G} {n:Nat}
theorem Jcf (listed:Array Bool) (i j:Nat) (d:Bool) (E:i<listed.size):(listed.setIfInBounds i true).getD j d=if j=i then true else listed.getD j d:=by
 simp only [Array.getD_eq_getD_getElem?,Array.getElem?_setIfInBounds]
 by_cases h:i=j
 ·subst h;simp [E]
 ·simp [h,show ¬j=i from λe=>h e.symm]
theorem DInv.carry {N:Nat} {ops:Array Oper} {listed:Array Bool} {ld:List Bool} {t t':Env} (Q:DInv P N ops listed ld t t' g) (hD:DOk ops.toList) {i:Nat} {o:Oper} (hi:ops.toList[i]? =some o) (ho:Open ld listed i)
  (V: ∀j,hasB (XJ ops.toList) i j=true→listed.getD j false=true) {v:Value} (hv:Val t o.dst v):DInv P N ops (listed.setIfInBounds i true) ld t (put t' o.dst v) g:=by
 have ad:i<listed.size:=by rw [Q.sl];simpa using Xg hi
 have I:=λj d=>Jcf listed i j d ad
 have Y: ∀j,Open ld (listed.setIfInBounds i true) j→Open ld listed j∧j≠i:=by
  intro j E
  have Z:=E.2
  rw [I] at Z
  split at Z
  ·cases Z
  ·rename_i O;exact ⟨⟨E.1,Z⟩,O⟩
 refine ⟨by simp [Q.sl],Q.sd,?_,?_,?_,?_,?_,Q.ldown⟩
 ·intro j E q hq
  rw [I] at E ⊢
  split
  ·rfl
  ·split at E
   ·rename_i e;subst e;exact V q hq
   ·exact Q.down j E q hq
 ·intro j E
  rw [I] at E
  split at E
  ·rename_i e;subst e;exact ho.1
  ·exact Q.sub j E
 ·intro j p E he hl
  rw [I]
  split
  ·rfl
  ·exact Q.eff j p E he hl
 ·intro d hd
  cases hod:o.dst with
  | none=>
   exact Q.agree d λj p E hp J=>by
    by_cases hji:j=i
    ·subst hji;rw [hi] at E;cases E;rw [hod] at hp;cases hp
    ·exact hd j p E hp ⟨J.1,by rw [I,if_neg hji];exact J.2⟩
  | some q=>
   rw [Jbi]
   split
   ·rename_i e;subst e;exact (hv d hod).symm
   ·rename_i O
    exact Q.agree d λj p E hp J=>by
     by_cases hji:j=i
     ·subst hji;rw [hi] at E;cases E;rw [hod] at hp;cases hp;exact O rfl
     ·exact hd j p E hp ⟨J.1,by rw [I,if_neg hji];exact J.2⟩
 ·intro j p E J
  obtain ⟨U,O⟩:=Y j J
  obtain ⟨h1,Z⟩:=Q.pend j p E U
  refine ⟨h1,λhw=> ?_⟩
  obtain ⟨v',ab,aa⟩:=Z hw
  refine ⟨v',ab,λg2 n2 K' hk=>Qbe (QaL (ops:=ops.toList) λd hd=> ?_) (aa g2 n2 K' hk)⟩
  cases hod:o.dst with
  | none=>rfl
  | some q=>
   rw [Jbi,if_neg]
   rintro rfl
   have ac:=hw.mv hD E hD.lt
   obtain ⟨a,r,dd,ha,hr,hm,hb⟩:=hw
   have e:=Zeg ac hd hm
   subst e
   have ae:a=i:=Classical.byContradiction λO=>hD.once a r i o d ha hi hod O hr
   subst ae
   have:=V j hb
   rw [U.2] at this;cases this
theorem DInv.effect {N:Nat} {ops:Array Oper} {listed:Array Bool} {ld:List Bool} {t t':Env} (Y:DInv P N ops listed ld t t' g) (hD:DOk ops.toList) {i:Nat} {o:Oper} (hi:ops.toList[i]? =some o) (hl:ld.getD i false=false)
  (Z: ∀j,hasB (XJ ops.toList) i j=true→listed.getD j false=true) {v:Value} {g':G} (aj: ∀(j:Nat) (p:Oper),ops.toList[j]? =some p→Open ld listed j→ ¬WarAt ops.toList j p→QE ops p t (SameLoad p t g g') True):
  DInv P N ops (listed.setIfInBounds i true) (ld.set i true) (put t o.dst v) (put t' o.dst v) g':=by
 have al:i<listed.size:=by rw [Y.sl];simpa using Xg hi
 have ai:i<ld.length:=by rw [Y.sd];simpa using Xg hi
 have O:=λj d=>Jcf listed i j d al
 have J:=λj d=>QbQ ld i j d ai
 have aa: ∀j,Open (ld.set i true) (listed.setIfInBounds i true) j→Open ld listed j∧j≠i:=by
  intro j I
  obtain ⟨h1,h2⟩:=I
  rw [O] at h2
  rw [J] at h1
  split at h2
  ·cases h2
  ·rename_i E
   rw [if_neg E] at h1
   exact ⟨⟨h1,h2⟩,E⟩
 have V: ∀j,j≠i→Open ld listed j→Open (ld.set i true) (listed.setIfInBounds i true) j:=by
  intro j E I
  exact ⟨by rw [J,if_neg E];exact I.1,by rw [O,if_neg E];exact I.2⟩
 refine ⟨by simp [Y.sl],by simp [Y.sd],?_,?_,?_,?_,?_,?_⟩
 ·intro j I q hq
  rw [O] at I ⊢
  split
  ·rfl
  ·split at I
   ·rename_i e;subst e;exact Z q hq
   ·exact Y.down j I q hq
 ·intro j I
  rw [O] at I;rw [J]
  split
  ·rfl
  ·rename_i E;rw [if_neg E] at I;exact Y.sub j I
 ·intro j p I he ad
  rw [J] at ad;rw [O]
  split
  ·rfl
  ·rename_i E;rw [if_neg E] at ad;exact Y.eff j p I he ad
 ·intro d hd
  cases hod:o.dst with
  | none=>
   exact Y.agree d λj p I hp Q=>by
    by_cases hji:j=i
    ·subst hji;have:=Q.1;rw [hl] at this;cases this
    ·exact hd j p I hp (V j hji Q)
  | some q=>
   rw [Jbi,Jbi]
   split
   ·rfl
   ·exact Y.agree d λj p I hp Q=>by
     by_cases hji:j=i
     ·subst hji;have:=Q.1;rw [hl] at this;cases this
     ·exact hd j p I hp (V j hji Q)
 ·intro j p I Q
  obtain ⟨U,E⟩:=aa j Q
  obtain ⟨p1,p2⟩:=Y.pend j p I U
  refine ⟨λac=> ?_,λhw=> ?_⟩
  ·have ae:=(p1 ac).heap (aj j p I U ac)
   cases hod:o.dst with
   | none=>exact ae
   | some d=>
    have h1:d∉looks ops.toList p:=λhm=>by
     rcases hD.wr j p i o d I hi hod hm with h|h
     ·have:=Y.ldown j p I U.1 i h
      rw [hl] at this;cases this
     ·exact ac ⟨i,o,d,hi,hod,hm,h.2⟩
    have h2:p.dst≠some d:=hD.once j p i o d I hi hod E
    refine ae.congr (λq hq=> ?_) (λq hq=> ?_)
    ·rw [Jbi,if_neg (λe=>h1 (by rw [←e];exact hq))]
    ·rw [Jbi,if_neg (λe=>h2 (by rw [←e];exact hq))]
  ·obtain ⟨v',ah,af⟩:=p2 hw
   cases hod:o.dst with
   | none=>exact ⟨v',ah,af⟩
   | some z=>
    have h2:p.dst≠some z:=hD.once j p i o z I hi hod E
    refine ⟨v',λq hq=>by rw [Jbi,if_neg (λe=>h2 (by rw [←e];exact hq))];exact ah q hq,λg2 n2 K' hk=>Qbe (QaL (ops:=ops.toList) λd hd=> ?_) (af g2 n2 K' hk)⟩
    rw [Jbi,if_neg]
    rintro rfl
    have ak:=hw.mv hD I hD.lt
    obtain ⟨a,r,dd,ha,hr,hm,hb⟩:=hw
    have e:=Zeg ak hd hm
    subst e
    have am:a=i:=Classical.byContradiction λE=>hD.once a r i o d ha hi hod E hr
    subst am
    have:=Z j hb
    rw [U.2] at this;cases this
 ·intro j p I ab q hq
  rw [J] at ab ⊢
  split
  ·rfl
  ·split at ab
   ·rename_i e;subst e;exact Y.sub q (Z q hq)
   ·exact Y.ldown j p I ab q hq
def cnt (f:Nat→Bool):Nat→Nat
 | 0=>0
 | m+1=>cnt f m+if f m then 0 else 1
theorem Zeu {f:Nat→Bool}: ∀{m:Nat},cnt f m=0→ ∀i,i<m→f i=true
 | 0,_,i,j=>by omega
 | m+1,h,i,j=>by
  simp only [cnt] at h
  by_cases him:i=m
  ·subst him
   cases hf:f i with
   | true=>rfl
   | false=>simp [hf] at h
  ·exact Zeu (m:=m) (by omega) i (by omega)
theorem Jgs {f f':Nat→Bool} {i:Nat} (I:f i=false) (E: ∀j,f' j=if j=i then true else f j): ∀m,i<m→cnt f' m+1=cnt f m
 | 0,h=>by omega
 | m+1,h=>by
  simp only [cnt]
  by_cases him:i=m
  ·subst him
   have e:cnt f' i=cnt f i:=by
    have: ∀k,k≤i→cnt f' k=cnt f k:=by
     intro k
     induction k with
     | zero=>intro _;rfl
     | succ k J=>intro O;simp only [cnt];rw [J (by omega),E k,if_neg (show ¬k=i by omega)]
    exact this i (Nat.le_refl _)
   rw [e,I,E i];simp
  ·have:=Jgs I E m (by omega)
   rw [E m,if_neg (show ¬m=i by omega)];omega
theorem Qfy {f:Nat→Bool}: ∀{m:Nat},0<cnt f m→ ∃i,i<m∧f i=false∧ ∀j,j<i→f j=true
 | 0,h=>by simp [cnt] at h
 | m+1,h=>by
  rcases Nat.eq_zero_or_pos (cnt f m) with E|E
  ·simp only [cnt,E] at h
   cases hf:f m with
   | true=>simp [hf] at h
   | false=>exact ⟨m,by omega,hf,λj J=>Zeu E j J⟩
  ·obtain ⟨i,Q,O,I⟩:=Qfy E
   exact ⟨i,by omega,O,I⟩
end
section
variable {D:List Deferred} {P:Program} {B:Nat}
theorem QeJ {F:Nat→Prop}: ∀{es:List Nat},Zfb F es→ ∀e∈es,F e
 | [],_,e,he=>by simp at he
 | [x],h,e,he=>by simp at he;subst he;exact h
 | x::y::es,h,e,he=>by
  rcases List.mem_cons.1 he with rfl|he
  ·exact h.1
  ·exact QeJ h.2 e he
theorem QeF {ops:Array Oper} {t:Env} {g g':G}: ∀{os:List Oper} {p:Prop},Qew ops t g g' os p→p∧ ∀o∈os,Qh6 ops t g g' o
 | [],p,h=>⟨h,by intro o I;simp at I⟩
 | o::os,p,h=>by
  obtain ⟨j,E⟩:=QeF h.2
  refine ⟨j,λq hq=> ?_⟩
  rcases List.mem_cons.1 hq with rfl|hq
  ·exact h.1
  ·exact E q hq
theorem QgB {l:List Oper} {bef:List Nat} {ld:List Bool} {i:Nat} {o:Oper} (E:l[i]? =some o) (he:Ja4 o.op=true) (j:ld.getD i true=false) (hx:QaR l bef ld i=true):i∈nexts l bef ld:=by
 rw [List.getD_eq_getElem?_getD] at j
 unfold nexts
 rw [List.mem_filterMap]
 exact ⟨(o,i),by rw [List.mem_iff_getElem?];exact ⟨i,by simp [List.getElem?_zipIdx,E]⟩,by simp [he,j,hx]⟩
theorem Jgi {l:List Oper} {bef:List Nat} {ld:List Bool} {e j:Nat} {o:Oper} {ty:TypeId} {a:Operand} (J:l[j]? =some o) (E:o.op= .load ty a) (I:ld.getD j false=true) (hb:hasB bef e j=false):o∈QfV l bef ld e:=by
 rw [List.getD_eq_getElem?_getD] at I
 unfold QfV
 rw [List.mem_filterMap]
 exact ⟨(o,j),by rw [List.mem_iff_getElem?];exact ⟨j,by simp [List.getElem?_zipIdx,J]⟩,by simp [I,hb,E,Ja4]⟩
def JgT (P:Program) (N:Nat) (ops:Array Oper) (K:Qk) (k:Nat) (ld:List Bool) (t:Env) (g:G) (n:Nat):Prop:=
 match nexts ops.toList (XJ ops.toList) ld with
 | []=>K t g n
 | es=>Zfb (λe=>match ops.toList[e]? with
  | none=>False
  | some o=>ZgE P (JbG P) N ops o (guarded ops.toList e) t g n (λg'=>Qew ops t g g' (QfV ops.toList (XJ ops.toList) ld e)) λt g n=>Xdj P (JbG P) N ops (XJ ops.toList) K k (ld.set e true) t g n) es
def Zgg (ops:Array Oper) (ld:List Bool):Prop:= ∀(j:Nat) (o:Oper),ops.toList[j]? =some o→Ja4 o.op=false→QaR ops.toList (XJ ops.toList) ld j=true→ld.getD j false=true
theorem XbO {N:Nat} {ops:Array Oper} {listed:Array Bool} {ld:List Bool} {t t':Env} {g:G} {n:Nat} {K:Qk} {k:Nat} (J:DOk ops.toList) (O:DInv P N ops listed ld t t' g) (h:Xdj P (JbG P) N ops (XJ ops.toList) K k ld t g n):
  ∃k' ld2 E,JgT P N ops K k' ld2 E g n∧DInv P N ops listed ld2 E t' g∧Zgg ops ld2:=by
 cases k with
 | zero=>exact h.elim
 | succ k=>
  simp only [Xdj] at h
  rw [List.range_eq_range'] at h
  obtain ⟨ld2,E,I,U,_,Q⟩:=adv J ops.size 0 ld t (by omega) O (λj o V=>by omega) h
  exact ⟨k,ld2,E,I,U,Q⟩
theorem QeD {P:Program} {ops:Array Oper} {Q:Exit→Act→World→Prop} {j:Nat} {listed:Array Bool} {a:Act} {w:World} (E:Region.ready .any ops listed=[]) (h:Q .normal a w):wpAny P .any ops Q j listed a w:=by
 cases j with
 | zero=>exact ⟨E,h⟩
 | succ k=>exact ⟨λ_=>h,by rw [E];intro i I;simp at I⟩
theorem Qgt {N:Nat} {ops:Array Oper} {K:Qk} {Q:Qbk} (hD:DOk ops.toList) (hQ: ∀t g n,K t g n→Q .normal t g n) (hN: ∀(i:Nat) (o:Oper) (d:Nat),ops.toList[i]? =some o→o.dst=some d→d<N) {w0:World} {μ0:Mu}:
  ∀(fuel:Nat) (listed:Array Bool) (ld:List Bool) (t t':Env) (g:G) (n:Nat) (μ:Mu) (w:World) (a:Act) (k:Nat),DInv P N ops listed ld t t' g→Zgg ops ld→JgT P N ops K k ld t g n→cnt (λi=>listed.getD i false) ops.size=fuel→
   Sim μ g n w B→EnvR μ N t' a→a.defers=D→Ext μ0 μ→Below B w0 w→wpAny P .any ops (LiftQ D B N w0 μ0 Q) fuel listed a w:=by
 intro fuel
 induction fuel with
 | zero=>
  intro listed ld t t' g n μ w a k Y hC hA ad hs he hd hx hb
  have ah:=Zeu ad
  have ao:Region.ready .any ops listed=[]:=by
   apply List.eq_nil_iff_forall_not_mem.2
   intro i hi
   obtain ⟨h1,o,ho,_⟩:=mem_ready.1 hi
   have aj:i<ops.size:=(Array.getElem?_eq_some_iff.1 ho).1
   have h2:=ah i aj
   have h3:i<listed.size:=by rw [Y.sl];exact aj
   simp [Array.getD,h3] at h1 h2
   rw [h1] at h2;cases h2
  refine QeD ao ?_
  have aU:nexts ops.toList (XJ ops.toList) ld=[]:=by
   apply List.eq_nil_iff_forall_not_mem.2
   intro i hi
   unfold nexts at hi
   obtain ⟨⟨o,j⟩,U,hf⟩:=List.mem_filterMap.1 hi
   obtain ⟨q,hq⟩:=List.mem_iff_getElem?.1 U
   rw [List.getElem?_zipIdx] at hq
   cases hl:ops.toList[q]? with
   | none=>simp [hl] at hq
   | some p=>
    simp [hl] at hq
    obtain ⟨rfl,rfl⟩:=hq
    have aj:q<ops.size:=by simpa using Xg hl
    have V:=Y.sub q (ah q aj)
    have:ld.getD q true=true:=by
     have aK:q<ld.length:=by rw [Y.sd];exact aj
     simp only [List.getD_eq_getElem?_getD,List.getElem?_eq_getElem aK] at V ⊢;exact V
    rw [List.getD_eq_getElem?_getD] at this
    simp [this] at hf
  have hk:K t g n:=by unfold JgT at hA;rw [aU] at hA;exact hA
  have aN:t'=t:=by
   funext d
   refine Y.agree d λj p hj hp E=> ?_
   have:=ah j (by simpa using Xg hj)
   rw [E.2] at this;cases this
  subst aN
  exact ⟨t',g,n,μ,hQ _ _ _ hk,hs,he,hd,hx,hb⟩
 | succ fuel ih=>
  intro listed ld t t' g n μ w a k Y hC hA ad hs he hd hx hb
  refine ⟨?_,?_⟩
  ·intro hr
   exfalso
   obtain ⟨i,h1,h2,h3⟩:=Qfy (f:=λi=>listed.getD i false) (m:=ops.size) (by rw [ad];omega)
   have an:i<listed.size:=by rw [Y.sl];exact h1
   have U:i∈Region.ready .any ops listed:=by
    refine mem_ready.2 ⟨?_,ops[i],by simp [h1],?_⟩
    ·simp [Array.getD,an] at h2 ⊢;exact h2
    ·intro e he aB
     exact h3 e.on (hD.back i ops[i] (by simp [h1]) e (by simpa using he) aB)
   rw [hr] at U;simp at U
  ·intro i hi
   obtain ⟨h1,o,ho,aE⟩:=mem_ready.1 hi
   have af:i<ops.size:=(Array.getElem?_eq_some_iff.1 ho).1
   have an:i<listed.size:=by rw [Y.sl];exact af
   have ae:listed.getD i false=false:=by simp [Array.getD,an] at h1 ⊢;exact h1
   have J:ops.toList[i]? =some o:=by simpa using ho
   have O: ∀j,hasB (XJ ops.toList) i j=true→listed.getD j false=true:=by
    intro j hj
    obtain ⟨e,aQ,aP,aR⟩:=(hD.iff J j).1 hj
    have hl:=aE e (by simpa using aQ) aP
    rcases aR with rfl|h
    ·exact hl
    ·exact Y.down e.on hl j h
   have Z:cnt (λj=>(listed.setIfInBounds i true).getD j false) ops.size=fuel:=by
    have:=Jgs (f:=λj=>listed.getD j false) (f':=λj=>(listed.setIfInBounds i true).getD j false) (i:=i) ae (λj=>Jcf listed i j false an) ops.size af
    omega
   have ac: ∀d,o.dst=some d→d<N:=λd am=>hN i o d J am
   have av: ∀(j:Nat) (o:Oper) (d:Nat),ops[j]? =some o→o.dst=some d→d<N:=λj o d hj am=>hN j o d (by simpa using hj) am
   have I: ¬WarAt ops.toList i o→ ∀d∈looks ops.toList o,t d=t' d:=by
    intro al d aI
    exact (Y.agree d λj p hj hp E=>by
     rcases hD.wr i o j p d J hj hp aI with h|h
     ·have:=O j h
      rw [E.2] at this;cases this
     ·exact al ⟨j,p,d,hj,hp,aI,h.2⟩).symm
   have ab: ∀v,(a.put o.dst v).defers=D:=λv=>by cases am:o.dst<;>simp [Act.put,hd]
   unfold wpOp
   rw [ho]
   simp only
   cases hef:Ja4 o.op with
   | false=>
    have V:ld.getD i false=true:=hC i o J hef (effsDone_iff.2 λj p hj aa aT=>Y.sub j (O j aa))
    have hp:=Y.pend i o J ⟨V,ae⟩
    have aO:QE ops o t' (∃v,Val t o.dst v∧ ∀(n2:Nat) (K':Cont),K' v g n2→aop P (JbG P) o t' g n2 K') (Val t o.dst undef):=by
     by_cases hwar:WarAt ops.toList i o
     ·have ai:=hwar.mv hD J hD.lt
      obtain ⟨v,hv,hk⟩:=hp.2 hwar
      exact (ZeK ai).2 ⟨v,hv,λn2 K' h=>hk g n2 K' h⟩
     ·refine Z5 (I hwar) ?_ id (hp.1 hwar)
      rintro ⟨v,hv,hk⟩
      exact ⟨v,hv,λn2 K' h=>Qbe (QaL (I hwar)) (hk g n2 K' (by unfold SameLoad;split<;>simp) h)⟩
    rcases Qba he aO av with ⟨hw,v,hv,hk⟩|⟨hw,hv⟩
    ·rw [if_pos hw]
     refine .inl ?_
     have E:=hk n (λv' g' n'=>v'=v∧g'=g∧n'=n) ⟨rfl,rfl,rfl⟩
     refine JdF he hd ac _ (ZdP hs he E) _ ?_
     rintro v0 v' g' n' μ' w' ⟨rfl,rfl,rfl⟩ au ar ak aa
     exact ih _ ld t _ g' n' μ' w' _ k (Y.carry hD J ⟨V,ae⟩ O hv) hC hA Z ar ((he.ext ak).put au o.dst ac) (ab v') (hx.trans ak) (hb.trans aa)
    ·rw [if_neg (by rw [hw];simp)]
     exact ih _ ld t _ g n μ w _ k (Y.carry hD J ⟨V,ae⟩ O hv) hC hA Z hs (he.put (Xat μ) o.dst ac) (ab undef) hx hb
   | true=>
    have aA: ¬WarAt ops.toList i o:=λhw=>by
     have ai:=hw.mv hD J hD.lt
     unfold QgQ at ai
     split at ai
     ·rename_i x E hg;rw [E] at hef;simp [Ja4] at hef
     ·cases ai
    have I:=I aA
    have V:ld.getD i false=false:=by
     cases h:ld.getD i false with
     | false=>rfl
     | true=>have:=Y.eff i o J hef h;rw [ae] at this;cases this
    have aH:i<ld.length:=by rw [Y.sd];exact af
    have aG:ld.getD i true=false:=by
     simp only [List.getD_eq_getElem?_getD,List.getElem?_eq_getElem aH] at V ⊢;exact V
    have U:=QgB (bef:=XJ ops.toList) J hef aG (effsDone_iff.2 λj p hj aa aT=>Y.sub j (O j aa))
    have aF:ZgE P (JbG P) N ops o (guarded ops.toList i) t g n (λg'=>Qew ops t g g' (QfV ops.toList (XJ ops.toList) ld i)) λt g n=>Xdj P (JbG P) N ops (XJ ops.toList) K k (ld.set i true) t g n:=by
     unfold JgT at hA
     split at hA
     ·rename_i aJ;rw [aJ] at U;simp at U
     ·have:=QeJ hA i U
      simpa only [J] using this
    obtain ⟨_,ay⟩:=Zfu aF
    rcases ay with ⟨E,ax⟩|⟨hk,ax⟩
    ·have aC:=Z5 (C':=False) I id id (ax True False trivial)
     rcases Qba he aC av with ⟨hw,_⟩|⟨_,hf⟩
     ·rw [if_pos hw]
      refine .inl ?_
      refine JdF he hd ac _ (ZdP hs he (Qbe (QaL I) E)) _ ?_
      intro v0 v' g' n' μ' w' hk au ar ak aa
      obtain ⟨hk,aS⟩:=QeF hk
      have hk:=Xdy (K:=λt=>Xdj P (JbG P) N ops (XJ ops.toList) K k (ld.set i true) t g' n') hk
      have aw:=Y.effect hD J V O (v:=v0) (g':=g') (by
       intro j p hj E al
       have aL:hasB (XJ ops.toList) i j=false:=by
        cases h:hasB (XJ ops.toList) i j with
        | false=>rfl
        | true=>have:=O j h;rw [E.2] at this;cases this
       have aM:=(Y.pend j p hj E).1 al
       rcases QbO aM with ⟨_,hX⟩|⟨_,hY⟩
       ·cases hpo:p.op with
        | load ty x=>
         have hc:=aS p (Jgi hj hpo E.1 aL)
         unfold Qh6 at hc
         simp only [hpo] at hc
         refine Z5 (λ_ _=>rfl) (λh=> ?_) id hc
         unfold SameLoad
         rw [hpo]
         intro l q hq
         simpa [Xc,hq] using h
        | _=>exact hX _ _ (by unfold SameLoad;rw [hpo];trivial)
       ·exact hY _ _ trivial)
      obtain ⟨k2,aD,t2,aq,ap,az⟩:=XbO hD aw hk
      exact ih _ aD t2 _ g' n' μ' w' _ k2 ap az aq Z ar ((he.ext ak).put au o.dst ac) (ab v') (hx.trans ak) (hb.trans aa)
     ·exact hf.elim
    ·have aC:=Z5 (A':=False) I id id (ax False True trivial)
     rcases Qba he aC av with ⟨_,hf⟩|⟨hw,_⟩
     ·exact hf.elim
     ·rw [if_neg (by rw [hw];simp)]
      have aw:=Y.effect hD J V O (v:=undef) (g':=g) (by
       intro j p hj E al
       rcases QbO ((Y.pend j p hj E).1 al) with ⟨_,hX⟩|⟨_,hY⟩
       ·exact hX _ _ (by unfold SameLoad;split<;>simp)
       ·exact hY _ _ trivial)
      obtain ⟨k2,aD,t2,aq,ap,az⟩:=XbO hD aw hk
      exact ih _ aD t2 _ g n μ w _ k2 ap az aq Z hs (he.put (Xat μ) o.dst ac) (ab undef) hx hb
theorem ZdM (hm:P.follows .mixedOrders=true) (B:Nat):XaK P B:=by
 intro D N id ops K Q t g n μ w a hQ hs he hd h
 unfold Qb4 at h
 split at h
 ·exact h.elim
 ·rename_i E
  rw [Bool.and_eq_true] at E
  have hD:=QgM E.1
  have hN: ∀(i:Nat) (o:Oper) (d:Nat),ops.toList[i]? =some o→o.dst=some d→d<N:=by
   intro i o d j Y
   have:=List.all_eq_true.1 E.2 o (List.mem_of_getElem? j)
   rw [Y] at this;simpa [Jdr] using this
  have hI:DInv P N ops (Array.replicate ops.size false) (List.replicate ops.size false) t t g:=by
   have h0: ∀i d,(Array.replicate ops.size false).getD i d=true→d=true:=by
    intro i d h
    rw [Array.getD_eq_getD_getElem?,Array.getElem?_replicate] at h
    split at h<;>simp_all
   have J: ∀i d,(List.replicate ops.size false).getD i d=true→d=true:=by
    intro i d h
    rw [List.getD_eq_getElem?_getD,List.getElem?_replicate] at h
    split at h<;>simp_all
   refine ⟨by simp,by simp,?_,?_,?_,λ_ _=>rfl,?_,?_⟩
   ·intro i j;have:=h0 i false j;cases this
   ·intro i j;have:=h0 i false j;cases this
   ·intro i o _ _ j;have:=J i false j;cases this
   ·intro i o _ j;have:=J i false j.1;cases this
   ·intro i o _ j;have:=J i false j;cases this
  obtain ⟨k2,Z,t2,U,O,V⟩:=XbO hD hI h
  refine wp_region_any hm ?_
  have I:cnt (λi=>(Array.replicate ops.size false).getD i false) ops.size=ops.size:=by
   have: ∀m,cnt (λi=>(Array.replicate ops.size false).getD i false) m=m:=by
    intro m
    induction m with
    | zero=>rfl
    | succ m ih=>
     simp only [cnt,ih]
     have:(Array.replicate ops.size false).getD m false=false:=by
      rw [Array.getD_eq_getD_getElem?,Array.getElem?_replicate]
      split<;>rfl
     simp [this]
   exact this _
  exact Qgt hD hQ hN ops.size _ Z t2 t g n μ w.drew a k2 O V U I hs.drew he hd (Ext.refl μ) (Below.refl B w).drew
end
section
def puts (t:Env):List (Nat×Value)→Env
 | []=>t
 |(d,v)::r=>puts (put t (some d) v) r
def lfp (F:Qk→Qk):Qk:=λt g n=> ∀I:Qk,(∀t g n,F I t g n→I t g n)→I t g n
def Zc (K:Cont) (v:Value) (g:G) (n:Nat):Prop:= ∃g',Sub g' g∧K v g' n
end
section
variable {g:G} {n:Nat}
@[simp] theorem Zia (b:Bool) (K:Bool→Prop):Jbz (.bool b) K=K b:=rfl
@[simp] theorem QbG (k:IntKind) (i:Int) (K:Int→Prop):XfC (.int k i) K=K i:=rfl
@[simp] theorem Qb (l o:Nat) (K:Nat→Nat→Prop):Xc (ptr l o) K=K l o:=rfl
@[simp] theorem Xe (cs:List Value) (K:List Value→Prop):Jj (.agg cs.toArray) K=K cs:=rfl
@[simp] theorem Qd (l o:Nat) (K:Value→Prop):Xf (ptr l o) K=K (ptr l o):=rfl
@[simp] theorem XbU (a:Option Addr) (m c:Nat) (K:Value→Prop):Jak (.slice a m c) K=K (.int .i64 m):=rfl
@[simp] theorem Zi (b:Bool) (A B:Prop):Qa (.bool b) A B=((b=true→A)∧(b=false→B)):=by cases b<;>simp [Qa]
@[simp] theorem JG (b:Bool) (K:Value→Prop):kUn .not (.bool b) K=K (.bool !b):=rfl
@[simp] theorem Qif (k:IntKind) (a:Int) (K:Value→Prop):kUn .neg (.int k a) K=K (.int k (k.wrap (0-a))):=rfl
@[simp] theorem Xbi (d k:IntKind) (a:Int) (K:Value→Prop):XaQ d (.int k a) K=K (.int d (d.wrap a)):=rfl
section
variable {k:IntKind} {a b:Int} {K:Value→Prop}
@[simp] theorem Jf:Jb .int .add (.int k a) (.int k b) K=K (.int k (k.wrap (a+b))):=by simp [Jb,ZH]
@[simp] theorem ZaN:Jb .int .sub (.int k a) (.int k b) K=K (.int k (k.wrap (a-b))):=by simp [Jb,ZH]
@[simp] theorem Xeo:Jb .int .mul (.int k a) (.int k b) K=K (.int k (k.wrap (a*b))):=by simp [Jb,ZH]
@[simp] theorem Xfp:Jb .int .quo (.int k a) (.int k b) K=(b≠0∧K (.int k (k.wrap (a.tdiv b)))):=by simp [Jb,ZH]
@[simp] theorem Zck:Jb .int .rem (.int k a) (.int k b) K=(b≠0∧K (.int k (a.tmod b))):=by simp [Jb,ZH]
@[simp] theorem Jq:Jb .int .eql (.int k a) (.int k b) K=K (.bool (decide (a=b))):=by simp only [Jb,ZH,true_and];rfl
@[simp] theorem Jal:Jb .int .neq (.int k a) (.int k b) K=K (.bool (decide (a≠b))):=by
 have e:(a !=b)=decide (a≠b):=by by_cases h:a=b<;>simp [h]
 simp only [Jb,ZH,true_and,e]
@[simp] theorem Xk:Jb .int .lss (.int k a) (.int k b) K=K (.bool (decide (a<b))):=by simp [Jb,ZH]
@[simp] theorem XbQ:Jb .int .leq (.int k a) (.int k b) K=K (.bool (decide (a≤b))):=by simp [Jb,ZH]
@[simp] theorem Zbn:Jb .int .gtr (.int k a) (.int k b) K=K (.bool (decide (b<a))):=by simp [Jb,ZH]
@[simp] theorem JA:Jb .int .geq (.int k a) (.int k b) K=K (.bool (decide (b≤a))):=by simp [Jb,ZH]
@[simp] theorem ZhQ {p q:Bool}:Jb .bool .eql (.bool p) (.bool q) K=K (.bool (p==q)):=rfl
@[simp] theorem Zh0 {p q:Bool}:Jb .bool .neq (.bool p) (.bool q) K=K (.bool (!(p==q))):=rfl
@[simp] theorem Qek:Jb .ptr .eql (.pointer none) (.pointer none) K=K (.bool true):=rfl
@[simp] theorem Jeh:Jb .ptr .neq (.pointer none) (.pointer none) K=K (.bool false):=rfl
@[simp] theorem Zv {l o:Nat}:Jb .ptr .eql (ptr l o) (.pointer none) K=K (.bool false):=rfl
@[simp] theorem Xck {l o:Nat}:Jb .ptr .neq (ptr l o) (.pointer none) K=K (.bool true):=rfl
end
@[simp] theorem XC (x:Value) (xs:List Value) (K:Value→Prop):Zef (x::xs) 0 K=K x:=rfl
@[simp] theorem QC (x:Value) (xs:List Value) (o:Nat) (K:Value→Prop):Zef (x::xs) (o+1) K=Zef xs o K:=rfl
@[simp] theorem Xw (vs:List Value) (i:Nat) (K:Value→Prop):Qc (.tuple vs.toArray) i K=Zef vs i K:=rfl
@[simp] theorem Xi (cs:List Value) (K:List Value→Prop):Qf cs [] K=K cs:=rfl
@[simp] theorem Xeh (C:CT) (f:FuncId) (as xs bs:List Value) (g:G) (n:Nat) (K:Cont):Qbu C (.func (.func f) as.toArray bs.toArray) xs g n K=C f (as++xs++bs) g n K:=rfl
theorem Jci {cs:List Value} {o:Nat} {v:Value} {K:Value→Prop} (h:cs[o]? =some v) (k:K v):Zef cs o K:=by unfold Zef;rw [h];exact k
theorem Za1 {l:Nat} {cs:List Value} {bk:BK} {K:List Value→BK→Prop} (h:g l=some (.cells cs bk)) (k:K cs bk):ZaP g l K:=by unfold ZaP;rw [h];exact k
theorem Zb {l o:Nat} {cs:List Value} {bk:BK} {v:Value} {K:Value→Prop} (h:g l=some (.cells cs bk)) (j:cs[o]? =some v) (k:K v):kLd g l o K:=Za1 h (Jci j k)
theorem Jt {l o k:Nat} {cs:List Value} {bk:BK} {K:List Value→Prop} (h:g l=some (.cells cs bk)) (j:o+k≤cs.length) (kk:K ((cs.drop o).take k)):Ql g l o k K:=Za1 h ⟨j,kk⟩
theorem Qz {l o:Nat} {v:Value} {cs:List Value} {bk:BK} {K:G→Prop} (h:g l=some (.cells cs bk)) (j:bk.rw=true) (E:o<cs.length) (hc:isCell v=true) (k:K (upd g l (some (.cells (cs.set o v) bk)))):kSt g l o v K:=Za1 h ⟨j,E,hc,k⟩
theorem Xt {l o:Nat} {vs:List Value} {cs:List Value} {bk:BK} {K:G→Prop} (h:g l=some (.cells cs bk)) (j:bk.rw=true) (E:o+vs.length≤cs.length) (hc: ∀v∈vs,isCell v=true) (k:K (upd g l (some (.cells (splice cs o vs) bk)))):Qu g l o vs K:=Za1 h ⟨j,E,hc,k⟩
theorem Sub.live {g' g:G} (h:Sub g' g) {l:Nat} {b:Blk} (j:g' l=some b):g l=some b:=by
 rcases h l with e|e
 ·rw [e] at j;cases j
 ·rw [←e];exact j
theorem Sub.none {g' g:G} (h:Sub g' g) {l:Nat} (j:g l= .none):g' l= .none:=by
 rcases h l with e|e
 ·exact e
 ·rw [e];exact j
theorem Sub.new {g' g:G} (h:Sub g' g) {l:Nat} (j:g l= .none) (b:Option Blk):Sub g' (Abs.upd g l b):=h.upd_fresh b (h.none j)
theorem ZgY {g:G} {l m:Nat} {b:Blk} (j:g l=some b) (hm:g m=none) (c:Option Blk):upd g m c l=some b:=by
 rw [Zd];exact j;intro e;subst e;rw [j] at hm;cases hm
theorem Ja {K:Cont} {v:Value} {g':G} (h:Sub g' g) (k:K v g' n):Zc K v g n:=⟨g',h,k⟩
theorem XA {F:Qk→Qk} (Inv:Nat→Qk) (step: ∀(I:Qk) (m:Nat) (t:Env) (g:G) (n:Nat),(∀j t g n,j<m→Inv j t g n→I t g n)→Inv m t g n→F I t g n)
  {m:Nat} {t:Env} {g:G} {n:Nat} (h:Inv m t g n):lfp F t g n:=by
 intro I Q
 induction m using Nat.strongRecOn generalizing t g n with
 | ind m J=>exact Q t g n (step I m t g n (λj t g n E O=>J j E O) h)
def Rd (g:G) (v:Value) (z m:Nat) (cs:List Value):Prop:=
 ∃a c,v= .slice a m c∧cs.length=m*z∧(a=none∨ ∃l o,a=some ⟨l,o,none⟩)∧(0<m→ ∃l o bs bk,a=some ⟨l,o,none⟩∧g l=some (.cells bs bk)∧o+m*z≤bs.length∧(bs.drop o).take (m*z)=cs)
theorem Rd.mono {g g':G} {v:Value} {z m:Nat} {cs:List Value} (h:Rd g v z m cs) (hs:Sub g g'):Rd g' v z m cs:=by
 obtain ⟨a,c,rfl,j,O,h⟩:=h
 refine ⟨a,c,rfl,j,O,λhm=> ?_⟩
 obtain ⟨l,o,E,bk,e,J,I,Q⟩:=h hm
 exact ⟨l,o,E,bk,e,hs.live J,I,Q⟩
theorem Rd.len {v:Value} {z m:Nat} {cs:List Value} {K:Value→Prop} (h:Rd g v z m cs) (k:K (.int .i64 m)):Jak v K:=by obtain ⟨a,c,rfl,_⟩:=h;exact k
def At (g:G) (l o:Nat) (cs:List Value):Prop:= ∃bs bk,g l=some (.cells bs bk)∧o+cs.length≤bs.length∧(bs.drop o).take cs.length=cs
theorem At.mono {g g':G} {l o:Nat} {cs:List Value} (h:At g l o cs) (hs:Sub g g'):At g' l o cs:=by
 obtain ⟨E,bk,j,I⟩:=h;exact ⟨E,bk,hs.live j,I⟩
theorem At.ldN {l o k:Nat} {cs:List Value} {K:List Value→Prop} (h:At g l o cs) (E:k=cs.length) (kk:K cs):Ql g l o k K:=by
 subst E
 obtain ⟨O,bk,I,J,j⟩:=h
 exact Jt I J (by rw [j];exact kk)
theorem At.ld {l o i:Nat} {cs:List Value} {v:Value} {K:Value→Prop} (h:At g l o cs) (j:cs[i]? =some v) (kk:K v):kLd g l (o+i) K:=by
 obtain ⟨J,bk,I,O,E⟩:=h
 refine Zb I ?_ kk
 rw [←E,List.getElem?_take] at j
 split at j
 ·rw [List.getElem?_drop] at j;exact j
 ·cases j
theorem Rd.idx {v:Value} {z m:Nat} {cs:List Value} {k:IntKind} {j:Int} {K:Value→Prop} (h:Rd g v z m cs) (I:0≤j) (Q:j<m)
  (kk: ∀l o,At g l o ((cs.drop (j.toNat*z)).take z)→K (ptr l o)):Jd v (.int k j) z K:=by
 obtain ⟨a,c,rfl,J,_,h⟩:=h
 obtain ⟨l,o,O,bk,rfl,V,h2,Y⟩:=h (by omega)
 refine ⟨I,by simpa using Q,kk l _ ⟨O,bk,V,?_⟩⟩
 have U:j.toNat+1≤m:=by omega
 have Z:j.toNat*z+z≤m*z:=by
  have:=Nat.mul_le_mul_right z U
  rw [Nat.add_mul,Nat.one_mul] at this;exact this
 have E:((cs.drop (j.toNat*z)).take z).length=z:=by rw [List.length_take,List.length_drop,J];omega
 rw [E]
 refine ⟨by omega,?_⟩
 rw [←Y,List.drop_take,List.take_take,List.drop_drop]
 congr 1
 omega
theorem Rd.elems {v:Value} {z m:Nat} {cs:List Value} {K:List Value→Prop} (h:Rd g v z m cs) (kk:K cs):Xar g v m z K:=by
 obtain ⟨a,c,rfl,Q,J,h⟩:=h
 by_cases hm:m*z=0
 ·have:cs=[]:=List.eq_nil_of_length_eq_zero (by omega)
  subst this
  rcases J with rfl|⟨l,o,rfl⟩
  ·exact ⟨hm,kk⟩
  ·simp only [Xar,hm,if_true];exact kk
 ·have j:0<m:=Nat.pos_of_ne_zero (λe=>hm (by simp [e]))
  obtain ⟨l,o,U,bk,rfl,E,O,I⟩:=h j
  simp only [Xar,hm,if_false]
  exact Jt E O (by rw [I];exact kk)
theorem Rd.lit {l m z c:Nat} {cs:List Value} {bk:BK} (h:g l=some (.cells cs bk)) (j:cs.length=m*z):Rd g (.slice (some ⟨l,0,none⟩) m c) z m cs:=
 ⟨_,c,rfl,j,.inr ⟨l,0,rfl⟩,λ_=>⟨l,0,cs,bk,rfl,h,by omega,by rw [List.drop_zero,←j,List.take_length]⟩⟩
theorem Rd.nil (z:Nat):Rd g (.slice none 0 0) z 0 []:=⟨_,_,rfl,by simp,.inl rfl,λh=>absurd h (by omega)⟩
def X4:Value→Option Nat
 | .slice (some a) _ _=>some a.block
 | _=>none
def Own (g0 g:G) (v:Value) (z m:Nat) (cs:List Value):Prop:=
 (m=0∧cs=[]∧ ∃a,v= .slice a 0 0∧(a=none∨ ∃l o,a=some ⟨l,o,none⟩))∨
 (∃l c bk,v= .slice (some ⟨l,0,none⟩) m c∧g l=some (.cells cs bk)∧g0 l=none∧cs.length=m*z∧((c=m∧bk= .exact∧m<LC)∨(c=LC+z∧bk= .loose z)))
theorem Own.rd {g0:G} {v:Value} {z m:Nat} {cs:List Value} (h:Own g0 g v z m cs):Rd g v z m cs:=by
 rcases h with ⟨rfl,rfl,a,rfl,j⟩|⟨l,c,bk,rfl,E,_,I,_⟩
 ·exact ⟨a,0,rfl,by simp,j,λh=>absurd h (by omega)⟩
 ·exact Rd.lit E I
theorem Own.nil (g0 g:G) (z:Nat):Own g0 g (.slice none 0 0) z 0 []:= .inl ⟨rfl,rfl,none,rfl,.inl rfl⟩
theorem Own.empty (g0 g:G) (z l o:Nat):Own g0 g (.slice (some ⟨l,o,none⟩) 0 0) z 0 []:= .inl ⟨rfl,rfl,_,rfl,.inr ⟨l,o,rfl⟩⟩
theorem Own.lit {g0 g:G} {l m z:Nat} {cs:List Value} (h:g l=some (.cells cs .exact)) (j:g0 l=none) (E:cs.length=m*z) (hm:m<LC):Own g0 g (.slice (some ⟨l,0,none⟩) m m) z m cs:=
 .inr ⟨l,m,_,rfl,h,j,E,.inl ⟨rfl,rfl,hm⟩⟩
theorem Own.mono {g0 g g':G} {v:Value} {z m:Nat} {cs:List Value} (h:Own g0 g v z m cs) (hs:Sub g g'):Own g0 g' v z m cs:=by
 rcases h with h|⟨l,c,bk,e,E,j,I⟩
 ·exact .inl h
 ·exact .inr ⟨l,c,bk,e,hs.live E,j,I⟩
theorem Own.base {g0 j g:G} {v:Value} {z m:Nat} {cs:List Value} (h:Own j g v z m cs) (hs:Sub g0 j):Own g0 g v z m cs:=by
 rcases h with h|⟨l,c,bk,e,I,E,J⟩
 ·exact .inl h
 ·exact .inr ⟨l,c,bk,e,I,hs.none E,J⟩
theorem Own.keep {g0 g g':G} {v:Value} {z m:Nat} {cs:List Value} (h:Own g0 g v z m cs) (E: ∀l b,g l=some b→X4 v=some l→g' l=some b):Own g0 g' v z m cs:=by
 rcases h with h|⟨l,c,bk,rfl,I,j,J⟩
 ·exact .inl h
 ·exact .inr ⟨l,c,bk,rfl,E _ _ I rfl,j,J⟩
theorem Jd8 {g0:G} {v x:Value} {z m k bytes:Nat} {cs new:List Value} {K:Cont} (hs:Sub g0 g) (ho:Own g0 g v z m cs) (hx:Rd g x z k new) (E: ∀v∈new,isCell v=true)
  (hb:bytes≤1048576) (Y:(m+k)*bytes≤140737488355328) (h2:m+k<140737488355328)
  (V: ∀v' g' n',Sub g0 g'→Own g0 g' v' z (m+k) (cs++new)→(∀l b,g l=some b→X4 v≠some l→g' l=some b)→(0<k→ ∀l,X4 v'=some l→g l=none)→K v' g' n'):Zs v x z bytes g n K:=by
 obtain ⟨ax,cx,rfl,U,ac,ab⟩:=id hx
 have O: ∀{K':List Value→Prop},K' new→Xar g (.slice ax k cx) k z K':=λkk=>hx.elems kk
 have fresh: ∀{old:List Value},old=cs→cs.length=m*z→Zl (old++new) (.loose z) g n λl g n=>K (.slice (some ⟨l,0,none⟩) (m+k) (LC+z)) g n:=by
  rintro _ rfl I j
  refine V _ _ _ (hs.new j _) (.inr ⟨n,_,_,rfl,by rw [Xa],hs.none j,by rw [List.length_append,I,U,Nat.add_mul],.inr ⟨rfl,rfl⟩⟩) (λl b h _=>ZgY h j _) (λ_ l I=> ?_)
  simp [X4] at I;rw [←I];exact j
 rcases ho with ⟨rfl,rfl,a,rfl,ha⟩|⟨l,c,bk,rfl,hg,h0,I,⟨rfl,rfl,hm⟩|⟨rfl,rfl⟩⟩
 ·refine ⟨hb,Y,h2,O ⟨E,?_⟩⟩
  rw [if_pos (by decide:(0:Nat)<LC)]
  by_cases hk:0+k≤0
  ·rw [if_pos hk]
   obtain rfl:k=0:=by omega
   have j:new=[]:=List.eq_nil_of_length_eq_zero (by omega)
   subst j
   have Q:K (.slice a 0 0) g n:=V _ _ _ hs (.inl ⟨rfl,rfl,a,rfl,ha⟩) (λl b h _=>h) (λh=>absurd h (by omega))
   rcases ha with rfl|⟨l,o,rfl⟩
   ·exact ⟨rfl,Q⟩
   ·simpa using Q
  ·rw [if_neg hk]
   have:Xar g (.slice a 0 0) 0 z λold=>Zl (old++new) (.loose z) g n λl g n=>K (.slice (some ⟨l,0,none⟩) (0+k) (LC+z)) g n:=by
    have kk:=fresh (old:=[]) rfl (by simp)
    rcases ha with rfl|⟨l,o,rfl⟩
    ·exact ⟨by simp,kk⟩
    ·simp only [Xar,Nat.zero_mul,if_true];exact kk
   exact this
 ·refine ⟨hb,Y,h2,O ⟨E,?_⟩⟩
  rw [if_pos hm]
  by_cases hk:c+k≤c
  ·rw [if_pos hk]
   obtain rfl:k=0:=by omega
   have j:new=[]:=List.eq_nil_of_length_eq_zero (by omega)
   subst j
   simp only [if_true,Nat.add_zero]
   exact V _ _ _ hs (by rw [List.append_nil];exact .inr ⟨l,c,_,rfl,hg,h0,I,.inl ⟨rfl,rfl,hm⟩⟩) (λl b h _=>h) (λh=>absurd h (by omega))
  ·rw [if_neg hk]
   have hr:Rd g (.slice (some ⟨l,0,none⟩) c c) z c cs:=Rd.lit hg I
   exact hr.elems (fresh rfl I)
 ·refine ⟨hb,Y,h2,O ⟨E,?_⟩⟩
  rw [if_neg (by omega: ¬LC+z<LC)]
  refine ⟨rfl,Za1 hg ⟨rfl,by omega,λj=> ?_⟩⟩
  have e:((cs.drop 0).take (m*z))=cs:=by rw [List.drop_zero,←I,List.take_length]
  rw [e]
  refine V _ _ _ ((hs.upd_fresh _ h0).upd_fresh _ (hs.none j)) (.inr ⟨n,_,_,rfl,by rw [Xa],hs.none j,by rw [List.length_append,I,U,Nat.add_mul],.inr ⟨rfl,rfl⟩⟩) ?_ ?_
  ·intro l' b h Z
   have J:l'≠l:=by intro e;subst e;simp [X4] at Z
   have aa:l'≠n:=by intro e;subst e;rw [j] at h;cases h
   rw [Zd _ _ aa,Zd _ _ J];exact h
  ·intro _ l' J
   simp [X4] at J;rw [←J];exact j
end
section
variable {g:G} {n:Nat}
theorem Xh {α:Type} (enc:α→List Value) (z:Nat) (j: ∀x,(enc x).length=z): ∀(xs:List α),(xs.map enc).flatten.length=xs.length*z
 | []=>by simp
 | x::xs=>by simp [Xh enc z j xs,j,Nat.add_mul];omega
theorem XbK {α:Type} (enc:α→List Value) (z:Nat) (E: ∀x,(enc x).length=z): ∀(xs:List α) (j:Nat) (x:α),xs[j]? =some x→((xs.map enc).flatten.drop (j*z)).take z=enc x
 | [],j,x,h=>by simp at h
 | y::ys,0,x,h=>by
  simp at h;subst h
  simp [←E y]
 | y::ys,j+1,x,h=>by
  have:=XbK enc z E ys j x (by simpa using h)
  rw [←this]
  have e:(j+1)*z=z+j*z:=by rw [Nat.add_mul];omega
  simp only [List.map_cons,List.flatten_cons,e]
  rw [←List.drop_drop,List.drop_left' (E y)]
def Sl {α:Type} (enc:α→List Value) (z:Nat) (g:G) (v:Value) (xs:List α):Prop:=Rd g v z xs.length (xs.map enc).flatten
def OwnS {α:Type} (enc:α→List Value) (z:Nat) (g0 g:G) (v:Value) (xs:List α):Prop:=Own g0 g v z xs.length (xs.map enc).flatten
section
variable {α:Type} {enc:α→List Value} {z:Nat} {v:Value} {xs:List α}
theorem Sl.mono {g':G} (h:Sl enc z g v xs) (hs:Sub g g'):Sl enc z g' v xs:=Rd.mono h hs
theorem Sl.len {K:Value→Prop} (h:Sl enc z g v xs) (k:K (.int .i64 xs.length)):Jak v K:=Rd.len h k
theorem Sl.idx (O: ∀x,(enc x).length=z) {k:IntKind} {j:Nat} {x:α} {K:Value→Prop} (h:Sl enc z g v xs) (E:xs[j]? =some x) (kk: ∀l o,At g l o (enc x)→K (ptr l o)):Jd v (.int k j) z K:=by
 have J:j<xs.length:=by rcases Nat.lt_or_ge j xs.length with h|h;exact h;rw [List.getElem?_eq_none h] at E;cases E
 refine Rd.idx h (by omega) (by omega) (λl o I=>kk l o ?_)
 simpa [XbK enc z O xs j x E] using I
theorem Sl.nil:Sl enc z g (.slice none 0 0) ([]:List α):=Rd.nil z
theorem OwnS.sl {g0:G} (h:OwnS enc z g0 g v xs):Sl enc z g v xs:=Own.rd h
theorem OwnS.mono {g0 g':G} (h:OwnS enc z g0 g v xs) (hs:Sub g g'):OwnS enc z g0 g' v xs:=Own.mono h hs
theorem OwnS.base {g0 j:G} (h:OwnS enc z j g v xs) (hs:Sub g0 j):OwnS enc z g0 g v xs:=Own.base h hs
theorem OwnS.nil {g0:G}:OwnS enc z g0 g (.slice none 0 0) ([]:List α):=Own.nil _ _ _
theorem OwnS.keep {g0 g':G} (h:OwnS enc z g0 g v xs) (j: ∀l b,g l=some b→X4 v=some l→g' l=some b):OwnS enc z g0 g' v xs:=Own.keep h j
theorem OwnS.empty {g0:G} {l o:Nat}:OwnS enc z g0 g (.slice (some ⟨l,o,none⟩) 0 0) ([]:List α):=Own.empty _ _ _ _ _
theorem OwnS.append {g0:G} {x:Value} {bytes:Nat} {ys:List α} {K:Cont} (U:OwnS enc z g0 g v xs) (hs:Sub g0 g) (hx:Sl enc z g x ys) (hc: ∀y,∀v∈enc y,isCell v=true)
  (hb:bytes≤1048576) (J:(xs.length+ys.length)*bytes≤140737488355328) (Q:xs.length+ys.length<140737488355328)
  (O: ∀j g' n',Sub g0 g'→OwnS enc z g0 g' j (xs++ys)→(∀l b,g l=some b→X4 v≠some l→g' l=some b)→(0<ys.length→ ∀l,X4 j=some l→g l=none)→K j g' n'):Zs v x z bytes g n K:=by
 refine Jd8 hs U hx ?_ hb J Q (λj g' n' a b c d=>O j g' n' a ?_ c d)
 ·intro w E
  obtain ⟨l,I,E⟩:=List.mem_flatten.1 E
  obtain ⟨y,_,rfl⟩:=List.mem_map.1 I
  exact hc y w E
 ·simpa [OwnS] using b
theorem Sl.one {l c:Nat} {x:α} {bk:BK} (j:(enc x).length=z) (h:g l=some (.cells (enc x) bk)):Sl enc z g (.slice (some ⟨l,0,none⟩) 1 c) [x]:=by
 have:=Rd.lit (g:=g) (l:=l) (m:=1) (z:=z) (c:=c) (cs:=enc x) (bk:=bk) h (by omega)
 simpa [Sl] using this
end
def XcO (i:Int):List Value:=[.int .u64 i]
theorem Xfu (i:Int):(XcO i).length=1:=rfl
theorem QcN (i:Int): ∀v∈XcO i,isCell v=true:=by simp [XcO,isCell]
theorem Qg {a:Int} (j: -9223372036854775808≤a) (E:a≤9223372036854775807):IntKind.i64.wrap a=a:=IntWalk.i64_in a ⟨j,E⟩
theorem JL {a:Nat} (j:a<9223372036854775807):IntKind.i64.wrap ((a:Int)+1)=((a+1:Nat):Int):=by rw [Qg (by omega) (by omega)];omega
def X0:XT:=λ_ _ _ _ _ _=>False
theorem Xb:Qep X0:=λ_ _ _ _ _ _ _ _ _ _ h=>h.elim
end
section
variable {g:G} {n:Nat}
section
variable {α:Type} {enc:α→List Value} {z:Nat}
theorem ZaW (xs ys:List α):((xs++ys).map enc).flatten=(xs.map enc).flatten++(ys.map enc).flatten:=by simp
theorem XcP (E: ∀x,(enc x).length=z) (xs:List α) (i:Nat) (I:i≤xs.length):((xs.map enc).flatten).take (i*z)=((xs.take i).map enc).flatten:=by
 have e:xs=xs.take i++xs.drop i:=(List.take_append_drop i xs).symm
 have j:((xs.take i).map enc).flatten.length=i*z:=by rw [Xh enc z E,List.length_take];congr 1;omega
 conv=>lhs;rw [e,ZaW,←j]
 rw [List.take_left]
theorem QcU (E: ∀x,(enc x).length=z) (xs:List α) (i:Nat) (I:i≤xs.length):((xs.map enc).flatten).drop (i*z)=((xs.drop i).map enc).flatten:=by
 have e:xs=xs.take i++xs.drop i:=(List.take_append_drop i xs).symm
 have j:((xs.take i).map enc).flatten.length=i*z:=by rw [Xh enc z E,List.length_take];congr 1;omega
 conv=>lhs;rw [e,ZaW,←j]
 rw [List.drop_left]
theorem JaV (j: ∀x,(enc x).length=z) (xs ys:List α) (i:Nat) (E:i+ys.length≤xs.length):splice ((xs.map enc).flatten) (i*z) ((ys.map enc).flatten)=(((xs.take i++ys++xs.drop (i+ys.length))).map enc).flatten:=by
 unfold splice
 rw [XcP j xs i (by omega),Xh enc z j,←Nat.add_mul,QcU j xs _ (by omega)]
 simp
theorem Xfs (E: ∀x,(enc x).length=z) (xs:List α) (i:Nat) (y:α) (j:i<xs.length):splice ((xs.map enc).flatten) (i*z) (enc y)=((xs.set i y).map enc).flatten:=by
 have:=JaV E xs [y] i (by simp;omega)
 simp only [List.map_cons,List.map_nil,List.flatten_cons,List.flatten_nil,List.append_nil,List.length_singleton] at this
 rw [this,List.set_eq_take_append_cons_drop,if_pos j]
 simp
theorem Jab (y:α): ∀(k:Nat),reps k (enc y)=((List.replicate k y).map enc).flatten:=by
 intro k;simp [reps,List.map_replicate]
def Blk1 (enc:α→List Value) (g:G) (l:Nat) (xs:List α) (bk:BK):Prop:=g l=some (.cells (xs.map enc).flatten bk)
theorem Blk1.mono {g':G} {l:Nat} {xs:List α} {bk:BK} (h:Blk1 enc g l xs bk) (hs:Sub g g'):Blk1 enc g' l xs bk:=hs.live h
theorem Blk1.sl {l c i m:Nat} {xs:List α} {bk:BK} (j: ∀x,(enc x).length=z) (h:Blk1 enc g l xs bk) (I:i+m≤xs.length):Sl enc z g (.slice (some ⟨l,i*z,none⟩) m c) ((xs.drop i).take m):=by
 have E:((xs.drop i).take m).length=m:=by rw [List.length_take,List.length_drop];omega
 unfold Sl
 rw [E]
 refine ⟨_,c,rfl,?_,.inr ⟨l,i*z,rfl⟩,λ_=>⟨l,i*z,_,bk,rfl,h,?_,?_⟩⟩
 ·rw [Xh enc z j,E]
 ·rw [Xh enc z j,←Nat.add_mul];exact Nat.mul_le_mul_right _ I
 ·rw [QcU j xs i (by omega),XcP j _ m (by rw [List.length_drop];omega)]
theorem Blk1.ldN {l i:Nat} {xs:List α} {bk:BK} {x:α} {K:List Value→Prop} (I: ∀x,(enc x).length=z) (h:Blk1 enc g l xs bk) (j:xs[i]? =some x) (k:K (enc x)):Ql g l (i*z) z K:=by
 have E:i<xs.length:=by rcases Nat.lt_or_ge i xs.length with h|h;exact h;rw [List.getElem?_eq_none h] at j;cases j
 refine Jt h ?_ (by rw [XbK enc z I xs i x j];exact k)
 rw [Xh enc z I]
 have:=Nat.mul_le_mul_right z (show i+1≤xs.length from E)
 rw [Nat.add_mul,Nat.one_mul] at this;exact this
theorem Blk1.stN {l i:Nat} {xs:List α} {bk:BK} {y:α} {K:G→Prop} (j: ∀x,(enc x).length=z) (hc: ∀x,∀v∈enc x,isCell v=true) (h:Blk1 enc g l xs bk) (I:bk.rw=true) (E:i<xs.length)
  (k:Blk1 enc (upd g l (some (.cells ((xs.set i y).map enc).flatten bk))) l (xs.set i y) bk→K (upd g l (some (.cells ((xs.set i y).map enc).flatten bk)))):Qu g l (i*z) (enc y) K:=by
 refine Xt h I ?_ (hc y) ?_
 ·rw [Xh enc z j,j]
  have:=Nat.mul_le_mul_right z (show i+1≤xs.length from E)
  rw [Nat.add_mul,Nat.one_mul] at this;exact this
 ·rw [Xfs j xs i y E]
  exact k (Xa _ _ _)
end
theorem Zr {l o m c z:Nat} {k:IntKind} {j:Int} {K:Value→Prop} (E:0≤j) (I:j<m) (kk:K (ptr l (o+j.toNat*z))):Jd (.slice (some ⟨l,o,none⟩) m c) (.int k j) z K:=⟨E,I,kk⟩
theorem Qc7 (l o n:Nat):(⟨l,o,none⟩:Addr).add n=⟨l,o+n,none⟩:=by unfold Addr.add;split<;>simp_all
theorem Zbh {l o m c z f:Nat} {K:Value→Prop} (hc:(c<LC∧m≤c)∨c=LC+z) (I:f≤m) (k: ∀o' E,(f<m→o'=o+f*z)→K (.slice (some ⟨l,o',none⟩) (m-f) E)):
  Xx (.slice (some ⟨l,o,none⟩) m c) (some (.int .i64 f)) none none z K:=by
 rcases hc with ⟨hc,hm⟩|hc
 ·simp only [Xx,if_pos hc,ZW,QbG]
  refine ⟨by omega,by omega,?_⟩
  rw [Int.toNat_natCast]
  by_cases e:c=f
  ·rw [if_pos e];exact k _ _ (λh=>by omega)
  ·rw [if_neg e]
   simp only [Option.map_some,Qc7]
   exact k _ _ (λ_=>rfl)
 ·have j: ¬c<LC:=by omega
  simp only [Xx,if_neg j,ZW,QbG]
  refine ⟨hc,by omega,by omega,?_⟩
  rw [Int.toNat_natCast]
  simp only [Option.map_some,Qc7]
  exact k _ _ (λ_=>rfl)
theorem Zcb {l o m c z f:Nat} {K:Value→Prop} (hc:(c<LC∧m≤c)∨c=LC+z) (E:f≤m) (k:K (.slice (some ⟨l,o,none⟩) f c)):
  Xx (.slice (some ⟨l,o,none⟩) m c) none (some (.int .i64 f)) none z K:=by
 rcases hc with ⟨hc,hm⟩|hc
 ·simp only [Xx,if_pos hc,ZW,QbG]
  refine ⟨by omega,by omega,?_⟩
  simp only [Int.toNat_natCast,Nat.zero_mul,Option.map_some,Qc7,Nat.add_zero,Nat.sub_zero,ite_self]
  exact k
 ·have j: ¬c<LC:=by omega
  simp only [Xx,if_neg j,ZW,QbG]
  refine ⟨hc,by omega,by omega,?_⟩
  simp only [Int.toNat_natCast,Nat.zero_mul,Option.map_some,Qc7,Nat.add_zero,Nat.sub_zero]
  rw [←hc];exact k
theorem Blk1.clear {α:Type} {enc:α→List Value} {z:Nat} {l o f c:Nat} {xs:List α} {bk:BK} {y:α} {K:Value→G→Prop} (E: ∀x,(enc x).length=z) (hc: ∀x,∀v∈enc x,isCell v=true) (h:Blk1 enc g l xs bk) (U:bk.rw=true)
  (Z:f≤xs.length) (Y:f<xs.length→o=0+f*z) (V:f=xs.length→K undef g)
  (k: ∀j,j.take f=xs.take f→j.length=xs.length→Blk1 enc (upd g l (some (.cells (j.map enc).flatten bk))) l j bk→K undef (upd g l (some (.cells (j.map enc).flatten bk)))):Xaz (.slice (some ⟨l,o,none⟩) (xs.length-f) c) (enc y) g K:=by
 simp only [Xaz]
 by_cases hz0:z=0
 ·rw [if_pos (.inr (List.eq_nil_of_length_eq_zero (by rw [E,hz0])))]
  have O: ∀(l:List α),(l.map enc).flatten=[]:=λl=>List.eq_nil_of_length_eq_zero (by rw [Xh enc z E,hz0,Nat.mul_zero])
  have:=k xs rfl rfl (by unfold Blk1;rw [Xa])
  have e:upd g l (some (.cells (xs.map enc).flatten bk))=g:=by
   funext i;by_cases I:i=l
   ·subst I;rw [Xa];exact h.symm
   ·rw [Zd _ _ I]
  rwa [e] at this
 by_cases hl:xs.length-f=0
 ·rw [if_pos (.inl hl)];exact V (by omega)
 ·rw [if_neg (by rintro (h|h);exact hl h;have:=E y;rw [h] at this;exact hz0 this.symm)]
  rw [Y (by omega),Nat.zero_add,Jab]
  have I:f+(List.replicate (xs.length-f) y).length≤xs.length:=by rw [List.length_replicate];omega
  refine Xt h U ?_ ?_ ?_
  ·rw [Xh enc z E,Xh enc z E,←Nat.add_mul];exact Nat.mul_le_mul_right _ I
  ·intro v J
   obtain ⟨w,Q,J⟩:=List.mem_flatten.1 J
   obtain ⟨x,_,rfl⟩:=List.mem_map.1 Q
   exact hc x v J
  ·rw [JaV E xs _ f I]
   refine k _ ?_ ?_ (Xa _ _ _)
   ·rw [List.append_assoc,List.take_append_of_le_length (by rw [List.length_take];omega),List.take_take];congr 1;omega
   ·simp;omega
theorem QeM {α:Type} {ys:List α} {f:Nat} {e:α} (h:f<ys.length):(ys.set f e).take (f+1)=ys.take f++[e]:=by
 rw [List.take_add_one,List.getElem?_set_self h,List.take_set_of_le (Nat.le_refl _)];rfl
def Cap (v:Value) (z:Nat):Prop:=match v with
 | .slice _ m c=>(c<LC∧m≤c)∨c=LC+z
 | _=>False
theorem Own.cap {g0:G} {v:Value} {z m:Nat} {cs:List Value} (h:Own g0 g v z m cs):Cap v z:=by
 rcases h with ⟨rfl,rfl,a,rfl,j⟩|⟨l,c,bk,rfl,E,_,I,⟨rfl,_,h⟩|⟨rfl,_⟩⟩
 ·exact .inl ⟨by decide,Nat.le_refl _⟩
 ·exact .inl ⟨h,Nat.le_refl _⟩
 ·exact .inr rfl
theorem OwnS.cap {α:Type} {enc:α→List Value} {z:Nat} {g0:G} {v:Value} {xs:List α} (h:OwnS enc z g0 g v xs):Cap v z:=Own.cap h
section
variable {α:Type} {enc:α→List Value} {z:Nat}
theorem Sl.to {v:Value} {xs:List α} {f:Nat} {K:Value→Prop} (V: ∀x,(enc x).length=z) (h:Sl enc z g v xs) (hc:Cap v z) (Q:f≤xs.length) (k: ∀I,Sl enc z g I (xs.take f)→Cap I z→K I):
  Xx v none (some (.int .i64 f)) none z K:=by
 obtain ⟨a,c,rfl,hl,Y,hg⟩:=h
 have j:(xs.take f).length=f:=by rw [List.length_take];omega
 have O:((xs.take f).map enc).flatten=((xs.map enc).flatten).take (f*z):=(XcP V xs f Q).symm
 have hs: ∀U,Sl enc z g (.slice a f U) (xs.take f):=by
  intro U
  unfold Sl
  rw [j]
  refine ⟨a,U,rfl,by rw [Xh enc z V,j],Y,λh0=> ?_⟩
  obtain ⟨l,o,bs,bk,E,Z,h3,h4⟩:=hg (by omega)
  have:f*z≤xs.length*z:=Nat.mul_le_mul_right _ Q
  refine ⟨l,o,bs,bk,E,Z,by omega,?_⟩
  rw [O,←h4,List.take_take,Nat.min_eq_left this]
 rcases Y with rfl|⟨l,o,rfl⟩
 ·rcases hc with ⟨hc,hm⟩|hc
  ·simp only [Xx,if_pos hc,ZW,QbG]
   refine ⟨by omega,by omega,?_⟩
   simp only [Int.toNat_natCast,Option.map_none,ite_self,Nat.sub_zero]
   exact k _ (hs _) (.inl ⟨hc,by omega⟩)
  ·have J: ¬c<LC:=by omega
   simp only [Xx,if_neg J,ZW,QbG]
   refine ⟨hc,by omega,by omega,?_⟩
   simp only [Int.toNat_natCast,Option.map_none,Nat.sub_zero]
   exact k _ (hs _) (.inr rfl)
 ·exact Zcb hc Q (k _ (hs _) (by rcases hc with ⟨E,Z⟩|h;exact .inl ⟨E,by omega⟩;exact .inr h))
theorem Sl.from {v:Value} {xs:List α} {f:Nat} {K:Value→Prop} (hz: ∀x,(enc x).length=z) (h:Sl enc z g v xs) (hc:Cap v z) (hf:f≤xs.length) (k: ∀v',Sl enc z g v' (xs.drop f)→K v'):
  Xx v (some (.int .i64 f)) none none z K:=by
 obtain ⟨a,c,rfl,hl,ha,j⟩:=h
 have I:(xs.drop f).length=xs.length-f:=List.length_drop ..
 rcases ha with rfl|⟨l,o,rfl⟩
 ·have h0:xs.length=0:=by
   rcases Nat.eq_zero_or_pos xs.length with h|h
   ·exact h
   ·obtain ⟨l,o,_,_,U,_⟩:=j h;cases U
  have V:xs=[]:=List.eq_nil_of_length_eq_zero h0
  subst V
  obtain rfl:f=0:=by simpa using hf
  have hs: ∀O,Sl enc z g (.slice none 0 O) ([]:List α):=λO=>⟨_,O,rfl,by simp,.inl rfl,λh=>absurd h (by simp)⟩
  rcases hc with ⟨hc,hm⟩|hc
  ·simp only [Xx,if_pos hc,ZW,QbG]
   refine ⟨by simp,by simp,?_⟩
   simp only [Option.map_none,ite_self]
   exact k _ (hs _)
  ·have Z: ¬c<LC:=by omega
   simp only [Xx,if_neg Z,ZW,QbG]
   refine ⟨hc,by simp,by simp,?_⟩
   simp only [Option.map_none]
   exact k _ (hs _)
 ·refine Zbh hc hf (λo' O Q=>k _ ?_)
  unfold Sl
  rw [I]
  refine ⟨_,O,rfl,by rw [Xh enc z hz,I],.inr ⟨l,o',rfl⟩,λh0=> ?_⟩
  have Y:f<xs.length:=by clear j Q;omega
  have J:0<xs.length:=by clear j Q;omega
  have E:=Q Y
  have e1:xs.length*z=f*z+(xs.length-f)*z:=by rw [←Nat.add_mul];congr 1;clear j Q;omega
  obtain ⟨l1,o1,bs,bk,U,h2,h3,h4⟩:=j J
  obtain ⟨rfl,rfl⟩:l=l1∧o=o1:=by simpa using U
  clear U j Q
  refine ⟨l,o',bs,bk,rfl,h2,by rw [E];omega,?_⟩
  rw [←QcU hz xs f hf,←h4,E,List.drop_take,List.drop_drop]
  congr 1
  rw [e1];omega
end
end
section
variable {g:G} {n:Nat}
def hide (g:G) (la ls:Nat):G:=upd (upd g la none) ls none
theorem ZbR (g:G) (la ls:Nat):Sub (hide g la ls) g:=λi=>by
 unfold hide
 by_cases h1:i=ls
 ·subst h1;exact .inl (Xa _ _ _)
 ·rw [Zd _ _ h1]
  by_cases h2:i=la
  ·subst h2;exact .inl (Xa _ _ _)
  ·rw [Zd _ _ h2];exact .inr rfl
theorem Jgk (g:G) (la ls:Nat):hide g la ls ls=none:=Xa _ _ _
theorem Sub.hide {g0 g:G} {la ls:Nat} (h:Sub g0 g) (j:g0 la= .none) (hs:g0 ls= .none):Sub g0 (Abs.hide g la ls):=λi=>by
 unfold Abs.hide
 by_cases h1:i=ls
 ·subst h1;exact .inl hs
 ·rw [Zd _ _ h1]
  by_cases h2:i=la
  ·subst h2;exact .inl j
  ·rw [Zd _ _ h2];exact h i
theorem Jbd {g g':G} {la ls:Nat} (h:Sub g g'):Sub (hide g la ls) (hide g' la ls):=(h.upd la none).upd ls none
theorem Zfw (g:G) (la ls:Nat) (b:Option Blk):hide (upd g la b) la ls=hide g la ls:=by
 unfold hide;congr 1
 funext i
 by_cases h:i=la
 ·subst h;rw [Xa,Xa]
 ·rw [Zd _ _ h,Zd _ _ h,Zd _ _ h]
theorem Qq {l m:Nat} {b:Blk} (j:g l=some b) (hm:g m=none):m≠l:=by
 intro e;subst e;rw [j] at hm;cases hm
theorem Z6 {la ls l:Nat} {b:Blk} (j:l≠la) (E:l≠ls) (h:g l=some b):hide g la ls l=some b:=by
 unfold hide;rw [Zd _ _ E,Zd _ _ j];exact h
def Qh5 (v:Value) (la ls:Nat):Prop:= ∀l,X4 v=some l→l≠la∧l≠ls
theorem Sl.keep {α:Type} {enc:α→List Value} {z:Nat} {g':G} {v:Value} {xs:List α} (h:Sl enc z g v xs) (E: ∀l b,g l=some b→X4 v=some l→g' l=some b):Sl enc z g' v xs:=by
 obtain ⟨a,c,rfl,I,U,h⟩:=h
 refine ⟨a,c,rfl,I,U,λj=> ?_⟩
 obtain ⟨l,o,J,bk,rfl,O,Q⟩:=h j
 exact ⟨l,o,J,bk,rfl,E l _ O rfl,Q⟩
theorem Sl.hide {α:Type} {enc:α→List Value} {z la ls:Nat} {g':G} {v:Value} {xs:List α} (h:Sl enc z g v xs) (j:Qh5 v la ls) (hs:Sub (Abs.hide g la ls) g'):Sl enc z g' v xs:=
 h.keep λl _ E hb=>hs.live (Z6 (j l hb).1 (j l hb).2 E)
theorem OwnS.hide {α:Type} {enc:α→List Value} {z la ls:Nat} {g0 g':G} {v:Value} {xs:List α} (h:OwnS enc z g0 g v xs) (j:Qh5 v la ls) (hs:Sub (Abs.hide g la ls) g'):OwnS enc z g0 g' v xs:=
 h.keep λl _ E hb=>hs.live (Z6 (j l hb).1 (j l hb).2 E)
end
section
variable {g:G} {n:Nat}
section
variable {α:Type}
def Qio {β:Type} (f:α→β) (z:β):Option α→β
 | some x=>f x
 | none=>z
def MpE (ev:α→Value) (kk:IntKind) (ms:List (Int×α)):List (Value×Value):=ms.map λp=>(.int kk p.1,ev p.2)
def spos:List (Int×α)→Int→Option Nat
 | [],_=>none
 | p::r,a=>if a=p.1 then some 0 else (spos r a).map (· +1)
def Xhe:List (Int×α)→Int→Option α
 | [],_=>none
 | p::r,a=>if a=p.1 then some p.2 else Xhe r a
def Zc0:List (Int×α)→Int→α→List (Int×α)
 | [],a,x=>[(a,x)]
 | p::r,a,x=>if a=p.1 then (a,x)::r else p::Zc0 r a x
theorem Jet (ev:α→Value) (kk:IntKind) (a:Int): ∀(ms:List (Int×α)) (i:Nat),Jef kk a (MpE ev kk ms) i=some ((spos ms a).map (· +i))
 | [],i=>rfl
 | p::r,i=>by
  simp only [MpE,List.map_cons,Jef,spos,if_true]
  split
  ·simp
  ·have:=Jet ev kk a r (i+1)
   simp only [MpE] at this
   rw [this];cases spos r a<;>simp;omega
theorem Jfm: ∀(ms:List (Int×α)) (a:Int),(match spos ms a with|some i=> ∃x,ms[i]? =some (a,x)∧Xhe ms a=some x|none=>Xhe ms a=none)
 | [],a=>rfl
 | p::r,a=>by
  have j:=Jfm r a
  simp only [spos,Xhe]
  by_cases h:a=p.1
  ·simp only [if_pos h];exact ⟨p.2,by simp [h],rfl⟩
  ·simp only [if_neg h]
   cases hs:spos r a with
   | none=>rw [hs] at j;exact j
   | some i=>rw [hs] at j;obtain ⟨x,E,I⟩:=j;exact ⟨x,by simpa using E,I⟩
theorem Jfq: ∀(ms:List (Int×α)) (a:Int) (x:α),Zc0 ms a x=(match spos ms a with|some i=>ms.set i (a,x)|none=>ms++[(a,x)])
 | [],a,x=>rfl
 | p::r,a,x=>by
  have j:=Jfq r a x
  simp only [spos,Zc0]
  by_cases h:a=p.1
  ·simp [if_pos h]
  ·simp only [if_neg h,j]
   cases spos r a<;>rfl
variable {ev:α→Value} {kk:IntKind} {l:Nat} {ms:List (Int×α)} {a:Int}
theorem Qd5 {z:Value} {K:Value→Prop} (h:g l=some (.map (MpE ev kk ms))) (k:K (Qio (λx=> .tuple #[ev x,.bool true]) (.tuple #[z,.bool false]) (Xhe ms a))):Qce kk (.map (some l)) (.int kk a) z true g K:=by
 have hs:=Jfm ms a
 refine ⟨rfl,?_⟩
 show JeE g l _
 unfold JeE;rw [h]
 show JcW kk a _ _
 unfold JcW
 rw [Jet]
 cases hp:spos ms a with
 | none=>rw [hp] at hs;rw [hs] at k;exact k
 | some i=>
  rw [hp] at hs
  obtain ⟨x,j,E⟩:=hs
  rw [E] at k
  show kAt _ (i+0) _
  unfold kAt
  simp only [MpE,List.getElem?_map,Nat.add_zero,j,Option.map_some]
  exact k
theorem JgO {x:α} {K:G→Prop} (h:g l=some (.map (MpE ev kk ms))) (k:K (upd g l (some (.map (MpE ev kk (Zc0 ms a x)))))):ZaV kk (.map (some l)) (.int kk a) (ev x) g K:=by
 refine ⟨rfl,?_⟩
 show JeE g l _
 unfold JeE;rw [h]
 show JcW kk a _ _
 unfold JcW
 rw [Jet]
 rw [Jfq] at k
 cases hp:spos ms a with
 | none=>rw [hp] at k;simpa [MpE] using k
 | some i=>rw [hp] at k;simpa [MpE,List.map_set] using k
end
end
section
def Xal (P:Program) (C:CT) (N:Nat) (J:Qk):List Nat→Code→Qbk→Qk
 | [],_,_=>J
 | i::p,.seq a b,Q=>match i with
  | 0=>Xal P C N J p a (JdV (Zau P C N b Q) Q)
  | _=>Zau P C N a (JdV (Xal P C N J p b Q) Q)
 | i::p,.cond c a b,Q=>λt g n=>match Qd2 c with
  | false=>False
  | true=>match i with
   | 0=>Qa (ev t c) (Xal P C N J p a Q t g n) (Zau P C N b Q t g n)
   | _=>Qa (ev t c) (Zau P C N a Q t g n) (Xal P C N J p b Q t g n)
 | _::p,.block id c,Q=>Xal P C N J p c (Zdf id Q)
 | _::_,c,Q=>Zau P C N c Q
def XaN (P:Program) (C:CT) (N:Nat):List Nat→Code→Qbk→Qk
 | [],c,Q=>Zau P C N c Q
 | i::p,.seq a b,Q=>match i with
  | 0=>XaN P C N p a (JdV (Zau P C N b Q) Q)
  | _=>XaN P C N p b Q
 | i::p,.cond _ a b,Q=>match i with
  | 0=>XaN P C N p a Q
  | _=>XaN P C N p b Q
 | _::p,.block id c,Q=>XaN P C N p c (Zdf id Q)
 | _::_,_,_=>λ_ _ _=>True
theorem JaF (P:Program) (C:CT) (N:Nat): ∀(p:List Nat) (c:Code) (Q:Qbk),Xal P C N (XaN P C N p c Q) p c Q=Zau P C N c Q
 | [],c,Q=>by unfold Xal XaN;rfl
 | i::p,c,Q=>by
  cases c with
  | seq a b=>
   match i with
   | 0=>exact JaF P C N p a _
   | i+1=>
    show Zau P C N a (JdV (Xal P C N (XaN P C N p b Q) p b Q) Q)=Zau P C N (.seq a b) Q
    rw [JaF P C N p b Q];rfl
  | cond c a b=>
   funext t g n
   match i with
   | 0=>
    show (match Qd2 c with|false=>False|true=>Qa (ev t c) (Xal P C N (XaN P C N p a Q) p a Q t g n) (Zau P C N b Q t g n))=Zau P C N (.cond c a b) Q t g n
    rw [JaF P C N p a Q];rfl
   | i+1=>
    show (match Qd2 c with|false=>False|true=>Qa (ev t c) (Zau P C N a Q t g n) (Xal P C N (XaN P C N p b Q) p b Q t g n))=Zau P C N (.cond c a b) Q t g n
    rw [JaF P C N p b Q];rfl
  | block id c=>exact JaF P C N p c _
  | _=>rfl
def ZbP (P:Program) (C:CT) (p:List Nat) (J:Qk) (f:FuncId) (args:List Value) (g:G) (n:Nat) (K:Cont):Prop:=
 match P.funcs[f]? with
 | some fn=>match fn.body,fn.name== "runtime.NumGoroutine",decide (args.length≤fn.ntmps) with
  | some c,false,true=>Xal P C fn.ntmps J p c (QhP P fn.results.toList K) (Qi args) g n
  | _,_,_=>False
 | none=>False
def Jag (P:Program) (C:CT) (p:List Nat) (f:FuncId) (K:Cont):Qk:=
 match P.funcs[f]? with
 | some fn=>match fn.body with
  | some c=>XaN P C fn.ntmps p c (QhP P fn.results.toList K)
  | none=>λ_ _ _=>True
 | none=>λ_ _ _=>True
theorem Xbe (P:Program) (C:CT) (p:List Nat) (f:FuncId) (args:List Value) (g:G) (n:Nat) (K:Cont):ZbP P C p (Jag P C p f K) f args g n K=Qe P C f args g n K:=by
 unfold ZbP Jag Qe
 cases P.funcs[f]? with
 | none=>rfl
 | some j=>
  simp only
  cases j.body with
  | none=>rfl
  | some c=>
   simp only
   cases (j.name== "runtime.NumGoroutine")<;>cases decide (args.length≤j.ntmps)<;>first|rfl|(show Xal P C j.ntmps _ p c _ _ g n=Zau P C j.ntmps c _ _ g n;rw [JaF])
end
section
def XaV (P:Program) (C:CT) (N:Nat) (J:Qk):List Nat→List Nat→Code→Qbk→Qk
 | [],q,c,Q=>Xal P C N J q c Q
 | i::p,q,.seq a b,Q=>match i with
  | 0=>XaV P C N J p q a (JdV (Zau P C N b Q) Q)
  | _=>XaV P C N J p q b Q
 | i::p,q,.cond _ a b,Q=>match i with
  | 0=>XaV P C N J p q a Q
  | _=>XaV P C N J p q b Q
 | _::p,q,.block id c,Q=>XaV P C N J p q c (Zdf id Q)
 | _::_,_,_,_=>λ_ _ _=>True
theorem Zas (P:Program) (C:CT) (N:Nat): ∀(p q:List Nat) (c:Code) (Q:Qbk),XaV P C N (XaN P C N (p++q) c Q) p q c Q=XaN P C N p c Q
 | [],q,c,Q=>by
  show Xal P C N (XaN P C N q c Q) q c Q=Zau P C N c Q
  exact JaF P C N q c Q
 | i::p,q,c,Q=>by
  cases c with
  | seq a b=>
   match i with
   | 0=>exact Zas P C N p q a _
   | i+1=>exact Zas P C N p q b _
  | cond c a b=>
   match i with
   | 0=>exact Zas P C N p q a _
   | i+1=>exact Zas P C N p q b _
  | block id c=>exact Zas P C N p q c _
  | _=>rfl
def Qbb (P:Program) (C:CT) (p q:List Nat) (J:Qk) (f:FuncId) (K:Cont):Qk:=
 match P.funcs[f]? with
 | some fn=>match fn.body with
  | some c=>XaV P C fn.ntmps J p q c (QhP P fn.results.toList K)
  | none=>λ_ _ _=>True
 | none=>λ_ _ _=>True
theorem Za9 (P:Program) (C:CT) (p q:List Nat) (f:FuncId) (K:Cont):Qbb P C p q (Jag P C (p++q) f K) f K=Jag P C p f K:=by
 unfold Qbb Jag
 cases P.funcs[f]? with
 | none=>rfl
 | some j=>
  simp only
  cases j.body with
  | none=>rfl
  | some c=>exact Zas P C j.ntmps p q c _
end
section
variable {T:Type}
abbrev Col (T:Type):=Nat→Option T
def unc (o:Col T) (g:G):G:=λl=>match o l with|none=>g l|some _=>none
theorem JZ (o:Col T) (g:G):Sub (unc o g) g:=λl=>by
 unfold unc;split
 ·exact .inr rfl
 ·exact .inl rfl
theorem Zp {o:Col T} {g:G} {l:Nat} (h:o l=none):unc o g l=g l:=by unfold unc;rw [h]
theorem Jbl {o:Col T} {g:G} {l:Nat} {c:T} (h:o l=some c):unc o g l=none:=by unfold unc;rw [h]
structure Kept (t:T→Prop) (o o':Col T) (g g':G):Prop where
 unc:Sub (unc o g) (unc o' g')
 col: ∀l c,o l=some c→ ¬t c→o' l=some c∧g' l=g l
 back: ∀l c,o' l=some c→ ¬t c→o l=some c
theorem Kept.refl (t:T→Prop) (o:Col T) (g:G):Kept t o o g g:=⟨Sub.refl _,λ_ _ h _=>⟨h,rfl⟩,λ_ _ h _=>h⟩
theorem Kept.trans {t:T→Prop} {o p q:Col T} {a b c:G} (h:Kept t o p a b) (k:Kept t p q b c):Kept t o q a c:=
 ⟨h.unc.trans k.unc,λl x e ne=>⟨(k.col l x (h.col l x e ne).1 ne).1,(k.col l x (h.col l x e ne).1 ne).2.trans (h.col l x e ne).2⟩,λl x e ne=>h.back l x (k.back l x e ne) ne⟩
theorem Kept.mono {t t':T→Prop} {o o':Col T} {g g':G} (h:Kept t o o' g g') (j: ∀c,t c→t' c):Kept t' o o' g g':=
 ⟨h.unc,λl c e ne=>h.col l c e (λk=>ne (j c k)),λl c e ne=>h.back l c e (λk=>ne (j c k))⟩
def Live (o:Col T) (g:G):Prop:= ∀l c,o l=some c→ ∃b,g l=some b
theorem Live.fresh {o:Col T} {g:G} {l:Nat} (h:Live o g) (j:g l=none):o l=none:=by
 cases e:o l with
 | none=>rfl
 | some c=>obtain ⟨b,hb⟩:=h l c e;rw [j] at hb;cases hb
theorem Live.sub {o:Col T} {g g':G} (h:Live o g) (hs:Sub g g'):Live o g':=λi c e=>by
 obtain ⟨b,hb⟩:=h i c e;exact ⟨b,hs.live hb⟩
theorem Live.upd {o:Col T} {g:G} (h:Live o g) (l:Nat) (b:Blk):Live o (Abs.upd g l (some b)):=λi c e=>by
 by_cases hi:i=l
 ·subst hi;exact ⟨b,Xa _ _ _⟩
 ·rw [Zd _ _ hi];exact h i c e
theorem Kept.of_sub {t:T→Prop} {o:Col T} {g g':G} (j:Live o g) (h:Sub g g'):Kept t o o g g':=by
 refine ⟨λl=> ?_,λl c e _=> ?_,λ_ _ e _=>e⟩
 ·cases e:o l with
  | some c=>exact .inl (Jbl e)
  | none=>
   rw [Zp e,Zp e]
   exact h l
 ·obtain ⟨b,hb⟩:=j l c e
  exact ⟨e,by rw [hb];exact h.live hb⟩
theorem Kept.upd {t:T→Prop} {o:Col T} {g:G} {l:Nat} {c:T} (h:o l=some c) (j:t c) (b:Option Blk):Kept t o o g (Abs.upd g l b):=by
 refine ⟨λi=> ?_,λi d e ne=>⟨e,?_⟩,λ_ _ e _=>e⟩
 ·cases e:o i with
  | some c=>exact .inl (Jbl e)
  | none=>
   rw [Zp e,Zp e,Zd _ _ (λx=>by rw [x,h] at e;cases e)]
   exact .inr rfl
 ·exact Zd _ _ (λx=>by subst x;rw [h] at e;cases e;exact ne j)
theorem Kept.new {t:T→Prop} {o:Col T} {g:G} {l:Nat} {c:T} (E:o l=none) (J:g l=none) (I:t c) (b:Option Blk):Kept t o (Abs.upd o l (some c)) g (Abs.upd g l b):=by
 refine ⟨λi=> ?_,λi d e ne=> ?_,λi d e ne=> ?_⟩
 ·by_cases j:i=l
  ·subst j;exact .inl (by rw [Zp E];exact J)
  ·have e:Abs.unc (Abs.upd o l (some c)) (Abs.upd g l b) i=Abs.unc o g i:=by unfold Abs.unc;rw [Zd _ _ j,Zd _ _ j]
   exact .inr e.symm
 ·have j:i≠l:=λx=>by subst x;rw [E] at e;cases e
  exact ⟨by rw [Zd _ _ j];exact e,Zd _ _ j⟩
 ·by_cases j:i=l
  ·subst j;rw [Xa] at e;cases e;exact absurd I ne
  ·rw [Zd _ _ j] at e;exact e
theorem Live.new {o:Col T} {g:G} (h:Live o g) (l:Nat) (c:T) (b:Blk):Live (Abs.upd o l (some c)) (Abs.upd g l (some b)):=λi d e=>by
 by_cases hi:i=l
 ·subst hi;exact ⟨b,Xa _ _ _⟩
 ·rw [Zd _ _ hi] at e;rw [Zd _ _ hi];exact h i d e
theorem Kept.gone {t:T→Prop} {o:Col T} {g:G} {l:Nat} {c:T} (h:o l=some c) (E:t c):Kept t o (Abs.upd o l none) g (Abs.upd g l none):=by
 refine ⟨λi=> ?_,λi d e ne=> ?_,λi d e ne=> ?_⟩
 ·by_cases j:i=l
  ·subst j;exact .inl (Jbl h)
  ·have e:Abs.unc (Abs.upd o l none) (Abs.upd g l none) i=Abs.unc o g i:=by unfold Abs.unc;rw [Zd _ _ j,Zd _ _ j]
   exact .inr e.symm
 ·have j:i≠l:=λx=>by subst x;rw [h] at e;cases e;exact ne E
  exact ⟨by rw [Zd _ _ j];exact e,Zd _ _ j⟩
 ·by_cases j:i=l
  ·subst j;rw [Xa] at e;cases e
  ·rw [Zd _ _ j] at e;exact e
theorem Live.gone {o:Col T} {g:G} (h:Live o g) (l:Nat):Live (Abs.upd o l none) (Abs.upd g l none):=λi d e=>by
 by_cases hi:i=l
 ·subst hi;rw [Xa] at e;cases e
 ·rw [Zd _ _ hi] at e;rw [Zd _ _ hi];exact h i d e
theorem Kept.of_hide {t:T→Prop} {o:Col T} {g g':G} {la ls:Nat} {c d:T} (J:Live o g) (I:o la=some c) (hs:o ls=some d) (hc:t c) (hd:t d) (h:Sub (hide g la ls) g'):Kept t o o g g':=by
 refine ⟨λi=> ?_,λi e he ne=>⟨he,?_⟩,λ_ _ e _=>e⟩
 ·cases e:o i with
  | some c=>exact .inl (Jbl e)
  | none=>
   rw [Zp e,Zp e]
   have j:i≠ls:=λx=>by rw [x,hs] at e;cases e
   have E:i≠la:=λx=>by rw [x,I] at e;cases e
   have:=h i
   unfold Abs.hide at this
   rw [Zd _ _ j,Zd _ _ E] at this
   exact this
 ·obtain ⟨b,hb⟩:=J i e he
  have j:i≠ls:=λx=>by subst x;rw [hs] at he;cases he;exact ne hd
  have E:i≠la:=λx=>by subst x;rw [I] at he;cases he;exact ne hc
  rw [hb];exact h.live (Z6 E j hb)
theorem Live.of_kept {t:T→Prop} {o:Col T} {g g':G} (h:Live o g) (k:Kept t o o g g') (j: ∀l c,o l=some c→t c→ ∃b,g' l=some b):Live o g':=λl c e=>by
 by_cases hc:t c
 ·exact j l c e hc
 ·obtain ⟨b,hb⟩:=h l c e
  exact ⟨b,by rw [(k.col l c e hc).2];exact hb⟩
theorem Kept.fresh {t:T→Prop} {o:Col T} {g g':G} {l:Nat} (h:Kept t o o g g') (I:g l=none) (E:o l=none) (b:Option Blk):Kept t o o g (Abs.upd g' l b):=by
 refine ⟨λi=> ?_,λi c e ne=>⟨e,?_⟩,λ_ _ e _=>e⟩
 ·by_cases j:i=l
  ·subst j;exact .inl (by rw [Zp E];exact I)
  ·have e:Abs.unc o (Abs.upd g' l b) i=Abs.unc o g' i:=by unfold Abs.unc;rw [Zd _ _ j]
   rw [e];exact h.unc i
 ·have j:i≠l:=λx=>by subst x;rw [E] at e;cases e
  rw [Zd _ _ j];exact (h.col i c e ne).2
theorem Sl.kept {α:Type} {enc:α→List Value} {z:Nat} {t:T→Prop} {o o':Col T} {g g':G} {v:Value} {xs:List α} (h:Sl enc z (unc o g) v xs) (k:Kept t o o' g g'):Sl enc z (unc o' g') v xs:=h.mono k.unc
def QV {α:Type} (enc:α→List Value) (z:Nat) (o:Col T) (c:T) (g:G) (v:Value) (xs:List α):Prop:=
 (v= .slice none 0 0∧xs=[])∨ ∃l off cs,v= .slice (some ⟨l,off,none⟩) xs.length (LC+z)∧o l=some c∧g l=some (.cells cs (.loose z))∧off+xs.length*z≤cs.length∧(cs.drop off).take (xs.length*z)=(xs.map enc).flatten
section
variable {α:Type} {enc:α→List Value} {z:Nat} {o:Col T} {c:T} {g:G} {v:Value} {xs:List α}
theorem QV.sl (I: ∀x,(enc x).length=z) (h:QV enc z o c g v xs):Sl enc z g v xs:=by
 rcases h with ⟨rfl,rfl⟩|⟨l,off,cs,rfl,_,j,E,he⟩
 ·exact Sl.nil
 ·exact ⟨_,_,rfl,Xh enc z I xs,.inr ⟨l,off,rfl⟩,λ_=>⟨l,off,cs,_,rfl,j,E,he⟩⟩
theorem QV.kept {t:T→Prop} {o':Col T} {g':G} (h:QV enc z o c g v xs) (k:Kept t o o' g g') (hc: ¬t c):QV enc z o' c g' v xs:=by
 rcases h with h|⟨l,off,cs,rfl,O,E,I,he⟩
 ·exact .inl h
 ·obtain ⟨j,J⟩:=k.col l c O hc
  exact .inr ⟨l,off,cs,rfl,j,J.trans E,I,he⟩
theorem QV.of_sub {g':G} (h:QV enc z o c g v xs) (hs:Sub g g'):QV enc z o c g' v xs:=by
 rcases h with h|⟨l,off,cs,rfl,I,j,E,he⟩
 ·exact .inl h
 ·exact .inr ⟨l,off,cs,rfl,I,hs.live j,E,he⟩
theorem QV.of_upd {l:Nat} {b:Option Blk} (h:QV enc z o c g v xs) (O:o l=none):QV enc z o c (upd g l b) v xs:=by
 rcases h with h|⟨I,off,cs,rfl,E,J,j,he⟩
 ·exact .inl h
 ·exact .inr ⟨I,off,cs,rfl,E,by rw [Zd _ _ (λe=>by rw [e,O] at E;cases E)];exact J,j,he⟩
theorem QV.cellOk (h:QV enc z o c g v xs):isCell v=true:=by
 rcases h with ⟨rfl,_⟩|⟨j,off,cs,rfl,_⟩<;>rfl
theorem QV.append {bytes:Nat} {n:Nat} {x:Value} {ys:List α} {K:Cont} (V: ∀x,(enc x).length=z) (h:QV enc z o c g v xs) (U:Live o g) (hx:Sl enc z (unc o g) x ys) (hy:ys≠[]) (hc: ∀y,∀v∈enc y,isCell v=true)
  (hb:bytes≤1048576) (h1:(xs.length+ys.length)*bytes≤140737488355328) (h2:xs.length+ys.length<140737488355328)
  (hK: ∀v' o' g' n',Kept (· =c) o o' g g'→Live o' g'→QV enc z o' c g' v' (xs++ys)→K v' g' n'):Zs v x z bytes g n K:=by
 have E:=hx.mono (JZ o g)
 obtain ⟨ax,cx,rfl⟩: ∃ax cx,x= .slice ax ys.length cx:=by obtain ⟨a,c,e,_⟩:=id E;exact ⟨a,c,e⟩
 have aa:0<ys.length:=by cases ys with
  | nil=>exact absurd rfl hy
  | cons y ys=>simp
 have j: ∀w∈(ys.map enc).flatten,isCell w=true:=by
  intro w hw
  obtain ⟨l,Y,hw⟩:=List.mem_flatten.1 hw
  obtain ⟨y,_,rfl⟩:=List.mem_map.1 Y
  exact hc y w hw
 rcases h with ⟨rfl,rfl⟩|⟨l,off,cs,rfl,ho,hg,Y,he⟩
 ·refine ⟨hb,by simpa using h1,by simpa using h2,Rd.elems E ⟨j,?_⟩⟩
  rw [if_pos (by unfold LC;decide),if_neg (by omega)]
  refine ⟨by simp,?_⟩
  intro I
  have J:=U.fresh I
  refine hK _ (upd o n (some c)) _ _ (Kept.new (t:=(· =c)) (c:=c) J I rfl _) (U.new n c _) (.inr ⟨n,0,(ys.map enc).flatten,?_,Xa _ _ _,?_,?_,?_⟩)
  ·simp
  ·rw [Xa];simp
  ·rw [List.nil_append,Xh enc z V];omega
  ·rw [List.nil_append,List.drop_zero,List.take_of_length_le (by rw [Xh enc z V];exact Nat.le_refl _)]
 ·refine ⟨hb,h1,h2,Rd.elems E ⟨j,?_⟩⟩
  rw [if_neg (by omega)]
  refine ⟨rfl,Za1 hg ⟨rfl,Y,λI=> ?_⟩⟩
  have J:=U.fresh I
  have O:n≠l:=λe=>by rw [e,hg] at I;cases I
  have Q:upd o l none n=none:=by rw [Zd _ _ O];exact J
  have Z:upd g l none n=none:=by rw [Zd _ _ O];exact I
  refine hK _ (upd (upd o l none) n (some c)) _ _ ((Kept.gone (t:=(· =c)) ho rfl).trans (Kept.new (t:=(· =c)) (c:=c) Q Z rfl _)) ((U.gone l).new n c _) (.inr ⟨n,0,(xs.map enc).flatten++(ys.map enc).flatten,?_,Xa _ _ _,?_,?_,?_⟩)
  ·simp
  ·rw [Xa,he]
  ·rw [←ZaW,Xh enc z V];omega
  ·rw [List.drop_zero,←ZaW,List.take_of_length_le (by rw [Xh enc z V];exact Nat.le_refl _)]
theorem QV.tail {x:α} {K:Value→Prop} (I: ∀x,(enc x).length=z) (h:QV enc z o c g v (x::xs)) (k: ∀E,QV enc z o c g E xs→K E):Xx v (some (.int .i64 1)) none none z K:=by
 rcases h with ⟨_,h⟩|⟨l,off,cs,rfl,Q,O,J,he⟩
 ·cases h
 ·have e:Xx (.slice (some ⟨l,off,none⟩) (x::xs).length (LC+z)) (some (.int .i64 ((1:Nat):Int))) none none z K:=by
   rw [List.length_cons] at J he
   have hmul:(xs.length+1)*z=xs.length*z+z:=by rw [Nat.add_mul];omega
   simp only [Xx,if_neg (show ¬LC+z<LC by omega),ZW,QbG]
   refine ⟨trivial,by omega,by simp;omega,?_⟩
   simp only [Option.map_some,Qc7,Int.toNat_natCast,List.length_cons,Nat.add_sub_cancel,Nat.one_mul]
   refine k _ (.inr ⟨l,off+z,cs,rfl,Q,O,by omega,?_⟩)
   have j:=congrArg (λt=>(t.drop z).take (xs.length*z)) he
   simp only [List.map_cons,List.flatten_cons] at j
   rw [List.drop_left' (I x),List.drop_take,List.drop_drop,show (xs.length+1)*z-z=xs.length*z by omega,List.take_take,Nat.min_self] at j
   rw [j,List.take_of_length_le (by rw [Xh enc z I];exact Nat.le_refl _)]
  exact e
end
end
end Go.Proofs.YtmchcjaomcdbmaaGreat.Abs
